import Derived.Test.YtdnjcbcdmgbaaaaGreatDoorCp2
set_option synthInstance.checkSynthOrder false
set_option synthInstance.maxSize 10000
set_option synthInstance.maxHeartbeats 400000
set_option maxRecDepth 100000
set_option maxHeartbeats 4000000
set_option linter.unusedVariables false
set_option linter.unusedSimpArgs false
set_option linter.defProp false
namespace Go.Proofs
open Go.Shelf
def Tryz.laysSf_ren:Go.Shelf.Ren:=⟨λ| 6=>59 | 15=>91 | 14=>90 | 28=>120 | 29=>121 | 20=>112 | 21=>113 | 22=>114 | 23=>115 | 24=>116 | 25=>117 | 26=>118 | 27=>119 | 46=>144 | 47=>145 | 48=>146 | 49=>147 | 50=>148 | 57=>166 | n=>n,λ| 22=>39 | 24=>78 | 25=>125 | 3=>3 | 39=>171 | 0=>0 | 53=>204 | 55=>206 | 4=>4 | 46=>198 | 45=>197 | 50=>183 | 5=>5 | 9=>9 | 66=>238 | 70=>242 | 76=>259 | 77=>260 | n=>n,λ| n=>n⟩
theorem Tryz.laysSf:Go.Proofs.SlLaysF.n6 Tryz.prog Tryz.laysSf_ren:={
 mixed:=by kernel_rfl
 f6:=⟨Tryz.f59.name,by decide,Tryz.func59.trans (congrArg some Go.Pn.kr_)⟩
 f14:=⟨Tryz.f90.name,by decide,Tryz.func90.trans (congrArg some Go.Pn.kr_)⟩
 f15:=Tryz.func91.trans (congrArg some Go.Pn.kr_)
 f20:=⟨Tryz.f112.name,by decide,Tryz.func112.trans (congrArg some Go.Pn.kr_)⟩
 f21:=⟨Tryz.f113.name,by decide,Tryz.func113.trans (congrArg some Go.Pn.kr_)⟩
 f22:=⟨Tryz.f114.name,by decide,Tryz.func114.trans (congrArg some Go.Pn.kr_)⟩
 f23:=⟨Tryz.f115.name,by decide,Tryz.func115.trans (congrArg some Go.Pn.kr_)⟩
 f24:=⟨Tryz.f116.name,by decide,Tryz.func116.trans (congrArg some Go.Pn.kr_)⟩
 f25:=⟨Tryz.f117.name,by decide,Tryz.func117.trans (congrArg some Go.Pn.kr_)⟩
 f26:=⟨Tryz.f118.name,by decide,Tryz.func118.trans (congrArg some Go.Pn.kr_)⟩
 f27:=⟨Tryz.f119.name,by decide,Tryz.func119.trans (congrArg some Go.Pn.kr_)⟩
 f28:=Tryz.func120.trans (congrArg some Go.Pn.kr_)
 f29:=Tryz.func121.trans (congrArg some Go.Pn.kr_)
 f46:=⟨Tryz.f144.name,by decide,Tryz.func144.trans (congrArg some Go.Pn.kr_)⟩
 f47:=Tryz.func145.trans (congrArg some Go.Pn.kr_)
 f48:=Tryz.func146.trans (congrArg some Go.Pn.kr_)
 f49:=⟨Tryz.f147.name,by decide,Tryz.func147.trans (congrArg some Go.Pn.kr_)⟩
 f50:=⟨Tryz.f148.name,by decide,Tryz.func148.trans (congrArg some Go.Pn.kr_)⟩
 f57:=⟨Tryz.f166.name,by decide,Tryz.func166.trans (congrArg some Go.Pn.kr_)⟩
 t0:=Tryz.underlying0
 a0:=Tryz.isAgg0
 z0:=Tryz.sizeOf0
 v0:=Tryz.zeroValue0
 t3:=Tryz.underlying3
 a3:=Tryz.isAgg3
 z3:=Tryz.sizeOf3
 v3:=Tryz.zeroValue3
 t4:=Tryz.underlying4
 a4:=Tryz.isAgg4
 z4:=Tryz.sizeOf4
 v4:=Tryz.zeroValue4
 t5:=Tryz.underlying5
 a5:=Tryz.isAgg5
 z5:=Tryz.sizeOf5
 v5:=Tryz.zeroValue5
 t9:=Tryz.underlying9
 a9:=Tryz.isAgg9
 z9:=Tryz.sizeOf9
 v9:=Tryz.zeroValue9
 t22:=Tryz.underlying39
 a22:=Tryz.isAgg39
 z22:=Tryz.sizeOf39
 v22:=Tryz.zeroValue39
 a24:=Tryz.isAgg78
 z24:=Tryz.sizeOf78
 t25:=Tryz.underlying125
 a25:=Tryz.isAgg125
 z25:=Tryz.sizeOf125
 v25:=Tryz.zeroValue125
 t39:=Tryz.underlying171
 a39:=Tryz.isAgg171
 z39:=Tryz.sizeOf171
 v39:=Tryz.zeroValue171
 t45:=Tryz.underlying197
 a45:=Tryz.isAgg197
 z45:=Tryz.sizeOf197
 v45:=Tryz.zeroValue197
 t46:=Tryz.underlying198
 a46:=Tryz.isAgg198
 z46:=Tryz.sizeOf198
 v46:=Tryz.zeroValue198
 t50:=Tryz.underlying183
 a50:=Tryz.isAgg183
 z50:=Tryz.sizeOf183
 v50:=Tryz.zeroValue183
 t53:=Tryz.underlying204
 a53:=Tryz.isAgg204
 z53:=Tryz.sizeOf204
 v53:=Tryz.zeroValue204
 t55:=Tryz.underlying206
 a55:=Tryz.isAgg206
 z55:=Tryz.sizeOf206
 v55:=Tryz.zeroValue206
 t66:=Tryz.underlying238
 a66:=Tryz.isAgg238
 z66:=Tryz.sizeOf238
 v66:=Tryz.zeroValue238
 t70:=Tryz.underlying242
 a70:=Tryz.isAgg242
 z70:=Tryz.sizeOf242
 v70:=Tryz.zeroValue242
 t76:=Tryz.underlying259
 a76:=Tryz.isAgg259
 z76:=Tryz.sizeOf259
 v76:=Tryz.zeroValue259
 t77:=Tryz.underlying260
 a77:=Tryz.isAgg260
 z77:=Tryz.sizeOf260
 v77:=Tryz.zeroValue260 }
theorem Tryz.sortsF {g:Nat} (eg:∀ args w,(callFunc g args).run Tryz.prog w=.ok (.enter g args) w):Go.Pn.SortsF Tryz.prog 59 g:=
 ⟨λp cap w=>AnyF.slices_SortFunc_none { Tryz.laysSf with } p cap _ w,λ_ _ enc h1 cf hO b cap d w hc hH hb hs=>Any.slices_SortFunc Tryz.laysSf enc h1 cf hO g #[] b 0 cap d w eg hc hH hb hs⟩
end Go.Proofs
namespace Go.Pn
section
variable {L S:Type}
def Ju (lt:L->L->Prop):List L->List L->Prop
 | a :: l,b :: m=>lt a b\/(a=b/\Ju lt l m)
 | _,_=>False
def slx (lt:L->L->Prop) (s t:List L):Prop:=s.length < t.length\/(s.length=t.length/\Ju lt s t)
structure Ord_ (lt:L->L->Prop):Prop where
 irr:∀ a,¬ lt a a
 tr:∀ a b c,lt a b->lt b c->lt a c
 tot:∀ a b,a=b\/lt a b\/lt b a
variable {lt:L->L->Prop}
theorem Ju.trans (h0:Ord_ lt):∀ {a b c:List L},Ju lt a b->Ju lt b c->Ju lt a c
 | x :: l,y :: m,z :: n,h,h'=>by
  rcases h with h | ⟨rfl,h⟩ <;> rcases h' with h' | ⟨rfl,h'⟩
  ·exact .inl (h0.tr _ _ _ h h')
  ·exact .inl h
  ·exact .inl h'
  ·exact .inr ⟨rfl,Ju.trans h0 h h'⟩
 | [],_,_,h,_=>by simp [Ju] at h
 | _ :: _,[],_,h,_=>by simp [Ju] at h
 | _ :: _,_ :: _,[],_,h=>by simp [Ju] at h
theorem Ju.irr (h0:Ord_ lt):∀ {a:List L},¬ Ju lt a a
 | [],h=>by simp [Ju] at h
 | x :: l,h=>by
  rcases h with h | ⟨_,h⟩
  ·exact h0.irr _ h
  ·exact Ju.irr h0 h
theorem Ju.app {u v:List L}:∀ {a b:List L},Ju lt a b->Ju lt (a ++ u) (b ++ v)
 | x :: l,y :: m,h=>by
  rcases h with h | ⟨rfl,h⟩
  ·exact .inl h
  ·exact .inr ⟨rfl,h.app⟩
 | [],_,h=>by simp [Ju] at h
 | _ :: _,[],h=>by simp [Ju] at h
theorem Ju.pre {u v:List L} (h:Ju lt u v):∀ {a:List L},Ju lt (a ++ u) (a ++ v)
 | []=>h
 | x :: l=>.inr ⟨rfl,Ju.pre h⟩
theorem slx.trans (h0:Ord_ lt) {a b c:List L} (h:slx lt a b) (h':slx lt b c):slx lt a c:=by
 rcases h with h | ⟨e,h⟩ <;> rcases h' with h' | ⟨e',h'⟩
 ·exact .inl om_
 ·exact .inl om_
 ·exact .inl om_
 ·exact .inr ⟨by omega,h.trans h0 h'⟩
theorem slx.irr (h0:Ord_ lt) {a:List L} (h:slx lt a a):False:=by
 rcases h with h | ⟨_,h⟩
 ·omega
 ·exact Ju.irr h0 h
theorem slx.snoc {u v:List L} {a b:L} (h:slx lt u v):slx lt (u ++ [a]) (v ++ [b]):=by
 rcases h with h | ⟨e,h⟩
 ·exact .inl so_
 ·exact .inr ⟨by simp;omega,h.app⟩
theorem slx.last {u:List L} {a b:L} (h:lt a b):slx lt (u ++ [a]) (u ++ [b]):=.inr ⟨by simp,Ju.pre (u:=[a]) (v:=[b]) (Or.inl h)⟩
def sle (lt:L->L->Prop) (s t:List L):Prop:=t=s\/slx lt s t
theorem sle.trans (h0:Ord_ lt) {a b c:List L} (h:sle lt a b) (h':sle lt b c):sle lt a c:=by
 rcases h with rfl | h <;> rcases h' with rfl | h'
 ·exact .inl rfl
 ·exact .inr h'
 ·exact .inr h
 ·exact .inr (h.trans h0 h')
theorem sle.snoc {u v:List L} {a:L} (h:sle lt u v):sle lt (u ++ [a]) (v ++ [a]):=by
 rcases h with rfl | h
 ·exact .inl rfl
 ·exact .inr h.snoc
theorem sle.anti (h0:Ord_ lt) {a b:List L} (h:sle lt a b) (h':sle lt b a):a=b:=by
 rcases h with rfl | h
 ·rfl
 ·rcases h' with h' | h'
  ·exact h'
  ·exact ((h.trans h0 h').irr h0).elim
def Tr (nx:S->List L) (st:S->L->S) (bad:S->Bool):S->List L->S->Prop
 | s,[],x=>s=x
 | s,a :: l,x=>a∈nx s/\bad s=false/\Tr nx st bad (st s a) l x
variable {nx:S->List L} {st:S->L->S} {bad:S->Bool}
theorem Tr.snoc {a:L}:∀ {u:List L} {s y:S},Tr nx st bad s u y->bad y=false->a∈nx y->Tr nx st bad s (u ++ [a]) (st y a)
 | [],s,y,h,hb,ha=>by
  have h:s=y:=h;subst h;exact ⟨ha,hb,rfl⟩
 | c :: u,s,y,⟨h1,h2,h3⟩,hb,ha=>⟨h1,h2,h3.snoc hb ha⟩
theorem Tr.uniq:∀ {u:List L} {s x y:S},Tr nx st bad s u x->Tr nx st bad s u y->x=y
 | [],_,_,_,h,h'=>Eq.trans (Eq.symm h) h'
 | _ :: _,_,_,_,⟨_,_,h⟩,⟨_,_,h'⟩=>h.uniq h'
structure Bq (lt:L->L->Prop) (nx:S->List L) (st:S->L->S) (bad:S->Bool) (s0:S) (l:List S) (tr:List (List L)) (i:Nat) (done:List L):Prop where
 len:tr.length=l.length
 nd:l.Nodup
 run:∀ (j:Nat) (s:S) (t:List L),l[j]?=some s->tr[j]?=some t->Tr nx st bad s0 t s/\bad s=false
 ord:tr.Pairwise (slx lt)
 lst:∀ (j:Nat) (s:S) (t:List L),l[j]?=some s->tr[j]?=some t->∀ t',Tr nx st bad s0 t' s->sle lt t t'
 hd:l[0]?=some s0
 clo:∀ (j:Nat) (s:S) (a:L),l[j]?=some s->a∈nx s->(j < i\/(j=i/\a∈done))->bad (st s a)=false/\st s a∈l
 fro:∀ t∈tr,t=[]\/∃ (j:Nat) (u:List L) (s:S) (a:L),tr[j]?=some u/\l[j]?=some s/\a∈nx s/\t=u ++ [a]/\(j < i\/(j=i/\a∈done))
variable {s0:S} {l:List S} {tr:List (List L)} {i:Nat} {done:List L}
theorem Bq.start (hb:bad s0=false):Bq lt nx st bad s0 [s0] [[]] 0 [] where
 len:=rfl
 nd:=by simp
 run:=by
  intro j s t h1 h2
  match j with
  | 0=>
   obtain rfl:s0=s:=by simpa using h1
   obtain rfl:[]=t:=by simpa using h2
   exact ⟨rfl,hb⟩
  | j + 1=>simp at h1
 ord:=by simp
 lst:=by
  intro j s t h1 h2 t' _
  match j with
  | 0=>
   obtain rfl:[]=t:=by simpa using h2
   match t' with
   | []=>exact .inl rfl
   | a :: m=>exact .inr (.inl smp_)
  | j + 1=>simp at h1
 hd:=rfl
 clo:=by
  intro j s a _ _ h;rcases h with h | ⟨_,h⟩
  ·omega
  ·simp at h
 fro:=by
  intro t ht;exact .inl (by simpa using ht)
theorem Bq.tr_of (h:Bq lt nx st bad s0 l tr i done) {j:Nat} {s:S} (hs:l[j]?=some s):∃ t,tr[j]?=some t:=by
 have h1:=(GK.1 hs).1;have h2:=h.len;exact ⟨tr[j]'om_,gE_ om_⟩
theorem Bq.exit (h:Bq lt nx st bad s0 l tr i done):∀ (t:List L) (s x:S),s∈l->Tr nx st bad s t x->x ∉ l->∃ p b r y,t=p ++ b :: r/\Tr nx st bad s p y/\y∈l/\b∈nx y/\st y b ∉ l
 | [],s,x,hs,ht,hx=>by
  have ht:s=x:=ht;subst ht;exact (hx hs).elim
 | a :: t,s,x,hs,⟨h1,h2,h3⟩,hx=>by
  by_cases hm:st s a∈l
  ·obtain ⟨p,b,r,y,h4,h5,h6,h7,h8⟩:=h.exit t (st s a) x hm h3 hx;exact ⟨a :: p,b,r,y,by rw [h4];rfl,⟨h1,h2,h5⟩,h6,h7,h8⟩
  ·exact ⟨[],a,t,s,rfl,rfl,hs,h1,hm⟩
theorem Bq.front (h0:Ord_ lt) (h:Bq lt nx st bad s0 l tr i done) {s:S} {u rest:List L} {a:L} (hs:l[i]?=some s) (hu:tr[i]?=some u) (hp:(nx s).Pairwise lt) (hn:nx s=done ++ a :: rest)
  {t:List L} {x:S} (ht:Tr nx st bad s0 t x) (hx:x ∉ l):sle lt (u ++ [a]) t:=by
 obtain ⟨p,b,r,y,rfl,h1,h2,h3,h4⟩:=h.exit t s0 x (GV h.hd) ht hx;obtain ⟨j,hj⟩:=HN h2;obtain ⟨v,hv⟩:=h.tr_of hj;have hle:=h.lst j y v hj hv p h1;have key:sle lt (u ++ [a]) (p ++ [b]):=by
  refine sle.trans h0 ?_ hle.snoc;rcases Nat.lt_trichotomy j i with hji | hji | hji
  ·exact (h4 (h.clo j y b hj h3 (.inl hji)).2).elim
  ·subst hji;obtain rfl:s=y:=Option.some.inj (hs.symm.trans hj);obtain rfl:u=v:=Option.some.inj (hu.symm.trans hv);by_cases hd:b∈done
   ·exact (h4 (h.clo j s b hj h3 (.inr ⟨rfl,hd⟩)).2).elim
   ·rw [hn] at h3 hp;rcases GU.1 h3 with h5 | h5
    ·exact (hd h5).elim
    ·rcases GS.1 h5 with rfl | h5
     ·exact .inl rfl
     ·exact .inr (slx.last ((HS.1 (J1.1 hp).2.1).1 b h5))
  ·refine .inr (slx.snoc ?_);obtain ⟨hj1,hj2⟩:=GK.1 hv;obtain ⟨hi1,hi2⟩:=GK.1 hu;have:=JM.1 h.ord i j hi1 hj1 hji
   rwa [hi2,hj2] at this
 match r with
 | []=>exact key
 | c :: r=>
  refine sle.trans h0 key (.inr (.inl ?_));simp
theorem Bq.skip (h:Bq lt nx st bad s0 l tr i done) {s:S} {a:L} (hs:l[i]?=some s) (hb:bad (st s a)=false) (hm:st s a∈l):Bq lt nx st bad s0 l tr i (done ++ [a]):=
 { h with
  clo:=by
   intro j s' b hj hb' hc;rcases hc with hc | ⟨rfl,hc⟩
   ·exact h.clo j s' b hj hb' (.inl hc)
   ·rcases GU.1 hc with hc | hc
    ·exact h.clo j s' b hj hb' (.inr ⟨rfl,hc⟩)
    ·obtain rfl:b=a:=by simpa using hc
     obtain rfl:s=s':=Option.some.inj (hs.symm.trans hj);exact ⟨hb,hm⟩
  fro:=by
   intro t ht;rcases h.fro t ht with h1 | ⟨j,u,s',b,h1,h2,h3,h4,h5⟩
   ·exact .inl h1
   ·exact .inr ⟨j,u,s',b,h1,h2,h3,h4,h5.imp id λ⟨e,h6⟩=>⟨e,GY _ h6⟩⟩ }
theorem Bq.add (h0:Ord_ lt) (h:Bq lt nx st bad s0 l tr i done) {s:S} {u rest:List L} {a:L} (hs:l[i]?=some s) (hu:tr[i]?=some u) (hp:(nx s).Pairwise lt) (hn:nx s=done ++ a :: rest)
  (hb:bad (st s a)=false) (hm:st s a ∉ l):Bq lt nx st bad s0 (l ++ [st s a]) (tr ++ [u ++ [a]]) i (done ++ [a]):=by
 have hil:=(GK.1 hs).1;have hlen:=h.len;obtain ⟨hr1,hr2⟩:=h.run i s u hs hu;have ha:a∈nx s:=by rw [hn];simp
 have getl:∀ {j:Nat} {s':S},(l ++ [st s a])[j]?=some s'->l[j]?=some s'\/(j=l.length/\s'=st s a):=by
  intro j s' hj;rcases HZ j l.length with hl | hl
  ·rw [GQ hl] at hj;exact .inl hj
  ·rw [G5 hl] at hj
   match hk:j - l.length,hj with
   | 0,hj=>exact .inr ⟨by omega,by simpa using hj.symm⟩
   | k + 1,hj=>simp at hj
 have gett:∀ {j:Nat} {t:List L},(tr ++ [u ++ [a]])[j]?=some t->(j < l.length/\tr[j]?=some t)\/(j=l.length/\t=u ++ [a]):=by
  intro j t hj;rcases HZ j tr.length with hl | hl
  ·rw [GQ hl] at hj;exact .inl ⟨by omega,hj⟩
  ·rw [G5 hl] at hj
   match hk:j - tr.length,hj with
   | 0,hj=>exact .inr ⟨by omega,by simpa using hj.symm⟩
   | k + 1,hj=>simp at hj
 have lt_of:∀ {j:Nat} {s':S},l[j]?=some s'->j < l.length:=λhj=>(GK.1 hj).1;refine ⟨by simp [hlen],?_,?_,?_,?_,?_,?_,?_⟩
 ·refine KH.2 ⟨h.nd,by simp,λx hx y hy=>?_⟩;obtain rfl:y=st s a:=by simpa using hy
  exact λe=>hm (e ▸ hx)
 ·intro j s' t h1 h2;rcases getl h1 with h3 | ⟨e1,rfl⟩ <;> rcases gett h2 with ⟨e3,h4⟩ | ⟨e2,rfl⟩
  ·exact h.run j s' t h3 h4
  ·have:=lt_of h3;omega
  ·omega
  ·exact ⟨hr1.snoc hr2 ha,hb⟩
 ·refine J1.2 ⟨h.ord,by simp,λt ht t' ht'=>?_⟩;obtain rfl:t'=u ++ [a]:=by simpa using ht'
  rcases h.fro t ht with rfl | ⟨j,v,s',b,h1,h2,h3,rfl,h5⟩
  ·exact .inl smp_
  ·rcases h5 with h5 | ⟨rfl,h5⟩
   ·refine slx.snoc ?_;obtain ⟨hj1,hj2⟩:=GK.1 h1;obtain ⟨hi1,hi2⟩:=GK.1 hu;have:=JM.1 h.ord j i hj1 hi1 h5
    rwa [hi2,hj2] at this
   ·obtain rfl:u=v:=Option.some.inj (hu.symm.trans h1);rw [hn] at hp;exact slx.last ((J1.1 hp).2.2 b h5 a (G7 ..))
 ·intro j s' t h1 h2 t' ht';rcases getl h1 with h3 | ⟨e1,rfl⟩ <;> rcases gett h2 with ⟨e3,h4⟩ | ⟨e2,rfl⟩
  ·exact h.lst j s' t h3 h4 t' ht'
  ·have:=lt_of h3;omega
  ·omega
  ·exact h.front h0 hs hu hp hn ht' hm
 ·rw [GQ (by have:=lt_of h.hd;exact this)];exact h.hd
 ·intro j s' b hj hb' hc;rcases getl hj with h3 | ⟨e1,rfl⟩
  ·rcases hc with hc | ⟨rfl,hc⟩
   ·have:=h.clo j s' b h3 hb' (.inl hc);exact ⟨this.1,GY _ this.2⟩
   ·rcases GU.1 hc with hc | hc
    ·have:=h.clo j s' b h3 hb' (.inr ⟨rfl,hc⟩);exact ⟨this.1,GY _ this.2⟩
    ·obtain rfl:b=a:=by simpa using hc
     obtain rfl:s=s':=Option.some.inj (hs.symm.trans h3);exact ⟨hb,G2 _ smp_⟩
  ·rcases hc with hc | ⟨hc,_⟩ <;> omega
 ·intro t ht;rcases GU.1 ht with ht | ht
  ·rcases h.fro t ht with h1 | ⟨j,v,s',b,h1,h2,h3,h4,h5⟩
   ·exact .inl h1
   ·refine .inr ⟨j,v,s',b,?_,?_,h3,h4,h5.imp id λ⟨e,h6⟩=>⟨e,GY _ h6⟩⟩
    ·rw [GQ ((GK.1 h1).1)];exact h1
    ·rw [GQ (lt_of h2)];exact h2
  ·obtain rfl:t=u ++ [a]:=by simpa using ht
   refine .inr ⟨i,u,s,a,?_,?_,ha,rfl,.inr ⟨rfl,by simp⟩⟩
   ·rw [GQ om_];exact hu
   ·rw [GQ hil];exact hs
theorem Bq.next (h:Bq lt nx st bad s0 l tr i done) {s:S} (hs:l[i]?=some s) (hn:nx s=done):Bq lt nx st bad s0 l tr (i + 1) []:=
 { h with
  clo:=by
   intro j s' b hj hb' hc;rcases hc with hc | ⟨_,hc⟩
   ·rcases K6 (LA hc) with hc | rfl
    ·exact h.clo j s' b hj hb' (.inl hc)
    ·obtain rfl:s=s':=Option.some.inj (hs.symm.trans hj);exact h.clo j s b hj hb' (.inr ⟨rfl,hn ▸ hb'⟩)
   ·simp at hc
  fro:=by
   intro t ht;rcases h.fro t ht with h1 | ⟨j,u,s',b,h1,h2,h3,h4,h5⟩
   ·exact .inl h1
   ·exact .inr ⟨j,u,s',b,h1,h2,h3,h4,.inl (by rcases h5 with h5 | ⟨h5,_⟩ <;> omega)⟩ }
theorem Bq.badT (h0:Ord_ lt) (h:Bq lt nx st bad s0 l tr i done) {s:S} {u rest:List L} {a:L} (hs:l[i]?=some s) (hu:tr[i]?=some u) (hp:(nx s).Pairwise lt) (hn:nx s=done ++ a :: rest) (hb:bad (st s a)=true) :
  Tr nx st bad s0 (u ++ [a]) (st s a)/\∀ t x,Tr nx st bad s0 t x->bad x=true->sle lt (u ++ [a]) t:=by
 obtain ⟨hr1,hr2⟩:=h.run i s u hs hu;refine ⟨hr1.snoc hr2 (by rw [hn];simp),λt x ht hx=>h.front h0 hs hu hp hn ht λhm=>?_⟩;obtain ⟨j,hj⟩:=HN hm;obtain ⟨v,hv⟩:=h.tr_of hj;have:=(h.run j x v hj hv).2;rw [this] at hx;cases hx
theorem Bq.all (h:Bq lt nx st bad s0 l tr i done) (hi:l.length<=i):∀ (t:List L) (s x:S),s∈l->Tr nx st bad s t x->x∈l/\Bool.not (bad x)=true
 | [],s,x,hs,ht=>by
  have ht:s=x:=ht;subst ht;obtain ⟨j,hj⟩:=HN hs;obtain ⟨v,hv⟩:=h.tr_of hj;exact ⟨hs,by rw [(h.run j s v hj hv).2];rfl⟩
 | a :: t,s,x,hs,⟨h1,_,h3⟩=>by
  obtain ⟨j,hj⟩:=HN hs;have hjl:=(GK.1 hj).1;exact h.all hi t _ x (h.clo j s a hj h1 (.inl om_)).2 h3
theorem Bq.mem (h0:Ord_ lt) (h:Bq lt nx st bad s0 l tr i done) (hi:l.length<=i) (t:List L):t∈tr↔∃ x,Tr nx st bad s0 t x/\∀ t',Tr nx st bad s0 t' x->sle lt t t':=by
 constructor
 ·intro ht;obtain ⟨j,hj⟩:=HN ht;have hjl:=(GK.1 hj).1;have hl:=h.len;have hs:l[j]?=some (l[j]'om_):=gE_ om_;exact ⟨_,(h.run j _ t hs hj).1,h.lst j _ t hs hj⟩
 ·rintro ⟨x,hx,hl⟩;obtain ⟨j,hj⟩:=HN (h.all hi t s0 x (GV h.hd) hx).1;obtain ⟨v,hv⟩:=h.tr_of hj;have h1:=h.lst j x v hj hv t hx;have h2:=hl v (h.run j x v hj hv).1;rw [sle.anti h0 h2 h1];exact GV hv
end
theorem ED {L:Type} {r:L->L->Prop} (hi:∀ a,¬ r a a) (ht:∀ a b c,r a b->r b c->r a c):∀ {l m:List L},l.Pairwise r->m.Pairwise r->(∀ a,a∈l↔a∈m)->l=m
 | [],[],_,_,_=>rfl
 | [],b :: m,_,_,h=>by have:=(h b).2 (G7 ..);simp at this
 | a :: l,[],_,_,h=>by have:=(h a).1 (G7 ..);simp at this
 | a :: l,b :: m,h1,h2,h=>by
  obtain ⟨h3,h4⟩:=HS.1 h1;obtain ⟨h5,h6⟩:=HS.1 h2;have e:a=b:=by
   rcases GS.1 ((h a).1 (G7 ..)) with e | e
   ·exact e
   ·rcases GS.1 ((h b).2 (G7 ..)) with e' | e'
    ·exact e'.symm
    ·exact (hi a (ht _ _ _ (h3 b e') (h5 a e))).elim
  subst e;congr 1;refine ED hi ht h4 h6 λx=>⟨λhx=>?_,λhx=>?_⟩
  ·rcases GS.1 ((h x).1 (G3 _ hx)) with e | e
   ·subst e;exact (hi x (h3 x hx)).elim
   ·exact e
  ·rcases GS.1 ((h x).2 (G3 _ hx)) with e | e
   ·subst e;exact (hi x (h5 x hx)).elim
   ·exact e
end Go.Pn
namespace Go.Pn
open Go.Sort Go.Proofs
def sd (a b:Ab):Int:=if a.Actuator=b.Actuator then (if a.Out=b.Out then 0 else if b.Out=true then -1 else 1) else a.Actuator - b.Actuator
def lcs:List Ab->List Ab->Int
 | [],[]=>0
 | [],_ :: _=>-1
 | _ :: _,[]=>1
 | a :: l,b :: m=>if sd a b=0 then lcs l m else sd a b
theorem Bp {a b:Ab}:sd a b=0↔a=b:=by
 obtain ⟨x,p⟩:=a;obtain ⟨y,q⟩:=b;unfold sd;dsimp only;constructor
 ·intro h;split at h
  ·rename_i h1;subst h1;split at h
   ·rename_i h2;subst h2;rfl
   ·split at h <;> omega
  ·omega
 ·intro h;injection h with h1 h2;subst h1 h2;simp
theorem sd_neg {a b:Ab}:sd a b < 0↔0 < sd b a:=by
 obtain ⟨x,p⟩:=a;obtain ⟨y,q⟩:=b;unfold sd;dsimp only;by_cases h:x=y
 ·subst h;cases p <;> cases q <;> simp
 ·rw [if_neg h,if_neg λe=>h e.symm];omega
theorem EA {a b c:Ab} (h:sd a b < 0) (h':sd b c < 0):sd a c < 0:=by
 obtain ⟨x,p⟩:=a;obtain ⟨y,q⟩:=b;obtain ⟨z,r⟩:=c;unfold sd at h h' ⊢;dsimp only at h h' ⊢;by_cases h1:x=y
 ·subst h1;by_cases h2:x=z
  ·subst h2;cases p <;> cases q <;> cases r <;> simp_all
  ·rw [if_neg h2] at h' ⊢;exact h'
 ·rw [if_neg h1] at h;by_cases h2:y=z
  ·subst h2;rw [if_neg h1];exact h
  ·rw [if_neg h2] at h';rw [if_neg om_];omega
theorem Ay:∀ {a b:List Ab},lcs a b=0↔a=b
 | [],[]=>by simp [lcs]
 | [],_ :: _=>by simp [lcs]
 | _ :: _,[]=>by simp [lcs]
 | a :: l,b :: m=>by
  unfold lcs;split
  ·rename_i h;rw [Bp] at h;subst h;rw [Ay];simp
  ·rename_i h;constructor
   ·intro h';exact (h h').elim
   ·intro h';injection h' with h1 h2;exact (h (Bp.2 h1)).elim
theorem Qe:∀ {a b:List Ab},lcs a b < 0↔0 < lcs b a
 | [],[]=>by simp [lcs]
 | [],_ :: _=>by simp [lcs]
 | _ :: _,[]=>by simp [lcs]
 | a :: l,b :: m=>by
  unfold lcs;by_cases h:a=b
  ·subst h;rw [if_pos (Bp.2 rfl),if_pos (Bp.2 rfl)];exact Qe
  ·rw [if_neg λe=>h (Bp.1 e),if_neg λe=>h (Bp.1 e).symm];exact sd_neg
theorem Jv:∀ {a b c:List Ab},lcs a b < 0->lcs b c < 0->lcs a c < 0
 | [],[],_,h,_=>by simp [lcs] at h
 | [],_ :: _,[],_,h=>by simp [lcs] at h
 | [],_ :: _,_ :: _,_,_=>by simp [lcs]
 | _ :: _,[],_,h,_=>by simp [lcs] at h
 | _ :: _,_ :: _,[],_,h=>by simp [lcs] at h
 | a :: l,b :: m,c :: n,h,h'=>by
  unfold lcs at h h' ⊢;by_cases h1:a=b
  ·subst h1;rw [if_pos (Bp.2 rfl)] at h;by_cases h2:a=c
   ·subst h2;rw [if_pos (Bp.2 rfl)] at h' ⊢;exact Jv h h'
   ·rw [if_neg λe=>h2 (Bp.1 e)] at h' ⊢;exact h'
  ·rw [if_neg λe=>h1 (Bp.1 e)] at h;by_cases h2:b=c
   ·subst h2;rw [if_neg λe=>h1 (Bp.1 e)];exact h
   ·rw [if_neg λe=>h2 (Bp.1 e)] at h';have h3:=EA h h';rw [if_neg om_];exact h3
theorem C8:SWO (ltOf lcs) where
 irrefl x:=by unfold ltOf;rw [Ay.2 rfl];rfl
 trans x y z h h':=by
  unfold ltOf at *;exact dt_ (Jv (of_decide_eq_true h) (of_decide_eq_true h'))
 ntrans x y z h h':=by
  unfold ltOf at *;have h:=of_decide_eq_false h;have h':=of_decide_eq_false h';refine df_ λh3=>?_;by_cases e1:lcs x y=0
  ·rw [Ay] at e1;subst e1;exact h' h3
  ·have e2:lcs y x < 0:=Qe.2 om_;exact h' (Jv e2 h3)
theorem lcs_tot (x y:List Ab) (h:ltOf lcs x y=false) (h':ltOf lcs y x=false):x=y:=by
 unfold ltOf at *;have h:=of_decide_eq_false h;have h':=of_decide_eq_false h';rw [Qe] at h';exact Ay.1 om_
def lL (a b:List Ab):Prop:=lcs a b < 0
theorem Br:Ord_ lL where
 irr a h:=by
  have h:lcs a a < 0:=h;rw [Ay.2 rfl] at h;omega
 tr a b c:=Jv
 tot a b:=by
  unfold lL;rcases Int.lt_trichotomy (lcs a b) 0 with h | h | h
  ·exact .inr (.inl h)
  ·exact .inl (Ay.1 h)
  ·exact .inr (.inr (Qe.2 h))
def Cz:List (List Ab)->List (List Ab)
 | []=>[]
 | [x]=>[x]
 | x :: y :: l=>if lcs x y=0 then Cz (y :: l) else x :: Cz (y :: l)
theorem Ng:∀ {l:List (List Ab)} {x:List Ab},x∈Cz l↔x∈l
 | [],_=>.rfl
 | [_],_=>.rfl
 | a :: b :: l,x=>by
  unfold Cz;split
  ·rename_i h;obtain rfl:=Ay.1 h;rw [Ng];simp
  ·rw [GS,Ng,GS,GS,GS]
theorem Xv:∀ {l:List (List Ab)},l.Pairwise (λa b=>ltOf lcs b a=false)->(Cz l).Pairwise lL
 | [],_=>.nil
 | [_],_=>by simp [Cz]
 | a :: b :: l,h=>by
  obtain ⟨h1,h2⟩:=HS.1 h;unfold Cz;split
  ·exact Xv h2
  ·rename_i hne;refine HS.2 ⟨λz hz=>?_,Xv h2⟩;rw [Ng] at hz;have hab:lL a b:=by
    rcases Br.tot a b with e | e | e
    ·exact (hne (Ay.2 e)).elim
    ·exact e
    ·have:=h1 b (G7 ..);unfold ltOf at this;exact (of_decide_eq_false this e).elim
   rcases GS.1 hz with rfl | hz
   ·exact hab
   ·rcases Br.tot b z with e | e | e
    ·exact e ▸ hab
    ·exact Br.tr _ _ _ hab e
    ·have:=(HS.1 h2).1 z hz;unfold ltOf at this;exact (of_decide_eq_false this e).elim
end Go.Pn
namespace Go.Pn
open Go Go.RowKit Go.Proofs
theorem A8 {α:Type} [Rep α] {M:Nat->Prop} {w:World} {ad:Option Addr} {cap l h:Nat} {xs:List α} (hs:xs=[]\/∃ b o,ad=some ⟨b,o,none⟩/\Row M w b o xs) (h1:l<=h) (h2:h<=xs.length) :
  Sl M w (sliced ad l h (cap + xs.length) (Rep.sz α)) ((xs.drop l).take (h - l)):=by
 have hl:((xs.drop l).take (h - l)).length=h - l:=by simp;omega
 by_cases h0:h - l=0
 ·have hn:(xs.drop l).take (h - l)=[]:=by rw [h0];simp
  refine ⟨if cap + xs.length=l then ad else ad.map (·.add (l * Rep.sz α)),cap + xs.length - l,?_,.inl hn⟩
  rw [hn];unfold sliced;rw [h0];rfl
 ·rcases hs with hs | ⟨b,o,rfl,hr⟩
  ·rw [hs] at h2;simp at h2;omega
  ·refine ⟨some ⟨b,o + l * Rep.sz α,none⟩,cap + (xs.length - h),?_,.inr ⟨b,_,rfl,Row.of_get λi x hx=>?_⟩⟩
   ·unfold sliced;rw [if_neg om_,hl,G9,Bi];congr 1;omega
   ·have hi:i < h - l:=by rw [← hl];exact (GK.1 hx).1
    rw [JE hi,KO] at hx;have:=hr.get hx
    rwa [JG,← LV] at this
section
variable {P:Program} {Γ:Cx} {ty:TypeId}
theorem FT {α:Type} {xs ys:List α} {l h:Int} (hr:lsl xs l h=some ys):0<=l/\l<=h/\h<=xs.length/\ys=(xs.drop l.toNat).take (h.toNat - l.toNat):=by
 unfold lsl at hr;split at hr
 ·rename_i hc;exact ⟨hc.1,hc.2.1,hc.2.2,(Option.some.inj hr).symm⟩
 ·cases hr
theorem F7 {T:TypeId} {α:Type} [Rep α] (he:Es P T α):P.underlying T=some (.slice (P.elem T))/\∀ w,(sizeOf (P.elem T)).run P w=.ok (Rep.sz α) w:=by
 obtain ⟨e,h1,h2⟩:=he.el;have hu:=Tx h1;have hE:P.elem T=e:=by simp [Program.elem,hu]
 rw [hE];refine ⟨hu,λw=>?_⟩;cases hi:P.info? e with
 | none=>rw [hi] at h2;cases h2
 | some i=>rw [hi] at h2;simp at h2;simp [sizeOf,typeInfo,hi,h2]
theorem ll0 {α:Type} [Rep α] {T:TypeId} [he:Es P T α] {x y:Operand} {xs ys:List α} {h:Int} (hx:Od Γ x (Va xs)) (hy:Od Γ y (Va h)) (hr:lsl xs 0 h=some ys):OR P (.slice T x none (some y) none) ty Γ (Va ys):=by
 obtain ⟨h1,h2,h3,rfl⟩:=FT hr;obtain ⟨hu,hsz⟩:=F7 he;refine OR.val λρ M w rd=>?_;obtain ⟨_,hv⟩:=hx ρ M w rd;obtain ⟨_,hy2⟩:=hy ρ M w rd;obtain ⟨ad,cap,hv,hs⟩:=Va.list hv;have:=run_slice_h w T ad xs.length (cap + xs.length) hu .i64 h h2 om_;refine ⟨sliced ad 0 h.toNat (cap + xs.length) (Rep.sz α),λ_ _ _ _=>?_,Va.mkList (A8 hs (JF _) om_)⟩;simp only [execOp,hv,JR,G9,Va.int hy2,GJ];rw [run_sliceAt_slice _ _ _ _ _ _ hu,this,hsz];try rfl
theorem ll1 {α:Type} [Rep α] {T:TypeId} [he:Es P T α] {x y:Operand} {xs ys:List α} {l:Int} (hx:Od Γ x (Va xs)) (hy:Od Γ y (Va l)) (hr:lsl xs l (xs.length:Int)=some ys):OR P (.slice T x (some y) none none) ty Γ (Va ys):=by
 obtain ⟨h1,h2,h3,rfl⟩:=FT hr;obtain ⟨hu,hsz⟩:=F7 he;refine OR.val λρ M w rd=>?_;obtain ⟨_,hv⟩:=hx ρ M w rd;obtain ⟨_,hy2⟩:=hy ρ M w rd;obtain ⟨ad,cap,hv,hs⟩:=Va.list hv;have:=run_slice_l w T ad xs.length (cap + xs.length) hu .i64 l h1 h2;refine ⟨sliced ad l.toNat xs.length (cap + xs.length) (Rep.sz α),λ_ _ _ _=>?_,Va.mkList (A8 hs om_ (G6 _))⟩;simp only [execOp,hv,JR,G9,Va.int hy2,GJ];rw [run_sliceAt_slice _ _ _ _ _ _ hu,this,hsz];try rfl
end
end Go.Pn
namespace Go.Pn
theorem I.{u} {α : Sort u} {a : α} : a = a := rfl
abbrev nz : Go.Value := .slice none 0 0
end Go.Pn
