import Derived.Test.YtdnjcbcdmgbaaaaGreatDoorBp2
set_option synthInstance.checkSynthOrder false
set_option synthInstance.maxSize 10000
set_option synthInstance.maxHeartbeats 400000
set_option maxRecDepth 100000
set_option maxHeartbeats 4000000
set_option linter.unusedVariables false
set_option linter.unusedSimpArgs false
set_option linter.defProp false
namespace Go.Pn
open Go Go.RowKit Go.Sort Go.Proofs
set_option linter.unusedSectionVars false
def insF {α:Type} (lt:α->α->Bool) (x:α):List α->List α
 | []=>[x]
 | y :: l=>bif lt y x then y :: insF lt x l else x :: y :: l
def Lu {α:Type} (lt:α->α->Bool):List α->List α
 | []=>[]
 | x :: l=>insF lt x (Lu lt l)
section
variable {α:Type} [Inhabited α] {lt:α->α->Bool}
theorem Ol (x:α):∀ l:List α,(insF lt x l).Perm (x :: l)
 | []=>.refl _
 | y :: l=>by
  unfold insF;cases lt y x with
  | false=>exact .refl _
  | true=>exact ((Ol x l).cons y).trans (.swap x y l)
theorem Da:∀ l:List α,(Lu lt l).Perm l
 | []=>.refl _
 | x :: l=>(Ol x _).trans ((Da l).cons x)
theorem CN (hO:SWO lt) (x:α):∀ l:List α,l.Pairwise (λa b=>lt b a=false)->(insF lt x l).Pairwise (λa b=>lt b a=false)
 | [],_=>by unfold insF;simp
 | y :: l,h=>by
  obtain ⟨h1,h2⟩:=GV.1 h;unfold insF;cases hx:lt y x with
  | true=>
   refine GV.2 ⟨λz hz=>?_,CN hO x l h2⟩;rcases FQ.1 ((Ol x l).mem_iff.1 hz) with rfl | hz
   ·cases hc:lt z y with
    | false=>rfl
    | true=>have:=hO.trans _ _ _ hx hc;rw [hO.irrefl] at this;cases this
   ·exact h1 z hz
  | false=>
   refine GV.2 ⟨λz hz=>?_,h⟩;rcases FQ.1 hz with rfl | hz
   ·exact hx
   ·exact hO.ntrans _ _ _ (h1 z hz) hx
theorem Re (hO:SWO lt):∀ l:List α,(Lu lt l).Pairwise (λa b=>lt b a=false)
 | []=>.nil
 | x :: l=>CN hO x _ (Re hO l)
theorem Yx (hO:SWO lt) (hT:∀ x y,lt x y=false->lt y x=false->x=y) {l l':List α} (h:l'.Perm l) (hs:l'.Pairwise (λa b=>lt b a=false)):l'=Lu lt l:=
 List.Perm.eq_of_pairwise (λa b _ _ h1 h2=>hT a b h2 h1) hs (Re hO l) (h.trans (Da l).symm)
theorem Db (l:List α):(Lu lt l).length=l.length:=(Da l).length_eq
end
theorem Ext.grow {w w':World} (h:Ext No w w'):∃ q os,w'=Sort.grow (w.drewN q) os:=by
 refine ⟨w'.drawn - w.drawn,w'.heap.extract w.heap.size w'.heap.size,?_⟩;obtain ⟨heap,tape,drawn,os,output⟩:=w';obtain ⟨heap0,tape0,drawn0,os0,output0⟩:=w;obtain ⟨rfl,rfl,rfl,h4,h5,h6⟩:=h;have h4:heap0.size<=heap.size:=h4;have h6:drawn0<=drawn:=h6;have h1:heap=heap0 ++ heap.extract heap0.size heap.size:=by
  refine Array.ext_getElem? λk=>?_;rcases HC k heap0.size with hk | hk
  ·rw [HZ hk];exact h5 k hk id
  ·rw [Array.getElem?_append_right hk,Array.getElem?_extract];split
   ·rw [Nat.add_sub_cancel' hk]
   ·exact Array.getElem?_eq_none om_
 show World.mk _ _ _ _ _=World.mk _ _ _ _ _;congr 1;show drawn=drawn0 + (drawn - drawn0);omega
structure El {α:Type} [Rep α] (M:Nat->Prop) (w:World) (xs:List α) where
 v:Value
 x:α
 rp:Rep.rep M w [v] x
 mm:x∈xs
section
variable {α:Type} [Rep α] {M:Nat->Prop} {w:World} {xs:List α}
theorem Chk.els (hz:Rep.sz α=1):∀ {ys:List α} {cs:List Value},Chk M w cs ys->(∀ y∈ys,y∈xs)->∃ ps:List (El M w xs),ps.map (λp=>p.v)=cs/\ps.map (λp=>p.x)=ys
 | [],_,h,_=>⟨[],by rw [h];rfl,rfl⟩
 | y :: ys,_,⟨c,d,rfl,h1,h2⟩,hm=>by
  obtain ⟨ps,h3,h4⟩:=Chk.els hz h2 λz hz=>hm z (F5 _ hz);have hl:=Rep.len h1;rw [hz] at hl
  match c,hl with
  | [v],_=>exact ⟨⟨v,y,h1,hm y (F9 ..)⟩ :: ps,by rw [FY,h3];rfl,by rw [FY,h4]⟩
theorem Chk.ofEls:∀ ps:List (El M w xs),Chk M w (ps.map (λp=>p.v)) (ps.map (λp=>p.x))
 | []=>rfl
 | p :: ps=>⟨[p.v],ps.map (λp=>p.v),rfl,p.rp,Chk.ofEls ps⟩
end
section
variable {β:Type} [Inhabited β] {enc:β->Value} {w w':World} {b n:Nat} {d:Array β} {cur:Array Value} {e:TypeId}
theorem CQ {fz:Nat×Nat} (h:w.heap[b]?=some (.cells cur e fz)):(putRow enc w b 0 d).heap[b]?=some (.cells (putCells enc 0 d cur) e fz):=by
 unfold putRow mapBlock;simp only [H0,if_true,h,GC,onCells]
theorem Zi {k:Nat} (h:k≠b):(putRow enc w b 0 d).heap[k]?=w.heap[k]?:=by
 unfold putRow mapBlock;simp only [H0];rw [if_neg (λe=>h e.symm)]
theorem Xf {os:Array Obj} (h:w.heap[b]?=some (.cells cur e (0,0))) (hw:w'=Sort.grow (putRow enc (Sort.ahead w n) b 0 d) os) :
  Ext (λk=>k=b) w w'/\w'.heap[b]?=some (.cells (putCells enc 0 d cur) e (0,0)):=by
 subst hw;have hsz:(putRow enc (Sort.ahead w n) b 0 d).heap.size=w.heap.size:=by simp [putRow,mapBlock,Sort.ahead]
 have hb:b < w.heap.size:=(FP.1 h).1;refine ⟨⟨rfl,rfl,rfl,?_,λk hk hne=>?_,H9 _ _⟩,?_⟩
 ·simp [Sort.grow,hsz]
 ·simp only [Sort.grow];rw [HZ (by rw [hsz];exact hk),Zi hne];rfl
 ·simp only [Sort.grow];rw [HZ (by rw [hsz];exact hb)];exact CQ h
theorem Pr (h:d.size<=cur.size):(putCells enc 0 d cur).toList.take d.size=d.toList.map enc:=by
 refine HA λj=>?_;rw [JB];split
 ·rename_i hj;rw [G5];simp only [putCells,Array.getElem?_mapIdx,F8,G5];rw [HB om_,HB hj];simp [hj]
 ·rename_i hj;rw [GO (by simp;omega)]
theorem Pu:(putCells enc 0 d cur).size=cur.size:=by simp [putCells]
theorem Zh {g:Nat} {zs:List β} (h:w.heap[g]?=some (.cells cur e (0,0))) (ht:cur.toList.take zs.length=zs.map enc):Holds enc w g 0 zs.toArray:=by
 intro j hj;have hj:j < zs.length:=by simpa using hj
 have h1:(cur.toList.take zs.length)[j]?=some (enc zs[j]):=by rw [ht];simp [hj]
 rw [HE hj,G5] at h1;refine ⟨?_,?_⟩
 ·simp [World.cell?,h,h1,hj]
 ·simp [World.frozen?,h]
end
def SortsF (P:Program) (N g:Nat):Prop:=
 (∀ (p:Option Addr) (cap:Nat) (w:World),Calls P N #[.slice p 0 cap,.func (.func g) #[] #[]] w λen w'=>en=.returned (.tuple #[])/\w'=w) /\
 ∀ (β:Type) [Inhabited β] (enc:β->Value) (_:OneCell enc) (cf:β->β->Int) (_:SWO (ltOf cf)) (b cap:Nat) (d:Array β) (w:World),
  CmpLays1 P g #[] enc cf b 0 d.size w->Holds enc w b 0 d->b < w.heap.size->d.size < 4611686018427387904 ->
  Calls P N #[.slice (some ⟨b,0,none⟩) d.size cap,.func (.func g) #[] #[]] w λen w'=>
   en=.returned (.tuple #[])/\∃ d' n os,PermIn 0 d.size d d'/\SortedIn (ltOf cf) 0 d.size d'/\w'=sortWorld enc w b 0 n d' os
theorem SortedIn.pw {β:Type} [Inhabited β] {lt:β->β->Bool} {d:Array β} (h:SortedIn lt 0 d.size d):d.toList.Pairwise (λa b=>lt b a=false):=by
 refine H3.2 λi j hi hj hij=>?_;have hj':j < d.size:=by simpa using hj
 have:=h i j (HF _) hij hj';rw [getElem!_pos d j hj',getElem!_pos d i om_] at this;simpa using this
theorem inpF {P:Program} {N e g:Nat} {c:Value} {α:Type} [Rep α] [Inhabited α] {xs:List α} (hz:Rep.sz α=1) (ha:Rep.agg α=false) (hcal:cal P N=true) (hS:SortsF P N g) (cf:α->α->Int) (hO:SWO (ltOf cf))
  (hT:∀ x y,ltOf cf x y=false->ltOf cf y x=false->x=y) (hsm:xs.length < 4611686018427387904)
  (hc:∀ x∈xs,∀ y∈xs,Sp P g [Va x,Va y] (Va (cf x y))) :
  Cg P N [Qv c,Qv (.func (.func g) #[] #[])] [Ow e c xs] (Rz (λ_:Unit=>Dd) (λ_=>[Ow e c (Lu (ltOf cf) xs)])):=by
 refine ⟨hcal,?_⟩;intro vs M w Ft hM hf ho hnd hFM
 match vs,hf with
 | [v,fv],⟨⟨_,hv⟩,⟨_,hfv⟩,_⟩=>
  have hv:v=c:=hv;subst hv;have hfv:fv=_:=hfv;subst hfv;obtain ⟨F1,_,rfl,hown,rfl⟩:=ho;rcases hown undef with ⟨hF,cs,hr,hch⟩ | ⟨hF,hx,g0,hv⟩
  ·rcases hr.2 with ⟨hn,hx⟩ | ⟨k0,cap,cur,hn,_,hg,hle,hcap,hsz,htk⟩
   ·have hx:xs=[]:=H7.1 hx;subst hx;rw [hn];refine (hS.1 none 0 w).mono ?_;rintro en w' ⟨rfl,rfl⟩;refine ⟨_,F1,rfl,Ext.refl _ _,by simpa using hnd,λk hk=>.inl (by simpa using hk),(),rfl,F1,[],by simp,λu=>?_,rfl⟩;rw [← hn];exact (Ow e v []).sb (hown u) (λk _ hk=>by rcases hk with h | h;exact h.1;exact hFM k (by simpa using h))
   ·rcases hxs:xs with _ | ⟨x0,xs0⟩
    ·subst hxs;rw [hn];refine (hS.1 _ cap w).mono ?_;rintro en w' ⟨rfl,rfl⟩;refine ⟨_,F1,rfl,Ext.refl _ _,by simpa using hnd,λk hk=>.inl (by simpa using hk),(),rfl,F1,[],by simp,λu=>?_,rfl⟩;rw [← hn];exact (Ow e v []).sb (hown u) (λk _ hk=>by rcases hk with h | h;exact h.1;exact hFM k (by simpa using h))
    rw [← hxs];obtain ⟨ps,hp1,hp2⟩:=Chk.els (xs:=xs) hz hch λy hy=>hy;have hpl:ps.length=xs.length:=by have:=congrArg List.length hp2;simpa using this
    have hx0:0 < xs.length:=by rw [hxs];simp
    have hp0:0 < ps.length:=by omega
    letI:Inhabited (El M w xs):=⟨ps[0]⟩;have hsz1:cur.size=cap:=by rw [hsz,hz];omega
    have htk1:cur.toList.take ps.length=ps.map (λp:El M w xs=>p.v):=by rw [hp1,← htk,hpl,hz,HJ]
    have hgl:k0 < w.heap.size:=(FP.1 hg).1;have hF1:F1=[k0]:=by rw [hF,hn];rfl
    subst hF1;have hk0:M k0:=hFM k0 smp_;have hone:OneCell (λp:El M w xs=>p.v):=λp=>Rep.one p.rp _ smp_;have hO':SWO (ltOf λp q:El M w xs=>cf p.x q.x):=⟨λx=>hO.irrefl _,λx y z=>hO.trans _ _ _,λx y z=>hO.ntrans _ _ _⟩;rw [hn,← hpl];have hcmp:CmpLays1 P g #[] (λp:El M w xs=>p.v) (λp q=>cf p.x q.x) k0 0 ps.toArray.size w:=by
     intro m os dk hs x y;obtain ⟨hx,_⟩:=Xf (enc:=λp:El M w xs=>p.v) (n:=m) (d:=dk) (os:=os) hg rfl;have hxM:Ext M w (sortWorld (λp:El M w xs=>p.v) w k0 0 m dk os):=hx.mono λk _ hk=>by subst hk;exact hk0
     have h1:V x.x M (sortWorld (λp:El M w xs=>p.v) w k0 0 m dk os) x.v:=⟨[x.v],by rw [ha];rfl,Rep.ext x.rp hxM⟩;have h2:V y.x M (sortWorld (λp:El M w xs=>p.v) w k0 0 m dk os) y.v:=⟨[y.v],by rw [ha];rfl,Rep.ext y.rp hxM⟩;have:=hc x.x x.mm y.x y.mm [x.v,y.v] M (sortWorld (λp:El M w xs=>p.v) w k0 0 m dk os) (λk hk=>GS (hM k hk) hx.size) ⟨⟨rfl,h1⟩,⟨rfl,h2⟩,trivial⟩;refine this.2.mono ?_;rintro en w' ⟨r,rfl,hext,F,_,_,hrF,cs',rfl,hcs'⟩;have hcs':cs'=[.int .i64 (cf x.x y.x)]:=hcs';subst hcs';exact ⟨rfl,hext.grow⟩
    refine (hS.2 (El M w xs) (λp=>p.v) hone (λp q=>cf p.x q.x) hO' k0 cap ps.toArray w hcmp (Zh hg htk1) hgl (by simp;omega)).mono ?_;rintro en w' ⟨rfl,d',n,os,hpm,hst,hw⟩;obtain ⟨hx,hb⟩:=Xf hg hw;have hds:d'.size=xs.length:=by have:=hpm.1;simp at this;omega
    have hperm:d'.toList.Perm ps:=by
     have:=hpm.2.2;have h1:d'.extract 0 ps.toArray.size=d':=by rw [← hpm.1];simp
     rw [h1] at this;simpa using this
    have hsort:d'.toList.map (λp=>p.x)=Lu (ltOf cf) xs:=by
     refine Yx hO hT ?_ ?_
     ·have:=hperm.map (λp=>p.x)
      rwa [hp2] at this
     ·have h1:SortedIn (ltOf λp q:El M w xs=>cf p.x q.x) 0 d'.size d':=by rw [hpm.1];exact hst
      exact List.pairwise_map.2 (SortedIn.pw h1)
    refine ⟨_,[k0],rfl,hx.mono λk _ hk=>by subst hk;simp,by simp,λk hk=>.inl (by simpa using hk),(),rfl,[k0],[],by simp,λu=>.inl ⟨rfl,d'.toList.map (λp=>p.v),⟨?_,.inr ⟨k0,cap,_,?_,HF _,hb,?_,hcap,?_,?_⟩⟩,?_⟩,rfl⟩
    ·rw [Db,HL,J1,hds,hz,HJ]
    ·rw [Db,hpl]
    ·rw [Db];exact hle
    ·rw [Pu];exact hsz
    ·rw [Db,hz,HJ,← hds];exact Pr (enc:=λp:El M w xs=>p.v) (d:=d') (cur:=cur) om_
    ·rw [← hsort];have h1:=Chk.ofEls (M:=M) (w:=w) (xs:=xs) d'.toList;refine (h1.ext (hx.mono λk _ hk=>by subst hk;exact hk0)).sub λk _ hk=>?_;rcases hk with h | h
     ·exact h.1
     ·rw [H1.1 h];exact hk0
  ·subst hx;rw [hv];refine (hS.1 _ 0 w).mono ?_;rintro en w' ⟨rfl,rfl⟩;refine ⟨_,F1,rfl,Ext.refl _ _,by simpa using hnd,λk hk=>.inl (by simpa using hk),(),rfl,F1,[],by simp,λu=>?_,rfl⟩;rw [← hv];exact (Ow e v []).sb (hown u) (λk _ hk=>by rcases hk with h | h;exact h.1;exact hFM k (by simpa using h))
end Go.Pn
namespace Go.Proofs
open Go.Shelf
def Tryz.laysSf_ren:Go.Shelf.Ren:=⟨λ| 6=>59 | 15=>91 | 14=>90 | 28=>120 | 29=>121 | 20=>112 | 21=>113 | 22=>114 | 23=>115 | 24=>116 | 25=>117 | 26=>118 | 27=>119 | 46=>144 | 47=>145 | 48=>146 | 49=>147 | 50=>148 | 57=>166 | n=>n,λ| 22=>39 | 24=>78 | 25=>125 | 3=>3 | 39=>171 | 0=>0 | 53=>204 | 55=>206 | 4=>4 | 46=>198 | 45=>197 | 50=>183 | 5=>5 | 9=>9 | 66=>238 | 70=>242 | 76=>259 | 77=>260 | n=>n,λ| n=>n⟩
theorem Tryz.laysSf:Go.Proofs.SlLaysF.n6 Tryz.prog Tryz.laysSf_ren:={
 mixed:=by kernel_rfl
 f6:=⟨Tryz.f59.name,by decide,Tryz.func59.trans (congrArg some Go.Pn.kr_)⟩
 f14:=⟨Tryz.f90.name,by decide,Tryz.func90.trans (congrArg some Go.Pn.kr_)⟩
 f15:=Tryz.func91.trans (congrArg some Go.Pn.kr_)
 f20:=⟨Tryz.f112.name,by decide,Tryz.func112.trans (congrArg some Go.Pn.kr_)⟩
 f21:=⟨Tryz.f113.name,by decide,Tryz.func113.trans (congrArg some Go.Pn.kr_)⟩
 f22:=⟨Tryz.f114.name,by decide,Tryz.func114.trans (congrArg some Go.Pn.kr_)⟩
 f23:=⟨Tryz.f115.name,by decide,Tryz.func115.trans (congrArg some Go.Pn.kr_)⟩
 f24:=⟨Tryz.f116.name,by decide,Tryz.func116.trans (congrArg some Go.Pn.kr_)⟩
 f25:=⟨Tryz.f117.name,by decide,Tryz.func117.trans (congrArg some Go.Pn.kr_)⟩
 f26:=⟨Tryz.f118.name,by decide,Tryz.func118.trans (congrArg some Go.Pn.kr_)⟩
 f27:=⟨Tryz.f119.name,by decide,Tryz.func119.trans (congrArg some Go.Pn.kr_)⟩
 f28:=Tryz.func120.trans (congrArg some Go.Pn.kr_)
 f29:=Tryz.func121.trans (congrArg some Go.Pn.kr_)
 f46:=⟨Tryz.f144.name,by decide,Tryz.func144.trans (congrArg some Go.Pn.kr_)⟩
 f47:=Tryz.func145.trans (congrArg some Go.Pn.kr_)
 f48:=Tryz.func146.trans (congrArg some Go.Pn.kr_)
 f49:=⟨Tryz.f147.name,by decide,Tryz.func147.trans (congrArg some Go.Pn.kr_)⟩
 f50:=⟨Tryz.f148.name,by decide,Tryz.func148.trans (congrArg some Go.Pn.kr_)⟩
 f57:=⟨Tryz.f166.name,by decide,Tryz.func166.trans (congrArg some Go.Pn.kr_)⟩
 t0:=Tryz.underlying0
 a0:=Tryz.isAgg0
 z0:=Tryz.sizeOf0
 v0:=Tryz.zeroValue0
 t3:=Tryz.underlying3
 a3:=Tryz.isAgg3
 z3:=Tryz.sizeOf3
 v3:=Tryz.zeroValue3
 t4:=Tryz.underlying4
 a4:=Tryz.isAgg4
 z4:=Tryz.sizeOf4
 v4:=Tryz.zeroValue4
 t5:=Tryz.underlying5
 a5:=Tryz.isAgg5
 z5:=Tryz.sizeOf5
 v5:=Tryz.zeroValue5
 t9:=Tryz.underlying9
 a9:=Tryz.isAgg9
 z9:=Tryz.sizeOf9
 v9:=Tryz.zeroValue9
 t22:=Tryz.underlying39
 a22:=Tryz.isAgg39
 z22:=Tryz.sizeOf39
 v22:=Tryz.zeroValue39
 a24:=Tryz.isAgg78
 z24:=Tryz.sizeOf78
 t25:=Tryz.underlying125
 a25:=Tryz.isAgg125
 z25:=Tryz.sizeOf125
 v25:=Tryz.zeroValue125
 t39:=Tryz.underlying171
 a39:=Tryz.isAgg171
 z39:=Tryz.sizeOf171
 v39:=Tryz.zeroValue171
 t45:=Tryz.underlying197
 a45:=Tryz.isAgg197
 z45:=Tryz.sizeOf197
 v45:=Tryz.zeroValue197
 t46:=Tryz.underlying198
 a46:=Tryz.isAgg198
 z46:=Tryz.sizeOf198
 v46:=Tryz.zeroValue198
 t50:=Tryz.underlying183
 a50:=Tryz.isAgg183
 z50:=Tryz.sizeOf183
 v50:=Tryz.zeroValue183
 t53:=Tryz.underlying204
 a53:=Tryz.isAgg204
 z53:=Tryz.sizeOf204
 v53:=Tryz.zeroValue204
 t55:=Tryz.underlying206
 a55:=Tryz.isAgg206
 z55:=Tryz.sizeOf206
 v55:=Tryz.zeroValue206
 t66:=Tryz.underlying238
 a66:=Tryz.isAgg238
 z66:=Tryz.sizeOf238
 v66:=Tryz.zeroValue238
 t70:=Tryz.underlying242
 a70:=Tryz.isAgg242
 z70:=Tryz.sizeOf242
 v70:=Tryz.zeroValue242
 t76:=Tryz.underlying259
 a76:=Tryz.isAgg259
 z76:=Tryz.sizeOf259
 v76:=Tryz.zeroValue259
 t77:=Tryz.underlying260
 a77:=Tryz.isAgg260
 z77:=Tryz.sizeOf260
 v77:=Tryz.zeroValue260 }
theorem Tryz.sortsF {g:Nat} (eg:∀ args w,(callFunc g args).run Tryz.prog w=.ok (.enter g args) w):Go.Pn.SortsF Tryz.prog 59 g:=
 ⟨λp cap w=>AnyF.slices_SortFunc_none { Tryz.laysSf with } p cap _ w,λ_ _ enc h1 cf hO b cap d w hc hH hb hs=>Any.slices_SortFunc Tryz.laysSf enc h1 cf hO g #[] b 0 cap d w eg hc hH hb hs⟩
end Go.Proofs
namespace Go.Pn
section
variable {L S:Type}
structure Ord_ (lt:L->L->Prop):Prop where
 irr:∀ a,¬ lt a a
 tr:∀ a b c,lt a b->lt b c->lt a c
 tot:∀ a b,a=b\/lt a b\/lt b a
variable {lt:L->L->Prop}
def Tr (nx:S->List L) (st:S->L->S) (bad:S->Bool):S->List L->S->Prop
 | s,[],x=>s=x
 | s,a :: l,x=>a∈nx s/\bad s=false/\Tr nx st bad (st s a) l x
variable {nx:S->List L} {st:S->L->S} {bad:S->Bool}
variable {s0:S} {l:List S} {tr:List (List L)} {i:Nat} {done:List L}
end
theorem pw_eq {L:Type} {r:L->L->Prop} (hi:∀ a,¬ r a a) (ht:∀ a b c,r a b->r b c->r a c):∀ {l m:List L},l.Pairwise r->m.Pairwise r->(∀ a,a∈l↔a∈m)->l=m
 | [],[],_,_,_=>rfl
 | [],b :: m,_,_,h=>by have:=(h b).2 (F9 ..);simp at this
 | a :: l,[],_,_,h=>by have:=(h a).1 (F9 ..);simp at this
 | a :: l,b :: m,h1,h2,h=>by
  obtain ⟨h3,h4⟩:=GV.1 h1;obtain ⟨h5,h6⟩:=GV.1 h2;have e:a=b:=by
   rcases FQ.1 ((h a).1 (F9 ..)) with e | e
   ·exact e
   ·rcases FQ.1 ((h b).2 (F9 ..)) with e' | e'
    ·exact e'.symm
    ·exact (hi a (ht _ _ _ (h3 b e') (h5 a e))).elim
  subst e;congr 1;refine pw_eq hi ht h4 h6 λx=>⟨λhx=>?_,λhx=>?_⟩
  ·rcases FQ.1 ((h x).1 (F5 _ hx)) with e | e
   ·subst e;exact (hi x (h3 x hx)).elim
   ·exact e
  ·rcases FQ.1 ((h x).2 (F5 _ hx)) with e | e
   ·subst e;exact (hi x (h5 x hx)).elim
   ·exact e
end Go.Pn
namespace Go.Pn
open Go.Sort Go.Proofs
def sd (a b:Ab):Int:=if a.Actuator=b.Actuator then (if a.Out=b.Out then 0 else if b.Out=true then -1 else 1) else a.Actuator - b.Actuator
def lcs:List Ab->List Ab->Int
 | [],[]=>0
 | [],_ :: _=>-1
 | _ :: _,[]=>1
 | a :: l,b :: m=>if sd a b=0 then lcs l m else sd a b
theorem Bo {a b:Ab}:sd a b=0↔a=b:=by
 obtain ⟨x,p⟩:=a;obtain ⟨y,q⟩:=b;unfold sd;dsimp only;constructor
 ·intro h;split at h
  ·rename_i h1;subst h1;split at h
   ·rename_i h2;subst h2;rfl
   ·split at h <;> omega
  ·omega
 ·intro h;injection h with h1 h2;subst h1 h2;simp
theorem sd_neg {a b:Ab}:sd a b < 0↔0 < sd b a:=by
 obtain ⟨x,p⟩:=a;obtain ⟨y,q⟩:=b;unfold sd;dsimp only;by_cases h:x=y
 ·subst h;cases p <;> cases q <;> simp
 ·rw [if_neg h,if_neg λe=>h e.symm];omega
theorem DJ {a b c:Ab} (h:sd a b < 0) (h':sd b c < 0):sd a c < 0:=by
 obtain ⟨x,p⟩:=a;obtain ⟨y,q⟩:=b;obtain ⟨z,r⟩:=c;unfold sd at h h' ⊢;dsimp only at h h' ⊢;by_cases h1:x=y
 ·subst h1;by_cases h2:x=z
  ·subst h2;cases p <;> cases q <;> cases r <;> simp_all
  ·rw [if_neg h2] at h' ⊢;exact h'
 ·rw [if_neg h1] at h;by_cases h2:y=z
  ·subst h2;rw [if_neg h1];exact h
  ·rw [if_neg h2] at h';rw [if_neg om_];omega
theorem Az:∀ {a b:List Ab},lcs a b=0↔a=b
 | [],[]=>by simp [lcs]
 | [],_ :: _=>by simp [lcs]
 | _ :: _,[]=>by simp [lcs]
 | a :: l,b :: m=>by
  unfold lcs;split
  ·rename_i h;rw [Bo] at h;subst h;rw [Az];simp
  ·rename_i h;constructor
   ·intro h';exact (h h').elim
   ·intro h';injection h' with h1 h2;exact (h (Bo.2 h1)).elim
theorem Sr:∀ {a b:List Ab},lcs a b < 0↔0 < lcs b a
 | [],[]=>by simp [lcs]
 | [],_ :: _=>by simp [lcs]
 | _ :: _,[]=>by simp [lcs]
 | a :: l,b :: m=>by
  unfold lcs;by_cases h:a=b
  ·subst h;rw [if_pos (Bo.2 rfl),if_pos (Bo.2 rfl)];exact Sr
  ·rw [if_neg λe=>h (Bo.1 e),if_neg λe=>h (Bo.1 e).symm];exact sd_neg
theorem Jg:∀ {a b c:List Ab},lcs a b < 0->lcs b c < 0->lcs a c < 0
 | [],[],_,h,_=>by simp [lcs] at h
 | [],_ :: _,[],_,h=>by simp [lcs] at h
 | [],_ :: _,_ :: _,_,_=>by simp [lcs]
 | _ :: _,[],_,h,_=>by simp [lcs] at h
 | _ :: _,_ :: _,[],_,h=>by simp [lcs] at h
 | a :: l,b :: m,c :: n,h,h'=>by
  unfold lcs at h h' ⊢;by_cases h1:a=b
  ·subst h1;rw [if_pos (Bo.2 rfl)] at h;by_cases h2:a=c
   ·subst h2;rw [if_pos (Bo.2 rfl)] at h' ⊢;exact Jg h h'
   ·rw [if_neg λe=>h2 (Bo.1 e)] at h' ⊢;exact h'
  ·rw [if_neg λe=>h1 (Bo.1 e)] at h;by_cases h2:b=c
   ·subst h2;rw [if_neg λe=>h1 (Bo.1 e)];exact h
   ·rw [if_neg λe=>h2 (Bo.1 e)] at h';have h3:=DJ h h';rw [if_neg om_];exact h3
theorem CM:SWO (ltOf lcs) where
 irrefl x:=by unfold ltOf;rw [Az.2 rfl];rfl
 trans x y z h h':=by
  unfold ltOf at *;exact dt_ (Jg (of_decide_eq_true h) (of_decide_eq_true h'))
 ntrans x y z h h':=by
  unfold ltOf at *;have h:=of_decide_eq_false h;have h':=of_decide_eq_false h';refine df_ λh3=>?_;by_cases e1:lcs x y=0
  ·rw [Az] at e1;subst e1;exact h' h3
  ·have e2:lcs y x < 0:=Sr.2 om_;exact h' (Jg e2 h3)
theorem lcs_tot (x y:List Ab) (h:ltOf lcs x y=false) (h':ltOf lcs y x=false):x=y:=by
 unfold ltOf at *;have h:=of_decide_eq_false h;have h':=of_decide_eq_false h';rw [Sr] at h';exact Az.1 om_
def lL (a b:List Ab):Prop:=lcs a b < 0
theorem Fx:Ord_ lL where
 irr a h:=by
  have h:lcs a a < 0:=h;rw [Az.2 rfl] at h;omega
 tr a b c:=Jg
 tot a b:=by
  unfold lL;rcases Int.lt_trichotomy (lcs a b) 0 with h | h | h
  ·exact .inr (.inl h)
  ·exact .inl (Az.1 h)
  ·exact .inr (.inr (Sr.2 h))
def Cz:List (List Ab)->List (List Ab)
 | []=>[]
 | [x]=>[x]
 | x :: y :: l=>if lcs x y=0 then Cz (y :: l) else x :: Cz (y :: l)
theorem Ma:∀ {l:List (List Ab)} {x:List Ab},x∈Cz l↔x∈l
 | [],_=>.rfl
 | [_],_=>.rfl
 | a :: b :: l,x=>by
  unfold Cz;split
  ·rename_i h;obtain rfl:=Az.1 h;rw [Ma];simp
  ·rw [FQ,Ma,FQ,FQ,FQ]
theorem Wp:∀ {l:List (List Ab)},l.Pairwise (λa b=>ltOf lcs b a=false)->(Cz l).Pairwise lL
 | [],_=>.nil
 | [_],_=>by simp [Cz]
 | a :: b :: l,h=>by
  obtain ⟨h1,h2⟩:=GV.1 h;unfold Cz;split
  ·exact Wp h2
  ·rename_i hne;refine GV.2 ⟨λz hz=>?_,Wp h2⟩;rw [Ma] at hz;have hab:lL a b:=by
    rcases Fx.tot a b with e | e | e
    ·exact (hne (Az.2 e)).elim
    ·exact e
    ·have:=h1 b (F9 ..);unfold ltOf at this;exact (of_decide_eq_false this e).elim
   rcases FQ.1 hz with rfl | hz
   ·exact hab
   ·rcases Fx.tot b z with e | e | e
    ·exact e ▸ hab
    ·exact Fx.tr _ _ _ hab e
    ·have:=(GV.1 h2).1 z hz;unfold ltOf at this;exact (of_decide_eq_false this e).elim
end Go.Pn
namespace Go.Pn
open Go Go.RowKit Go.Proofs
theorem Zt {α:Type} [Rep α] {M:Nat->Prop} {w:World} {ad:Option Addr} {cap l h:Nat} {xs:List α} (hs:xs=[]\/∃ b o,ad=some ⟨b,o,none⟩/\Row M w b o xs) (h1:l<=h) (h2:h<=xs.length) :
  Sl M w (sliced ad l h (cap + xs.length) (Rep.sz α)) ((xs.drop l).take (h - l)):=by
 have hl:((xs.drop l).take (h - l)).length=h - l:=by simp;omega
 by_cases h0:h - l=0
 ·have hn:(xs.drop l).take (h - l)=[]:=by rw [h0];simp
  refine ⟨if cap + xs.length=l then ad else ad.map (·.add (l * Rep.sz α)),cap + xs.length - l,?_,.inl hn⟩
  rw [hn];unfold sliced;rw [h0];rfl
 ·rcases hs with hs | ⟨b,o,rfl,hr⟩
  ·rw [hs] at h2;simp at h2;omega
  ·refine ⟨some ⟨b,o + l * Rep.sz α,none⟩,cap + (xs.length - h),?_,.inr ⟨b,_,rfl,Row.of_get λi x hx=>?_⟩⟩
   ·unfold sliced;rw [if_neg om_,hl,GC,Bi];congr 1;omega
   ·have hi:i < h - l:=by rw [← hl];exact (FN.1 hx).1
    rw [HE hi,JL] at hx;have:=hr.get hx
    rwa [HG,← Nat.add_assoc] at this
section
variable {P:Program} {Γ:Cx} {ty:TypeId}
theorem EU {α:Type} {xs ys:List α} {l h:Int} (hr:lsl xs l h=some ys):0<=l/\l<=h/\h<=xs.length/\ys=(xs.drop l.toNat).take (h.toNat - l.toNat):=by
 unfold lsl at hr;split at hr
 ·rename_i hc;exact ⟨hc.1,hc.2.1,hc.2.2,(Option.some.inj hr).symm⟩
 ·cases hr
theorem E6 {T:TypeId} {α:Type} [Rep α] (he:Es P T α):P.underlying T=some (.slice (P.elem T))/\∀ w,(sizeOf (P.elem T)).run P w=.ok (Rep.sz α) w:=by
 obtain ⟨e,h1,h2⟩:=he.el;have hu:=Sz h1;have hE:P.elem T=e:=by simp [Program.elem,hu]
 rw [hE];refine ⟨hu,λw=>?_⟩;cases hi:P.info? e with
 | none=>rw [hi] at h2;cases h2
 | some i=>rw [hi] at h2;simp at h2;simp [sizeOf,typeInfo,hi,h2]
theorem ll0 {α:Type} [Rep α] {T:TypeId} [he:Es P T α] {x y:Operand} {xs ys:List α} {h:Int} (hx:Od Γ x (Va xs)) (hy:Od Γ y (Va h)) (hr:lsl xs 0 h=some ys):OR P (.slice T x none (some y) none) ty Γ (Va ys):=by
 obtain ⟨h1,h2,h3,rfl⟩:=EU hr;obtain ⟨hu,hsz⟩:=E6 he;refine OR.val λρ M w rd=>?_;obtain ⟨_,hv⟩:=hx ρ M w rd;obtain ⟨_,hy2⟩:=hy ρ M w rd;obtain ⟨ad,cap,hv,hs⟩:=Va.list hv;have:=run_slice_h w T ad xs.length (cap + xs.length) hu .i64 h h2 om_;refine ⟨sliced ad 0 h.toNat (cap + xs.length) (Rep.sz α),λ_ _ _ _=>?_,Va.mkList (Zt hs (HF _) om_)⟩;simp only [execOp,hv,HR,GC,Va.int hy2,FH];rw [run_sliceAt_slice _ _ _ _ _ _ hu,this,hsz];try rfl
theorem ll1 {α:Type} [Rep α] {T:TypeId} [he:Es P T α] {x y:Operand} {xs ys:List α} {l:Int} (hx:Od Γ x (Va xs)) (hy:Od Γ y (Va l)) (hr:lsl xs l (xs.length:Int)=some ys):OR P (.slice T x (some y) none none) ty Γ (Va ys):=by
 obtain ⟨h1,h2,h3,rfl⟩:=EU hr;obtain ⟨hu,hsz⟩:=E6 he;refine OR.val λρ M w rd=>?_;obtain ⟨_,hv⟩:=hx ρ M w rd;obtain ⟨_,hy2⟩:=hy ρ M w rd;obtain ⟨ad,cap,hv,hs⟩:=Va.list hv;have:=run_slice_l w T ad xs.length (cap + xs.length) hu .i64 l h1 h2;refine ⟨sliced ad l.toNat xs.length (cap + xs.length) (Rep.sz α),λ_ _ _ _=>?_,Va.mkList (Zt hs om_ (GD _))⟩;simp only [execOp,hv,HR,GC,Va.int hy2,FH];rw [run_sliceAt_slice _ _ _ _ _ _ hu,this,hsz];try rfl
end
end Go.Pn
namespace Go.Pn
theorem I.{u} {α : Sort u} {a : α} : a = a := rfl
abbrev nz : Go.Value := .slice none 0 0
end Go.Pn
