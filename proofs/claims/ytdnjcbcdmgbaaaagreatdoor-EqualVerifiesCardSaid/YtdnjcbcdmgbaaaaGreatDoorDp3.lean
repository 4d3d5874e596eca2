import Derived.Test.YtdnjcbcdmgbaaaaGreatDoorDp2
set_option synthInstance.checkSynthOrder false
set_option synthInstance.maxSize 10000
set_option synthInstance.maxHeartbeats 400000
set_option maxRecDepth 100000
set_option maxHeartbeats 4000000
set_option linter.unusedVariables false
set_option linter.unusedSimpArgs false
set_option linter.defProp false
namespace Go.Proofs
open Go.Shelf
def Tryz.laysSf_ren:Go.Shelf.Ren:=⟨λ| 6=>59 | 15=>91 | 14=>90 | 28=>120 | 29=>121 | 20=>112 | 21=>113 | 22=>114 | 23=>115 | 24=>116 | 25=>117 | 26=>118 | 27=>119 | 46=>144 | 47=>145 | 48=>146 | 49=>147 | 50=>148 | 57=>166 | n=>n,λ| 22=>39 | 24=>78 | 25=>125 | 3=>3 | 39=>171 | 0=>0 | 53=>204 | 55=>206 | 4=>4 | 46=>198 | 45=>197 | 50=>183 | 5=>5 | 9=>9 | 66=>238 | 70=>242 | 76=>259 | 77=>260 | n=>n,λ| n=>n⟩
theorem Tryz.laysSf:Go.Proofs.SlLaysF.n6 Tryz.prog Tryz.laysSf_ren:={
 mixed:=by kernel_rfl
 f6:=⟨Tryz.f59.name,by decide,Tryz.func59.trans (congrArg some Go.Pn.kr_)⟩
 f14:=⟨Tryz.f90.name,by decide,Tryz.func90.trans (congrArg some Go.Pn.kr_)⟩
 f15:=Tryz.func91.trans (congrArg some Go.Pn.kr_)
 f20:=⟨Tryz.f112.name,by decide,Tryz.func112.trans (congrArg some Go.Pn.kr_)⟩
 f21:=⟨Tryz.f113.name,by decide,Tryz.func113.trans (congrArg some Go.Pn.kr_)⟩
 f22:=⟨Tryz.f114.name,by decide,Tryz.func114.trans (congrArg some Go.Pn.kr_)⟩
 f23:=⟨Tryz.f115.name,by decide,Tryz.func115.trans (congrArg some Go.Pn.kr_)⟩
 f24:=⟨Tryz.f116.name,by decide,Tryz.func116.trans (congrArg some Go.Pn.kr_)⟩
 f25:=⟨Tryz.f117.name,by decide,Tryz.func117.trans (congrArg some Go.Pn.kr_)⟩
 f26:=⟨Tryz.f118.name,by decide,Tryz.func118.trans (congrArg some Go.Pn.kr_)⟩
 f27:=⟨Tryz.f119.name,by decide,Tryz.func119.trans (congrArg some Go.Pn.kr_)⟩
 f28:=Tryz.func120.trans (congrArg some Go.Pn.kr_)
 f29:=Tryz.func121.trans (congrArg some Go.Pn.kr_)
 f46:=⟨Tryz.f144.name,by decide,Tryz.func144.trans (congrArg some Go.Pn.kr_)⟩
 f47:=Tryz.func145.trans (congrArg some Go.Pn.kr_)
 f48:=Tryz.func146.trans (congrArg some Go.Pn.kr_)
 f49:=⟨Tryz.f147.name,by decide,Tryz.func147.trans (congrArg some Go.Pn.kr_)⟩
 f50:=⟨Tryz.f148.name,by decide,Tryz.func148.trans (congrArg some Go.Pn.kr_)⟩
 f57:=⟨Tryz.f166.name,by decide,Tryz.func166.trans (congrArg some Go.Pn.kr_)⟩
 t0:=Tryz.underlying0
 a0:=Tryz.isAgg0
 z0:=Tryz.sizeOf0
 v0:=Tryz.zeroValue0
 t3:=Tryz.underlying3
 a3:=Tryz.isAgg3
 z3:=Tryz.sizeOf3
 v3:=Tryz.zeroValue3
 t4:=Tryz.underlying4
 a4:=Tryz.isAgg4
 z4:=Tryz.sizeOf4
 v4:=Tryz.zeroValue4
 t5:=Tryz.underlying5
 a5:=Tryz.isAgg5
 z5:=Tryz.sizeOf5
 v5:=Tryz.zeroValue5
 t9:=Tryz.underlying9
 a9:=Tryz.isAgg9
 z9:=Tryz.sizeOf9
 v9:=Tryz.zeroValue9
 t22:=Tryz.underlying39
 a22:=Tryz.isAgg39
 z22:=Tryz.sizeOf39
 v22:=Tryz.zeroValue39
 a24:=Tryz.isAgg78
 z24:=Tryz.sizeOf78
 t25:=Tryz.underlying125
 a25:=Tryz.isAgg125
 z25:=Tryz.sizeOf125
 v25:=Tryz.zeroValue125
 t39:=Tryz.underlying171
 a39:=Tryz.isAgg171
 z39:=Tryz.sizeOf171
 v39:=Tryz.zeroValue171
 t45:=Tryz.underlying197
 a45:=Tryz.isAgg197
 z45:=Tryz.sizeOf197
 v45:=Tryz.zeroValue197
 t46:=Tryz.underlying198
 a46:=Tryz.isAgg198
 z46:=Tryz.sizeOf198
 v46:=Tryz.zeroValue198
 t50:=Tryz.underlying183
 a50:=Tryz.isAgg183
 z50:=Tryz.sizeOf183
 v50:=Tryz.zeroValue183
 t53:=Tryz.underlying204
 a53:=Tryz.isAgg204
 z53:=Tryz.sizeOf204
 v53:=Tryz.zeroValue204
 t55:=Tryz.underlying206
 a55:=Tryz.isAgg206
 z55:=Tryz.sizeOf206
 v55:=Tryz.zeroValue206
 t66:=Tryz.underlying238
 a66:=Tryz.isAgg238
 z66:=Tryz.sizeOf238
 v66:=Tryz.zeroValue238
 t70:=Tryz.underlying242
 a70:=Tryz.isAgg242
 z70:=Tryz.sizeOf242
 v70:=Tryz.zeroValue242
 t76:=Tryz.underlying259
 a76:=Tryz.isAgg259
 z76:=Tryz.sizeOf259
 v76:=Tryz.zeroValue259
 t77:=Tryz.underlying260
 a77:=Tryz.isAgg260
 z77:=Tryz.sizeOf260
 v77:=Tryz.zeroValue260 }
theorem Tryz.sortsF {g:Nat} (eg:∀ args w,(callFunc g args).run Tryz.prog w=.ok (.enter g args) w):Go.Pn.SortsF Tryz.prog 59 g:=
 ⟨λp cap w=>AnyF.slices_SortFunc_none { Tryz.laysSf with } p cap _ w,λ_ _ enc h1 cf hO b cap d w hc hH hb hs=>Any.slices_SortFunc Tryz.laysSf enc h1 cf hO g #[] b 0 cap d w eg hc hH hb hs⟩
end Go.Proofs
namespace Go.Pn
section
variable {L S:Type}
structure Ord_ (lt:L->L->Prop):Prop where
 irr:∀ a,¬ lt a a
 tr:∀ a b c,lt a b->lt b c->lt a c
 tot:∀ a b,a=b\/lt a b\/lt b a
variable {lt:L->L->Prop}
def Tr (nx:S->List L) (st:S->L->S) (bad:S->Bool):S->List L->S->Prop
 | s,[],x=>s=x
 | s,a :: l,x=>a∈nx s/\bad s=false/\Tr nx st bad (st s a) l x
variable {nx:S->List L} {st:S->L->S} {bad:S->Bool}
variable {s0:S} {l:List S} {tr:List (List L)} {i:Nat} {done:List L}
end
theorem pw_eq {L:Type} {r:L->L->Prop} (hi:∀ a,¬ r a a) (ht:∀ a b c,r a b->r b c->r a c):∀ {l m:List L},l.Pairwise r->m.Pairwise r->(∀ a,a∈l↔a∈m)->l=m
 | [],[],_,_,_=>rfl
 | [],b :: m,_,_,h=>by have:=(h b).2 (GT ..);simp at this
 | a :: l,[],_,_,h=>by have:=(h a).1 (GT ..);simp at this
 | a :: l,b :: m,h1,h2,h=>by
  obtain ⟨h3,h4⟩:=HL.1 h1;obtain ⟨h5,h6⟩:=HL.1 h2;have e:a=b:=by
   rcases GJ.1 ((h a).1 (GT ..)) with e | e
   ·exact e
   ·rcases GJ.1 ((h b).2 (GT ..)) with e' | e'
    ·exact e'.symm
    ·exact (hi a (ht _ _ _ (h3 b e') (h5 a e))).elim
  subst e;congr 1;refine pw_eq hi ht h4 h6 λx=>⟨λhx=>?_,λhx=>?_⟩
  ·rcases GJ.1 ((h x).1 (GS _ hx)) with e | e
   ·subst e;exact (hi x (h3 x hx)).elim
   ·exact e
  ·rcases GJ.1 ((h x).2 (GS _ hx)) with e | e
   ·subst e;exact (hi x (h5 x hx)).elim
   ·exact e
end Go.Pn
namespace Go.Pn
open Go.Sort Go.Proofs
def sd (a b:Ab):Int:=if a.Actuator=b.Actuator then (if a.Out=b.Out then 0 else if b.Out=true then -1 else 1) else a.Actuator - b.Actuator
def lcs:List Ab->List Ab->Int
 | [],[]=>0
 | [],_ :: _=>-1
 | _ :: _,[]=>1
 | a :: l,b :: m=>if sd a b=0 then lcs l m else sd a b
theorem Bo {a b:Ab}:sd a b=0↔a=b:=by
 obtain ⟨x,p⟩:=a;obtain ⟨y,q⟩:=b;unfold sd;dsimp only;constructor
 ·intro h;split at h
  ·rename_i h1;subst h1;split at h
   ·rename_i h2;subst h2;rfl
   ·split at h <;> omega
  ·omega
 ·intro h;injection h with h1 h2;subst h1 h2;simp
theorem sd_neg {a b:Ab}:sd a b < 0↔0 < sd b a:=by
 obtain ⟨x,p⟩:=a;obtain ⟨y,q⟩:=b;unfold sd;dsimp only;by_cases h:x=y
 ·subst h;cases p <;> cases q <;> simp
 ·rw [if_neg h,if_neg λe=>h e.symm];omega
theorem D2 {a b c:Ab} (h:sd a b < 0) (h':sd b c < 0):sd a c < 0:=by
 obtain ⟨x,p⟩:=a;obtain ⟨y,q⟩:=b;obtain ⟨z,r⟩:=c;unfold sd at h h' ⊢;dsimp only at h h' ⊢;by_cases h1:x=y
 ·subst h1;by_cases h2:x=z
  ·subst h2;cases p <;> cases q <;> cases r <;> simp_all
  ·rw [if_neg h2] at h' ⊢;exact h'
 ·rw [if_neg h1] at h;by_cases h2:y=z
  ·subst h2;rw [if_neg h1];exact h
  ·rw [if_neg h2] at h';rw [if_neg om_];omega
theorem Ax:∀ {a b:List Ab},lcs a b=0↔a=b
 | [],[]=>by simp [lcs]
 | [],_ :: _=>by simp [lcs]
 | _ :: _,[]=>by simp [lcs]
 | a :: l,b :: m=>by
  unfold lcs;split
  ·rename_i h;rw [Bo] at h;subst h;rw [Ax];simp
  ·rename_i h;constructor
   ·intro h';exact (h h').elim
   ·intro h';injection h' with h1 h2;exact (h (Bo.2 h1)).elim
theorem Tg:∀ {a b:List Ab},lcs a b < 0↔0 < lcs b a
 | [],[]=>by simp [lcs]
 | [],_ :: _=>by simp [lcs]
 | _ :: _,[]=>by simp [lcs]
 | a :: l,b :: m=>by
  unfold lcs;by_cases h:a=b
  ·subst h;rw [if_pos (Bo.2 rfl),if_pos (Bo.2 rfl)];exact Tg
  ·rw [if_neg λe=>h (Bo.1 e),if_neg λe=>h (Bo.1 e).symm];exact sd_neg
theorem Jo:∀ {a b c:List Ab},lcs a b < 0->lcs b c < 0->lcs a c < 0
 | [],[],_,h,_=>by simp [lcs] at h
 | [],_ :: _,[],_,h=>by simp [lcs] at h
 | [],_ :: _,_ :: _,_,_=>by simp [lcs]
 | _ :: _,[],_,h,_=>by simp [lcs] at h
 | _ :: _,_ :: _,[],_,h=>by simp [lcs] at h
 | a :: l,b :: m,c :: n,h,h'=>by
  unfold lcs at h h' ⊢;by_cases h1:a=b
  ·subst h1;rw [if_pos (Bo.2 rfl)] at h;by_cases h2:a=c
   ·subst h2;rw [if_pos (Bo.2 rfl)] at h' ⊢;exact Jo h h'
   ·rw [if_neg λe=>h2 (Bo.1 e)] at h' ⊢;exact h'
  ·rw [if_neg λe=>h1 (Bo.1 e)] at h;by_cases h2:b=c
   ·subst h2;rw [if_neg λe=>h1 (Bo.1 e)];exact h
   ·rw [if_neg λe=>h2 (Bo.1 e)] at h';have h3:=D2 h h';rw [if_neg om_];exact h3
theorem C4:SWO (ltOf lcs) where
 irrefl x:=by unfold ltOf;rw [Ax.2 rfl];rfl
 trans x y z h h':=by
  unfold ltOf at *;exact dt_ (Jo (of_decide_eq_true h) (of_decide_eq_true h'))
 ntrans x y z h h':=by
  unfold ltOf at *;have h:=of_decide_eq_false h;have h':=of_decide_eq_false h';refine df_ λh3=>?_;by_cases e1:lcs x y=0
  ·rw [Ax] at e1;subst e1;exact h' h3
  ·have e2:lcs y x < 0:=Tg.2 om_;exact h' (Jo e2 h3)
theorem lcs_tot (x y:List Ab) (h:ltOf lcs x y=false) (h':ltOf lcs y x=false):x=y:=by
 unfold ltOf at *;have h:=of_decide_eq_false h;have h':=of_decide_eq_false h';rw [Tg] at h';exact Ax.1 om_
def lL (a b:List Ab):Prop:=lcs a b < 0
theorem Gc:Ord_ lL where
 irr a h:=by
  have h:lcs a a < 0:=h;rw [Ax.2 rfl] at h;omega
 tr a b c:=Jo
 tot a b:=by
  unfold lL;rcases Int.lt_trichotomy (lcs a b) 0 with h | h | h
  ·exact .inr (.inl h)
  ·exact .inl (Ax.1 h)
  ·exact .inr (.inr (Tg.2 h))
def Da:List (List Ab)->List (List Ab)
 | []=>[]
 | [x]=>[x]
 | x :: y :: l=>if lcs x y=0 then Da (y :: l) else x :: Da (y :: l)
theorem Ms:∀ {l:List (List Ab)} {x:List Ab},x∈Da l↔x∈l
 | [],_=>.rfl
 | [_],_=>.rfl
 | a :: b :: l,x=>by
  unfold Da;split
  ·rename_i h;obtain rfl:=Ax.1 h;rw [Ms];simp
  ·rw [GJ,Ms,GJ,GJ,GJ]
theorem Xo:∀ {l:List (List Ab)},l.Pairwise (λa b=>ltOf lcs b a=false)->(Da l).Pairwise lL
 | [],_=>.nil
 | [_],_=>by simp [Da]
 | a :: b :: l,h=>by
  obtain ⟨h1,h2⟩:=HL.1 h;unfold Da;split
  ·exact Xo h2
  ·rename_i hne;refine HL.2 ⟨λz hz=>?_,Xo h2⟩;rw [Ms] at hz;have hab:lL a b:=by
    rcases Gc.tot a b with e | e | e
    ·exact (hne (Ax.2 e)).elim
    ·exact e
    ·have:=h1 b (GT ..);unfold ltOf at this;exact (of_decide_eq_false this e).elim
   rcases GJ.1 hz with rfl | hz
   ·exact hab
   ·rcases Gc.tot b z with e | e | e
    ·exact e ▸ hab
    ·exact Gc.tr _ _ _ hab e
    ·have:=(HL.1 h2).1 z hz;unfold ltOf at this;exact (of_decide_eq_false this e).elim
end Go.Pn
namespace Go.Pn
open Go Go.RowKit Go.Proofs
theorem A0 {α:Type} [Rep α] {M:Nat->Prop} {w:World} {ad:Option Addr} {cap l h:Nat} {xs:List α} (hs:xs=[]\/∃ b o,ad=some ⟨b,o,none⟩/\Row M w b o xs) (h1:l<=h) (h2:h<=xs.length) :
  Sl M w (sliced ad l h (cap + xs.length) (Rep.sz α)) ((xs.drop l).take (h - l)):=by
 have hl:((xs.drop l).take (h - l)).length=h - l:=by simp;omega
 by_cases h0:h - l=0
 ·have hn:(xs.drop l).take (h - l)=[]:=by rw [h0];simp
  refine ⟨if cap + xs.length=l then ad else ad.map (·.add (l * Rep.sz α)),cap + xs.length - l,?_,.inl hn⟩
  rw [hn];unfold sliced;rw [h0];rfl
 ·rcases hs with hs | ⟨b,o,rfl,hr⟩
  ·rw [hs] at h2;simp at h2;omega
  ·refine ⟨some ⟨b,o + l * Rep.sz α,none⟩,cap + (xs.length - h),?_,.inr ⟨b,_,rfl,Row.of_get λi x hx=>?_⟩⟩
   ·unfold sliced;rw [if_neg om_,hl,GY,Bg];congr 1;omega
   ·have hi:i < h - l:=by rw [← hl];exact (GG.1 hx).1
    rw [H7 hi,J8] at hx;have:=hr.get hx
    rwa [H9,← Nat.add_assoc] at this
section
variable {P:Program} {Γ:Cx} {ty:TypeId}
theorem FM {α:Type} {xs ys:List α} {l h:Int} (hr:lsl xs l h=some ys):0<=l/\l<=h/\h<=xs.length/\ys=(xs.drop l.toNat).take (h.toNat - l.toNat):=by
 unfold lsl at hr;split at hr
 ·rename_i hc;exact ⟨hc.1,hc.2.1,hc.2.2,(Option.some.inj hr).symm⟩
 ·cases hr
theorem FW {T:TypeId} {α:Type} [Rep α] (he:Es P T α):P.underlying T=some (.slice (P.elem T))/\∀ w,(sizeOf (P.elem T)).run P w=.ok (Rep.sz α) w:=by
 obtain ⟨e,h1,h2⟩:=he.el;have hu:=Tl h1;have hE:P.elem T=e:=by simp [Program.elem,hu]
 rw [hE];refine ⟨hu,λw=>?_⟩;cases hi:P.info? e with
 | none=>rw [hi] at h2;cases h2
 | some i=>rw [hi] at h2;simp at h2;simp [sizeOf,typeInfo,hi,h2]
theorem ll0 {α:Type} [Rep α] {T:TypeId} [he:Es P T α] {x y:Operand} {xs ys:List α} {h:Int} (hx:Od Γ x (Va xs)) (hy:Od Γ y (Va h)) (hr:lsl xs 0 h=some ys):OR P (.slice T x none (some y) none) ty Γ (Va ys):=by
 obtain ⟨h1,h2,h3,rfl⟩:=FM hr;obtain ⟨hu,hsz⟩:=FW he;refine OR.val λρ M w rd=>?_;obtain ⟨_,hv⟩:=hx ρ M w rd;obtain ⟨_,hy2⟩:=hy ρ M w rd;obtain ⟨ad,cap,hv,hs⟩:=Va.list hv;have:=run_slice_h w T ad xs.length (cap + xs.length) hu .i64 h h2 om_;refine ⟨sliced ad 0 h.toNat (cap + xs.length) (Rep.sz α),λ_ _ _ _=>?_,Va.mkList (A0 hs (H8 _) om_)⟩;simp only [execOp,hv,JG,GY,Va.int hy2,GA];rw [run_sliceAt_slice _ _ _ _ _ _ hu,this,hsz];try rfl
theorem ll1 {α:Type} [Rep α] {T:TypeId} [he:Es P T α] {x y:Operand} {xs ys:List α} {l:Int} (hx:Od Γ x (Va xs)) (hy:Od Γ y (Va l)) (hr:lsl xs l (xs.length:Int)=some ys):OR P (.slice T x (some y) none none) ty Γ (Va ys):=by
 obtain ⟨h1,h2,h3,rfl⟩:=FM hr;obtain ⟨hu,hsz⟩:=FW he;refine OR.val λρ M w rd=>?_;obtain ⟨_,hv⟩:=hx ρ M w rd;obtain ⟨_,hy2⟩:=hy ρ M w rd;obtain ⟨ad,cap,hv,hs⟩:=Va.list hv;have:=run_slice_l w T ad xs.length (cap + xs.length) hu .i64 l h1 h2;refine ⟨sliced ad l.toNat xs.length (cap + xs.length) (Rep.sz α),λ_ _ _ _=>?_,Va.mkList (A0 hs om_ (G0 _))⟩;simp only [execOp,hv,JG,GY,Va.int hy2,GA];rw [run_sliceAt_slice _ _ _ _ _ _ hu,this,hsz];try rfl
end
end Go.Pn
namespace Go.Pn
theorem I.{u} {α : Sort u} {a : α} : a = a := rfl
abbrev nz : Go.Value := .slice none 0 0
end Go.Pn
