import Derived.Test.YtkknipanlegofaaGreatDoorJp2
set_option synthInstance.checkSynthOrder false
set_option synthInstance.maxSize 10000
set_option synthInstance.maxHeartbeats 400000
set_option maxRecDepth 100000
set_option maxHeartbeats 4000000
set_option linter.unusedVariables false
set_option linter.unusedSimpArgs false
namespace Go.Pn
open Go Go.RowKit
set_option synthInstance.checkSynthOrder false
class Kw (g:Prop) {ρ:Type} (m:Option ρ) (x:outParam ρ):Prop where h:g->m=some x
theorem Kw.e {ρ:Type} {m:Option ρ} {x:ρ} (h:Kw True m x):m=some x:=h.h trivial
theorem bk {α β:Type} {o:Option α} {f:α->Option β} {r:β} (h:o.bind f=some r):∃ x,Kw True o x/\f x=some r:=let ⟨x,h1,h2⟩:=bs h;⟨x,⟨fun _=>h1⟩,h2⟩
theorem gk {α ρ:Type} [Inhabited α] {B c:Bool} {o:Option α} {k:α->Option ρ} {r:ρ} (h:B=c->o.bind k=some r):∃ x,Kw (B=c) o x/\(B=c->k x=some r):=let ⟨x,h1,h2⟩:=gx h;⟨x,⟨h1⟩,h2⟩
class Kf (g:Prop) {ρ:Type} (m:Option ρ) (x:outParam ρ):Prop where h:g->m=some x
section
variable {g:Prop} {ρ:Type} {m:Option ρ} {x:ρ}
instance [h:Kw g m x]:Kf g m x:=⟨h.h⟩
end
class Pa (b p:Bool) (r:outParam Bool):Prop where
 h:b=true->p=r
 z:b=false->r=false
class Po (b p:Bool) (r:outParam Bool):Prop where
 h:b=false->p=r
 z:b=true->r=true
theorem pka {b p r:Bool} (h:b=true->some p=some r) (e:b=false->some false=some r):Pa b p r:=⟨fun x=>si (h x),fun x=>(si (e x)).symm⟩
theorem pko {b p r:Bool} (h:b=false->some p=some r) (e:b=true->some true=some r):Po b p r:=⟨fun x=>si (h x),fun x=>(si (e x)).symm⟩
class Cn (P:Program) (f:FuncId) {ρ:outParam Type} (m:outParam (Option ρ)) (ps:outParam (List Ent)) (E:outParam (ρ->Ent)):Prop where h:∀ x,m=some x->Sp P f ps (E x)
section
variable {g:Prop} {P:Program} {Γ:Cx}
class AX (g:Prop) (Γ:Cx) (x:Operand) (e:Ent):Prop where h:g->Od Γ x e
instance {x:Operand} {e:Ent} [h:AD g Γ x e]:AX g Γ x e:=⟨h.h⟩
class AXl (g:Prop) (Γ:Cx) (xs:List Operand) (es:List Ent):Prop where h:g->Odl Γ xs es
instance:AXl g Γ [] []:=⟨fun _=>on⟩
instance {x:Operand} {xs:List Operand} {e:Ent} {es:List Ent} [h:AX g Γ x e] [Zf e] [h':AXl g Γ xs es]:AXl g Γ (x :: xs) (e :: es):=⟨fun hg=>oc (h.h hg) (h'.h hg)⟩
instance {f:FuncId} {ρ:Type} {m:Option ρ} {ps:List Ent} {E:ρ->Ent} {xs:List Operand} {A:Array TypeId} {x:ρ} [hc:Cn P f m ps E] [hA:AXl g Γ xs ps] [hk:Kf g m x] :
  AO g P (.call { callee:=.value (.func f),args:=xs.toArray,argTypes:=A }) Γ (E x):=⟨fun hg _=>cc rfl (hA.h hg) (hc.h x (hk.h hg))⟩
instance {T:TypeId} {x i:Operand} {α:Type} {hα:Rep α} {xs:List α} {v:Int} {y:α} [hx:AD g Γ x (Va xs)] [hi:AX g Γ i (Va v)] [he:Es P T α] [hk:Kf g (idx xs v) y] :
  AO g P (.indexAddr T x i) Γ (Pt y):=⟨fun hg _=>ix (hx.h hg) (hi.h hg) (hk.h hg)⟩
instance (priority:=high) {c:Operand} {m:Nat} {b p r:Bool} [hc:AD g Γ c (Va b)] [hx:Lk (lk Γ m) (Gd b true (Va p))] [hp:Pa b p r]:AO g P (.pick c (.tmp m) (.const (.bool false))) Γ (Va r):=⟨fun h _=>pa (hc.h h) ((lk_eq _ _).symm.trans hx.h) hp.h hp.z⟩
instance (priority:=high) {c:Operand} {m:Nat} {b p r:Bool} [hc:AD g Γ c (Va b)] [hx:Lk (lk Γ m) (Gd b false (Va p))] [hp:Po b p r]:AO g P (.pick c (.const (.bool true)) (.tmp m)) Γ (Va r):=⟨fun h _=>po (hc.h h) ((lk_eq _ _).symm.trans hx.h) hp.h hp.z⟩
instance {c:Operand} {m:Nat} {B w b p:Bool} [hc:AD (B=w) Γ c (Va b)] [hx:Lk (lk Γ m) (Gd ((B == w) && (b == true)) true (Va p))]:AO (B=w) P (.pick c (.tmp m) (.const (.bool false))) Γ (Va (b && p)):=⟨fun h _=>pagP (hc.h h) ((lk_eq _ _).symm.trans hx.h) fun e=>g2 h e⟩
instance {c:Operand} {m:Nat} {B w b p:Bool} [hc:AD (B=w) Γ c (Va b)] [hx:Lk (lk Γ m) (Gd ((B == w) && (b == false)) true (Va p))]:AO (B=w) P (.pick c (.const (.bool true)) (.tmp m)) Γ (Va (b || p)):=⟨fun h _=>pogP (hc.h h) ((lk_eq _ _).symm.trans hx.h) fun e=>g2 h e⟩
instance {x y:Operand} {T T':TypeId} {m n:Int} [hx:AD g Γ x (Va m)] [hy:AD g Γ y (Va n)]:AO g P (.call { callee:=.builtin .max,args:=#[x,y],argTypes:=#[T,T'] }) Γ (Va (if n > m then n else m)):=⟨fun h _=>mx (hx.h h) (hy.h h)⟩
instance {K b:Nat} {cs:List Value}:AG ((K,Mr b cs) :: Γ) b K (Mr b cs):=⟨by simp [look]⟩
instance {T K b:Nat} {x:Operand} {α:Type} {_:Rep α} {y:α} [hx:AD g Γ x (Qv (pb b 0))] [hk:AG Γ b K (Mg b y)] [Ty P T α]:AO g P (.load T x) Γ (Va y):=⟨fun h _=>lm (hx.h h) hk.h⟩
class AFo (α:Type) (hα:Rep α) (off:Nat) (β:outParam Type) (hβ:outParam (Rep β)) (f:outParam (α->β)):Prop where h:DF f off
instance {off:Nat} {α β:Type} {hα:Rep α} {hβ:Rep β} {f:α->β} [h:DF f off]:AFo α hα off β hβ f:=⟨h⟩
instance (priority:=low) {T K b off:Nat} {x:Operand} {α β:Type} {hα:Rep α} {hβ:Rep β} {y:α} {f:α->β} [hx:AD g Γ x (Qv (pb b off))] [hk:AG Γ b K (Mg b y)] [hf:AFo α hα off β hβ f] [Ty P T β]:AO g P (.load T x) Γ (Va (f y)):=⟨fun h _=>have:=hf.h;lf (hx.h h) hk.h⟩
class Fo (P:Program) (S k:Nat) (off:outParam Nat):Prop where h:∃ m,fieldOf P S k=some (off,m + 1)
class Pq (o off:Nat) (q:outParam Nat):Prop where h:o + off=q
instance {o:Nat}:Pq 0 o o:=⟨Nat.zero_add o⟩
instance (priority:=low) {o:Nat}:Pq o 0 o:=⟨rfl⟩
instance {S k b o off q:Nat} {x:Operand} [hx:AD g Γ x (Qv (pb b o))] [hf:Fo P S k off] [hq:Pq o off q]:AO g P (.fieldAddr S x k) Γ (Qv (pb b q)):=⟨fun h _=>let ⟨_,e⟩:=hf.h;fm_ (hx.h h) e hq.h⟩
@[reducible] def nth_:List Value->Nat->Option Value
 | [],_=>none
 | c :: _,0=>some c
 | _ :: l,j + 1=>nth_ l j
theorem nth_eq:∀ (l:List Value) (j:Nat),nth_ l j=l[j]?
 | [],_=>rfl
 | _ :: _,0=>rfl
 | _ :: l,j + 1=>by simpa [nth_] using nth_eq l j
class Nt (o:Option Value) (c:outParam Value):Prop where h:o=some c
instance {c:Value}:Nt (some c) c:=⟨rfl⟩
instance (priority:=low) {T K b off:Nat} {x:Operand} {β:Type} {_:Rep β} {cs:List Value} {c:Value} [hx:AD g Γ x (Qv (pb b off))] [hk:AG Γ b K (Mr b cs)] [hc:Nt (nth_ cs off) c] [Ty P T (List β)]:AO g P (.load T x) Γ (Qv c):=⟨fun h _=>lrc (List β) (hx.h h) hk.h ((nth_eq _ _).symm.trans hc.h) rfl rfl⟩
instance (priority:=low) {T K b off:Nat} {x:Operand} {cs:List Value} {c:Value} [hx:AD g Γ x (Qv (pb b off))] [hk:AG Γ b K (Mr b cs)] [hc:Nt (nth_ cs off) c] [Ty P T Int]:AO g P (.load T x) Γ (Qv c):=⟨fun h _=>lrc Int (hx.h h) hk.h ((nth_eq _ _).symm.trans hc.h) rfl rfl⟩
class AR (Γ:Cx) (c:Value) (K:outParam Nat) (ei:outParam Nat) (α:outParam Type) (hα:outParam (Rep α)) (xs:outParam (List α)):Prop where h:look Γ K=some (Ow ei c xs)
instance {K ei:Nat} {c:Value} {α:Type} {hα:Rep α} {xs:List α}:AR ((K,Ow ei c xs) :: Γ) c K ei α hα xs:=⟨by simp [look]⟩
instance (priority:=low) {K k ei:Nat} {c:Value} {e':Ent} {α:Type} {hα:Rep α} {xs:List α} [h:AR Γ c K ei α hα xs] [hn:Bf (nq_ k K)]:AR ((k,e') :: Γ) c K ei α hα xs:=⟨by
 have:=nq_h hn;show (match Nat.beq k K with | true=>some e' | false=>look Γ K)=some (Ow ei c xs)
 rw [this];exact h.h⟩
instance {K ei:Nat} {c:Value} {α:Type} {hα:Rep α} {xs:List α} [h:AR Γ c K ei α hα xs]:AR ([] ++ Γ) c K ei α hα xs:=⟨h.h⟩
instance {K ei:Nat} {c:Value} {p:Nat×Ent} {Δ:Cx} {α:Type} {hα:Rep α} {xs:List α} [h:AR (p :: (Δ ++ Γ)) c K ei α hα xs]:AR ((p :: Δ) ++ Γ) c K ei α hα xs:=⟨h.h⟩
instance {T K e:Nat} {x i:Operand} {c:Value} {α:Type} {hα:Rep α} {xs:List α} {m:Int} {y:α} [hx:AD g Γ x (Qv c)] [hk:AR Γ c K e α hα xs] [hi:AX g Γ i (Va m)] [he:Ea P T e α] [h:Kf g (idx xs m) y]:AO g P (.indexAddr T x i) Γ (Pe c (m.toNat * Rep.sz α)):=⟨fun hg _=>ixq (hx.h hg) hk.h (hi.h hg) (h.h hg)⟩
instance {T K e:Nat} {x:Operand} {c:Value} {α:Type} {hα:Rep α} {xs:List α} {m:Int} {y:α} [hx:AD g Γ x (Pe c (m.toNat * Rep.sz α))] [hk:AR Γ c K e α hα xs] [Ty P T α] [h:Kf g (idx xs m) y]:AO g P (.load T x) Γ (Va y):=⟨fun hg _=>lq (hx.h hg) hk.h (idxg (h.h hg))⟩
instance {T K e:Nat} {x:Operand} {c:Value} {α:Type} {hα:Rep α} {xs:List α} [hx:AD g Γ x (Qv c)] [hk:AR Γ c K e α hα xs] [he:Ea P T e α]:AO g P (.call { callee:=.builtin .len,args:=#[x],argTypes:=#[T] }) Γ (Va (xs.length:Int)):=⟨fun hg _=>lnq (hx.h hg) hk.h⟩
class Smz (α:Type) [Rep α]:Prop where h:Nat.ble (Rep.sz α) 1000000=true
theorem Smz.le {α:Type} [Rep α] [h:Smz α] {k:Nat} (hk:Nat.ble k 16=true):Nat.ble (k * Rep.sz α) 16777216=true:=by
 have h1:=Nat.le_of_ble_eq_true h.h;have h2:=Nat.le_of_ble_eq_true hk;refine Nat.ble_eq_true_of_le ?_;exact Nat.le_trans (Nat.mul_le_mul h2 h1) (by decide)
instance {T e:Nat} {α:Type} {_:Rep α} [Ea P T e α] [Smz α] {x:Operand} {y:α} [hx:AX g Γ x (Va y)]:AO g P (.buildSlice T 1 #[(0,x)]) Γ (Va [y]):=⟨fun hg _=>bsv (o1 (hx.h hg) o0) rfl rfl (Smz.le rfl)⟩
instance {T e:Nat} {α:Type} {_:Rep α} [Ea P T e α] [Smz α] {x x2:Operand} {y y2:α} [hx:AX g Γ x (Va y)] [hx2:AX g Γ x2 (Va y2)]:AO g P (.buildSlice T 2 #[(0,x),(1,x2)]) Γ (Va [y,y2]):=⟨fun hg _=>bsv (o1 (hx.h hg) (o1 (hx2.h hg) o0)) rfl rfl (Smz.le rfl)⟩
theorem look_filt_app {ks:List Nat} {t:Nat} {Δ Γ:Cx} (ht:t∈ks):look (filt ks Δ ++ Γ) t=look (Δ ++ Γ) t:=by
 induction Δ with
 | nil=>rfl
 | cons p Δ ih=>
  obtain ⟨s,e⟩:=p;show look ((match ks.contains s with | true=>(s,e) :: filt ks Δ | false=>filt ks Δ) ++ Γ) t=(match Nat.beq s t with | true=>some e | false=>look (Δ ++ Γ) t)
  split
  ·show (match Nat.beq s t with | true=>some e | false=>look (filt ks Δ ++ Γ) t)=_
   rw [ih]
  ·rename_i hc;split
   ·rename_i hb;have:=Nat.eq_of_beq_eq_true hb;subst this;simp at hc;exact absurd ht hc
   ·exact ih
class Ot (op:Op) (n:Nat):Prop where h:n∈opTmps op
class Ml (n:Nat) (xs:List Operand):Prop where h:Operand.tmp n∈xs
instance {n:Nat} {xs:List Operand}:Ml n (.tmp n :: xs):=⟨by simp⟩
instance (priority:=low) {n:Nat} {x:Operand} {xs:List Operand} [h:Ml n xs]:Ml n (x :: xs):=⟨by simp [h.h]⟩
instance {n:Nat}:Ot (.move (.tmp n)) n:=⟨by simp [opTmps,Op.operands]⟩
instance {n:Nat} {o:BinOp} {T T':TypeId} {y:Operand}:Ot (.binOp o T (.tmp n) y T') n:=⟨by simp [opTmps,Op.operands]⟩
instance {n:Nat} {o:BinOp} {T T':TypeId} {x:Operand}:Ot (.binOp o T x (.tmp n) T') n:=⟨by simp [opTmps,Op.operands]⟩
instance {n k:Nat}:Ot (.extract (.tmp n) k) n:=⟨by simp [opTmps,Op.operands]⟩
instance {n T:Nat}:Ot (.load T (.tmp n)) n:=⟨by simp [opTmps,Op.operands]⟩
instance {n:Nat}:Ot (.nilCheck (.tmp n)) n:=⟨by simp [opTmps,Op.operands]⟩
instance {n S k:Nat}:Ot (.fieldAddr S (.tmp n) k) n:=⟨by simp [opTmps,Op.operands]⟩
instance {n T:Nat} {y:Operand}:Ot (.indexAddr T (.tmp n) y) n:=⟨by simp [opTmps,Op.operands]⟩
instance {n T:Nat} {x:Operand}:Ot (.indexAddr T x (.tmp n)) n:=⟨by simp [opTmps,Op.operands]⟩
instance {n:Nat} {x y:Operand}:Ot (.pick (.tmp n) x y) n:=⟨by simp [opTmps,Op.operands]⟩
instance {n:Nat} {x y:Operand}:Ot (.pick x (.tmp n) y) n:=⟨by simp [opTmps,Op.operands]⟩
instance {n:Nat} {x y:Operand}:Ot (.pick x y (.tmp n)) n:=⟨by simp [opTmps,Op.operands]⟩
instance {n:Nat} {f:FuncId} {xs:List Operand} {A:Array TypeId} [h:Ml n xs]:Ot (.call { callee:=.value (.func f),args:=xs.toArray,argTypes:=A }) n:=⟨by simp only [opTmps,Op.operands,Call.operands,List.mem_filterMap];exact ⟨.tmp n,by simp [h.h],rfl⟩⟩
instance {n:Nat} {f:Builtin} {xs:List Operand} {A:Array TypeId} [h:Ml n xs]:Ot (.call { callee:=.builtin f,args:=xs.toArray,argTypes:=A }) n:=⟨by simp only [opTmps,Op.operands,Call.operands,List.mem_filterMap];exact ⟨.tmp n,by simp [h.h],rfl⟩⟩
instance {op:Op} {Δ:Cx} {n:Nat} {e:Ent} [hl:Lk (lk2 Δ Γ n) e] [ho:Ot op n]:Lk (lk (filt (opTmps op) Δ ++ Γ) n) e:=⟨by
 rw [lk_eq];have h1:=hl.h;rw [lk2_eq,lk_eq] at h1;exact (look_filt_app ho.h).trans h1⟩
class Nk (Δ:Cx) (K:Nat):Prop where h:look Δ K=none
instance {K:Nat}:Nk [] K:=⟨rfl⟩
instance {Δ:Cx} {K k:Nat} {e:Ent} [hn:Bf (nq_ k K)] [h:Nk Δ K]:Nk ((k,e) :: Δ) K:=⟨by
 have:=nq_h hn;show (match Nat.beq k K with | true=>some e | false=>look Δ K)=none
 rw [this];exact h.h⟩
theorem look_app_none {Δ Γ:Cx} {K:Nat} (h:look Δ K=none):look (Δ ++ Γ) K=look Γ K:=by
 induction Δ with
 | nil=>rfl
 | cons p Δ ih=>
  obtain ⟨k,e⟩:=p;have h':(match Nat.beq k K with | true=>some e | false=>look Δ K)=none:=h
  show (match Nat.beq k K with | true=>some e | false=>look (Δ ++ Γ) K)=look Γ K
  split at h'
  ·cases h'
  ·exact ih h'
theorem look_filt_none {Δ:Cx} {ks:List Nat} {K:Nat} (h:look Δ K=none):look (filt ks Δ) K=none:=by
 cases hl:look (filt ks Δ) K with
 | none=>rfl
 | some e=>exact absurd (look_filt hl).2 (by rw [h];simp)
instance {Δ:Cx} {ks:List Nat} {b K:Nat} {e:Ent} [h:AG Γ b K e] [hn:Nk Δ K]:AG (filt ks Δ ++ Γ) b K e:=⟨(look_app_none (look_filt_none hn.h)).trans h.h⟩
instance {Δ:Cx} {ks:List Nat} {c:Value} {K ei:Nat} {α:Type} {hα:Rep α} {xs:List α} [h:AR Γ c K ei α hα xs] [hn:Nk Δ K]:AR (filt ks Δ ++ Γ) c K ei α hα xs:=⟨(look_app_none (look_filt_none hn.h)).trans h.h⟩
class Fs (P:Program) (L:List Oper) (k:Nat) (l:List Oper) (i:Nat) (Γ Δ:Cx) (Δ':outParam Cx) (l':outParam (List Oper)):Prop where
 h:∀ {ops:Array Oper},ops.toList=L->L.drop i=l->Fl P ops Γ i Δ->Fl P ops Γ (i + k) Δ'/\L.drop (i + k)=l'
variable {L:List Oper} {k i:Nat} {Δ Δ':Cx} {l':List Oper}
instance {l:List Oper}:Fs P L 0 l i Γ Δ Δ l:=⟨fun _ h2 h=>⟨h,h2⟩⟩
theorem fs_at {ops:Array Oper} {L l:List Oper} {o:Oper} {i:Nat} (h:ops.toList=L) (hd:L.drop i=o :: l):ops[i]?=some o/\L.drop (i + 1)=l:=by
 subst h;constructor
 ·rw [← Array.getElem?_toList,← List.head?_drop,hd];rfl
 ·rw [← List.drop_drop,hd];rfl
instance {l:List Oper} {op:Op} {d:Tmp} {ty:TypeId} {pos:String} {aft:Array Edge} {e:Ent} [ho:AO True P op (filt (opTmps op) Δ ++ Γ) e] [hr:Fs P L k l (i + 1) Γ ((d,e) :: Δ) Δ' l'] :
  Fs P L (k + 1) (⟨some d,op,ty,pos,aft,none⟩ :: l) i Γ Δ Δ' l':=⟨fun h1 h2 h=>by
 have h3:=fs_at h1 h2;have:=hr.h h1 h3.2 (.cons h h3.1 (ho.h trivial ty))
 rwa [Nat.add_right_comm] at this⟩
instance {l:List Oper} {op:Op} {d j dj:Tmp} {b want:Bool} {ty:TypeId} {pos:String} {aft:Array Edge} {e:Ent} [hj:Gt (gt_ L j) dj] [hl:Lk (lk Δ dj) (Va b)] [ho:AO (b=want) P op (filt (opTmps op) Δ ++ Γ) e] [hr:Fs P L k l (i + 1) Γ ((d,Gd b want e) :: Δ) Δ' l'] :
  Fs P L (k + 1) (⟨some d,op,ty,pos,aft,some (j,want)⟩ :: l) i Γ Δ Δ' l':=⟨fun h1 h2 h=>by
 have h3:=fs_at h1 h2;have:=hr.h h1 h3.2 (.cong h h3.1 (gt_o h1 hj.h) ((lk_eq _ _).symm.trans hl.h) fun hb=>ho.h hb ty)
 rwa [Nat.add_right_comm] at this⟩
theorem fW {n id:Nat} {M0:Fm} {w0:World} [hmx:Mx P] {rr:Option Nat} {ops:Array Oper} {Q:Exit->Act->World->Prop} {a:Act} {w:World} (m:Nat) (hs:St M0 w0 n Γ a w) [hfl:Fs P ops.toList m ops.toList 0 Γ [] Δ l'] (hf:flowOK ops m=true)
  (hdj:Δ.all (fun x=>(look Γ x.1).isNone)=true) (hn:Δ.all (fun x=>Nat.blt x.1 n)=true)
  (K:∀ a' w',St M0 w0 n (Δ ++ Γ) a' w'->wpListIn (Fr rr) 0 P ops Q l' a' w'):(Code.region id ops true).wpIn (Fr rr) 0 P Q a w:=by
 have:=hfl.h rfl rfl .nil;rw [Nat.zero_add] at this;exact flow (m:=m) hs this.1 hf hdj hn fun a' w' s=>by rw [this.2];exact K a' w' s
class Zc (P:Program) (T:TypeId) (cs:outParam (List Value)):Prop where h:∀ ty Γ,OR P (.alloc T) ty Γ (MR cs)
theorem aR {n:Nat} {M0:Fm} {w0:World} {rr:Option Nat} {Q:Exit->Act->World->Prop} {a:Act} {w:World} {ops:Array Oper} {rest:List Oper} {d T:Nat} {ty:TypeId} {pos:String} {aft:Array Edge} {cs:List Value} (K:Nat)
  (hs:St M0 w0 n Γ a w) [hz:Zc P T cs] [hn:Bf (blt_ d n)] [hdk:Bf (nq_ d K)]
  (k:∀ b a' w',St M0 w0 n ((d,Qv (pb b 0)) :: (K,Mr b cs) :: (d,MR cs) :: Γ) a' w'->wpListIn (Fr rr) 0 P ops Q rest a' w'):wpListIn (Fr rr) 0 P ops Q (⟨some d,.alloc T,ty,pos,aft,none⟩ :: rest) a w:=
 sqr K hs (hz.h ty Γ) hn.lt (nq_h hdk) k
theorem sW {n:Nat} {M0:Fm} {w0:World} {rr:Option Nat} {Q:Exit->Act->World->Prop} {a:Act} {w:World} {ops:Array Oper} {rest:List Oper} {T K b:Nat} {x y:Operand} {ty:TypeId} {pos:String} {aft:Array Edge} {α:Type} {_:Rep α} [Ty P T α] {v:α} {cs:List Value}
  (hs:St M0 w0 n Γ a w) [hx:AD True Γ x (Qv (pb b 0))] [hk:AG Γ b K (Mr b cs)] [hy:AD True Γ y (Va v)] (hl:cs.length=Rep.sz α)
  (k:∀ w',St M0 w0 n ((K,Mg b v) :: Γ) a w'->wpListIn (Fr rr) 0 P ops Q rest a w'):wpListIn (Fr rr) 0 P ops Q (⟨none,.store T x y,ty,pos,aft,none⟩ :: rest) a w:=
 swd hs (hx.h trivial) hk.h (hy.h trivial) hl k
end
end Go.Pn
namespace Go.Pn
open Go Go.RowKit
@[reducible] def ap_:Cx->Cx->Cx
 | [],Γ=>Γ
 | p :: l,Γ=>p :: ap_ l Γ
class Pj (Γ:Cx) (ks:List Nat) (Γ':outParam Cx):Prop where h:∀ t e,look Γ' t=some e->look Γ t=some e
instance {Γ:Cx}:Pj Γ [] []:=⟨fun _ _ h=>by cases h⟩
instance {Γ Γ':Cx} {k:Nat} {ks:List Nat} {e:Ent} [h:Lk (lk Γ k) e] [h':Pj Γ ks Γ']:Pj Γ (k :: ks) ((k,e) :: Γ'):=⟨fun t e1 he=>by
 rw [look_cons] at he;unfold put at he;split at he
 ·rename_i ht;subst ht;cases he;exact (lk_eq _ _).symm.trans h.h
 ·exact h'.h t e1 he⟩
section
variable {rr:Option Nat} {P:Program} {M0:Fm} {w0:World} {nn:Nat} {Γ Γ0:Cx} {Q:Exit->Act->World->Prop} {a:Act} {w:World}
theorem lA {c:Code} {id:Nat} {S τ:Type} {m:Nat->S->Option S} {f:Nat} {s0:S} {k:S->Option τ} {r:τ} (hm:(m f s0).bind k=some r) (ks:List Nat) (s:St M0 w0 nn Γ a w) [Pj Γ ks Γ0] (C:S->Cx) (h0:St M0 w0 nn (ap_ (C s0) Γ0) a w) (hz:∀ s,m 0 s=none)
  (hb:∀ o,k o=some r->∀ n z a w,m (n + 1) z=some o->St M0 w0 nn (ap_ (C z) Γ0) a w->c.wpIn (Fr rr) 0 P (Exit.then (fun a' w'=>∃ s',m n s'=some o/\St M0 w0 nn (ap_ (C s') Γ0) a' w') (Exit.inBlock id (Exit.then (fun a w=>St M0 w0 nn (ap_ (C o) Γ0) a w) Q))) a w)
  (hc:∀ o,k o=some r->∀ a w,St M0 w0 nn (ap_ (C o) Γ0) a w->Q .normal a w):(Code.block id (Code.loop c)).wpIn (Fr rr) 0 P Q a w:=
 la hm (fun z a w=>St M0 w0 nn (ap_ (C z) Γ0) a w) h0 hz hb hc
theorem lA1 {c:Code} {id:Nat} {S τ:Type} {m:Nat->S->Option S} {f:Nat} {s0:S} {k:S->Option τ} {r:τ} (hm:(m f s0).bind k=some r) (ks:List Nat) (s:St M0 w0 nn Γ a w) [Pj Γ ks Γ0] (C:S->Value->Cx) (h0:∃ v,St M0 w0 nn (ap_ (C s0 v) Γ0) a w) (hz:∀ s,m 0 s=none)
  (hb:∀ o,k o=some r->∀ n z a w,m (n + 1) z=some o->(∃ v,St M0 w0 nn (ap_ (C z v) Γ0) a w)->c.wpIn (Fr rr) 0 P (Exit.then (fun a' w'=>∃ s',m n s'=some o/\∃ v,St M0 w0 nn (ap_ (C s' v) Γ0) a' w') (Exit.inBlock id (Exit.then (fun a w=>∃ v,St M0 w0 nn (ap_ (C o v) Γ0) a w) Q))) a w)
  (hc:∀ o,k o=some r->∀ a w,(∃ v,St M0 w0 nn (ap_ (C o v) Γ0) a w)->Q .normal a w):(Code.block id (Code.loop c)).wpIn (Fr rr) 0 P Q a w:=
 la hm (fun z a w=>∃ v,St M0 w0 nn (ap_ (C z v) Γ0) a w) h0 hz hb hc
theorem lB {c:Code} {id:Nat} {S ρ τ:Type} {m:Nat->S->Option (Lo S ρ)} {f:Nat} {s0:S} {k:Lo S ρ->Option τ} {r:τ} (hm:(m f s0).bind k=some r) (ks:List Nat) (s:St M0 w0 nn Γ a w) [Pj Γ ks Γ0] (C:S->Cx) (h0:St M0 w0 nn (ap_ (C s0) Γ0) a w) (hz:∀ s,m 0 s=none)
  (hb:∀ o,k o=some r->∀ n z a w,m (n + 1) z=some o->St M0 w0 nn (ap_ (C z) Γ0) a w->c.wpIn (Fr rr) 0 P (Exit.then (fun a' w'=>∃ s',m n s'=some o/\St M0 w0 nn (ap_ (C s') Γ0) a' w') (Exit.inBlock id (Exit.then (fun a w=>∃ z,o=.brk z/\St M0 w0 nn (ap_ (C z) Γ0) a w) Q))) a w)
  (hc:∀ z,k (.brk z)=some r->∀ a w,St M0 w0 nn (ap_ (C z) Γ0) a w->Q .normal a w):(Code.block id (Code.loop c)).wpIn (Fr rr) 0 P Q a w:=
 lb hm (fun z a w=>St M0 w0 nn (ap_ (C z) Γ0) a w) h0 hz hb hc
theorem lB1 {c:Code} {id:Nat} {S ρ τ:Type} {m:Nat->S->Option (Lo S ρ)} {f:Nat} {s0:S} {k:Lo S ρ->Option τ} {r:τ} (hm:(m f s0).bind k=some r) (ks:List Nat) (s:St M0 w0 nn Γ a w) [Pj Γ ks Γ0] (C:S->Value->Cx) (h0:∃ v,St M0 w0 nn (ap_ (C s0 v) Γ0) a w) (hz:∀ s,m 0 s=none)
  (hb:∀ o,k o=some r->∀ n z a w,m (n + 1) z=some o->(∃ v,St M0 w0 nn (ap_ (C z v) Γ0) a w)->c.wpIn (Fr rr) 0 P (Exit.then (fun a' w'=>∃ s',m n s'=some o/\∃ v,St M0 w0 nn (ap_ (C s' v) Γ0) a' w') (Exit.inBlock id (Exit.then (fun a w=>∃ z,o=.brk z/\∃ v,St M0 w0 nn (ap_ (C z v) Γ0) a w) Q))) a w)
  (hc:∀ z,k (.brk z)=some r->∀ a w,(∃ v,St M0 w0 nn (ap_ (C z v) Γ0) a w)->Q .normal a w):(Code.block id (Code.loop c)).wpIn (Fr rr) 0 P Q a w:=
 lb hm (fun z a w=>∃ v,St M0 w0 nn (ap_ (C z v) Γ0) a w) h0 hz hb hc
theorem lB2 {c:Code} {id:Nat} {S ρ τ:Type} {m:Nat->S->Option (Lo S ρ)} {f:Nat} {s0:S} {k:Lo S ρ->Option τ} {r:τ} (hm:(m f s0).bind k=some r) (ks:List Nat) (s:St M0 w0 nn Γ a w) [Pj Γ ks Γ0] (C:S->Value->Value->Cx) (h0:∃ v u,St M0 w0 nn (ap_ (C s0 v u) Γ0) a w) (hz:∀ s,m 0 s=none)
  (hb:∀ o,k o=some r->∀ n z a w,m (n + 1) z=some o->(∃ v u,St M0 w0 nn (ap_ (C z v u) Γ0) a w)->c.wpIn (Fr rr) 0 P (Exit.then (fun a' w'=>∃ s',m n s'=some o/\∃ v u,St M0 w0 nn (ap_ (C s' v u) Γ0) a' w') (Exit.inBlock id (Exit.then (fun a w=>∃ z,o=.brk z/\∃ v u,St M0 w0 nn (ap_ (C z v u) Γ0) a w) Q))) a w)
  (hc:∀ z,k (.brk z)=some r->∀ a w,(∃ v u,St M0 w0 nn (ap_ (C z v u) Γ0) a w)->Q .normal a w):(Code.block id (Code.loop c)).wpIn (Fr rr) 0 P Q a w:=
 lb hm (fun z a w=>∃ v u,St M0 w0 nn (ap_ (C z v u) Γ0) a w) h0 hz hb hc
theorem cP {c:Code} (ks:List Nat) (s:St M0 w0 nn Γ a w) [Pj Γ ks Γ0] (C:Cx) (h:c.wpIn (Fr rr) 0 P (Exit.then (fun a w=>St M0 w0 nn (ap_ C Γ0) a w) Q) a w) (h':∀ a w,St M0 w0 nn (ap_ C Γ0) a w->Q .normal a w):c.wpIn (Fr rr) 0 P Q a w:=cpI _ h h'
theorem cP1 {c:Code} (ks:List Nat) (s:St M0 w0 nn Γ a w) [Pj Γ ks Γ0] (C:Value->Cx) (h:c.wpIn (Fr rr) 0 P (Exit.then (fun a w=>∃ v,St M0 w0 nn (ap_ (C v) Γ0) a w) Q) a w) (h':∀ a w,(∃ v,St M0 w0 nn (ap_ (C v) Γ0) a w)->Q .normal a w):c.wpIn (Fr rr) 0 P Q a w:=cpI _ h h'
end
end Go.Pn
namespace Go.Pn
open Go Go.RowKit
section
variable {Γ:Cx} {x:Operand} {α:Type} [Rep α]
theorem pv {y:α} (h:Od Γ x (Pt y)):Od Γ x (Va (some y)):=fun ρ M w r=>by
 obtain ⟨F,hF,b,o,hv,hp⟩:=h ρ M w r;exact ⟨F,hF,[.pointer (some ⟨b,o,none⟩)],hv,b,o,rfl,hp⟩
theorem vp {y:α} {o:Option α} (h:Od Γ x (Va o)) (e:o=some y):Od Γ x (Pt y):=fun ρ M w r=>by
 subst e;obtain ⟨F,hF,cs,hv,b,o,rfl,hp⟩:=h ρ M w r;exact ⟨F,hF,b,o,hv,hp⟩
theorem pnl (h:Od Γ x (Qv (.pointer none))):Od Γ x (Va (none:Option α)):=fun ρ M w r=>by
 obtain ⟨F,hF,hv⟩:=h ρ M w r;exact ⟨F,hF,[.pointer none],hv,rfl⟩
theorem ocfo {k:Nat} {c:Value} {o:Option α} (h:look Γ k=some (At c (Va o))):Oc Γ c:=fun ρ M w r=>by
 obtain ⟨F,_,cs,hv,hr⟩:=r.tmp _ _ h;cases o with
 | none=>have hr:cs=_:=hr;subst hr;rw [hv];rfl
 | some y=>obtain ⟨b,o,rfl,_⟩:=hr;rw [hv];rfl
end
end Go.Pn
set_option maxRecDepth 100000
namespace Go.Pn
open Go Go.RowKit Go.Proofs
instance:Fo Tryz.prog 26 2 2:=⟨0,by kernel_rfl⟩
instance:Fo Tryz.prog 26 4 4:=⟨0,by kernel_rfl⟩
instance:Fo Tryz.prog 31 0 0:=⟨0,by kernel_rfl⟩
instance:Fo Tryz.prog 31 1 1:=⟨0,by kernel_rfl⟩
instance:Fo Tryz.prog 67 0 0:=⟨0,by kernel_rfl⟩
instance:Fo Tryz.prog 67 1 1:=⟨0,by kernel_rfl⟩
instance:Fo Tryz.prog 77 0 0:=⟨0,by kernel_rfl⟩
instance:Fo Tryz.prog 77 1 1:=⟨0,by kernel_rfl⟩
instance:Fo Tryz.prog 77 2 2:=⟨0,by kernel_rfl⟩
instance:Fo Tryz.prog 77 3 3:=⟨0,by kernel_rfl⟩
instance:Fo Tryz.prog 77 4 4:=⟨0,by kernel_rfl⟩
instance:Fo Tryz.prog 91 0 0:=⟨0,by kernel_rfl⟩
instance:Fo Tryz.prog 91 1 1:=⟨0,by kernel_rfl⟩
instance:Fo Tryz.prog 102 2 2:=⟨0,by kernel_rfl⟩
instance:Fo Tryz.prog 130 0 0:=⟨0,by kernel_rfl⟩
instance:Fo Tryz.prog 130 1 1:=⟨0,by kernel_rfl⟩
instance:Fo Tryz.prog 130 2 2:=⟨2,by kernel_rfl⟩
instance:Fo Tryz.prog 130 3 5:=⟨2,by kernel_rfl⟩
instance:Fo Tryz.prog 130 4 8:=⟨0,by kernel_rfl⟩
instance:Fo Tryz.prog 130 5 9:=⟨0,by kernel_rfl⟩
instance:Fo Tryz.prog 234 0 0:=⟨0,by kernel_rfl⟩
instance:Fo Tryz.prog 234 1 1:=⟨0,by kernel_rfl⟩
instance:Fo Tryz.prog 243 0 0:=⟨4,by kernel_rfl⟩
instance:Fo Tryz.prog 251 0 0:=⟨4,by kernel_rfl⟩
instance:Fo Tryz.prog 251 1 5:=⟨0,by kernel_rfl⟩
instance:Fo Tryz.prog 251 2 6:=⟨2,by kernel_rfl⟩
instance:Fo Tryz.prog 312 0 0:=⟨4,by kernel_rfl⟩
instance:Fo Tryz.prog 312 1 5:=⟨4,by kernel_rfl⟩
instance:Fo Tryz.prog 312 2 10:=⟨0,by kernel_rfl⟩
instance:Fo Tryz.prog 331 0 0:=⟨0,by kernel_rfl⟩
instance:Fo Tryz.prog 331 1 1:=⟨0,by kernel_rfl⟩
instance:Fo Tryz.prog 331 2 2:=⟨0,by kernel_rfl⟩
instance:Zc Tryz.prog 24 [(.slice none 0 0)]:=⟨fun _ _=>alr (z:=(.slice none 0 0)) kr_ rfl rfl⟩
instance:Zc Tryz.prog 26 [(.int .i64 (0:Int)),(.slice none 0 0),(.slice none 0 0),(.slice none 0 0),(.slice none 0 0)]:=⟨fun _ _=>alr (z:=.agg #[(.int .i64 (0:Int)),(.slice none 0 0),(.slice none 0 0),(.slice none 0 0),(.slice none 0 0)]) kr_ rfl rfl⟩
instance:Zc Tryz.prog 31 [(.slice none 0 0),(.slice none 0 0)]:=⟨fun _ _=>alr (z:=.agg #[(.slice none 0 0),(.slice none 0 0)]) kr_ rfl rfl⟩
instance:Zc Tryz.prog 54 [(.int .i64 (0:Int)),(.int .i64 (0:Int)),(.slice none 0 0)]:=⟨fun _ _=>alr (z:=.agg #[(.int .i64 (0:Int)),(.int .i64 (0:Int)),(.slice none 0 0)]) kr_ rfl rfl⟩
instance:Zc Tryz.prog 67 [(.slice none 0 0),(.slice none 0 0)]:=⟨fun _ _=>alr (z:=.agg #[(.slice none 0 0),(.slice none 0 0)]) kr_ rfl rfl⟩
instance:Zc Tryz.prog 77 [(.slice none 0 0),(.slice none 0 0),(.slice none 0 0),(.slice none 0 0),(.slice none 0 0)]:=⟨fun _ _=>alr (z:=.agg #[(.slice none 0 0),(.slice none 0 0),(.slice none 0 0),(.slice none 0 0),(.slice none 0 0)]) kr_ rfl rfl⟩
instance:Zc Tryz.prog 91 [(.slice none 0 0),(.slice none 0 0)]:=⟨fun _ _=>alr (z:=.agg #[(.slice none 0 0),(.slice none 0 0)]) kr_ rfl rfl⟩
instance:Zc Tryz.prog 130 [(.string ByteArray.empty),(.int .i64 (0:Int)),(.int .i64 (0:Int)),(.int .i64 (0:Int)),(.slice none 0 0),(.int .i64 (0:Int)),(.int .i64 (0:Int)),(.slice none 0 0),(.int .i64 (0:Int)),(.bool false)]:=⟨fun _ _=>alr (z:=.agg #[(.string ByteArray.empty),(.int .i64 (0:Int)),(.int .i64 (0:Int)),(.int .i64 (0:Int)),(.slice none 0 0),(.int .i64 (0:Int)),(.int .i64 (0:Int)),(.slice none 0 0),(.int .i64 (0:Int)),(.bool false)]) kr_ rfl rfl⟩
instance:Zc Tryz.prog 143 [(.map none)]:=⟨fun _ _=>alr (z:=(.map none)) kr_ rfl rfl⟩
instance:Zc Tryz.prog 244 [.nilFunc,.nilFunc,.nilFunc]:=⟨fun _ _=>alr (z:=.agg #[.nilFunc,.nilFunc,.nilFunc]) kr_ rfl rfl⟩
instance:Zc Tryz.prog 282 [(.int .i64 (0:Int)),(.int .i64 (0:Int))]:=⟨fun _ _=>alr (z:=.agg #[(.int .i64 (0:Int)),(.int .i64 (0:Int))]) kr_ rfl rfl⟩
instance:Zc Tryz.prog 328 [.nilFunc,.nilFunc,.nilFunc]:=⟨fun _ _=>alr (z:=.agg #[.nilFunc,.nilFunc,.nilFunc]) kr_ rfl rfl⟩
instance:Smz Int:=⟨rfl⟩
instance:Smz Bool:=⟨rfl⟩
instance:Smz ByteArray:=⟨rfl⟩
instance:Smz Expr:=⟨rfl⟩
instance:Smz State:=⟨rfl⟩
instance:Smz Signal:=⟨rfl⟩
instance:Smz Event:=⟨rfl⟩
instance {α:Type} [Rep α]:Smz (List α):=⟨rfl⟩
end Go.Pn
namespace Go.Pn
open Go Go.RowKit
variable {rr:Option Nat}
section
variable {P:Program} {ops:Array Oper} {Γ:Cx}
def threeOK (ops:Array Oper) (m k:Nat):Bool:=
 decide (m<=k) && decide (k<=ops.size) &&
 (List.range ops.size).all (fun i=>match ops[i]? with
  | none=>false
  | some o=>
   o.after.all (fun e=>!Region.binds .any e || decide (e.on < i)) &&
   (if i < m then
    o.dst.isSome && (match o.guard with | some (j,_)=>decide (j < i) | none=>true) &&
    (List.range m).all (fun j=>match (ops[j]?).bind (·.dst) with
     | some d=>(!(namesOf ops o).contains d || (decide (j < i) && dep o j)) && (i == j || o.dst != some d)
     | none=>false)
   else (List.range (min i k)).all (fun j=>reach ops ops.size i j)) &&
   (if i < k then true else (List.range ops.size).all (fun j=>decide (j < k) || match (ops[j]?).bind (·.dst) with
     | some d=>(!(opTmps o.op).contains d || dep o j) && (i == j || o.dst != some d)
     | none=>false)))
structure Dia (ops:Array Oper) (m k:Nat):Prop where
 mk_:m<=k
 ks:k<=ops.size
 w:FlowW ops m
 lt:∀ {i:Nat} {o:Oper},ops[i]?=some o->∀ e∈o.after,Region.binds .any e=true->e.on < i
 ord:∀ {i:Nat},m<=i->i < ops.size->∀ j,j < i->j < k->reach ops ops.size i j=true
 fl:∀ {i:Nat} {o:Oper},ops[i]?=some o->k<=i->∀ j,k<=j->j < ops.size->∃ d,(ops[j]?).bind (·.dst)=some d/\(d∈opTmps o.op->dep o j=true)/\(i≠j->o.dst≠some d)
theorem dia_of {m k:Nat} (h:threeOK ops m k=true):Dia ops m k:=by
 unfold threeOK at h;simp only [Bool.and_eq_true,List.all_eq_true,List.mem_range,decide_eq_true_eq] at h;obtain ⟨⟨h1,h2⟩,h3⟩:=h;have one:∀ {i:Nat} {o:Oper},ops[i]?=some o->(∀ e∈o.after,Region.binds .any e=true->e.on < i) /\
   (i < m->o.dst.isSome=true/\(∀ j want,o.guard=some (j,want)->j < i)/\∀ j,j < m->∃ d,(ops[j]?).bind (·.dst)=some d/\(d∈namesOf ops o->j < i/\dep o j=true)/\(i≠j->o.dst≠some d)) /\
   (m<=i->∀ j,j < i->j < k->reach ops ops.size i j=true) /\
   (k<=i->∀ j,k<=j->j < ops.size->∃ d,(ops[j]?).bind (·.dst)=some d/\(d∈opTmps o.op->dep o j=true)/\(i≠j->o.dst≠some d)):=by
  intro i o ho;have hi:i < ops.size:=(Array.getElem?_eq_some_iff.1 ho).1;have h4:=h3 i hi;simp only [ho,Bool.and_eq_true] at h4;obtain ⟨⟨a1,a3⟩,a4⟩:=h4;refine ⟨fun e he hb=>?_,fun hm=>?_,fun hm j hj hk=>?_,fun hk j hj hjs=>?_⟩
  ·have:=(Array.all_eq_true_iff_forall_mem.1 a1) e he;simp [hb] at this;exact this
  ·rw [if_pos hm] at a3;simp only [Bool.and_eq_true,List.all_eq_true,List.mem_range] at a3;refine ⟨a3.1.1,fun j want hg=>?_,fun j hj=>?_⟩
   ·have:=a3.1.2;simp [hg] at this;exact this
   ·have h3:=a3.2 j hj;split at h3
    ·rename_i d hd;simp only [Bool.and_eq_true,Bool.or_eq_true,Bool.not_eq_true',decide_eq_true_eq,bne_iff_ne,beq_iff_eq] at h3;refine ⟨d,hd,fun hn=>?_,fun hne hd'=>?_⟩
     ·rcases h3.1 with h | h
      ·simp at h;exact absurd hn h
      ·exact h
     ·rcases h3.2 with h | h
      ·exact hne h
      ·exact h hd'
    ·cases h3
  ·rw [if_neg om_] at a3;simp only [List.all_eq_true,List.mem_range] at a3;exact a3 j om_
  ·rw [if_neg om_] at a4;simp only [List.all_eq_true,List.mem_range] at a4;have h3:=a4 j hjs;simp only [Bool.or_eq_true,decide_eq_true_eq] at h3;rcases h3 with h3 | h3
   ·omega
   ·split at h3
    ·rename_i d hd;simp only [Bool.and_eq_true,Bool.or_eq_true,Bool.not_eq_true',bne_iff_ne,beq_iff_eq] at h3;refine ⟨d,hd,fun hn=>?_,fun hne hd'=>?_⟩
     ·rcases h3.1 with h | h
      ·simp at h;exact absurd hn h
      ·exact h
     ·rcases h3.2 with h | h
      ·exact hne h
      ·exact h hd'
    ·cases h3
 exact ⟨h1,h2,⟨by omega,fun ho=>let ⟨a,b,c,_⟩:=one ho;⟨a,b,fun hm j hj=>c hm j om_ om_⟩⟩,fun ho=>(one ho).1,fun {i} hm hi j hj hk=>(one (Array.getElem?_eq_getElem hi)).2.2.1 hm j hj hk,fun ho hk j h1 h2=>(one ho).2.2.2 hk j h1 h2⟩
def Upto (ops:Array Oper) (k:Nat) (listed:Array Bool):Prop:=listed.size=ops.size/\(∀ i,i < k->listed.getD i false=true)/\(∀ i,k<=i->i < ops.size->listed.getD i true=false)
theorem Upto.cl {m x k:Nat} {listed:Array Bool} (hd:Dia ops m x) (h:Upto ops k listed):∀ i o,ops[i]?=some o->listed.getD i false=true->∀ e∈o.after,Region.binds .any e=true->listed.getD e.on false=true:=by
 intro i o ho hl e he hb;have hi:i < ops.size:=(Array.getElem?_eq_some_iff.1 ho).1;have hik:i < k:=by
  rcases Nat.lt_or_ge i k with h6 | h6
  ·exact h6
  ·have:=h.2.2 i h6 hi;simp [Array.getD_eq_getD_getElem?,h.1,hi] at this hl;rw [this] at hl;cases hl
 exact h.2.1 _ (Nat.lt_trans (hd.lt ho e he hb) hik)
theorem Upto.no {k i:Nat} {listed:Array Bool} (h:Upto ops k listed) (hk:k<=i) (hi:i < ops.size):listed.getD i false=false:=by
 have:=h.2.2 i hk hi;simp [Array.getD_eq_getD_getElem?,h.1,hi] at this ⊢;exact this
theorem Upto.nr {k i:Nat} {listed:Array Bool} (h:Upto ops k listed) (hi:i < ops.size) (h2:listed.getD i true=false):k<=i:=by
 refine Nat.le_of_not_lt fun hk=>?_;have:=h.2.1 i hk;simp [Array.getD_eq_getD_getElem?,h.1,hi] at this h2;rw [this] at h2;cases h2
theorem Upto.next {k:Nat} {listed:Array Bool} (h:Upto ops k listed) (hk:k < ops.size):Upto ops (k + 1) (listed.setIfInBounds k true):=by
 refine ⟨by simp [h.1],fun j hj=>?_,fun j hj hj'=>?_⟩
 ·by_cases hji:j=k
  ·subst hji;simp [Array.getD_eq_getD_getElem?,h.1,hk]
  ·have:=h.2.1 j om_;simpa [Array.getD_eq_getD_getElem?,Array.getElem?_setIfInBounds_ne (Ne.symm hji)] using this
 ·have:=h.2.2 j om_ hj';simpa [Array.getD_eq_getD_getElem?,Array.getElem?_setIfInBounds_ne (show k≠j by omega)] using this
theorem wpIn_then {F:Fence} {n:Nat} {o:Oper} {a:Act} {w:World} {K D:Act->World->Prop} {Q:Exit->Act->World->Prop} (h:o.wpIn F n P a w K (Exit.then D Q)):o.wpIn F n P a w K Q:=by
 unfold Oper.wpIn at *;refine ⟨h.1,?_⟩;have h:=h.2;generalize (o.semAt F.round a.eval).run P w=r at *;cases r with
 | ok x w'=>cases x <;> exact h
 | halt x w'=>cases x <;> exact h
theorem dia_pre {m x:Nat} (hf:Dia ops m x) {D:Act->World->Prop} {Q:Exit->Act->World->Prop}
  (hD:∀ (fuel:Nat) (listed:Array Bool) (a:Act) (w:World),ops.size - x<=fuel->Upto ops x listed->D a w->wpAnyIn (Fr rr) 0 P .any ops Q fuel listed a w) :
  ∀ (r k fuel:Nat) (listed:Array Bool) (a:Act) (w:World),r=x - k->k<=x->m<=k->ops.size - k<=fuel->Upto ops k listed ->
  wpListIn (Fr rr) 0 P ops (Exit.then D Q) ((ops.toList.drop k).take r) a w->wpAnyIn (Fr rr) 0 P .any ops Q fuel listed a w
 | 0,k,fuel,listed,a,w,hr,hk,hmk,hfu,hU,h=>by
  obtain rfl:k=x:=by omega
  rw [List.take_zero] at h;exact hD fuel listed a w hfu hU h
 | r + 1,k,fuel,listed,a,w,hr,hk,hmk,hfu,hU,h=>by
  have hxs:=hf.ks;have hlt:k < ops.size:=by omega
  have hready:∀ i,i∈Region.ready .any ops listed->i=k:=by
   intro i hi;obtain ⟨h1,h2,o,ho,h3⟩:=mem_ready.1 hi;rcases Nat.lt_trichotomy i k with h' | h' | h'
   ·have:=hU.nr h1 h2;omega
   ·exact h'
   ·exfalso;have h4:=hf.ord (i:=i) om_ h1 k h' om_;have:=listed_reach (hU.cl hf) ops.size i k o ho h3 h4;rw [hU.no (Nat.le_refl _) om_] at this;cases this
  have ho:ops[k]?=some ops[k]:=Array.getElem?_eq_getElem hlt;have hdrop:(ops.toList.drop k).take (r + 1)=ops[k] :: (ops.toList.drop (k + 1)).take r:=by
   rw [List.drop_eq_getElem_cons (by simpa using hlt)];simp
  have hin:k∈Region.ready .any ops listed:=mem_ready.2 ⟨hlt,hU.2.2 k (Nat.le_refl _) hlt,_,ho,fun e he hb=>hU.2.1 _ (hf.lt ho e he hb)⟩;cases fuel with
  | zero=>omega
  | succ fuel=>
   refine ⟨fun hnil=>by rw [hnil] at hin;simp at hin,fun i hi=>?_⟩;obtain rfl:=hready i hi;have ih:=fun a' w'=>dia_pre hf hD r (i + 1) fuel (listed.setIfInBounds i true) a' w' om_ om_ om_ om_ (hU.next hlt);rw [hdrop] at h;unfold wpOpIn;simp only [ho];unfold wpListIn at h;split
   ·rename_i hw;rw [if_pos hw] at h;exact wpIn_then (Oper.wpIn_mono (fun a' w'=>ih a' w') h)
   ·rename_i hw;rw [if_neg hw] at h;exact ⟨fun _ _=>trivial,ih _ _ h.2⟩
inductive F3 (P:Program) (ops:Array Oper) (Γ:Cx) (k:Nat):Nat->Cx->Prop
 | nil:F3 P ops Γ k k []
 | cons {i d:Nat} {Δ:Cx} {op:Op} {ty:TypeId} {pos:String} {aft:Array Edge} {e:Ent} (h:F3 P ops Γ k i Δ)
   (ho:ops[i]?=some ⟨some d,op,ty,pos,aft,none⟩) (hr:OR P op ty (filt (opTmps op) Δ ++ Γ) e):F3 P ops Γ k (i + 1) ((d,e) :: Δ)
theorem F3.ge {k i:Nat} {Δ:Cx} (h:F3 P ops Γ k i Δ):k<=i:=by
 induction h with
 | nil=>exact Nat.le_refl _
 | cons _ _ _ ih=>omega
theorem F3.key {k i:Nat} {Δ:Cx} (h:F3 P ops Γ k i Δ):∀ t e,look Δ t=some e->∃ j,k<=j/\j < i/\dstAt ops j=some t:=by
 induction h with
 | nil=>intro t e h;cases h
 | cons h ho hr ih=>
  rename_i i d Δ op ty pos aft e;intro t e' he;rw [look_cons] at he;unfold put at he;split at he
  ·rename_i ht;subst ht;exact ⟨i,h.ge,by omega,by simp [dstAt,ho]⟩
  ·obtain ⟨j,a,b,c⟩:=ih t e' he;exact ⟨j,a,by omega,c⟩
theorem F3.at_ {k N:Nat} {Δ:Cx} (h:F3 P ops Γ k N Δ) (hu:∀ i j,k<=i->i < N->k<=j->j < N->i≠j->∀ d,dstAt ops i=some d->dstAt ops j≠some d):∀ i,k<=i->i < N->∃ d op ty pos aft e Δi,ops[i]?=some ⟨some d,op,ty,pos,aft,none⟩/\OR P op ty (filt (opTmps op) Δi ++ Γ) e/\look Δ d=some e/\(∀ t e',look Δi t=some e'->look Δ t=some e'):=by
 induction h with
 | nil=>intro i h1 h2;omega
 | cons h ho hr ih=>
  rename_i n d Δ op ty pos aft e;intro i h1 h2;have keep:∀ t e',look Δ t=some e'->look ((d,e) :: Δ) t=some e':=fun t e' he=>by
   obtain ⟨j,b1,b2,b3⟩:=h.key t e' he;have hne:t≠d:=fun hh=>by
    subst hh;exact hu j n b1 om_ h.ge om_ om_ t b3 (by simp [dstAt,ho])
   rw [look_cons];unfold put;rw [if_neg hne];exact he
  by_cases hin:i=n
  ·subst hin;exact ⟨d,op,ty,pos,aft,e,Δ,ho,hr,by rw [look_cons];unfold put;rw [if_pos rfl],keep⟩
  ·obtain ⟨d',op',ty',pos',aft',e',Δi,a1,a2,a3,a4⟩:=ih (fun i j p1 p2 p3 p4 p5 d hd=>hu i j p1 om_ p3 om_ p5 d hd) i h1 om_;exact ⟨d',op',ty',pos',aft',e',Δi,a1,a2,keep _ _ a3,fun t x hx=>keep _ _ (a4 t x hx)⟩
open Classical in
noncomputable def gC (ops:Array Oper) (Γ Δ:Cx) (k:Nat) (listed:Array Bool):Mp:=fun t=>if ∃ j,k<=j/\listed.getD j false=true/\dstAt ops j=some t then look Δ t else look Γ t
theorem any_three {m k n:Nat} {Δ:Cx} {M0:Fm} {w0:World} (hf:Dia ops m k) (h3:F3 P ops Γ k ops.size Δ) (hdj:∀ x∈Δ,look Γ x.1=none) (hn:∀ x∈Δ,x.1 < n) {Q:Exit->Act->World->Prop}
  (K:∀ a' w',St M0 w0 n (Δ ++ Γ) a' w'->Q .normal a' w') :
  ∀ (fuel:Nat) (listed:Array Bool) (a:Act) (w:World),listed.toList.count false<=fuel->listed.size=ops.size->(∀ i,i < k->listed.getD i false=true) ->
   (∀ i o,ops[i]?=some o->listed.getD i false=true->∀ e∈o.after,Region.binds .any e=true->listed.getD e.on false=true)->StF M0 w0 n (gC ops Γ Δ k listed) a w->wpAnyIn (Fr rr) 0 P .any ops Q fuel listed a w:=by
 have hu:∀ i j,k<=i->i < ops.size->k<=j->j < ops.size->i≠j->∀ d,dstAt ops i=some d->dstAt ops j≠some d:=fun i j h1 h2 h4 h5 hne d hd hd'=>by
  obtain ⟨d2,a1,_,a3⟩:=hf.fl (Array.getElem?_eq_getElem h2) h1 j h4 h5;rw [show dstAt ops j=some d2 from a1] at hd';obtain rfl:=Option.some.inj hd';refine a3 hne ?_;simpa [dstAt,Array.getElem?_eq_getElem h2] using hd
 have hAt:=h3.at_ hu;have hin:∀ {t e},look Δ t=some e->look Γ t=none/\t < n:=fun {t e} he=>by
  obtain ⟨x,hx,hxt⟩:∃ x∈Δ,x.1=t:=by
   clear hAt h3 hdj hn K
   induction Δ with
   | nil=>cases he
   | cons p Δ ih=>
    obtain ⟨s,e'⟩:=p;rw [look_cons] at he;unfold put at he;split at he
    ·rename_i ht;exact ⟨(s,e'),by simp,ht.symm⟩
    ·obtain ⟨x,hx,hxt⟩:=ih he;exact ⟨x,List.mem_cons_of_mem _ hx,hxt⟩
  exact ⟨hxt ▸ hdj x hx,hxt ▸ hn x hx⟩
 have fin:∀ (listed:Array Bool) (a:Act) (w:World),(∀ i,i < ops.size->listed.getD i false=true)->StF M0 w0 n (gC ops Γ Δ k listed) a w->Q .normal a w:=fun listed a w hall hs=>by
  refine K a w (hs.less fun t e he=>?_)
  classical
  unfold gC;rcases look_cat he with h | h
  ·obtain ⟨j,b1,b2,b3⟩:=h3.key t e h;rw [if_pos ⟨j,b1,hall j b2,b3⟩];exact h
  ·split
   ·rename_i hj;obtain ⟨j,b1,_,b3⟩:=hj;have hjs:j < ops.size:=by
     unfold dstAt at b3;cases ho:ops[j]? with
     | none=>rw [ho] at b3;cases b3
     | some o=>exact (Array.getElem?_eq_some_iff.1 ho).1
    obtain ⟨d,op,ty,pos,aft,e',Δi,c1,_,c3,_⟩:=hAt j b1 hjs;have:d=t:=by simpa [dstAt,c1] using b3
    subst this;rw [(hin c3).1] at h;cases h
   ·exact h
 intro fuel
 induction fuel with
 | zero=>
  intro listed a w h1 h2 _ _ h4;have hall:∀ i,i < ops.size->listed.getD i false=true:=fun i hi=>by
   cases hb:listed.getD i false
   ·exfalso;have hi':i < listed.size:=by omega
    have h5:listed[i]=false:=by simpa [Array.getD_eq_getD_getElem?,hi'] using hb
    have h6:false∈listed.toList:=by rw [← h5];exact Array.getElem_mem_toList hi'
    have:=List.count_pos_iff.2 h6;omega
   ·rfl
  refine ⟨?_,fin listed a w hall h4⟩;cases hrd:Region.ready .any ops listed with
  | nil=>rfl
  | cons x xs=>
   have hx:x∈Region.ready .any ops listed:=by rw [hrd];exact List.mem_cons_self ..
   obtain ⟨b1,b2,_⟩:=mem_ready.1 hx;have:=hall x b1;simp [Array.getD_eq_getD_getElem?,h2,b1] at this b2;rw [this] at b2;cases b2
 | succ fuel ih=>
  intro listed a w h1 h2 hk hcl h4;refine ⟨fun hnil=>?_,fun i hi=>?_⟩
  ·refine fin listed a w ?_ h4;intro i
   induction i using Nat.strongRecOn with
   | _ i ihi=>
    intro hio;cases hb:listed.getD i false
    ·exfalso;have ho:ops[i]?=some ops[i]:=Array.getElem?_eq_getElem hio;have hin:i∈Region.ready .any ops listed:=mem_ready.2 ⟨hio,by simpa [Array.getD_eq_getD_getElem?,h2,hio] using hb,_,ho,fun e he hb'=>by
      have:=hf.lt ho e he hb';exact ihi _ this om_⟩
     rw [hnil] at hin;simp at hin
    ·rfl
  ·obtain ⟨hio,hil,o,ho,hdeps⟩:=mem_ready.1 hi;have hil':listed.getD i false=false:=by simpa [Array.getD_eq_getD_getElem?,h2,hio] using hil
   have hki:k<=i:=by
    refine Nat.le_of_not_lt fun hlt=>?_;rw [hk i hlt] at hil';cases hil'
   obtain ⟨d,op,ty,pos,aft,e,Δi,c1,c2,c3,c4⟩:=hAt i hki hio;obtain rfl:=Option.some.inj (ho.symm.trans c1);have hdi:dstAt ops i=some d:=by simp [dstAt,ho]
   have his:i < listed.size:=by omega
   have hg:∀ j,(listed.setIfInBounds i true).getD j false=if j=i then true else listed.getD j false:=fun j=>by
    by_cases hji:j=i
    ·subst hji;simp [Array.getD_eq_getD_getElem?,his]
    ·rw [if_neg hji];simp [Array.getD_eq_getD_getElem?,Array.getElem?_setIfInBounds_ne (Ne.symm hji)]
   obtain ⟨M,φ,hst⟩:=h4;have rd:Rd (look (filt (opTmps op) Δi ++ Γ)) M w a.eval:=by
    refine ⟨fun t x hx=>hst.rd.tmp t x ?_,hst.rd.con,hst.rd.fn,hst.rd.bd⟩
    classical
    unfold gC;rcases look_cat hx with h5 | h5
    ·obtain ⟨h6,h7⟩:=look_filt h5;have h8:=c4 t x h7;obtain ⟨j,b1,b2,b3⟩:=h3.key t x h8;obtain ⟨d2,q1,q2,_⟩:=hf.fl ho hki j b1 b2;rw [show dstAt ops j=some d2 from q1] at b3;obtain rfl:=Option.some.inj b3;have hdp:=q2 h6;have hlj:listed.getD j false=true:=by
      unfold dep at hdp;simp only [Array.any_eq_true',Bool.and_eq_true,beq_iff_eq] at hdp;obtain ⟨ed,h9,h10,rfl⟩:=hdp;exact hdeps ed h9 h10
     rw [if_pos ⟨j,b1,hlj,q1⟩];exact h8
    ·split
     ·rename_i hj;obtain ⟨j,b1,_,b3⟩:=hj;have hjs:j < ops.size:=by
       unfold dstAt at b3;cases ho:ops[j]? with
       | none=>rw [ho] at b3;cases b3
       | some o=>exact (Array.getElem?_eq_some_iff.1 ho).1
      obtain ⟨d',_,_,_,_,_,_,c1',_,c3',_⟩:=hAt j b1 hjs;have:d'=t:=by simpa [dstAt,c1'] using b3
      subst this;rw [(hin c3').1] at h5;cases h5
     ·exact h5
   unfold wpOpIn;simp only [ho];simp only [Region.wanted,if_true];refine (Runs.upon ((c2 _ _ _ _ a.eval M w rd).mono fun v w' hgv=>?_));refine ih _ _ _ ?_ (by simp [h2]) (fun j hj=>?_) (fun j oj hoj hlj ed he hb=>?_) ?_
   ·have hgi0:listed[i]=false:=by simpa [Array.getD_eq_getD_getElem?,his] using hil'
    have hlt:i < listed.toList.length:=by simpa using his
    have hgi:listed.toList[i]=false:=by simpa using hgi0
    have hpos:0 < listed.toList.count false:=List.count_pos_iff.2 (by rw [← hgi];exact List.getElem_mem _);rw [Array.toList_setIfInBounds,List.count_set hlt,hgi];rw [show ((true:Bool) == false)=false from rfl,show ((false:Bool) == false)=true from rfl];rw [if_pos rfl,if_neg (by decide)];omega
   ·rw [hg];split
    ·rfl
    ·exact hk j hj
   ·rw [hg];split
    ·rfl
    ·rw [hg] at hlj;split at hlj
     ·rename_i hji;subst hji;rw [ho] at hoj;cases hoj
      exact hdeps ed he hb
     ·exact hcl j oj hoj hlj ed he hb
   ·have h5:=hst.gives hgv (hin c3).2;refine StF.less h5 fun t e' he'=>?_
    classical
    unfold gC at he' ⊢;unfold put;replace he':(if ∃ j,k<=j/\(listed.setIfInBounds i true).getD j false=true/\dstAt ops j=some t then look Δ t else look Γ t)=some e':=he'
    by_cases htd:t=d
    ·subst htd;rw [if_pos rfl];rw [if_pos ⟨i,hki,by rw [hg,if_pos rfl],hdi⟩,c3] at he';exact he'
    ·rw [if_neg htd];show (if ∃ j,k<=j/\listed.getD j false=true/\dstAt ops j=some t then look Δ t else look Γ t)=some e'
     by_cases hls:∃ j,k<=j/\listed.getD j false=true/\dstAt ops j=some t
     ·rw [if_pos hls];obtain ⟨j,r1,r3,r4⟩:=hls;rw [if_pos ⟨j,r1,by rw [hg]; split <;> simp_all,r4⟩] at he'
      exact he'
     ·rw [if_neg hls];rw [if_neg] at he'
      ·exact he'
      ·rintro ⟨j,r1,r3,r4⟩;rw [hg] at r3;split at r3
       ·rename_i hji;subst hji;rw [hdi] at r4;exact htd (Option.some.inj r4).symm
       ·exact hls ⟨j,r1,r3,r4⟩
def D3_ (P:Program) (ops:Array Oper) (k:Nat) (M0:Fm) (w0:World) (n:Nat) (Q:Exit->Act->World->Prop) (a:Act) (w:World):Prop:=
 ∃ Γ Δ:Cx,St M0 w0 n Γ a w/\F3 P ops Γ k ops.size Δ/\Δ.all (fun x=>(look Γ x.1).isNone)=true/\Δ.all (fun x=>Nat.blt x.1 n)=true/\∀ a w,St M0 w0 n (Δ ++ Γ) a w->Q .normal a w
theorem flo3 {m n id:Nat} {Δ:Cx} {M0:Fm} {w0:World} [hmx:Mx P] {Q:Exit->Act->World->Prop} {a:Act} {w:World} (k:Nat) (hs:St M0 w0 n Γ a w) (hfl:Fl P ops Γ m Δ) (hf:threeOK ops m k=true)
  (hdj:Δ.all (fun x=>(look Γ x.1).isNone)=true) (hn:Δ.all (fun x=>Nat.blt x.1 n)=true)
  (K:∀ a' w',St M0 w0 n (Δ ++ Γ) a' w'->wpListIn (Fr rr) 0 P ops (Exit.then (D3_ P ops k M0 w0 n Q) Q) ((ops.toList.drop m).take (k - m)) a' w'):(Code.region id ops true).wpIn (Fr rr) 0 P Q a w:=by
 have hd:=dia_of hf;have hmx':=hd.mk_;have hxs:=hd.ks;refine wpIn_region_any hmx.mixed (any_flow hd.w hfl (fun x hx=>by simpa using List.all_eq_true.1 hdj x hx) (fun x hx=>?_) (fun fuel listed a w h1 h2 h3 h4 h5=>dia_pre hd (fun fuel listed a w g1 g2 g3=>?_) _ m fuel listed a w rfl om_ (Nat.le_refl _) h1 ⟨h2,h4,h3⟩ (K a w h5)) ops.size _ a _ ?_ sm_ (fun i _ hi=>by simp [Array.getD_eq_getD_getElem?,hi]) (fun i o ho hl=>?_) ?_)
 ·have:=List.all_eq_true.1 hn x hx;exact Nat.le_of_ble_eq_true this
 ·obtain ⟨Γ',Δ',b1,b2,b3,b4,b5⟩:=g3;have hc:listed.toList.count false<=ops.size - k:=by
   have e1:listed.toList=listed.toList.take k ++ listed.toList.drop k:=(List.take_append_drop _ _).symm;rw [e1,List.count_append];have e2:(listed.toList.take k).count false=0:=by
    refine List.count_eq_zero.2 fun hm=>?_;obtain ⟨i,hi,he⟩:=List.mem_take_iff_getElem.1 hm;have hi':i < listed.size:=by simp at hi;omega
    have h6:=g2.2.1 i (by simp at hi;omega);have h7:listed[i]=false:=by simpa using he
    simp [Array.getD_eq_getD_getElem?,hi',h7] at h6
   have e3:(listed.toList.drop k).count false<=ops.size - k:=by
    refine Nat.le_trans List.count_le_length ?_;simp [g2.1]
   omega
  refine any_three hd b2 (fun x hx=>by simpa using List.all_eq_true.1 b3 x hx) (fun x hx=>?_) b5 fuel listed a w om_ g2.1 g2.2.1 (g2.cl hd) (StF.less b1 fun t e he=>?_)
  ·have:=List.all_eq_true.1 b4 x hx;exact Nat.le_of_ble_eq_true this
  ·classical
   unfold gC at he;rw [if_neg] at he
   ·exact he
   ·rintro ⟨j,r1,r3,r4⟩;have hjs:j < ops.size:=by
     unfold dstAt at r4;cases ho:ops[j]? with
     | none=>rw [ho] at r4;cases r4
     | some o=>exact (Array.getElem?_eq_some_iff.1 ho).1
    rw [g2.no r1 hjs] at r3;cases r3
 ·have:((Array.replicate ops.size false).toList.take m).count false<=m:=by
   refine Nat.le_trans List.count_le_length ?_;simp;omega
  have hm:m<=ops.size:=by omega
  omega
 ·have hi:i < ops.size:=(Array.getElem?_eq_some_iff.1 ho).1;simp [Array.getD_eq_getD_getElem?,hi] at hl
 ·have hmle:m<=ops.size:=by omega
  rw [gl_none hfl.ds fun i hi=>by simp [Array.getD_eq_getD_getElem?,show i < ops.size by omega]];obtain ⟨M,φ,h⟩:=hs;refine ⟨M,φ,fun t e he=>Ent.st _ (h.holds t e he) (Ext.drawn _ _ _),h.own,h.apart,h.sub,h.bd,h.fr.trans (Ext.drawn _ _ _),h.sz,h.df⟩
theorem d3 {k n:Nat} {Δ:Cx} {M0:Fm} {w0:World} {Q:Exit->Act->World->Prop} {a:Act} {w:World} (hs:St M0 w0 n Γ a w) (h:F3 P ops Γ k ops.size Δ) (h1:Δ.all (fun x=>(look Γ x.1).isNone)=true) (h2:Δ.all (fun x=>Nat.blt x.1 n)=true)
  (K:∀ a w,St M0 w0 n (Δ ++ Γ) a w->Q .normal a w):wpListIn (Fr rr) 0 P ops (Exit.then (D3_ P ops k M0 w0 n Q) Q) [] a w:=⟨Γ,Δ,hs,h,h1,h2,K⟩
end
end Go.Pn
namespace Go.Pn
theorem I.{u} {α : Sort u} {a : α} : a = a := rfl
abbrev nz : Go.Value := .slice none 0 0
end Go.Pn
