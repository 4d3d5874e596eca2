import Derived.Test.YtpahlccmojdgdaaGreatDoorEp2
set_option synthInstance.checkSynthOrder false
set_option synthInstance.maxSize 10000
set_option synthInstance.maxHeartbeats 400000
set_option maxRecDepth 100000
set_option maxHeartbeats 4000000
set_option linter.unusedVariables false
set_option linter.unusedSimpArgs false
namespace Go.Pn
open Go Go.RowKit
set_option synthInstance.checkSynthOrder false
class Kw (g:Prop) {ρ:Type} (m:Option ρ) (x:outParam ρ):Prop where h:g->m=some x
theorem Kw.e {ρ:Type} {m:Option ρ} {x:ρ} (h:Kw True m x):m=some x:=h.h trivial
theorem bk {α β:Type} {o:Option α} {f:α->Option β} {r:β} (h:o.bind f=some r):∃ x,Kw True o x/\f x=some r:=let ⟨x,h1,h2⟩:=bs h;⟨x,⟨fun _=>h1⟩,h2⟩
theorem gk {α ρ:Type} [Inhabited α] {B c:Bool} {o:Option α} {k:α->Option ρ} {r:ρ} (h:B=c->o.bind k=some r):∃ x,Kw (B=c) o x/\(B=c->k x=some r):=let ⟨x,h1,h2⟩:=gx h;⟨x,⟨h1⟩,h2⟩
class Kf (g:Prop) {ρ:Type} (m:Option ρ) (x:outParam ρ):Prop where h:g->m=some x
section
variable {g:Prop} {ρ:Type} {m:Option ρ} {x:ρ}
instance [h:Kw g m x]:Kf g m x:=⟨h.h⟩
end
class Pa (b p:Bool) (r:outParam Bool):Prop where
 h:b=true->p=r
 z:b=false->r=false
class Po (b p:Bool) (r:outParam Bool):Prop where
 h:b=false->p=r
 z:b=true->r=true
theorem pka {b p r:Bool} (h:b=true->some p=some r) (e:b=false->some false=some r):Pa b p r:=⟨fun x=>si (h x),fun x=>(si (e x)).symm⟩
theorem pko {b p r:Bool} (h:b=false->some p=some r) (e:b=true->some true=some r):Po b p r:=⟨fun x=>si (h x),fun x=>(si (e x)).symm⟩
class Cn (P:Program) (f:FuncId) {ρ:outParam Type} (m:outParam (Option ρ)) (ps:outParam (List Ent)) (E:outParam (ρ->Ent)):Prop where h:∀ x,m=some x->Sp P f ps (E x)
section
variable {g:Prop} {P:Program} {Γ:Cx}
class AX (g:Prop) (Γ:Cx) (x:Operand) (e:Ent):Prop where h:g->Od Γ x e
instance {x:Operand} {e:Ent} [h:AD g Γ x e]:AX g Γ x e:=⟨h.h⟩
instance (priority:=low) {x:Operand} {K:Nat} {c:Value} {e:Ent} [h:AD g Γ x (Qv c)] [h2:AC Γ c K e]:AX g Γ x e:=⟨fun hg=>ta (h.h hg) h2.h⟩
class AXl (g:Prop) (Γ:Cx) (xs:List Operand) (es:List Ent):Prop where h:g->Odl Γ xs es
instance:AXl g Γ [] []:=⟨fun _=>on⟩
instance {x:Operand} {xs:List Operand} {e:Ent} {es:List Ent} [h:AX g Γ x e] [Zf e] [h':AXl g Γ xs es]:AXl g Γ (x :: xs) (e :: es):=⟨fun hg=>oc (h.h hg) (h'.h hg)⟩
instance {f:FuncId} {ρ:Type} {m:Option ρ} {ps:List Ent} {E:ρ->Ent} {xs:List Operand} {A:Array TypeId} {x:ρ} [hc:Cn P f m ps E] [hA:AXl g Γ xs ps] [hk:Kf g m x] :
  AO g P (.call { callee:=.value (.func f),args:=xs.toArray,argTypes:=A }) Γ (E x):=⟨fun hg _=>cc rfl (hA.h hg) (hc.h x (hk.h hg))⟩
instance {T:TypeId} {x i:Operand} {α:Type} {hα:Rep α} {xs:List α} {v:Int} {y:α} [hx:AD g Γ x (Va xs)] [hi:AX g Γ i (Va v)] [he:Es P T α] [hk:Kf g (idx xs v) y] :
  AO g P (.indexAddr T x i) Γ (Pt y):=⟨fun hg _=>ix (hx.h hg) (hi.h hg) (hk.h hg)⟩
instance (priority:=high) {c:Operand} {m:Nat} {b p r:Bool} [hc:AD g Γ c (Va b)] [hx:Lk (lk Γ m) (Gd b true (Va p))] [hp:Pa b p r]:AO g P (.pick c (.tmp m) (.const (.bool false))) Γ (Va r):=⟨fun h _=>pa (hc.h h) ((lk_eq _ _).symm.trans hx.h) hp.h hp.z⟩
instance (priority:=high) {c:Operand} {m:Nat} {b p r:Bool} [hc:AD g Γ c (Va b)] [hx:Lk (lk Γ m) (Gd b false (Va p))] [hp:Po b p r]:AO g P (.pick c (.const (.bool true)) (.tmp m)) Γ (Va r):=⟨fun h _=>po (hc.h h) ((lk_eq _ _).symm.trans hx.h) hp.h hp.z⟩
instance {c:Operand} {m:Nat} {B w b p:Bool} [hc:AD (B=w) Γ c (Va b)] [hx:Lk (lk Γ m) (Gd ((B == w) && (b == true)) true (Va p))]:AO (B=w) P (.pick c (.tmp m) (.const (.bool false))) Γ (Va (b && p)):=⟨fun h _=>pagP (hc.h h) ((lk_eq _ _).symm.trans hx.h) fun e=>g2 h e⟩
instance {c:Operand} {m:Nat} {B w b p:Bool} [hc:AD (B=w) Γ c (Va b)] [hx:Lk (lk Γ m) (Gd ((B == w) && (b == false)) true (Va p))]:AO (B=w) P (.pick c (.const (.bool true)) (.tmp m)) Γ (Va (b || p)):=⟨fun h _=>pogP (hc.h h) ((lk_eq _ _).symm.trans hx.h) fun e=>g2 h e⟩
instance {x y:Operand} {T T':TypeId} {m n:Int} [hx:AD g Γ x (Va m)] [hy:AD g Γ y (Va n)]:AO g P (.call { callee:=.builtin .max,args:=#[x,y],argTypes:=#[T,T'] }) Γ (Va (if n > m then n else m)):=⟨fun h _=>mx (hx.h h) (hy.h h)⟩
instance {K b:Nat} {cs:List Value}:AG ((K,Mr b cs) :: Γ) b K (Mr b cs):=⟨by simp [look]⟩
instance {T K b:Nat} {x:Operand} {α:Type} {_:Rep α} {y:α} [hx:AD g Γ x (Qv (pb b 0))] [hk:AG Γ b K (Mg b y)] [Ty P T α]:AO g P (.load T x) Γ (Va y):=⟨fun h _=>lm (hx.h h) hk.h⟩
class AFo (α:Type) (hα:Rep α) (off:Nat) (β:outParam Type) (hβ:outParam (Rep β)) (f:outParam (α->β)):Prop where h:DF f off
instance {off:Nat} {α β:Type} {hα:Rep α} {hβ:Rep β} {f:α->β} [h:DF f off]:AFo α hα off β hβ f:=⟨h⟩
instance (priority:=low) {T K b off:Nat} {x:Operand} {α β:Type} {hα:Rep α} {hβ:Rep β} {y:α} {f:α->β} [hx:AD g Γ x (Qv (pb b off))] [hk:AG Γ b K (Mg b y)] [hf:AFo α hα off β hβ f] [Ty P T β]:AO g P (.load T x) Γ (Va (f y)):=⟨fun h _=>have:=hf.h;lf (hx.h h) hk.h⟩
class Fo (P:Program) (S k:Nat) (off:outParam Nat):Prop where h:∃ m,fieldOf P S k=some (off,m + 1)
class Pq (o off:Nat) (q:outParam Nat):Prop where h:o + off=q
instance {o:Nat}:Pq 0 o o:=⟨Nat.zero_add o⟩
instance (priority:=low) {o:Nat}:Pq o 0 o:=⟨rfl⟩
instance {S k b o off q:Nat} {x:Operand} [hx:AD g Γ x (Qv (pb b o))] [hf:Fo P S k off] [hq:Pq o off q]:AO g P (.fieldAddr S x k) Γ (Qv (pb b q)):=⟨fun h _=>let ⟨_,e⟩:=hf.h;fm_ (hx.h h) e hq.h⟩
@[reducible] def nth_:List Value->Nat->Option Value
 | [],_=>none
 | c :: _,0=>some c
 | _ :: l,j + 1=>nth_ l j
theorem nth_eq:∀ (l:List Value) (j:Nat),nth_ l j=l[j]?
 | [],_=>rfl
 | _ :: _,0=>rfl
 | _ :: l,j + 1=>by simpa [nth_] using nth_eq l j
class Nt (o:Option Value) (c:outParam Value):Prop where h:o=some c
instance {c:Value}:Nt (some c) c:=⟨rfl⟩
instance (priority:=low) {T K b off:Nat} {x:Operand} {β:Type} {_:Rep β} {cs:List Value} {c:Value} [hx:AD g Γ x (Qv (pb b off))] [hk:AG Γ b K (Mr b cs)] [hc:Nt (nth_ cs off) c] [Ty P T (List β)]:AO g P (.load T x) Γ (Qv c):=⟨fun h _=>lrc (List β) (hx.h h) hk.h ((nth_eq _ _).symm.trans hc.h) rfl rfl⟩
instance (priority:=low) {T K b off:Nat} {x:Operand} {cs:List Value} {c:Value} [hx:AD g Γ x (Qv (pb b off))] [hk:AG Γ b K (Mr b cs)] [hc:Nt (nth_ cs off) c] [Ty P T Int]:AO g P (.load T x) Γ (Qv c):=⟨fun h _=>lrc Int (hx.h h) hk.h ((nth_eq _ _).symm.trans hc.h) rfl rfl⟩
class AR (Γ:Cx) (c:Value) (K:outParam Nat) (ei:outParam Nat) (α:outParam Type) (hα:outParam (Rep α)) (xs:outParam (List α)):Prop where h:look Γ K=some (Ow ei c xs)
instance {K ei:Nat} {c:Value} {α:Type} {hα:Rep α} {xs:List α}:AR ((K,Ow ei c xs) :: Γ) c K ei α hα xs:=⟨by simp [look]⟩
instance (priority:=low) {K k ei:Nat} {c:Value} {e':Ent} {α:Type} {hα:Rep α} {xs:List α} [h:AR Γ c K ei α hα xs] [hn:Bf (nq_ k K)]:AR ((k,e') :: Γ) c K ei α hα xs:=⟨by
 have:=nq_h hn;show (match Nat.beq k K with | true=>some e' | false=>look Γ K)=some (Ow ei c xs)
 rw [this];exact h.h⟩
instance {K ei:Nat} {c:Value} {α:Type} {hα:Rep α} {xs:List α} [h:AR Γ c K ei α hα xs]:AR ([] ++ Γ) c K ei α hα xs:=⟨h.h⟩
instance {K ei:Nat} {c:Value} {p:Nat×Ent} {Δ:Cx} {α:Type} {hα:Rep α} {xs:List α} [h:AR (p :: (Δ ++ Γ)) c K ei α hα xs]:AR ((p :: Δ) ++ Γ) c K ei α hα xs:=⟨h.h⟩
instance {T K e:Nat} {x i:Operand} {c:Value} {α:Type} {hα:Rep α} {xs:List α} {m:Int} {y:α} [hx:AD g Γ x (Qv c)] [hk:AR Γ c K e α hα xs] [hi:AX g Γ i (Va m)] [he:Ea P T e α] [h:Kf g (idx xs m) y]:AO g P (.indexAddr T x i) Γ (Pe c (m.toNat * Rep.sz α)):=⟨fun hg _=>ixq (hx.h hg) hk.h (hi.h hg) (h.h hg)⟩
instance {T K e:Nat} {x:Operand} {c:Value} {α:Type} {hα:Rep α} {xs:List α} {m:Int} {y:α} [hx:AD g Γ x (Pe c (m.toNat * Rep.sz α))] [hk:AR Γ c K e α hα xs] [Ty P T α] [h:Kf g (idx xs m) y]:AO g P (.load T x) Γ (Va y):=⟨fun hg _=>lq (hx.h hg) hk.h (idxg (h.h hg))⟩
instance {T K e:Nat} {x:Operand} {c:Value} {α:Type} {hα:Rep α} {xs:List α} [hx:AD g Γ x (Qv c)] [hk:AR Γ c K e α hα xs] [he:Ea P T e α]:AO g P (.call { callee:=.builtin .len,args:=#[x],argTypes:=#[T] }) Γ (Va (xs.length:Int)):=⟨fun hg _=>lnq (hx.h hg) hk.h⟩
class Smz (α:Type) [Rep α]:Prop where h:Nat.ble (Rep.sz α) 1000000=true
theorem Smz.le {α:Type} [Rep α] [h:Smz α] {k:Nat} (hk:Nat.ble k 16=true):Nat.ble (k * Rep.sz α) 16777216=true:=by
 have h1:=Nat.le_of_ble_eq_true h.h;have h2:=Nat.le_of_ble_eq_true hk;refine Nat.ble_eq_true_of_le ?_;exact Nat.le_trans (Nat.mul_le_mul h2 h1) (by decide)
instance {T e:Nat} {α:Type} {_:Rep α} [Ea P T e α] [Smz α] {x:Operand} {y:α} [hx:AX g Γ x (Va y)]:AO g P (.buildSlice T 1 #[(0,x)]) Γ (Va [y]):=⟨fun hg _=>bsv (o1 (hx.h hg) o0) rfl rfl (Smz.le rfl)⟩
instance {T e:Nat} {α:Type} {_:Rep α} [Ea P T e α] [Smz α] {x x2:Operand} {y y2:α} [hx:AX g Γ x (Va y)] [hx2:AX g Γ x2 (Va y2)]:AO g P (.buildSlice T 2 #[(0,x),(1,x2)]) Γ (Va [y,y2]):=⟨fun hg _=>bsv (o1 (hx.h hg) (o1 (hx2.h hg) o0)) rfl rfl (Smz.le rfl)⟩
theorem look_filt_app {ks:List Nat} {t:Nat} {Δ Γ:Cx} (ht:t∈ks):look (filt ks Δ ++ Γ) t=look (Δ ++ Γ) t:=by
 induction Δ with
 | nil=>rfl
 | cons p Δ ih=>
  obtain ⟨s,e⟩:=p;show look ((match ks.contains s with | true=>(s,e) :: filt ks Δ | false=>filt ks Δ) ++ Γ) t=(match Nat.beq s t with | true=>some e | false=>look (Δ ++ Γ) t)
  split
  ·show (match Nat.beq s t with | true=>some e | false=>look (filt ks Δ ++ Γ) t)=_
   rw [ih]
  ·rename_i hc;split
   ·rename_i hb;have:=Nat.eq_of_beq_eq_true hb;subst this;simp at hc;exact absurd ht hc
   ·exact ih
class Ot (op:Op) (n:Nat):Prop where h:n∈opTmps op
class Ml (n:Nat) (xs:List Operand):Prop where h:Operand.tmp n∈xs
instance {n:Nat} {xs:List Operand}:Ml n (.tmp n :: xs):=⟨by simp⟩
instance (priority:=low) {n:Nat} {x:Operand} {xs:List Operand} [h:Ml n xs]:Ml n (x :: xs):=⟨by simp [h.h]⟩
instance {n:Nat}:Ot (.move (.tmp n)) n:=⟨by simp [opTmps,Op.operands]⟩
instance {n:Nat} {o:BinOp} {T T':TypeId} {y:Operand}:Ot (.binOp o T (.tmp n) y T') n:=⟨by simp [opTmps,Op.operands]⟩
instance {n:Nat} {o:BinOp} {T T':TypeId} {x:Operand}:Ot (.binOp o T x (.tmp n) T') n:=⟨by simp [opTmps,Op.operands]⟩
instance {n:Nat} {o:UnOp} {T:TypeId}:Ot (.unOp o T (.tmp n)) n:=⟨by simp [opTmps,Op.operands]⟩
instance {n k:Nat}:Ot (.extract (.tmp n) k) n:=⟨by simp [opTmps,Op.operands]⟩
instance {n T:Nat}:Ot (.load T (.tmp n)) n:=⟨by simp [opTmps,Op.operands]⟩
instance {n:Nat}:Ot (.nilCheck (.tmp n)) n:=⟨by simp [opTmps,Op.operands]⟩
instance {n S k:Nat}:Ot (.fieldAddr S (.tmp n) k) n:=⟨by simp [opTmps,Op.operands]⟩
instance {n T:Nat} {y:Operand}:Ot (.indexAddr T (.tmp n) y) n:=⟨by simp [opTmps,Op.operands]⟩
instance {n T:Nat} {x:Operand}:Ot (.indexAddr T x (.tmp n)) n:=⟨by simp [opTmps,Op.operands]⟩
instance {n:Nat} {x y:Operand}:Ot (.pick (.tmp n) x y) n:=⟨by simp [opTmps,Op.operands]⟩
instance {n:Nat} {x y:Operand}:Ot (.pick x (.tmp n) y) n:=⟨by simp [opTmps,Op.operands]⟩
instance {n:Nat} {x y:Operand}:Ot (.pick x y (.tmp n)) n:=⟨by simp [opTmps,Op.operands]⟩
instance {n T i:Nat}:Ot (.buildSlice T 1 #[(i,.tmp n)]) n:=⟨by simp [opTmps,Op.operands]⟩
instance {n T i j:Nat} {y:Operand}:Ot (.buildSlice T 2 #[(i,.tmp n),(j,y)]) n:=⟨by simp [opTmps,Op.operands]⟩
instance {n T i j:Nat} {x:Operand}:Ot (.buildSlice T 2 #[(i,x),(j,.tmp n)]) n:=⟨by simp [opTmps,Op.operands]⟩
instance {n:Nat} {f:FuncId} {xs:List Operand} {A:Array TypeId} [h:Ml n xs]:Ot (.call { callee:=.value (.func f),args:=xs.toArray,argTypes:=A }) n:=⟨by simp only [opTmps,Op.operands,Call.operands,List.mem_filterMap];exact ⟨.tmp n,by simp [h.h],rfl⟩⟩
instance {n:Nat} {f:Builtin} {xs:List Operand} {A:Array TypeId} [h:Ml n xs]:Ot (.call { callee:=.builtin f,args:=xs.toArray,argTypes:=A }) n:=⟨by simp only [opTmps,Op.operands,Call.operands,List.mem_filterMap];exact ⟨.tmp n,by simp [h.h],rfl⟩⟩
instance {op:Op} {Δ:Cx} {n:Nat} {e:Ent} [hl:Lk (lk2 Δ Γ n) e] [ho:Ot op n]:Lk (lk (filt (opTmps op) Δ ++ Γ) n) e:=⟨by
 rw [lk_eq];have h1:=hl.h;rw [lk2_eq,lk_eq] at h1;exact (look_filt_app ho.h).trans h1⟩
class Nk (Δ:Cx) (K:Nat):Prop where h:look Δ K=none
instance {K:Nat}:Nk [] K:=⟨rfl⟩
instance {Δ:Cx} {K k:Nat} {e:Ent} [hn:Bf (nq_ k K)] [h:Nk Δ K]:Nk ((k,e) :: Δ) K:=⟨by
 have:=nq_h hn;show (match Nat.beq k K with | true=>some e | false=>look Δ K)=none
 rw [this];exact h.h⟩
theorem look_app_none {Δ Γ:Cx} {K:Nat} (h:look Δ K=none):look (Δ ++ Γ) K=look Γ K:=by
 induction Δ with
 | nil=>rfl
 | cons p Δ ih=>
  obtain ⟨k,e⟩:=p;have h':(match Nat.beq k K with | true=>some e | false=>look Δ K)=none:=h
  show (match Nat.beq k K with | true=>some e | false=>look (Δ ++ Γ) K)=look Γ K
  split at h'
  ·cases h'
  ·exact ih h'
theorem look_filt_none {Δ:Cx} {ks:List Nat} {K:Nat} (h:look Δ K=none):look (filt ks Δ) K=none:=by
 cases hl:look (filt ks Δ) K with
 | none=>rfl
 | some e=>exact absurd (look_filt hl).2 (by rw [h];simp)
instance {Δ:Cx} {ks:List Nat} {b K:Nat} {e:Ent} [h:AG Γ b K e] [hn:Nk Δ K]:AG (filt ks Δ ++ Γ) b K e:=⟨(look_app_none (look_filt_none hn.h)).trans h.h⟩
instance {Δ:Cx} {ks:List Nat} {c:Value} {K ei:Nat} {α:Type} {hα:Rep α} {xs:List α} [h:AR Γ c K ei α hα xs] [hn:Nk Δ K]:AR (filt ks Δ ++ Γ) c K ei α hα xs:=⟨(look_app_none (look_filt_none hn.h)).trans h.h⟩
class Fs (P:Program) (L:List Oper) (k:Nat) (l:List Oper) (i:Nat) (Γ Δ:Cx) (Δ':outParam Cx) (l':outParam (List Oper)):Prop where
 h:∀ {ops:Array Oper},ops.toList=L->L.drop i=l->Fl P ops Γ i Δ->Fl P ops Γ (i + k) Δ'/\L.drop (i + k)=l'
variable {L:List Oper} {k i:Nat} {Δ Δ':Cx} {l':List Oper}
instance {l:List Oper}:Fs P L 0 l i Γ Δ Δ l:=⟨fun _ h2 h=>⟨h,h2⟩⟩
theorem fs_at {ops:Array Oper} {L l:List Oper} {o:Oper} {i:Nat} (h:ops.toList=L) (hd:L.drop i=o :: l):ops[i]?=some o/\L.drop (i + 1)=l:=by
 subst h;constructor
 ·rw [← Array.getElem?_toList,← List.head?_drop,hd];rfl
 ·rw [← List.drop_drop,hd];rfl
instance {l:List Oper} {op:Op} {d:Tmp} {ty:TypeId} {pos:String} {aft:Array Edge} {e:Ent} [ho:AO True P op (filt (opTmps op) Δ ++ Γ) e] [hr:Fs P L k l (i + 1) Γ ((d,e) :: Δ) Δ' l'] :
  Fs P L (k + 1) (⟨some d,op,ty,pos,aft,none⟩ :: l) i Γ Δ Δ' l':=⟨fun h1 h2 h=>by
 have h3:=fs_at h1 h2;have:=hr.h h1 h3.2 (.cons h h3.1 (ho.h trivial ty))
 rwa [Nat.add_right_comm] at this⟩
instance {l:List Oper} {op:Op} {d j dj:Tmp} {b want:Bool} {ty:TypeId} {pos:String} {aft:Array Edge} {e:Ent} [hj:Gt (gt_ L j) dj] [hl:Lk (lk Δ dj) (Va b)] [ho:AO (b=want) P op (filt (opTmps op) Δ ++ Γ) e] [hr:Fs P L k l (i + 1) Γ ((d,Gd b want e) :: Δ) Δ' l'] :
  Fs P L (k + 1) (⟨some d,op,ty,pos,aft,some (j,want)⟩ :: l) i Γ Δ Δ' l':=⟨fun h1 h2 h=>by
 have h3:=fs_at h1 h2;have:=hr.h h1 h3.2 (.cong h h3.1 (gt_o h1 hj.h) ((lk_eq _ _).symm.trans hl.h) fun hb=>ho.h hb ty)
 rwa [Nat.add_right_comm] at this⟩
theorem fW {n id:Nat} {M0:Fm} {w0:World} [hmx:Mx P] {rr:Option Nat} {ops:Array Oper} {Q:Exit->Act->World->Prop} {a:Act} {w:World} (m:Nat) (hs:St M0 w0 n Γ a w) [hfl:Fs P ops.toList m ops.toList 0 Γ [] Δ l'] (hf:flowOK ops m=true)
  (hdj:Δ.all (fun x=>(look Γ x.1).isNone)=true) (hn:Δ.all (fun x=>Nat.blt x.1 n)=true)
  (K:∀ a' w',St M0 w0 n (Δ ++ Γ) a' w'->wpListIn (Fr rr) 0 P ops Q l' a' w'):(Code.region id ops true).wpIn (Fr rr) 0 P Q a w:=by
 have:=hfl.h rfl rfl .nil;rw [Nat.zero_add] at this;exact flow (m:=m) hs this.1 hf hdj hn fun a' w' s=>by rw [this.2];exact K a' w' s
class Zc (P:Program) (T:TypeId) (cs:outParam (List Value)):Prop where h:∀ ty Γ,OR P (.alloc T) ty Γ (MR cs)
theorem aR {n:Nat} {M0:Fm} {w0:World} {rr:Option Nat} {Q:Exit->Act->World->Prop} {a:Act} {w:World} {ops:Array Oper} {rest:List Oper} {d T:Nat} {ty:TypeId} {pos:String} {aft:Array Edge} {cs:List Value} (K:Nat)
  (hs:St M0 w0 n Γ a w) [hz:Zc P T cs] [hn:Bf (blt_ d n)] [hdk:Bf (nq_ d K)]
  (k:∀ b a' w',St M0 w0 n ((d,Qv (pb b 0)) :: (K,Mr b cs) :: (d,MR cs) :: Γ) a' w'->wpListIn (Fr rr) 0 P ops Q rest a' w'):wpListIn (Fr rr) 0 P ops Q (⟨some d,.alloc T,ty,pos,aft,none⟩ :: rest) a w:=
 sqr K hs (hz.h ty Γ) hn.lt (nq_h hdk) k
theorem sW {n:Nat} {M0:Fm} {w0:World} {rr:Option Nat} {Q:Exit->Act->World->Prop} {a:Act} {w:World} {ops:Array Oper} {rest:List Oper} {T K b:Nat} {x y:Operand} {ty:TypeId} {pos:String} {aft:Array Edge} {α:Type} {_:Rep α} [Ty P T α] {v:α} {cs:List Value}
  (hs:St M0 w0 n Γ a w) [hx:AD True Γ x (Qv (pb b 0))] [hk:AG Γ b K (Mr b cs)] [hy:AD True Γ y (Va v)] (hl:cs.length=Rep.sz α)
  (k:∀ w',St M0 w0 n ((K,Mg b v) :: Γ) a w'->wpListIn (Fr rr) 0 P ops Q rest a w'):wpListIn (Fr rr) 0 P ops Q (⟨none,.store T x y,ty,pos,aft,none⟩ :: rest) a w:=
 swd hs (hx.h trivial) hk.h (hy.h trivial) hl k
end
end Go.Pn
namespace Go.Pn
open Go Go.RowKit
@[reducible] def ap_:Cx->Cx->Cx
 | [],Γ=>Γ
 | p :: l,Γ=>p :: ap_ l Γ
class Pj (Γ:Cx) (ks:List Nat) (Γ':outParam Cx):Prop where h:∀ t e,look Γ' t=some e->look Γ t=some e
instance {Γ:Cx}:Pj Γ [] []:=⟨fun _ _ h=>by cases h⟩
instance {Γ Γ':Cx} {k:Nat} {ks:List Nat} {e:Ent} [h:Lk (lk Γ k) e] [h':Pj Γ ks Γ']:Pj Γ (k :: ks) ((k,e) :: Γ'):=⟨fun t e1 he=>by
 rw [look_cons] at he;unfold put at he;split at he
 ·rename_i ht;subst ht;cases he;exact (lk_eq _ _).symm.trans h.h
 ·exact h'.h t e1 he⟩
section
variable {rr:Option Nat} {P:Program} {M0:Fm} {w0:World} {nn:Nat} {Γ Γ0:Cx} {Q:Exit->Act->World->Prop} {a:Act} {w:World}
theorem lA {c:Code} {id:Nat} {S τ:Type} {m:Nat->S->Option S} {f:Nat} {s0:S} {k:S->Option τ} {r:τ} (hm:(m f s0).bind k=some r) (ks:List Nat) (s:St M0 w0 nn Γ a w) [Pj Γ ks Γ0] (C:S->Cx) (h0:St M0 w0 nn (ap_ (C s0) Γ0) a w) (hz:∀ s,m 0 s=none)
  (hb:∀ o,k o=some r->∀ n z a w,m (n + 1) z=some o->St M0 w0 nn (ap_ (C z) Γ0) a w->c.wpIn (Fr rr) 0 P (Exit.then (fun a' w'=>∃ s',m n s'=some o/\St M0 w0 nn (ap_ (C s') Γ0) a' w') (Exit.inBlock id (Exit.then (fun a w=>St M0 w0 nn (ap_ (C o) Γ0) a w) Q))) a w)
  (hc:∀ o,k o=some r->∀ a w,St M0 w0 nn (ap_ (C o) Γ0) a w->Q .normal a w):(Code.block id (Code.loop c)).wpIn (Fr rr) 0 P Q a w:=
 la hm (fun z a w=>St M0 w0 nn (ap_ (C z) Γ0) a w) h0 hz hb hc
theorem lA1 {c:Code} {id:Nat} {S τ:Type} {m:Nat->S->Option S} {f:Nat} {s0:S} {k:S->Option τ} {r:τ} (hm:(m f s0).bind k=some r) (ks:List Nat) (s:St M0 w0 nn Γ a w) [Pj Γ ks Γ0] (C:S->Value->Cx) (h0:∃ v,St M0 w0 nn (ap_ (C s0 v) Γ0) a w) (hz:∀ s,m 0 s=none)
  (hb:∀ o,k o=some r->∀ n z a w,m (n + 1) z=some o->(∃ v,St M0 w0 nn (ap_ (C z v) Γ0) a w)->c.wpIn (Fr rr) 0 P (Exit.then (fun a' w'=>∃ s',m n s'=some o/\∃ v,St M0 w0 nn (ap_ (C s' v) Γ0) a' w') (Exit.inBlock id (Exit.then (fun a w=>∃ v,St M0 w0 nn (ap_ (C o v) Γ0) a w) Q))) a w)
  (hc:∀ o,k o=some r->∀ a w,(∃ v,St M0 w0 nn (ap_ (C o v) Γ0) a w)->Q .normal a w):(Code.block id (Code.loop c)).wpIn (Fr rr) 0 P Q a w:=
 la hm (fun z a w=>∃ v,St M0 w0 nn (ap_ (C z v) Γ0) a w) h0 hz hb hc
theorem lB {c:Code} {id:Nat} {S ρ τ:Type} {m:Nat->S->Option (Lo S ρ)} {f:Nat} {s0:S} {k:Lo S ρ->Option τ} {r:τ} (hm:(m f s0).bind k=some r) (ks:List Nat) (s:St M0 w0 nn Γ a w) [Pj Γ ks Γ0] (C:S->Cx) (h0:St M0 w0 nn (ap_ (C s0) Γ0) a w) (hz:∀ s,m 0 s=none)
  (hb:∀ o,k o=some r->∀ n z a w,m (n + 1) z=some o->St M0 w0 nn (ap_ (C z) Γ0) a w->c.wpIn (Fr rr) 0 P (Exit.then (fun a' w'=>∃ s',m n s'=some o/\St M0 w0 nn (ap_ (C s') Γ0) a' w') (Exit.inBlock id (Exit.then (fun a w=>∃ z,o=.brk z/\St M0 w0 nn (ap_ (C z) Γ0) a w) Q))) a w)
  (hc:∀ z,k (.brk z)=some r->∀ a w,St M0 w0 nn (ap_ (C z) Γ0) a w->Q .normal a w):(Code.block id (Code.loop c)).wpIn (Fr rr) 0 P Q a w:=
 lb hm (fun z a w=>St M0 w0 nn (ap_ (C z) Γ0) a w) h0 hz hb hc
theorem lB1 {c:Code} {id:Nat} {S ρ τ:Type} {m:Nat->S->Option (Lo S ρ)} {f:Nat} {s0:S} {k:Lo S ρ->Option τ} {r:τ} (hm:(m f s0).bind k=some r) (ks:List Nat) (s:St M0 w0 nn Γ a w) [Pj Γ ks Γ0] (C:S->Value->Cx) (h0:∃ v,St M0 w0 nn (ap_ (C s0 v) Γ0) a w) (hz:∀ s,m 0 s=none)
  (hb:∀ o,k o=some r->∀ n z a w,m (n + 1) z=some o->(∃ v,St M0 w0 nn (ap_ (C z v) Γ0) a w)->c.wpIn (Fr rr) 0 P (Exit.then (fun a' w'=>∃ s',m n s'=some o/\∃ v,St M0 w0 nn (ap_ (C s' v) Γ0) a' w') (Exit.inBlock id (Exit.then (fun a w=>∃ z,o=.brk z/\∃ v,St M0 w0 nn (ap_ (C z v) Γ0) a w) Q))) a w)
  (hc:∀ z,k (.brk z)=some r->∀ a w,(∃ v,St M0 w0 nn (ap_ (C z v) Γ0) a w)->Q .normal a w):(Code.block id (Code.loop c)).wpIn (Fr rr) 0 P Q a w:=
 lb hm (fun z a w=>∃ v,St M0 w0 nn (ap_ (C z v) Γ0) a w) h0 hz hb hc
theorem lB2 {c:Code} {id:Nat} {S ρ τ:Type} {m:Nat->S->Option (Lo S ρ)} {f:Nat} {s0:S} {k:Lo S ρ->Option τ} {r:τ} (hm:(m f s0).bind k=some r) (ks:List Nat) (s:St M0 w0 nn Γ a w) [Pj Γ ks Γ0] (C:S->Value->Value->Cx) (h0:∃ v u,St M0 w0 nn (ap_ (C s0 v u) Γ0) a w) (hz:∀ s,m 0 s=none)
  (hb:∀ o,k o=some r->∀ n z a w,m (n + 1) z=some o->(∃ v u,St M0 w0 nn (ap_ (C z v u) Γ0) a w)->c.wpIn (Fr rr) 0 P (Exit.then (fun a' w'=>∃ s',m n s'=some o/\∃ v u,St M0 w0 nn (ap_ (C s' v u) Γ0) a' w') (Exit.inBlock id (Exit.then (fun a w=>∃ z,o=.brk z/\∃ v u,St M0 w0 nn (ap_ (C z v u) Γ0) a w) Q))) a w)
  (hc:∀ z,k (.brk z)=some r->∀ a w,(∃ v u,St M0 w0 nn (ap_ (C z v u) Γ0) a w)->Q .normal a w):(Code.block id (Code.loop c)).wpIn (Fr rr) 0 P Q a w:=
 lb hm (fun z a w=>∃ v u,St M0 w0 nn (ap_ (C z v u) Γ0) a w) h0 hz hb hc
theorem cP {c:Code} (ks:List Nat) (s:St M0 w0 nn Γ a w) [Pj Γ ks Γ0] (C:Cx) (h:c.wpIn (Fr rr) 0 P (Exit.then (fun a w=>St M0 w0 nn (ap_ C Γ0) a w) Q) a w) (h':∀ a w,St M0 w0 nn (ap_ C Γ0) a w->Q .normal a w):c.wpIn (Fr rr) 0 P Q a w:=cpI _ h h'
theorem cP1 {c:Code} (ks:List Nat) (s:St M0 w0 nn Γ a w) [Pj Γ ks Γ0] (C:Value->Cx) (h:c.wpIn (Fr rr) 0 P (Exit.then (fun a w=>∃ v,St M0 w0 nn (ap_ (C v) Γ0) a w) Q) a w) (h':∀ a w,(∃ v,St M0 w0 nn (ap_ (C v) Γ0) a w)->Q .normal a w):c.wpIn (Fr rr) 0 P Q a w:=cpI _ h h'
end
end Go.Pn
set_option maxRecDepth 100000
namespace Go.Pn
open Go Go.RowKit Go.Proofs
instance:Fo Tryz.prog 26 0 0:=⟨0,by kernel_rfl⟩
instance:Fo Tryz.prog 26 2 2:=⟨0,by kernel_rfl⟩
instance:Fo Tryz.prog 31 0 0:=⟨0,by kernel_rfl⟩
instance:Fo Tryz.prog 31 1 1:=⟨0,by kernel_rfl⟩
instance:Fo Tryz.prog 31 2 2:=⟨0,by kernel_rfl⟩
instance:Fo Tryz.prog 31 3 3:=⟨0,by kernel_rfl⟩
instance:Fo Tryz.prog 31 4 4:=⟨0,by kernel_rfl⟩
instance:Fo Tryz.prog 42 0 0:=⟨0,by kernel_rfl⟩
instance:Fo Tryz.prog 42 1 1:=⟨0,by kernel_rfl⟩
instance:Fo Tryz.prog 45 0 0:=⟨0,by kernel_rfl⟩
instance:Fo Tryz.prog 45 1 1:=⟨0,by kernel_rfl⟩
instance:Fo Tryz.prog 108 0 0:=⟨0,by kernel_rfl⟩
instance:Fo Tryz.prog 120 0 0:=⟨0,by kernel_rfl⟩
instance:Fo Tryz.prog 120 1 1:=⟨0,by kernel_rfl⟩
instance:Fo Tryz.prog 131 0 0:=⟨0,by kernel_rfl⟩
instance:Fo Tryz.prog 131 1 1:=⟨0,by kernel_rfl⟩
instance:Fo Tryz.prog 131 2 2:=⟨2,by kernel_rfl⟩
instance:Fo Tryz.prog 131 3 5:=⟨2,by kernel_rfl⟩
instance:Fo Tryz.prog 131 4 8:=⟨0,by kernel_rfl⟩
instance:Fo Tryz.prog 131 5 9:=⟨0,by kernel_rfl⟩
instance:Fo Tryz.prog 198 0 0:=⟨0,by kernel_rfl⟩
instance:Fo Tryz.prog 198 1 1:=⟨0,by kernel_rfl⟩
instance:Fo Tryz.prog 215 1 2:=⟨0,by kernel_rfl⟩
instance:Fo Tryz.prog 261 0 0:=⟨4,by kernel_rfl⟩
instance:Fo Tryz.prog 284 0 0:=⟨4,by kernel_rfl⟩
instance:Fo Tryz.prog 284 1 5:=⟨0,by kernel_rfl⟩
instance:Fo Tryz.prog 284 2 6:=⟨2,by kernel_rfl⟩
instance:Fo Tryz.prog 327 0 0:=⟨4,by kernel_rfl⟩
instance:Fo Tryz.prog 327 1 5:=⟨4,by kernel_rfl⟩
instance:Fo Tryz.prog 327 2 10:=⟨0,by kernel_rfl⟩
instance:Fo Tryz.prog 355 0 0:=⟨0,by kernel_rfl⟩
instance:Fo Tryz.prog 355 1 1:=⟨0,by kernel_rfl⟩
instance:Fo Tryz.prog 381 0 0:=⟨0,by kernel_rfl⟩
instance:Fo Tryz.prog 381 1 1:=⟨0,by kernel_rfl⟩
instance:Fo Tryz.prog 381 2 2:=⟨0,by kernel_rfl⟩
instance:Zc Tryz.prog 24 [(.slice none 0 0)]:=⟨fun _ _=>alr (z:=(.slice none 0 0)) (by kernel_rfl) rfl rfl⟩
instance:Zc Tryz.prog 26 [(.int .i64 (0:Int)),(.slice none 0 0),(.slice none 0 0),(.slice none 0 0),(.slice none 0 0)]:=⟨fun _ _=>alr (z:=.agg #[(.int .i64 (0:Int)),(.slice none 0 0),(.slice none 0 0),(.slice none 0 0),(.slice none 0 0)]) (by kernel_rfl) rfl rfl⟩
instance:Zc Tryz.prog 31 [(.slice none 0 0),(.slice none 0 0),(.slice none 0 0),(.slice none 0 0),(.slice none 0 0)]:=⟨fun _ _=>alr (z:=.agg #[(.slice none 0 0),(.slice none 0 0),(.slice none 0 0),(.slice none 0 0),(.slice none 0 0)]) (by kernel_rfl) rfl rfl⟩
instance:Zc Tryz.prog 42 [(.slice none 0 0),(.slice none 0 0)]:=⟨fun _ _=>alr (z:=.agg #[(.slice none 0 0),(.slice none 0 0)]) (by kernel_rfl) rfl rfl⟩
instance:Zc Tryz.prog 45 [(.slice none 0 0),(.slice none 0 0)]:=⟨fun _ _=>alr (z:=.agg #[(.slice none 0 0),(.slice none 0 0)]) (by kernel_rfl) rfl rfl⟩
instance:Zc Tryz.prog 108 [(.int .i64 (0:Int)),(.slice none 0 0)]:=⟨fun _ _=>alr (z:=.agg #[(.int .i64 (0:Int)),(.slice none 0 0)]) (by kernel_rfl) rfl rfl⟩
instance:Zc Tryz.prog 129 [(.int .i64 (0:Int)),(.int .i64 (0:Int)),(.slice none 0 0)]:=⟨fun _ _=>alr (z:=.agg #[(.int .i64 (0:Int)),(.int .i64 (0:Int)),(.slice none 0 0)]) (by kernel_rfl) rfl rfl⟩
instance:Zc Tryz.prog 131 [(.string ByteArray.empty),(.int .i64 (0:Int)),(.int .i64 (0:Int)),(.int .i64 (0:Int)),(.slice none 0 0),(.int .i64 (0:Int)),(.int .i64 (0:Int)),(.slice none 0 0),(.int .i64 (0:Int)),(.bool false)]:=⟨fun _ _=>alr (z:=.agg #[(.string ByteArray.empty),(.int .i64 (0:Int)),(.int .i64 (0:Int)),(.int .i64 (0:Int)),(.slice none 0 0),(.int .i64 (0:Int)),(.int .i64 (0:Int)),(.slice none 0 0),(.int .i64 (0:Int)),(.bool false)]) (by kernel_rfl) rfl rfl⟩
instance:Zc Tryz.prog 146 [(.map none)]:=⟨fun _ _=>alr (z:=(.map none)) (by kernel_rfl) rfl rfl⟩
instance:Zc Tryz.prog 198 [(.slice none 0 0),(.int .i64 (0:Int))]:=⟨fun _ _=>alr (z:=.agg #[(.slice none 0 0),(.int .i64 (0:Int))]) (by kernel_rfl) rfl rfl⟩
instance:Zc Tryz.prog 215 [(.int .i64 (0:Int)),(.slice none 0 0),(.slice none 0 0)]:=⟨fun _ _=>alr (z:=.agg #[(.int .i64 (0:Int)),(.slice none 0 0),(.slice none 0 0)]) (by kernel_rfl) rfl rfl⟩
instance:Zc Tryz.prog 262 [.nilFunc,.nilFunc,.nilFunc]:=⟨fun _ _=>alr (z:=.agg #[.nilFunc,.nilFunc,.nilFunc]) (by kernel_rfl) rfl rfl⟩
instance:Zc Tryz.prog 304 [(.int .i64 (0:Int)),(.int .i64 (0:Int))]:=⟨fun _ _=>alr (z:=.agg #[(.int .i64 (0:Int)),(.int .i64 (0:Int))]) (by kernel_rfl) rfl rfl⟩
instance:Zc Tryz.prog 378 [.nilFunc,.nilFunc,.nilFunc]:=⟨fun _ _=>alr (z:=.agg #[.nilFunc,.nilFunc,.nilFunc]) (by kernel_rfl) rfl rfl⟩
instance:Smz Int:=⟨rfl⟩
instance:Smz Bool:=⟨rfl⟩
instance:Smz ByteArray:=⟨rfl⟩
instance:Smz Stroke:=⟨rfl⟩
instance:Smz Signal:=⟨rfl⟩
instance:Smz Step:=⟨rfl⟩
instance:Smz State:=⟨rfl⟩
instance:Smz Event:=⟨rfl⟩
instance:Smz Expr:=⟨rfl⟩
instance {α:Type} [Rep α]:Smz (List α):=⟨rfl⟩
end Go.Pn
namespace Go.Pn
theorem I.{u} {α : Sort u} {a : α} : a = a := rfl
abbrev nz : Go.Value := .slice none 0 0
end Go.Pn
