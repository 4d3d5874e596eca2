import Derived.WalkKit
import Derived.RangeFuncIn
import Derived.RangeFuncLeaves
import Derived.TacticsIn
import Derived.OrdersIn
import Derived.ControlIn
import Derived.WalkSpells
import Derived.Orders
import Derived.ChangeArms
import Derived.ChangeSame
import Derived.ProofKit
import Derived.RowKit
import Derived.Below
import Derived.WideKeyArgs
import Derived.OpenShut
import Derived.LaidMore
import Derived.Lay
import Derived.SevenTiedAt
import Derived.Stop.Joined
import Derived.Test.YtokjdeanofohoaaGreatDoorProg
import Derived.Maps.AppendAt
import Derived.Laws.OwnMore
import Derived.Laws.StructEq
import Derived.Laws.MakeOwn
import Derived.Laws.Runes
import Derived.MapKept
import Derived.WideKeyRuns
import Derived.ChangeKeysEq
import Derived.Lib.AppendZeros
import Derived.Deep.Draws
import Derived.Ground.NamesProg
import Derived.Shelf.Sort.Plain
import Derived.Shelf.Slices.In.SortNone
import Derived.Shelf.Slices.CompactI
import Derived.Shelf.Strconv.Itoa3
import Derived.Shelf.Bits.Mul64
import Derived.RangeFuncRecord
import Derived.Laws.CopyRow
import Derived.Laws.RangeAny
import Derived.Lib.Strings
import Derived.Lib.Slices
import Derived.Lib.Walk
import Derived.Lib.Builder
import Derived.Lib.AppendStr
import Derived.Lib.UnsafeStr
import Derived.Lib.MakeNoZero
import Derived.Lib.LaidTab
import Derived.Stop.LaidErr
set_option synthInstance.checkSynthOrder false
set_option synthInstance.maxSize 10000
set_option synthInstance.maxHeartbeats 400000
set_option maxRecDepth 100000
set_option maxHeartbeats 4000000
set_option linter.unusedVariables false
set_option linter.unusedSimpArgs false
set_option linter.defProp false
namespace Go
def ER:=@Go.Result.andThen_ok
def ES:=@List.getD_eq_getElem?_getD
def ET:=@List.length_append
def EU:=@Go.Sem.run_bind
def EV:=@List.getElem?_append_right
def EW:=@Go.Sem.run_pure
def EY:=@List.getElem?_eq_some_iff
def EZ:=@Array.getD_eq_getD_getElem?
def E3:=@Bool.and_eq_true
def E4:=@List.mem_range
def E5:=@List.getElem?_append_left
def E6:=@Array.getElem?_eq_some_iff
def E7:=@List.any_eq_true
def E8:=@List.all_eq_true
def E9:=@List.getElem_mem
def FA:=@Nat.le_of_ble_eq_true
def FB:=@List.getElem?_range
def FC:=@List.map_cons
def FD:=@List.getElem?_map
def FE:=@List.mem_map
def FG:=@List.mem_cons
def FH:=@Nat.le_refl
def FJ:=@List.mem_append_left
def FK:=@List.mem_append_right
def FL:=@List.length_map
def FM:=@List.append_assoc
def FN:=@List.drop_eq_nil_of_le
def FO:=@List.map_toArray
def FP:=@List.mem_of_getElem?
def FQ:=@List.mem_append
def FR:=@List.mem_cons_of_mem
def FS:=@Nat.lt_of_lt_of_le
def FT:=@Bool.eq_iff_iff
def FU:=@Nat.eq_or_lt_of_le
def FW:=@List.map_nil
def FX:=@Bool.not_eq_true'
def FY:=@List.getElem?_eq_getElem
def FZ:=@Array.getElem?_setIfInBounds_ne
def F0:=@List.length_range
def F4:=@List.any_eq_false
def F5:=@List.drop_eq_getElem_cons
def F6:=@Nat.le_trans
def F7:=@Int.toNat_natCast
def F8:=@Nat.ne_of_beq_eq_false
def F9:=@List.range_succ
def GA:=@List.append_nil
def GB:=@List.nodup_nil
def GC:=@List.getElem?_eq_none
def GD:=@List.mem_cons_self
def GE:=@Nat.lt_or_ge
def GF:=@List.findIdx?_eq_some_iff_getElem
def GG:=@List.drop_zero
def GH:=@Nat.zero_le
def GJ:=@List.mem_singleton
def GK:=@List.getElem?_replicate
def GL:=@List.getElem?_of_mem
def GM:=@List.getElem?_set_self
def GN:=@Bool.and_true
def GO:=@List.mem_iff_getElem?
def GP:=@Option.bind_eq_some_iff
def GQ:=@List.map_append
def GR:=@List.length_set
def GS:=@Bool.true_and
def GT:=@List.findIdx?_eq_none_iff
def GU:=@List.mem_filterMap
def GV:=@Nat.zero_add
def GW:=@Option.isSome_iff_exists
def GX:=@Bool.not_true
def GY:=@List.length_cons
def GZ:=@List.getElem?_take_of_lt
def G0:=@Nat.eq_of_beq_eq_true
def G1:=@List.nil_append
def G2:=@List.mem_filter
def G3:=@Nat.add_mul
def G4:=@Array.toList_map
def G5:=@Nat.add_sub_cancel
def G6:=@List.getElem?_set_ne
def G7:=@Bool.false_or
def G8:=@Bool.or_eq_true
def G9:=@Array.getElem?_eq_getElem
def HA:=@Option.getD_some
def HB:=@List.length_singleton
def HC:=@Bool.or_false
def HD:=@Bool.and_false
def HE:=@List.eq_nil_of_length_eq_zero
def HF:=@List.take_add_one
def HG:=@List.size_toArray
def HH:=@List.flatMap_append
def HJ:=@Option.bind_some
def HK:=@List.pairwise_cons
def HL:=@Array.getElem?_toList
def HM:=@Bool.and_eq_false_iff
def HN:=@List.length_nil
def HO:=@List.ext_getElem?
def HP:=@Bool.or_eq_false_iff
def HQ:=@Nat.mul_one
def HR:=@Nat.sub_self
def HS:=@Nat.lt_trichotomy
def HT:=@List.length_eq_zero_iff
def HU:=@List.take_of_length_le
def HV:=@Array.getElem?_setIfInBounds
def HW:=@List.all_cons
def HX:=@Bool.not_false
def HY:=@List.mem_of_mem_take
def HZ:=@List.mem_flatMap
def H0:=@List.cons_append
def H1:=@Nat.add_zero
def H2:=@Nat.mod_eq_of_lt
def H3:=@Nat.le_add_right
def H4:=@List.foldl_cons
def H5:=@List.filter_append
def H6:=@Go.World.putObj_heap_other
def H7:=@Nat.eq_zero_or_pos
def H8:=@List.take_zero
def H9:=@List.nodup_append
def JA:=@List.take_length
def JB:=@List.length_take
def JC:=@List.getElem_map
def JD:=@List.mem_iff_getElem
def JE:=@List.any_append
def JF:=@List.map_eq_nil_iff
def JG:=@Array.getElem?_append_left
def JH:=@Bool.false_and
def JJ:=@List.getElem?_drop
def JK:=@List.find?_eq_none
def JL:=@Array.size_append
def JM:=@List.mem_of_find?_eq_some
def JN:=@List.exists_mem_of_ne_nil
def JO:=@List.any_cons
def JP:=@Option.map_none
def JQ:=@List.take_append_drop
def JR:=@List.length_filter_le
def JS:=@Nat.ble_eq_true_of_le
def JT:=@Array.toArray_toList
def JU:=@List.mem_of_mem_drop
def JV:=@List.length_pos_iff
def JW:=@Array.foldl_toList
def JX:=@Array.any_eq_true'
def JY:=@List.zip_cons_cons
def JZ:=@List.getElem?_take
def J0:=@Nat.sub_add_cancel
def J1:=@List.map_map
def J2:=@List.flatten_cons
def J3:=@List.flatMap_cons
end Go
namespace Go.Pn
theorem ob_ {α β : Type} {a : α} {f : α → Option β} : (some a).bind f = f a := rfl
theorem gE_ {α : Type} {l : List α} {i : Nat} (h : i < l.length) : l[i]? = some l[i] := FY h
theorem dt_ {p : Prop} [inst : Decidable p] (h : p) : decide p = true := decide_eq_true h
theorem df_ {p : Prop} [inst : Decidable p] (h : ¬p) : decide p = false := decide_eq_false h
theorem zf_ : ((0 : Int) != 0) = false := rfl
theorem nt_ : (!true) = false := rfl
theorem nf_ : (!false) = true := rfl
theorem cf_ {α : Type} {a b : α} : (bif false then a else b) = b := rfl
theorem ct_ {α : Type} {a b : α} : (bif true then a else b) = a := rfl
end Go.Pn
namespace Go.Pn
theorem kr_ {p : Prop} (h : p := by kernel_rfl) : p := h
theorem om_ {p : Prop} (h : p := by omega) : p := h
theorem As {p : Prop} (h : p := by simp) : p := h
theorem so_ {p : Prop} (h : p := by simp;omega) : p := h
end Go.Pn
namespace Go.Pn
open Go Go.RowKit
def Fr (ro:Option Nat):Fence:={ fn:=λ_=>True,depth:=none,alive:=false,round:=ro }
theorem A5 {ro:Option Nat} {n:Nat} {P:Program} {f:FuncId} {args:Array Value} {w:World} {R:Ending->World->Prop}:CallsIn (Fr ro) n P f args w R↔Calls P f args w R:=by
  have h:CallsIn (Fr ro) n P f args w R↔CallsIn Fence.wide n P f args w R:=Iff.rfl;exact h.trans callsIn_wide
theorem Tj {ro:Option Nat} {k:Nat}:(Fr ro).depth.isSome=true->1<=k:=λh=>by simp [Fr] at h
structure Ext (M:Nat->Prop) (w w':World):Prop where
  os:w'.os=w.os
  tape:w'.tape=w.tape
  output:w'.output=w.output
  size:w.heap.size<=w'.heap.size
  block:∀ k,k < w.heap.size->¬ M k->w'.heap[k]?=w.heap[k]?
  dr:w.drawn<=w'.drawn
def No:Nat->Prop:=λ_=>False
theorem Ext.refl (M:Nat->Prop) (w:World):Ext M w w:=⟨rfl,rfl,rfl,FH _,λ_ _ _=>rfl,FH _⟩
theorem Ext.trans {M:Nat->Prop} {a b c:World} (h:Ext M a b) (k:Ext M b c):Ext M a c:=
  ⟨k.os.trans h.os,k.tape.trans h.tape,k.output.trans h.output,F6 h.size k.size,
   λi hi hm=>(k.block i (FS hi h.size) hm).trans (h.block i hi hm),F6 h.dr k.dr⟩
theorem Ext.mono {M M':Nat->Prop} {w w':World} (h:Ext M w w') (hM:∀ k,k < w.heap.size->M k->M' k):Ext M' w w':=
  ⟨h.os,h.tape,h.output,h.size,λk hk hm=>h.block k hk λhk'=>hm (hM k hk hk'),h.dr⟩
theorem Ext.no {M:Nat->Prop} {w w':World} (h:Ext No w w'):Ext M w w':=h.mono λ_ _ f=>f.elim
theorem Ext.drew (M:Nat->Prop) (w:World):Ext M w w.drew:=⟨rfl,rfl,rfl,FH _,λ_ _ _=>rfl,Nat.le_succ _⟩
theorem Ext.drawn (M:Nat->Prop) (w:World) (n:Nat) (h:w.drawn<=n):Ext M w { w with drawn:=n }:=⟨rfl,rfl,rfl,FH _,λ_ _ _=>rfl,h⟩
theorem Ext.alloc (M:Nat->Prop) (w:World) (o:Obj):Ext M w (w.alloc o):=
  ⟨rfl,rfl,rfl,by simp,λk hk _=>Below.heap_alloc w o k hk,FH _⟩
theorem Ext.below {w w':World} (h:Ext No w w'):Below w.heap.size w w':=
  ⟨h.os,h.tape,h.output,h.size,λk hk=>h.block k hk id⟩
theorem A4 {w:World} {b o:Nat} {v:Value} (h:w.cell? ⟨b,o,none⟩=some v):b < w.heap.size:=by
  unfold World.cell? at h;rcases GE b w.heap.size with h1 | h1
  · exact h1
  · simp [Array.getElem?_eq_none h1] at h
def Cl (M:Nat->Prop) (w:World) (b o:Nat) (v:Value):Prop:=¬ M b/\w.cell? ⟨b,o,none⟩=some v
theorem Cl.ext {M:Nat->Prop} {w w':World} {b o:Nat} {v:Value} (h:Cl M w b o v) (e:Ext M w w'):Cl M w' b o v:=
  ⟨h.1,by rw [← h.2];exact World.cell?_of_block (w:=w) (e.block b (A4 h.2) h.1)⟩
theorem Cl.sub {M M':Nat->Prop} {w:World} {b o:Nat} {v:Value} (h:Cl M w b o v) (s:∀ k,k < w.heap.size->M' k->M k):Cl M' w b o v:=
  ⟨λhm=>h.1 (s b (A4 h.2) hm),h.2⟩
class Rep (α:Type) where
  sz:Nat
  agg:Bool
  rep:(Nat->Prop)->World->List Value->α->Prop
  len:∀ {M w cs x},rep M w cs x->cs.length=sz
  ext:∀ {M w w' cs x},rep M w cs x->Ext M w w'->rep M w' cs x
  sub:∀ {M M' w cs x},rep M w cs x->(∀ k,k < w.heap.size->M' k->M k)->rep M' w cs x
  one:∀ {M w cs x},rep M w cs x->∀ c∈cs,c.oneCell'=true
  flat:agg=false->sz=1
def mk (agg:Bool) (cs:List Value):Value:=if agg then .agg cs.toArray else cs.headD undef
def V {α:Type} [Rep α] (x:α) (M:Nat->Prop) (w:World) (v:Value):Prop:=∃ cs,v=mk (Rep.agg α) cs/\Rep.rep M w cs x
def Cls (M:Nat->Prop) (w:World) (b o:Nat) (cs:List Value):Prop:=∀ j v,cs[j]?=some v->Cl M w b (o + j) v
def Pl {α:Type} [Rep α] (x:α) (M:Nat->Prop) (w:World) (b o:Nat):Prop:=∃ cs,Cls M w b o cs/\Rep.rep M w cs x
theorem Cls.ext {M:Nat->Prop} {w w':World} {b o:Nat} {cs:List Value} (h:Cls M w b o cs) (e:Ext M w w'):Cls M w' b o cs:=
  λj v hj=>(h j v hj).ext e
theorem Cls.sub {M M':Nat->Prop} {w:World} {b o:Nat} {cs:List Value} (h:Cls M w b o cs) (s:∀ k,k < w.heap.size->M' k->M k):Cls M' w b o cs:=
  λj v hj=>(h j v hj).sub s
theorem Cls.append {M:Nat->Prop} {w:World} {b o:Nat} {cs ds:List Value} (h:Cls M w b o (cs ++ ds)):Cls M w b o cs/\Cls M w b (o + cs.length) ds:=by
  refine ⟨λj v hj=>h j v ?_,λj v hj=>?_⟩
  · rw [E5]
    · exact hj
    · rcases GE j cs.length with h1 | h1
      · exact h1
      · simp [GC h1] at hj
  · have:=h (cs.length + j) v (by rw [EV om_];simpa using hj)
    rwa [Nat.add_assoc]
section
variable {α:Type} [Rep α] {x:α} {M M':Nat->Prop} {w w':World} {v:Value} {b o:Nat}
theorem V.ext (h:V x M w v) (e:Ext M w w'):V x M w' v:=let ⟨cs,hv,hr⟩:=h;⟨cs,hv,Rep.ext hr e⟩
theorem V.sub (h:V x M w v) (s:∀ k,k < w.heap.size->M' k->M k):V x M' w v:=let ⟨cs,hv,hr⟩:=h;⟨cs,hv,Rep.sub hr s⟩
theorem Pl.ext (h:Pl x M w b o) (e:Ext M w w'):Pl x M w' b o:=let ⟨cs,hv,hr⟩:=h;⟨cs,hv.ext e,Rep.ext hr e⟩
theorem Pl.sub (h:Pl x M w b o) (s:∀ k,k < w.heap.size->M' k->M k):Pl x M' w b o:=let ⟨cs,hv,hr⟩:=h;⟨cs,hv.sub s,Rep.sub hr s⟩
end
instance:Rep Bool where
  sz:=1
  agg:=false
  rep _ _ cs x:=cs=[.bool x]
  len h:=by rw [h];rfl
  ext h _:=h
  sub h _:=h
  one h:=by rw [h];simp [Value.oneCell']
  flat _:=rfl
instance:Rep Int where
  sz:=1
  agg:=false
  rep _ _ cs x:=cs=[.int .i64 x]
  len h:=by rw [h];rfl
  ext h _:=h
  sub h _:=h
  one h:=by rw [h];simp [Value.oneCell']
  flat _:=rfl
instance:Rep UInt8 where
  sz:=1
  agg:=false
  rep _ _ cs x:=cs=[.int .u8 x.toNat]
  len h:=by rw [h];rfl
  ext h _:=h
  sub h _:=h
  one h:=by rw [h];simp [Value.oneCell']
  flat _:=rfl
instance:Rep ByteArray where
  sz:=1
  agg:=false
  rep _ _ cs x:=cs=[.string x]
  len h:=by rw [h];rfl
  ext h _:=h
  sub h _:=h
  one h:=by rw [h];simp [Value.oneCell']
  flat _:=rfl
def Row {α:Type} [Rep α] (M:Nat->Prop) (w:World) (b:Nat):Nat->List α->Prop
  | _,[]=>True
  | o,x :: xs=>Pl x M w b o/\Row M w b (o + Rep.sz α) xs
section
variable {α:Type} [Rep α] {M M':Nat->Prop} {w w':World} {b:Nat}
theorem Row.ext (e:Ext M w w'):∀ {xs:List α} {o:Nat},Row M w b o xs->Row M w' b o xs
  | [],_,_=>trivial
  | _ :: _,_,h=>⟨h.1.ext e,Row.ext e h.2⟩
theorem Row.sub (s:∀ k,k < w.heap.size->M' k->M k):∀ {xs:List α} {o:Nat},Row M w b o xs->Row M' w b o xs
  | [],_,_=>trivial
  | _ :: _,_,h=>⟨h.1.sub s,Row.sub s h.2⟩
theorem Row.get:∀ {xs:List α} {o i:Nat} {x:α},Row M w b o xs->xs[i]?=some x->Pl x M w b (o + i * Rep.sz α)
  | [],_,_,_,_,hx=>by simp at hx
  | y :: ys,o,0,x,h,hx=>by
    obtain rfl:y=x:=by simpa using hx
    simpa using h.1
  | y :: ys,o,i + 1,x,h,hx=>by
    have:=Row.get (i:=i) h.2 (by simpa using hx)
    rwa [show o + (i + 1) * Rep.sz α=o + Rep.sz α + i * Rep.sz α by rw [G3];omega]
theorem Row.of_get:∀ {xs:List α} {o:Nat},(∀ i x,xs[i]?=some x->Pl x M w b (o + i * Rep.sz α))->Row M w b o xs
  | [],_,_=>trivial
  | y :: ys,o,h=>by
    refine ⟨by simpa using h 0 y rfl,Row.of_get λi x hx=>?_⟩;have:=h (i + 1) x (by simpa using hx)
    rwa [show o + (i + 1) * Rep.sz α=o + Rep.sz α + i * Rep.sz α by rw [G3];omega] at this
end
def Sl {α:Type} [Rep α] (M:Nat->Prop) (w:World) (v:Value) (xs:List α):Prop:=
  ∃ a cap,v=.slice a xs.length (cap + xs.length)/\(xs=[]\/∃ b o,a=some ⟨b,o,none⟩/\Row M w b o xs)
instance {α:Type} [Rep α]:Rep (List α) where
  sz:=1
  agg:=false
  rep M w cs xs:=∃ v,cs=[v]/\Sl M w v xs
  len h:=by obtain ⟨v,rfl,_⟩:=h;rfl
  ext h e:=by
    obtain ⟨v,rfl,a,cap,rfl,h⟩:=h;exact ⟨_,rfl,a,cap,rfl,h.imp id λ⟨b,o,ha,hr⟩=>⟨b,o,ha,hr.ext e⟩⟩
  sub h s:=by
    obtain ⟨v,rfl,a,cap,rfl,h⟩:=h;exact ⟨_,rfl,a,cap,rfl,h.imp id λ⟨b,o,ha,hr⟩=>⟨b,o,ha,hr.sub s⟩⟩
  one h:=by obtain ⟨v,rfl,a,cap,rfl,h⟩:=h;simp [Value.oneCell']
  flat _:=rfl
instance {α β:Type} [Rep α] [Rep β]:Rep (α×β) where
  sz:=Rep.sz α + Rep.sz β
  agg:=true
  rep M w cs x:=∃ c d,cs=c ++ d/\Rep.rep M w c x.1/\Rep.rep M w d x.2
  len h:=by obtain ⟨c,d,rfl,h1,h2⟩:=h;rw [ET,Rep.len h1,Rep.len h2]
  ext h e:=by obtain ⟨c,d,rfl,h1,h2⟩:=h;exact ⟨c,d,rfl,Rep.ext h1 e,Rep.ext h2 e⟩
  sub h s:=by obtain ⟨c,d,rfl,h1,h2⟩:=h;exact ⟨c,d,rfl,Rep.sub h1 s,Rep.sub h2 s⟩
  one h:=by
    obtain ⟨c,d,rfl,h1,h2⟩:=h;intro v hv;rcases FQ.1 hv with h | h
    · exact Rep.one h1 v h
    · exact Rep.one h2 v h
  flat h:=by cases h
abbrev Rep.via {α β:Type} [Rep β] (f:α->β):Rep α where
  sz:=Rep.sz β
  agg:=true
  rep M w cs x:=Rep.rep M w cs (f x)
  len h:=Rep.len h
  ext h e:=Rep.ext h e
  sub h s:=Rep.sub h s
  one h:=Rep.one h
  flat h:=by cases h
end Go.Pn
namespace Go.Pn
open Go Go.RowKit
variable {rr:Option Nat}
structure Ent where
 p:List Nat->(Nat->Prop)->World->Value->Prop
 st:∀ {F M w w' v},p F M w v->Ext (λk=>M k/\k ∉ F) w w'->p F M w' v
 sb:∀ {F M M' w v},p F M w v->(∀ k,k < w.heap.size->M' k->M k)->p F M' w v
abbrev Cx:=List (Nat×Ent)
def _root_.Go.Act.get (a:Act) (t:Nat):Value:=a.tmps.getD t undef
def Am:Cx->Nat->Option Ent
 | [],_=>none
 | (s,e) :: Γ,t=>match Nat.beq s t with | true=>some e | false=>Am Γ t
abbrev Mp:=Nat->Option Ent
structure Fm where
 k:Nat->Prop
 b:Nat->Prop
 ds:List Deferred
structure StM (M0:Fm) (w0:World) (n:Nat) (g:Mp) (a:Act) (w:World) (M:Nat->Prop) (φ:Nat->List Nat):Prop where
 holds:∀ t e,g t=some e->e.p (φ t) M w (a.get t)
 own:∀ t,(g t).isSome=true->(φ t).Nodup/\∀ k∈φ t,M k/\(w0.heap.size<=k\/M0.b k)
 apart:∀ t s,t≠s->(g t).isSome=true->(g s).isSome=true->∀ k∈φ t,k ∉ φ s
 sub:∀ k,M0.k k->M k
 bd:∀ k,M k->k < w.heap.size
 fr:Ext M0.b w0 w
 sz:a.tmps.size=n
 df:a.defers=M0.ds
def StF (M0:Fm) (w0:World) (n:Nat) (g:Mp) (a:Act) (w:World):Prop:=∃ M φ,StM M0 w0 n g a w M φ
abbrev St (M0:Fm) (w0:World) (n:Nat) (Γ:Cx) (a:Act) (w:World):Prop:=StF M0 w0 n (Am Γ) a w
theorem _root_.Go.Act.get_put_ne {a:Act} {d t:Nat} {v:Value} (h:d≠t):(a.put (some d) v).get t=a.get t:=by
 simp [Act.get,Act.put,EZ,FZ h]
theorem _root_.Go.Act.get_put_eq {a:Act} {d:Nat} {v:Value} (h:d < a.tmps.size):(a.put (some d) v).get d=v:=by
 simp [Act.get,Act.put,EZ,h]
theorem _root_.Go.Act.size_put {a:Act} {d:Option Nat} {v:Value}:(a.put d v).tmps.size=a.tmps.size:=by
 cases d <;> simp [Act.put]
theorem _root_.Go.Act.defers_put {a:Act} {d:Option Nat} {v:Value}:(a.put d v).defers=a.defers:=by
 cases d <;> rfl
theorem StF.less {M0:Fm} {w0:World} {n:Nat} {g g':Mp} {a:Act} {w:World} (h:StF M0 w0 n g a w) (s:∀ t e,g' t=some e->g t=some e):StF M0 w0 n g' a w:=by
 obtain ⟨M,φ,h⟩:=h;have hs:∀ t,(g' t).isSome=true->(g t).isSome=true:=λt ht=>by
  obtain ⟨e,he⟩:=GW.1 ht;rw [s t e he];rfl
 exact ⟨M,φ,λt e he=>h.holds t e (s t e he),λt ht=>h.own t (hs t ht),λt s' hne ht hs'=>h.apart t s' hne (hs t ht) (hs s' hs'),h.sub,h.bd,h.fr,h.sz,h.df⟩
def pick (Γ:Cx):List Nat->Cx
 | []=>[]
 | t :: l=>match Am Γ t with
  | some e=>(t,e) :: pick Γ l
  | none=>pick Γ l
theorem Bk {Γ:Cx} {t:Nat} {e:Ent}:∀ {l:List Nat},Am (pick Γ l) t=some e->Am Γ t=some e
 | [],h=>by simp [pick,Am] at h
 | s :: l,h=>by
  unfold pick at h;split at h
  ·rename_i e' he;unfold Am at h;split at h
   ·rename_i hb;rw [← G0 hb,he];exact h
   ·exact Bk h
  ·exact Bk h
theorem St.pick {M0:Fm} {w0:World} {n:Nat} {Γ:Cx} {a:Act} {w:World} (h:St M0 w0 n Γ a w) (l:List Nat):St M0 w0 n (Pn.pick Γ l) a w:=
 StF.less h λ_ _=>Bk
def RunsR (P:Program) (R:Value->World->Prop):Result Next->Prop
 | .ok (.value v) w'=>R v w'
 | .ok .skip w'=>R undef w'
 | .ok (.enter f args) w'=>Calls P f args w' λe w''=>∃ v,e=.returned v/\R v w''
 | _=>False
def Bh (P:Program) (ρ:Operand->Value) (o:Oper) (w:World) (R:Value->World->Prop):Prop:=RunsR P R ((execOp ρ o).run P w)
theorem Bh.mono {P:Program} {ρ:Operand->Value} {o:Oper} {w:World} {R R':Value->World->Prop} (h:Bh P ρ o w R) (hr:∀ v w',R v w'->R' v w'):Bh P ρ o w R':=by
 unfold Bh at *;generalize (execOp ρ o).run P w=r at *;cases r with
 | ok n w'=>
  cases n <;> first | exact hr _ _ h | exact h.elim | exact Calls.mono h λe w'' ⟨v,he,hv⟩=>⟨v,he,hr _ _ hv⟩
 | halt x w'=>exact h.elim
theorem Bh.upon {P:Program} {o:Oper} {a:Act} {w:World} {K:Act->World->Prop} {Q:Exit->Act->World->Prop} (h:Bh P a.eval o w λv w'=>K (a.put o.dst v) w'):o.wpIn (Fr rr) 0 P a w K Q:=by
 refine ⟨λ_ _=>trivial,?_⟩;have hs:(o.semAt rr a.eval).run P w=(execOp a.eval o).run P w:=by
  unfold Oper.semAt;cases rr with
  | none=>rfl
  | some l=>
   cases ho:o.op with
   | defer c=>
    exfalso;unfold Bh at h;simp only [execOp,ho,EU] at h;generalize (resolve a.eval c o.type).run P w=r at h;cases r <;> exact h
   | _=>rfl
 rw [show (Fr rr).round=rr from rfl,hs];unfold Bh at h;generalize (execOp a.eval o).run P w=r at *;cases r with
 | ok n w'=>
  cases n <;> first | exact h | exact h.elim | exact ⟨Tj,A5.2 (Calls.mono h λe w'' ⟨v,he,hv⟩=>by subst he; exact hv)⟩
 | halt x w'=>exact h.elim
theorem Bh.val {P:Program} {ρ:Operand->Value} {o:Oper} {w w':World} {v:Value} {R:Value->World->Prop} (h:(execOp ρ o).run P w=.ok (.value v) w') (hr:R v w'):Bh P ρ o w R:=by
 unfold Bh;rw [h];exact hr
theorem Bh.skip {P:Program} {ρ:Operand->Value} {o:Oper} {w w':World} {R:Value->World->Prop} (h:(execOp ρ o).run P w=.ok .skip w') (hr:R undef w'):Bh P ρ o w R:=by
 unfold Bh;rw [h];exact hr
structure Rd (g:Mp) (M:Nat->Prop) (w:World) (ρ:Operand->Value):Prop where
 tmp:∀ t e,g t=some e->∃ F,e.p F M w (ρ (.tmp t))
 con:∀ v,ρ (.const v)=v
 fn:∀ f,ρ (.func f)=.func (.func f) #[] #[]
 bd:∀ k,M k->k < w.heap.size
 glo:∀ g,ρ (.global g)=.pointer (some ⟨g,0,none⟩)
def Gives (e:Ent) (M:Nat->Prop) (w:World) (v:Value) (w':World):Prop:=
 Ext No w w'/\∃ F,F.Nodup/\(∀ k∈F,w.heap.size<=k/\k < w'.heap.size)/\e.p F (λk=>M k\/k∈F) w' v
def ORF (P:Program) (op:Op) (ty:TypeId) (g:Mp) (e:Ent):Prop:=
 ∀ (d:Option Tmp) (pos:String) (aft:Array Edge) (gd:Option (Nat×Bool)) (ρ:Operand->Value) (M:Nat->Prop) (w:World),Rd g M w ρ ->
  Bh P ρ ⟨d,op,ty,pos,aft,gd⟩ w (Gives e M w)
abbrev OR (P:Program) (op:Op) (ty:TypeId) (Γ:Cx) (e:Ent):Prop:=ORF P op ty (Am Γ) e
theorem StM.rd {M0:Fm} {w0:World} {n:Nat} {g:Mp} {a:Act} {w:World} {M:Nat->Prop} {φ:Nat->List Nat} (h:StM M0 w0 n g a w M φ):Rd g M w a.eval:=
 ⟨λt e hl=>⟨φ t,h.holds t e hl⟩,λ_=>rfl,λ_=>rfl,h.bd,λ_=>rfl⟩
def put (d:Nat) (e:Ent) (g:Mp):Mp:=λt=>if t=d then some e else g t
theorem Aj (d:Nat) (e:Ent) (Γ:Cx):Am ((d,e) :: Γ)=put d e (Am Γ):=by
 funext t
 simp only [Am,put];split
 ·rename_i hb;rw [if_pos (G0 hb).symm]
 ·rename_i hb;rw [if_neg];intro e;subst e;simp at hb
theorem StM.gives {M0:Fm} {w0:World} {n:Nat} {g:Mp} {a:Act} {w w':World} {M:Nat->Prop} {φ:Nat->List Nat} {d:Nat} {e:Ent} {v:Value}
  (h:StM M0 w0 n g a w M φ) (hg:Gives e M w v w') (hn:d < n):StF M0 w0 n (put d e g) (a.put (some d) v) w':=by
 obtain ⟨hx,F,hn1,hf1,hp⟩:=hg;refine ⟨λk=>M k\/k∈F,λt=>if t=d then F else φ t,?_,?_,?_,λk hk=>.inl (h.sub k hk),?_,h.fr.trans hx.no,by rw [Act.size_put];exact h.sz,by rw [Act.defers_put];exact h.df⟩
 ·intro t e' he;unfold put at he;by_cases ht:t=d
  ·subst ht;simp only [if_true,Option.some.injEq] at he ⊢;subst he;rw [Act.get_put_eq (by rw [h.sz];exact hn)];exact hp
  ·rw [if_neg ht] at he;simp only [if_neg ht];rw [Act.get_put_ne (Ne.symm ht)];refine Ent.st _ (Ent.sb _ (h.holds t e' he) (M':=λk=>M k\/k∈F) ?_) (hx.mono λ_ _ f=>f.elim);rintro k hk (hm | hm)
   ·exact hm
   ·exact absurd (hf1 k hm).1 om_
 ·intro t ht;by_cases hd:t=d
  ·subst hd;simp only [if_true];exact ⟨hn1,λk hk=>⟨.inr hk,.inl (F6 h.fr.size (hf1 k hk).1)⟩⟩
  ·simp only [if_neg hd];have:=h.own t (by simpa [put,hd] using ht);exact ⟨this.1,λk hk=>⟨.inl (this.2 k hk).1,(this.2 k hk).2⟩⟩
 ·have key:∀ s,s≠d->((put d e g) s).isSome=true->∀ k∈φ s,k ∉ F:=λs hs hsome k hk hkF=>by
   have:=h.bd k ((h.own s (by simpa [put,hs] using hsome)).2 k hk).1;have:=(hf1 k hkF).1;omega
  intro t s hne ht hs;by_cases hd:t=d
  ·subst hd;simp only [if_true,if_neg (Ne.symm hne)];exact λk hk hk'=>key s (Ne.symm hne) hs k hk' hk
  ·by_cases hd':s=d
   ·subst hd';simp only [if_true,if_neg hd];exact λk hk=>key t hd ht k hk
   ·simp only [if_neg hd,if_neg hd'];exact h.apart t s hne (by simpa [put,hd] using ht) (by simpa [put,hd'] using hs)
 ·rintro k (hm | hm)
  ·exact FS (h.bd k hm) hx.size
  ·exact (hf1 k hm).2
theorem sq {P:Program} {M0:Fm} {w0:World} {n:Nat} {Γ:Cx} {ops:Array Oper} {Q:Exit->Act->World->Prop} {rest:List Oper} {d:Nat} {op:Op} {ty:TypeId} {pos:String} {aft:Array Edge} {e:Ent} {a:Act} {w:World}
  (hs:St M0 w0 n Γ a w) (ho:OR P op ty Γ e) (hn:Nat.blt d n=true)
  (k:∀ a' w',St M0 w0 n ((d,e) :: Γ) a' w'->wpListIn (Fr rr) 0 P ops Q rest a' w'):wpListIn (Fr rr) 0 P ops Q (⟨some d,op,ty,pos,aft,none⟩ :: rest) a w:=by
 refine wpListIn_plain rfl λK hK=>?_;obtain ⟨M,φ,h⟩:=hs;refine Bh.upon ((ho (some d) pos aft none a.eval M w h.rd).mono ?_);intro v w' hg;exact hK _ _ (k _ _ (by unfold St;rw [Aj];exact h.gives hg (FA hn)))
end Go.Pn
namespace Go.Pn
open Go Go.RowKit
def Va {α:Type} [Rep α] (x:α):Ent where
 p F M w v:=F=[]/\V x M w v
 st h e:=⟨h.1,h.2.ext (e.mono λ_ _ hk=>hk.1)⟩
 sb h s:=⟨h.1,h.2.sub s⟩
def Pt {α:Type} [Rep α] (x:α):Ent where
 p F M w v:=F=[]/\∃ b o,v=.pointer (some ⟨b,o,none⟩)/\Pl x M w b o
 st h e:=let ⟨hf,b,o,hv,hp⟩:=h;⟨hf,b,o,hv,hp.ext (e.mono λ_ _ hk=>hk.1)⟩
 sb h s:=let ⟨hf,b,o,hv,hp⟩:=h;⟨hf,b,o,hv,hp.sub s⟩
def Gd (b c:Bool) (e:Ent):Ent where
 p F M w v:=(b=c->e.p F M w v)/\(b≠c->F=[]/\v=undef)
 st h x:=⟨λhb=>e.st (h.1 hb) x,h.2⟩
 sb h s:=⟨λhb=>e.sb (h.1 hb) s,h.2⟩
def T2 (e1 e2:Ent):Ent where
 p F M w v:=∃ v1 v2 F1 F2,v=.tuple #[v1,v2]/\F=F1 ++ F2/\e1.p F1 M w v1/\e2.p F2 M w v2
 st h x:=by
  obtain ⟨v1,v2,F1,F2,hv,rfl,h1,h2⟩:=h;exact ⟨v1,v2,F1,F2,hv,rfl,e1.st h1 (x.mono λk _ hk=>⟨hk.1,λhm=>hk.2 (FJ _ hm)⟩),e2.st h2 (x.mono λk _ hk=>⟨hk.1,λhm=>hk.2 (FK _ hm)⟩)⟩
 sb h s:=let ⟨v1,v2,F1,F2,hv,hF,h1,h2⟩:=h;⟨v1,v2,F1,F2,hv,hF,e1.sb h1 s,e2.sb h2 s⟩
def T3 (e1 e2 e3:Ent):Ent where
 p F M w v:=∃ v1 v2 v3 F1 F2 F3,v=.tuple #[v1,v2,v3]/\F=F1 ++ (F2 ++ F3)/\e1.p F1 M w v1/\e2.p F2 M w v2/\e3.p F3 M w v3
 st h x:=by
  obtain ⟨v1,v2,v3,F1,F2,F3,hv,rfl,h1,h2,h3⟩:=h;exact ⟨v1,v2,v3,F1,F2,F3,hv,rfl,e1.st h1 (x.mono λk _ hk=>⟨hk.1,λhm=>hk.2 (FJ _ hm)⟩),
   e2.st h2 (x.mono λk _ hk=>⟨hk.1,λhm=>hk.2 (FK _ (FJ _ hm))⟩),
   e3.st h3 (x.mono λk _ hk=>⟨hk.1,λhm=>hk.2 (FK _ (FK _ hm))⟩)⟩
 sb h s:=let ⟨v1,v2,v3,F1,F2,F3,hv,hF,h1,h2,h3⟩:=h;⟨v1,v2,v3,F1,F2,F3,hv,hF,e1.sb h1 s,e2.sb h2 s,e3.sb h3 s⟩
def Od (Γ:Cx) (x:Operand) (e:Ent):Prop:=∀ ρ M w,Rd (Am Γ) M w ρ->∃ F,e.p F M w (ρ x)
section
variable {P:Program} {Γ:Cx} {ty:TypeId}
theorem t {n:Nat} {e:Ent} (h:Am Γ n=some e):Od Γ (.tmp n) e:=λ_ _ _ r=>r.tmp _ _ h
theorem ci {n:Int}:Od Γ (.const (.int .i64 n)) (Va n):=λρ _ _ r=>⟨[],rfl,[.int .i64 n],r.con _,rfl⟩
theorem cb {b:Bool}:Od Γ (.const (.bool b)) (Va b):=λρ _ _ r=>⟨[],rfl,[.bool b],r.con _,rfl⟩
theorem cs {s:ByteArray}:Od Γ (.const (.string s)) (Va s):=λρ _ _ r=>⟨[],rfl,[.string s],r.con _,rfl⟩
theorem tg {n:Nat} {b c:Bool} {e:Ent} (h:Am Γ n=some (Gd b c e)) (hb:b=c):Od Γ (.tmp n) e:=λ_ _ _ r=>let ⟨F,hF⟩:=r.tmp _ _ h;⟨F,hF.1 hb⟩
theorem OR.val {op:Op} {e:Ent} (h:∀ ρ M w,Rd (Am Γ) M w ρ->∃ v,(∀ d pos aft g,(execOp ρ ⟨d,op,ty,pos,aft,g⟩).run P w=.ok (.value v) w)/\e.p [] M w v):OR P op ty Γ e:=by
 intro d pos aft g ρ M w r;obtain ⟨v,hv,hp⟩:=h ρ M w r;refine Bh.val (hv d pos aft g) ⟨Ext.refl _ _,[],GB,λk hk=>by simp at hk,?_⟩;exact e.sb hp λk _ hk=>hk.elim id λh=>by simp at h
theorem Va.int {F:List Nat} {M:Nat->Prop} {w:World} {v:Value} {x:Int} (h:(Va x).p F M w v):v=.int .i64 x:=by
 obtain ⟨_,cs,rfl,hr⟩:=h;have:cs=[.int .i64 x]:=hr;subst this;rfl
theorem Va.bool {F:List Nat} {M:Nat->Prop} {w:World} {v:Value} {x:Bool} (h:(Va x).p F M w v):v=.bool x:=by
 obtain ⟨_,cs,rfl,hr⟩:=h;have:cs=[.bool x]:=hr;subst this;rfl
theorem Va.str {F:List Nat} {M:Nat->Prop} {w:World} {v:Value} {x:ByteArray} (h:(Va x).p F M w v):v=.string x:=by
 obtain ⟨_,cs,rfl,hr⟩:=h;have:cs=[.string x]:=hr;subst this;rfl
theorem Va.byte {F:List Nat} {M:Nat->Prop} {w:World} {v:Value} {x:UInt8} (h:(Va x).p F M w v):v=.int .u8 x.toNat:=by
 obtain ⟨_,cs,rfl,hr⟩:=h;have:cs=[.int .u8 x.toNat]:=hr;subst this;rfl
theorem Va.list {α:Type} [Rep α] {F:List Nat} {M:Nat->Prop} {w:World} {v:Value} {x:List α} (h:(Va x).p F M w v):Sl M w v x:=by
 obtain ⟨_,cs,rfl,v,rfl,hr⟩:=h;exact hr
theorem Va.mkInt {M:Nat->Prop} {w:World} {x:Int}:(Va x).p [] M w (.int .i64 x):=⟨rfl,[.int .i64 x],rfl,rfl⟩
theorem Va.mkBool {M:Nat->Prop} {w:World} {x:Bool}:(Va x).p [] M w (.bool x):=⟨rfl,[.bool x],rfl,rfl⟩
theorem Va.mkStr {M:Nat->Prop} {w:World} {x:ByteArray}:(Va x).p [] M w (.string x):=⟨rfl,[.string x],rfl,rfl⟩
theorem Va.mkByte {M:Nat->Prop} {w:World} {x:UInt8}:(Va x).p [] M w (.int .u8 x.toNat):=⟨rfl,[.int .u8 x.toNat],rfl,rfl⟩
theorem Va.mkList {α:Type} [Rep α] {M:Nat->Prop} {w:World} {v:Value} {x:List α} (h:Sl M w v x):(Va x).p [] M w v:=⟨rfl,[v],rfl,v,rfl,h⟩
theorem mv {x:Operand} {α:Type} [Rep α] {y:α} (h:Od Γ x (Va y)):OR P (.move x) ty Γ (Va y):=
 OR.val λρ M w r=>let ⟨_,hF⟩:=h ρ M w r;⟨ρ x,λ_ _ _ _=>rfl,rfl,hF.2⟩
theorem sa {x:Operand} {α:Type} [Rep α] {y:α} (h:Od Γ x (Va y)):OR P (.assign x) ty Γ (Va y):=
 OR.val λρ M w r=>let ⟨_,hF⟩:=h ρ M w r;⟨ρ x,λ_ _ _ _=>rfl,rfl,hF.2⟩
theorem mp {x:Operand} {α:Type} [Rep α] {y:α} (h:Od Γ x (Pt y)):OR P (.move x) ty Γ (Pt y):=
 OR.val λρ M w r=>let ⟨_,hF⟩:=h ρ M w r;⟨ρ x,λ_ _ _ _=>rfl,rfl,hF.2⟩
theorem nk {x:Operand} {α:Type} [Rep α] {y:α} (h:Od Γ x (Pt y)):OR P (.nilCheck x) ty Γ (Pt y):=
 OR.val λρ M w r=>by
  obtain ⟨_,_,b,o,hv,hp⟩:=h ρ M w r;exact ⟨ρ x,λ_ _ _ _=>by simp [execOp,hv,Sem.run,pure],rfl,b,o,hv,hp⟩
def wr (x:Int):Int:=IntKind.i64.wrap x
theorem bin {op:BinOp} {x y:Operand} {T T':TypeId} {m n:Int} {e:Ent} (hx:Od Γ x (Va m)) (hy:Od Γ y (Va n))
  (h:∀ w,∃ v,(binOp op T (.int .i64 m) (.int .i64 n)).run P w=.ok v w/\∀ M,e.p [] M w v):OR P (.binOp op T x y T') ty Γ e:=by
 refine OR.val λρ M w r=>?_;obtain ⟨_,h1⟩:=hx ρ M w r;obtain ⟨_,h2⟩:=hy ρ M w r;obtain ⟨v,hv,hp⟩:=h w;refine ⟨v,λ_ _ _ _=>?_,hp M⟩;simp only [execOp,Va.int h1,Va.int h2];have:∀ o,(eqGuard o T x y (.int .i64 m) (.int .i64 n)).run P w=.ok () w:=by
  intro o; unfold eqGuard; cases o <;> rfl
 simp only [EU,this,ER,hv];rfl
theorem lt {x y:Operand} {T T':TypeId} {m n:Int} (hx:Od Γ x (Va m)) (hy:Od Γ y (Va n)):OR P (.binOp .lss T x y T') ty Γ (Va (decide (m < n))):=
 bin hx hy λw=>⟨_,rfl,λ_=>Va.mkBool⟩
theorem le {x y:Operand} {T T':TypeId} {m n:Int} (hx:Od Γ x (Va m)) (hy:Od Γ y (Va n)):OR P (.binOp .leq T x y T') ty Γ (Va (decide (m<=n))):=
 bin hx hy λw=>⟨_,rfl,λ_=>Va.mkBool⟩
theorem gt {x y:Operand} {T T':TypeId} {m n:Int} (hx:Od Γ x (Va m)) (hy:Od Γ y (Va n)):OR P (.binOp .gtr T x y T') ty Γ (Va (decide (m > n))):=
 bin hx hy λw=>⟨_,rfl,λ_=>Va.mkBool⟩
theorem ge {x y:Operand} {T T':TypeId} {m n:Int} (hx:Od Γ x (Va m)) (hy:Od Γ y (Va n)):OR P (.binOp .geq T x y T') ty Γ (Va (decide (m>=n))):=
 bin hx hy λw=>⟨_,rfl,λ_=>Va.mkBool⟩
theorem eq {x y:Operand} {T T':TypeId} {m n:Int} (hx:Od Γ x (Va m)) (hy:Od Γ y (Va n)):OR P (.binOp .eql T x y T') ty Γ (Va (m == n)):=
 bin hx hy λw=>⟨_,rfl,λ_=>Va.mkBool⟩
theorem ne {x y:Operand} {T T':TypeId} {m n:Int} (hx:Od Γ x (Va m)) (hy:Od Γ y (Va n)):OR P (.binOp .neq T x y T') ty Γ (Va (m != n)):=
 bin hx hy λw=>⟨_,rfl,λ_=>Va.mkBool⟩
theorem ad {x y:Operand} {T T':TypeId} {m n:Int} (hx:Od Γ x (Va m)) (hy:Od Γ y (Va n)):OR P (.binOp .add T x y T') ty Γ (Va (wr (m + n))):=
 bin hx hy λw=>⟨_,rfl,λ_=>Va.mkInt⟩
theorem sb {x y:Operand} {T T':TypeId} {m n:Int} (hx:Od Γ x (Va m)) (hy:Od Γ y (Va n)):OR P (.binOp .sub T x y T') ty Γ (Va (wr (m - n))):=
 bin hx hy λw=>⟨_,rfl,λ_=>Va.mkInt⟩
theorem ml {x y:Operand} {T T':TypeId} {m n:Int} (hx:Od Γ x (Va m)) (hy:Od Γ y (Va n)):OR P (.binOp .mul T x y T') ty Γ (Va (wr (m * n))):=
 bin hx hy λw=>⟨_,rfl,λ_=>Va.mkInt⟩
theorem OR.run {op:Op} {e:Ent} (h:∀ ρ M w,Rd (Am Γ) M w ρ->∃ v w',(∀ d pos aft g,(execOp ρ ⟨d,op,ty,pos,aft,g⟩).run P w=.ok (.value v) w')/\Ext No w w'/\∃ F,F.Nodup/\(∀ k∈F,w.heap.size<=k/\k < w'.heap.size)/\e.p F (λk=>M k\/k∈F) w' v):OR P op ty Γ e:=by
 intro d pos aft g ρ M w r;obtain ⟨v,w',hv,hx⟩:=h ρ M w r;exact Bh.val (hv d pos aft g) hx
theorem qu {x y:Operand} {T T':TypeId} {m n:Int} (hx:Od Γ x (Va m)) (hy:Od Γ y (Va n)) (h0:n≠0):OR P (.binOp .quo T x y T') ty Γ (Va (wr (m.tdiv n))):=
 bin hx hy λ_=>⟨_,by unfold binOp;simp [Op.intDiv,h0];rfl,λ_=>Va.mkInt⟩
theorem rm {x y:Operand} {T T':TypeId} {m n:Int} (hx:Od Γ x (Va m)) (hy:Od Γ y (Va n)) (h0:n≠0):OR P (.binOp .rem T x y T') ty Γ (Va (m.tmod n)):=
 bin hx hy λ_=>⟨_,by unfold binOp;simp [Op.intDiv,h0],λ_=>Va.mkInt⟩
theorem nt {x:Operand} {T:TypeId} {b:Bool} (hx:Od Γ x (Va b)):OR P (.unOp .not T x) ty Γ (Va (!b)):=
 OR.val λρ M w r=>let ⟨_,h⟩:=hx ρ M w r;⟨_,λ_ _ _ _=>by simp only [execOp,Va.bool h];rfl,Va.mkBool⟩
theorem pk {c x y:Operand} {b:Bool} {α:Type} [Rep α] {p q:α} (hc:Od Γ c (Va b)) (hx:Od Γ x (Va p)) (hy:Od Γ y (Va q)):OR P (.pick c x y) ty Γ (Va (bif b then p else q)):=by
 refine OR.val λρ M w r=>?_;obtain ⟨_,h⟩:=hc ρ M w r;obtain ⟨_,h1⟩:=hx ρ M w r;obtain ⟨_,h2⟩:=hy ρ M w r;refine ⟨if b then ρ x else ρ y,λ_ _ _ _=>by simp only [execOp,Va.bool h]; cases b <;> rfl,rfl,?_⟩
 cases b
 ·exact h2.2
 ·exact h1.2
theorem pa {c:Operand} {n:Nat} {b p r:Bool} (hc:Od Γ c (Va b)) (hx:Am Γ n=some (Gd b true (Va p))) (hr:b=true->p=r) (hr':b=false->r=false) :
  OR P (.pick c (.tmp n) (.const (.bool false))) ty Γ (Va r):=by
 refine OR.val λρ M w rd=>?_;obtain ⟨_,h⟩:=hc ρ M w rd;refine ⟨.bool r,λ_ _ _ _=>?_,Va.mkBool⟩;simp only [execOp,Va.bool h];cases b
 ·obtain rfl:=hr' rfl;rw [rd.con];rfl
 ·obtain ⟨F,hF⟩:=rd.tmp _ _ hx;rw [Va.bool (hF.1 rfl),hr rfl];rfl
theorem po {c:Operand} {n:Nat} {b p r:Bool} (hc:Od Γ c (Va b)) (hx:Am Γ n=some (Gd b false (Va p))) (hr:b=false->p=r) (hr':b=true->r=true) :
  OR P (.pick c (.const (.bool true)) (.tmp n)) ty Γ (Va r):=by
 refine OR.val λρ M w rd=>?_;obtain ⟨_,h⟩:=hc ρ M w rd;refine ⟨.bool r,λ_ _ _ _=>?_,Va.mkBool⟩;simp only [execOp,Va.bool h];cases b
 ·obtain ⟨F,hF⟩:=rd.tmp _ _ hx;rw [Va.bool (hF.1 rfl),hr rfl];rfl
 ·obtain rfl:=hr' rfl;rw [rd.con];rfl
def Bp:TypeDesc->Bool
 | .struct _ | .array _ _=>true
 | _=>false
class Ty (P:Program) (T:TypeId) (α:Type) [Rep α]:Prop where
 size:(P.info? T).map (·.size)=some (Rep.sz α)
 agg:(P.underlying T).map Bp=some (Rep.agg α)
theorem Ty.run_size {T:TypeId} {α:Type} [Rep α] (h:(P.info? T).map (·.size)=some (Rep.sz α)) (w:World):(sizeOf T).run P w=.ok (Rep.sz α) w:=by
 cases hi:P.info? T with
 | none=>simp [hi] at h
 | some i=>simp [hi] at h;simp [sizeOf,typeInfo,hi,h]
theorem Ty.run_agg {T:TypeId} {b:Bool} (h:(P.underlying T).map Bp=some b) (w:World):(isAgg T).run P w=.ok b w:=by
 cases hi:P.underlying T with
 | none=>simp [hi] at h
 | some d=>
  simp only [hi,Option.map_some,Option.some.injEq] at h;simp only [isAgg,EU,run_underlying hi,ER];cases d <;> simp_all [Bp]
theorem Bc (b o j:Nat):(⟨b,o,none⟩:Addr).add j=⟨b,o + j,none⟩:=by unfold Addr.add; split <;> simp_all
theorem Bt {T:TypeId} {α:Type} [Rep α] [ht:Ty P T α] {x:α} {M:Nat->Prop} {w:World} {b o:Nat} {cs:List Value} (hc:∀ j v,cs[j]?=some v->w.cell? ⟨b,o + j,none⟩=some v) (hr:Rep.rep M w cs x) :
  (loadVar T ⟨b,o,none⟩).run P w=.ok (mk (Rep.agg α) cs) w:=by
 simp only [loadVar,EU,Ty.run_agg ht.agg,ER];cases hg:Rep.agg α
 ·have h1:=Rep.flat hg;have hl:=Rep.len hr;obtain ⟨c,rfl⟩:∃ c,cs=[c]:=by
   match cs,hl with
   | [c],_=>exact ⟨c,rfl⟩
   | [],h=>simp [h1] at h
   | _ :: _ :: _,h=>simp [h1] at h
  have:=hc 0 c rfl;simp only [H1] at this;simp [this,mk]
 ·simp only [if_true,EU,Ty.run_size ht.size,ER];rw [← Rep.len hr,run_loadCells_list w ⟨b,o,none⟩ cs (λj v hj=>by rw [Bc];exact hc j v hj)];rfl
theorem ld {T:TypeId} {x:Operand} {α:Type} [Rep α] [Ty P T α] {y:α} (h:Od Γ x (Pt y)):OR P (.load T x) ty Γ (Va y):=by
 refine OR.val λρ M w r=>?_;obtain ⟨_,_,b,o,hv,cs,hc,hr⟩:=h ρ M w r;refine ⟨mk (Rep.agg α) cs,λ_ _ _ _=>?_,rfl,cs,rfl,hr⟩;simp only [execOp,hv,Instr.loadAt,Instr.sureAddr,EU,EW,ER,Bt (λj v hj=>(hc j v hj).2) hr]
def Ky (P:Program) (S k:Nat):Option (Nat×Nat):=
 match P.underlying S with
 | some (.struct fs)=>(fs[k]?).bind λf=>(P.info? f.type).map λi=>(f.offset,i.size)
 | _=>none
class DF {α β:Type} [Rep α] [Rep β] (f:α->β) (off:outParam Nat):Prop where
 at_:∀ {M w cs x},Rep.rep M w cs x->∃ p m q,cs=p ++ (m ++ q)/\p.length=off/\Rep.rep M w m (f x)
class Fd (P:Program) (S k:Nat) {α β:Type} [Rep α] [Rep β] (f:outParam (α->β)):Prop where
 off:∃ off n,Ky P S k=some (off,n + 1)/\DF f off
theorem DF.pl {α β:Type} [Rep α] [Rep β] {f:α->β} {off:Nat} (h:DF f off) {M:Nat->Prop} {w:World} {b o:Nat} {x:α} (hp:Pl x M w b o):Pl (f x) M w b (o + off):=by
 obtain ⟨cs,hc,hr⟩:=hp;obtain ⟨p,m,q,rfl,hl,hm⟩:=h.at_ hr;exact ⟨m,by rw [← hl];exact hc.append.2.append.1,hm⟩
theorem Jr {S k:Nat} {b o off n:Nat} (h:Ky P S k=some (off,n + 1)) (w:World) :
  (Instr.fieldAt S (.pointer (some ⟨b,o,none⟩)) k).run P w=.ok (.pointer (some ⟨b,o + off,none⟩)) w:=by
 unfold Ky at h;cases hu:P.underlying S with
 | none=>simp [hu] at h
 | some d=>
  cases d with
  | struct fs=>
   simp only [hu] at h;cases hf:fs[k]? with
   | none=>simp [hf] at h
   | some f=>
    simp only [hf,HJ] at h;cases hi:P.info? f.type with
    | none=>simp [hi] at h
    | some i=>
     simp only [hi,Option.map_some,Option.some.injEq,Prod.mk.injEq] at h;simp [Instr.fieldAt,run_underlying hu,hf,Instr.sureAddr,fieldPlace,sizeOf,typeInfo,hi,h.2,h.1,Bc]
  | _=>simp [hu] at h
theorem fa {S k:Nat} {x:Operand} {α β:Type} [Rep α] [Rep β] {f:α->β} [hf:Fd P S k f] {y:α} (h:Od Γ x (Pt y)):OR P (.fieldAddr S x k) ty Γ (Pt (f y)):=by
 refine OR.val λρ M w r=>?_;obtain ⟨_,_,b,o,hv,hp⟩:=h ρ M w r;obtain ⟨off,n,h1,h2⟩:=hf.off;refine ⟨.pointer (some ⟨b,o + off,none⟩),λ_ _ _ _=>?_,rfl,b,o + off,rfl,h2.pl hp⟩;simp only [execOp,hv,EU,Jr h1,ER,EW]
def idx {α:Type} (xs:List α) (i:Int):Option α:=if 0<=i then xs[i.toNat]? else none
theorem Ay {α:Type} {xs:List α} {i:Int} {x:α} (h:idx xs i=some x):0<=i/\i < xs.length/\xs[i.toNat]?=some x:=by
 unfold idx at h;split at h
 ·rename_i h0;have:=(EY.1 h).1;exact ⟨h0,by omega,h⟩
 ·cases h
def Fj (P:Program) (T:Nat):Option Nat:=match P.underlying T with | some (.slice e)=>some e | _=>none
class Es (P:Program) (T:Nat) (α:Type) [Rep α]:Prop where
 el:∃ e,Fj P T=some e/\(P.info? e).map (·.size)=some (Rep.sz α)
theorem Wd {P:Program} {T e:Nat} (h:Fj P T=some e):P.underlying T=some (.slice e):=by
 unfold Fj at h;split at h
 ·rename_i hu;rw [hu];simpa using h
 ·cases h
theorem ix {T:TypeId} {x i:Operand} {α:Type} [Rep α] [he:Es P T α] {xs:List α} {n:Int} {y:α} (hx:Od Γ x (Va xs)) (hi:Od Γ i (Va n)) (h:idx xs n=some y):OR P (.indexAddr T x i) ty Γ (Pt y):=by
 refine OR.val λρ M w r=>?_;obtain ⟨_,h1⟩:=hx ρ M w r;obtain ⟨_,h2⟩:=hi ρ M w r;obtain ⟨e,he1,he2⟩:=he.el;obtain ⟨h0,hl,hg⟩:=Ay h;obtain ⟨a,cap,hv,hs⟩:=Va.list h1;obtain rfl | ⟨b,o,rfl,hrow⟩:=hs
 ·simp at hg
 ·refine ⟨.pointer (some ⟨b,o + n.toNat * Rep.sz α,none⟩),λ_ _ _ _=>?_,rfl,b,_,rfl,hrow.get hg⟩;simp only [execOp,hv,Va.int h2,Instr.indexAt,EU,asIntOf,EW,ER,run_underlying (Wd he1)];simp [h0,hl,Ty.run_size he2,Bc]
theorem ln {T:TypeId} {x:Operand} {α:Type} [Rep α] [he:Es P T α] {xs:List α} (hx:Od Γ x (Va xs)):OR P (.call { callee:=.builtin .len,args:=#[x],argTypes:=#[T] }) ty Γ (Va (xs.length:Int)):=by
 refine OR.val λρ M w r=>?_;obtain ⟨_,h1⟩:=hx ρ M w r;obtain ⟨e,he1,_⟩:=he.el;obtain ⟨a,cap,hv,_⟩:=Va.list h1;refine ⟨.int .i64 xs.length,λ_ _ _ _=>?_,Va.mkInt⟩;simp [execOp,resolve,hv,invoke,builtin,Builtin.len_,run_underlying (Wd he1),goInt]
theorem Cb {α:Type} [Rep α] {M:Nat->Prop} {w:World} {cs:List Value} {x:α} (hr:Rep.rep M w cs x):(mk (Rep.agg α) cs).cells=cs.toArray:=by
 cases hg:Rep.agg α
 ·have h1:=Rep.flat hg;have hl:=Rep.len hr;have ho:=Rep.one hr
  match cs,hl,ho with
  | [c],_,ho=>
   have:=ho c As;cases c <;> simp_all [mk,Value.cells,Value.oneCell']
  | [],h,_=>simp [h1] at h
  | _ :: _ :: _,h,_=>simp [h1] at h
 ·rfl
theorem cls_new {M:Nat->Prop} {w:World} {cs:List Value} {T:TypeId} (hm:¬ M w.heap.size):Cls M (w.alloc (.cells cs.toArray T)) w.heap.size 0 cs:=by
 intro j v hj;refine ⟨hm,?_⟩;rw [World.cell?_alloc_at _ _ _ _ rfl];simpa using hj
theorem bx {T:TypeId} {x:Operand} {α:Type} [Rep α] {y:α} (h:Od Γ x (Va y)):OR P (.box T x) ty Γ (Pt y):=by
 refine OR.run λρ M w r=>?_;obtain ⟨_,_,cs,hv,hr⟩:=h ρ M w r;refine ⟨.pointer (some ⟨w.heap.size,0,none⟩),w.alloc (.cells cs.toArray T),λ_ _ _ _=>?_,Ext.alloc _ _ _,[],GB,λk hk=>by simp at hk,rfl,w.heap.size,0,rfl,cs,?_,?_⟩
 ·simp only [execOp,hv,Instr.box,newVar,newRow,Cb hr,EU,run_newObj,ER,EW];rfl
 ·refine cls_new ?_;rintro (hm | hm)
  ·exact absurd (r.bd _ hm) om_
  ·simp at hm
 ·exact Rep.sub (Rep.ext hr (Ext.alloc _ _ _)) λk _ hk=>hk.elim id λh=>by simp at h
end
end Go.Pn
namespace Go.Pn
open Go Go.RowKit
variable {rr:Option Nat}
def Ar (op:Op):List Nat:=op.operands.toList.filterMap λ| .tmp t=>some t | _=>none
def Df (ks:List Nat):Cx->Cx
 | []=>[]
 | (s,e) :: Γ=>match ks.contains s with | true=>(s,e) :: Df ks Γ | false=>Df ks Γ
theorem Bl {ks:List Nat} {t:Nat} {e:Ent}:∀ {Γ:Cx},Am (Df ks Γ) t=some e->t∈ks/\Am Γ t=some e
 | [],h=>by simp [Df,Am] at h
 | (s,e') :: Γ,h=>by
  unfold Df at h;split at h
  ·rename_i hk;unfold Am at h ⊢;split at h
   ·rename_i hb;have:=G0 hb;subst this;refine ⟨by simpa using hk,?_⟩;simpa using h
   ·rename_i hb;have:=Bl h;simpa [hb] using this
  ·rename_i hk;obtain ⟨h1,h2⟩:=Bl h;refine ⟨h1,?_⟩;unfold Am;split
   ·rename_i hb;have:=G0 hb;subst this;simp at hk;exact absurd h1 hk
   ·exact h2
inductive Fl (P:Program) (ops:Array Oper) (Γ:Cx):Nat->Cx->Prop
 | nil:Fl P ops Γ 0 []
 | cons {i d:Nat} {Δ:Cx} {op:Op} {ty:TypeId} {pos:String} {aft:Array Edge} {e:Ent} (h:Fl P ops Γ i Δ)
   (ho:ops[i]?=some ⟨some d,op,ty,pos,aft,none⟩) (hr:OR P op ty (Df (Ar op) Δ ++ Γ) e):Fl P ops Γ (i + 1) ((d,e) :: Δ)
 | cong {i d j dj:Nat} {b want:Bool} {Δ:Cx} {op:Op} {ty:TypeId} {pos:String} {aft:Array Edge} {e:Ent} (h:Fl P ops Γ i Δ)
   (ho:ops[i]?=some ⟨some d,op,ty,pos,aft,some (j,want)⟩) (hj:(ops[j]?).bind (·.dst)=some dj) (hl:Am Δ dj=some (Va b))
   (hr:b=want->OR P op ty (Df (Ar op) Δ ++ Γ) e):Fl P ops Γ (i + 1) ((d,Gd b want e) :: Δ)
 | cont {i d j dj:Nat} {b c b2 want:Bool} {Δ:Cx} {op:Op} {ty:TypeId} {pos:String} {aft:Array Edge} {e:Ent} (h:Fl P ops Γ i Δ)
   (ho:ops[i]?=some ⟨some d,op,ty,pos,aft,some (j,want)⟩) (hj:(ops[j]?).bind (·.dst)=some dj) (hl:Am Δ dj=some (Gd b c (Va b2)))
   (hr:b=c->b2=want->OR P op ty (Df (Ar op) Δ ++ Γ) e):Fl P ops Γ (i + 1) ((d,Gd ((b == c) && (b2 == want)) true e) :: Δ)
def dep (o:Oper) (j:Nat):Bool:=o.after.any λe=>Region.binds .any e && e.on == j
def Fx (ops:Array Oper):Nat->Nat->Nat->Bool
 | 0,_,_=>false
 | f + 1,i,j=>match ops[i]? with
  | none=>false
  | some o=>dep o j || o.after.any λe=>Region.binds .any e && Fx ops f e.on j
def Ax (ops:Array Oper) (o:Oper):List Nat:=Ar o.op ++ (match o.guard with | some (j,_)=>((ops[j]?).bind (·.dst)).toList | none=>[])
def Gw (ops:Array Oper) (m:Nat):Bool:=
 decide (m<=ops.size) &&
 (List.range ops.size).all (λi=>match ops[i]? with
  | none=>false
  | some o=>
   o.after.all (λe=>!Region.binds .any e || decide (e.on < i)) &&
   (if i < m then
    o.dst.isSome && (match o.guard with | some (j,_)=>decide (j < i) | none=>true) &&
    (List.range m).all (λj=>match (ops[j]?).bind (·.dst) with
     | some d=>(!(Ax ops o).contains d || (decide (j < i) && dep o j)) && (i == j || o.dst != some d)
     | none=>false)
   else (List.range i).all (λj=>Fx ops ops.size i j)))
section
variable {P:Program} {ops:Array Oper} {Γ:Cx} {m:Nat}
theorem Pz (h:Gw ops m=true) {i:Nat} {o:Oper} (ho:ops[i]?=some o) :
  (∀ e∈o.after,Region.binds .any e=true->e.on < i) /\
  (i < m->o.dst.isSome=true/\(∀ j want,o.guard=some (j,want)->j < i)/\∀ j,j < m->∃ d,(ops[j]?).bind (·.dst)=some d/\(d∈Ax ops o->j < i/\dep o j=true)/\(i≠j->o.dst≠some d)) /\
  (m<=i->∀ j,j < i->Fx ops ops.size i j=true):=by
 have hi:i < ops.size:=(E6.1 ho).1;unfold Gw at h;simp only [E3,E8,E4,decide_eq_true_eq] at h;have h1:=h.2 i hi;simp only [ho,E3] at h1;refine ⟨λe he hb=>?_,λhm=>?_,λhm j hj=>?_⟩
 ·have:=(Array.all_eq_true_iff_forall_mem.1 h1.1) e he;simp [hb] at this;exact this
 ·have h2:=h1.2;rw [if_pos hm] at h2;simp only [E3,E8,E4] at h2;refine ⟨h2.1.1,λj want hg=>?_,λj hj=>?_⟩
  ·have:=h2.1.2;simp [hg] at this;exact this
  ·have h3:=h2.2 j hj;split at h3
   ·rename_i d hd;simp only [E3,G8,FX,decide_eq_true_eq,bne_iff_ne,beq_iff_eq] at h3;refine ⟨d,hd,λhn=>?_,λhne hd'=>?_⟩
    ·rcases h3.1 with h | h
     ·simp at h;exact absurd hn h
     ·exact h
    ·rcases h3.2 with h | h
     ·exact hne h
     ·exact h hd'
   ·cases h3
 ·have h2:=h1.2;rw [if_neg om_] at h2;simp only [E8,E4] at h2;exact h2 j hj
end
structure FlowW (ops:Array Oper) (m:Nat):Prop where
 le:m<=ops.size
 at_:∀ {i:Nat} {o:Oper},ops[i]?=some o->(∀ e∈o.after,Region.binds .any e=true->e.on < i) /\
  (i < m->o.dst.isSome=true/\(∀ j want,o.guard=some (j,want)->j < i)/\∀ j,j < m->∃ d,(ops[j]?).bind (·.dst)=some d/\(d∈Ax ops o->j < i/\dep o j=true)/\(i≠j->o.dst≠some d)) /\
  (m<=i->∀ j,j < m->Fx ops ops.size i j=true)
theorem EA {ops:Array Oper} {m:Nat} (h:Gw ops m=true):FlowW ops m:=
 ⟨by unfold Gw at h;simp only [E3,decide_eq_true_eq] at h;exact h.1,λho=>let ⟨a,b,c⟩:=Pz h ho;⟨a,b,λhm j hj=>c hm j om_⟩⟩
def gl (Γ:Cx):Cx->Nat->Array Bool->Mp
 | [],_,_=>Am Γ
 | (d,e) :: Δ,m,listed=>if listed.getD (m - 1) false then put d e (gl Γ Δ (m - 1) listed) else gl Γ Δ (m - 1) listed
def El (ops:Array Oper) (i:Nat):Option Nat:=(ops[i]?).bind (·.dst)
section
variable {P:Program} {ops:Array Oper} {Γ:Cx}
theorem Fl.len:∀ {m:Nat} {Δ:Cx},Fl P ops Γ m Δ->Δ.length=m
 | _,_,.nil=>rfl
 | _,_,.cons h _ _=>by simp [h.len]
 | _,_,.cong h _ _ _ _=>by simp [h.len]
 | _,_,.cont h _ _ _ _=>by simp [h.len]
def Ds (ops:Array Oper):Cx->Nat->Prop
 | [],m=>m=0
 | (d,_) :: Δ,m=>∃ k,m=k + 1/\El ops k=some d/\Ds ops Δ k
theorem Fl.ds:∀ {m:Nat} {Δ:Cx},Fl P ops Γ m Δ->Ds ops Δ m
 | _,_,.nil=>rfl
 | _,_,.cons h ho _=>⟨_,rfl,by simp [El,ho],h.ds⟩
 | _,_,.cong h ho _ _ _=>⟨_,rfl,by simp [El,ho],h.ds⟩
 | _,_,.cont h ho _ _ _=>⟨_,rfl,by simp [El,ho],h.ds⟩
theorem AH:∀ {Δ:Cx} {m:Nat} {listed:Array Bool},Ds ops Δ m->(∀ i,i < m->listed.getD i false=false)->gl Γ Δ m listed=Am Γ
 | [],_,_,_,_=>rfl
 | (d,e) :: Δ,m,listed,h,hl=>by
  obtain ⟨k,rfl,_,h2⟩:=h;unfold gl;rw [if_neg (by simp [hl k om_]),G5];exact AH h2 λi hi=>hl i om_
theorem Vs {t:Nat}:∀ {Δ:Cx} {m:Nat} {listed:Array Bool},Ds ops Δ m->(∀ i,i < m->El ops i=some t->listed.getD i false=true)->gl Γ Δ m listed t=Am (Δ ++ Γ) t
 | [],_,_,_,_=>rfl
 | (d,e) :: Δ,m,listed,h,hl=>by
  obtain ⟨k,rfl,h1,h2⟩:=h;have ih:=Vs (t:=t) h2 λi hi=>hl i om_;unfold gl;rw [G5,H0,Aj];unfold put;by_cases ht:t=d
  ·subst ht;rw [hl k om_ h1];simp
  ·split
   ·simpa [ht] using ih
   ·simpa [ht] using ih
theorem gl_ge:∀ {Δ:Cx} {m i:Nat} {listed:Array Bool},Ds ops Δ m->m<=i->gl Γ Δ m (listed.setIfInBounds i true)=gl Γ Δ m listed
 | [],_,_,_,_,_=>rfl
 | (d,e) :: Δ,m,i,listed,h,hi=>by
  obtain ⟨k,rfl,_,h2⟩:=h;unfold gl;have:(listed.setIfInBounds i true).getD k false=listed.getD k false:=by
   simp [EZ,FZ (show i≠k by omega)]
  rw [G5,this,gl_ge h2 om_]
theorem B0 {d d':Nat} {e e':Ent} {g:Mp} (h:d≠d'):put d e (put d' e' g)=put d' e' (put d e g):=by
 funext t
 unfold put;by_cases h1:t=d
 ·subst h1;simp [h]
 ·by_cases h2:t=d'
  ·subst h2;simp [h1]
  ·simp [h1,h2]
theorem D9 {i di:Nat} {ei:Ent}:∀ {Δ:Cx} {m:Nat} {listed:Array Bool},Ds ops Δ m->i < m->i < listed.size->listed.getD i false=false->Δ[m - 1 - i]?=some (di,ei) ->
  (∀ j,j < m->j≠i->El ops j≠some di)->gl Γ Δ m (listed.setIfInBounds i true)=put di ei (gl Γ Δ m listed)
 | [],_,_,h,hi,_,_,_,_=>by have:_=0:=h;omega
 | (d,e) :: Δ,m,listed,h,hi,hs,hl,hd,hne=>by
  obtain ⟨k,rfl,h1,h2⟩:=h;unfold gl;rw [G5];by_cases hik:i=k
  ·subst hik;have hd':(d,e)=(di,ei):=by simpa using hd
   obtain ⟨rfl,rfl⟩:=Prod.mk.inj hd';have:(listed.setIfInBounds i true).getD i false=true:=by simp [EZ,hs]
   rw [this,hl,gl_ge h2 (FH _)];simp
  ·have hlt:i < k:=by omega
   have:(listed.setIfInBounds i true).getD k false=listed.getD k false:=by
    simp [EZ,FZ hik]
   have hd':Δ[k - 1 - i]?=some (di,ei):=by
    have:k + 1 - 1 - i=(k - 1 - i) + 1:=by omega
    rw [this] at hd;simpa using hd
   rw [this,D9 h2 hlt hs hl hd' λj hj hji=>hne j om_ hji];split
   ·exact B0 λhdd=>hne k om_ (Ne.symm hik) (hdd ▸ h1)
   ·rfl
inductive RuleAt (P:Program) (ops:Array Oper) (Γ Δi:Cx) (o:Oper):Nat->Ent->Prop
 | plain {d:Nat} {op:Op} {ty:TypeId} {pos:String} {aft:Array Edge} {e:Ent} (ho:o=⟨some d,op,ty,pos,aft,none⟩) (hr:OR P op ty (Df (Ar op) Δi ++ Γ) e):RuleAt P ops Γ Δi o d e
 | guarded {d j dj:Nat} {b want:Bool} {op:Op} {ty:TypeId} {pos:String} {aft:Array Edge} {e:Ent} (ho:o=⟨some d,op,ty,pos,aft,some (j,want)⟩)
   (hj:(ops[j]?).bind (·.dst)=some dj) (hl:Am Δi dj=some (Va b)) (hr:b=want->OR P op ty (Df (Ar op) Δi ++ Γ) e):RuleAt P ops Γ Δi o d (Gd b want e)
 | nested {d j dj:Nat} {b c b2 want:Bool} {op:Op} {ty:TypeId} {pos:String} {aft:Array Edge} {e:Ent} (ho:o=⟨some d,op,ty,pos,aft,some (j,want)⟩)
   (hj:(ops[j]?).bind (·.dst)=some dj) (hl:Am Δi dj=some (Gd b c (Va b2))) (hr:b=c->b2=want->OR P op ty (Df (Ar op) Δi ++ Γ) e):RuleAt P ops Γ Δi o d (Gd ((b == c) && (b2 == want)) true e)
theorem Fl.at_:∀ {m:Nat} {Δ:Cx},Fl P ops Γ m Δ->∀ i,i < m->∃ Δi o d e Δ',Fl P ops Γ i Δi/\Δ=Δ' ++ Δi/\Δ[m - 1 - i]?=some (d,e)/\ops[i]?=some o/\RuleAt P ops Γ Δi o d e
 | _,_,.nil,i,hi=>by omega
 | m + 1,(d,e) :: Δ,.cons h ho hr,i,hi=>by
  by_cases hik:i=m
  ·subst hik;exact ⟨Δ,_,d,e,[(d,e)],h,rfl,by simp,ho,.plain rfl hr⟩
  ·obtain ⟨Δi,o,d',e',Δ',h1,h2,h3,h4,h5⟩:=h.at_ i om_;refine ⟨Δi,o,d',e',(d,e) :: Δ',h1,by rw [h2];rfl,?_,h4,h5⟩;rw [show m + 1 - 1 - i=(m - 1 - i) + 1 by omega];simpa using h3
 | m + 1,(d,_) :: Δ,.cong h ho hj hl hr,i,hi=>by
  by_cases hik:i=m
  ·subst hik;exact ⟨Δ,_,d,_,[(d,_)],h,rfl,by simp,ho,.guarded rfl hj hl hr⟩
  ·obtain ⟨Δi,o,d',e',Δ',h1,h2,h3,h4,h5⟩:=h.at_ i om_;refine ⟨Δi,o,d',e',(d,_) :: Δ',h1,by rw [h2];rfl,?_,h4,h5⟩;rw [show m + 1 - 1 - i=(m - 1 - i) + 1 by omega];simpa using h3
 | m + 1,(d,_) :: Δ,.cont h ho hj hl hr,i,hi=>by
  by_cases hik:i=m
  ·subst hik;exact ⟨Δ,_,d,_,[(d,_)],h,rfl,by simp,ho,.nested rfl hj hl hr⟩
  ·obtain ⟨Δi,o,d',e',Δ',h1,h2,h3,h4,h5⟩:=h.at_ i om_;refine ⟨Δi,o,d',e',(d,_) :: Δ',h1,by rw [h2];rfl,?_,h4,h5⟩;rw [show m + 1 - 1 - i=(m - 1 - i) + 1 by omega];simpa using h3
theorem Gv {t:Nat}:∀ {Δ' Δ:Cx},(∀ x∈Δ',x.1≠t)->Am (Δ' ++ Δ) t=Am Δ t
 | [],_,_=>rfl
 | (d,e) :: Δ',Δ,h=>by
  rw [H0,Aj];unfold put;rw [if_neg (Ne.symm (h (d,e) (GD ..)))];exact Gv λx hx=>h x (FR _ hx)
theorem Dx {t:Nat} {e:Ent} {Δ:Cx}:∀ {Γ:Cx},Am Γ t=some e->Am (Γ ++ Δ) t=some e
 | [],h=>by simp [Am] at h
 | (s,e') :: Γ,h=>by
  unfold Am at h;rw [H0];unfold Am;split at h
  ·exact h
  ·exact Dx h
theorem Gr {t:Nat} {e:Ent} {Δ:Cx}:∀ {Γ:Cx},Am (Γ ++ Δ) t=some e->Am Γ t=some e\/Am Δ t=some e
 | [],h=>.inr h
 | (s,e') :: Γ,h=>by
  rw [H0,Aj] at h;rw [Aj];unfold put at h ⊢;split at h
  ·rename_i hb;rw [if_pos hb];exact .inl h
  ·rename_i hb;rw [if_neg hb];exact Gr h
theorem Ds.len:∀ {Δ:Cx} {m:Nat},Ds ops Δ m->Δ.length=m
 | [],_,h=>h.symm
 | _ :: _,_,h=>by obtain ⟨k,rfl,_,h2⟩:=h;simp [Ds.len h2]
theorem Ds.pre:∀ {Δ' Δi:Cx} {m i:Nat},Ds ops (Δ' ++ Δi) m->Δi.length=i->∀ x∈Δ',∃ j,i<=j/\j < m/\El ops j=some x.1
 | [],_,_,_,_,_,x,hx=>by simp at hx
 | (d,e) :: Δ',Δi,m,i,h,hi,x,hx=>by
  obtain ⟨k,rfl,h1,h2⟩:=h;have hk:(Δ' ++ Δi).length=k:=Ds.len h2;rcases FG.1 hx with rfl | hx
  ·exact ⟨k,by simp at hk;omega,by omega,h1⟩
  ·obtain ⟨j,h3,h4,h5⟩:=Ds.pre h2 hi x hx;exact ⟨j,h3,by omega,h5⟩
theorem By {listed:Array Bool} (hc:∀ i o,ops[i]?=some o->listed.getD i false=true->∀ e∈o.after,Region.binds .any e=true->listed.getD e.on false=true) :
  ∀ (f i j:Nat) (o:Oper),ops[i]?=some o->(∀ e∈o.after,Region.binds .any e=true->listed.getD e.on false=true)->Fx ops f i j=true->listed.getD j false=true
 | 0,_,_,_,_,_,h=>by simp [Fx] at h
 | f + 1,i,j,o,ho,hd,h=>by
  simp only [Fx,ho,G8,dep,JX,E3,beq_iff_eq] at h;rcases h with ⟨e,he,hb,rfl⟩ | ⟨e,he,hb,hr⟩
  ·exact hd e he hb
  ·have hl:=hd e he hb;cases ho':ops[e.on]? with
   | none=>cases f <;> simp [Fx,ho'] at hr
   | some o'=>exact By hc f e.on j o' ho' (λe' he' hb'=>hc _ _ ho' hl e' he' hb') hr
theorem Bj {listed:Array Bool} {i:Nat}:i∈Region.ready .any ops listed↔i < ops.size/\listed.getD i true=false/\∃ o,ops[i]?=some o/\∀ e∈o.after,Region.binds .any e=true->listed.getD e.on false=true:=by
 unfold Region.ready;simp only [G2,E4,E3,FX];refine and_congr_right λhi=>and_congr_right λ_=>?_;have:ops[i]?=some ops[i]:=G9 hi;simp only [this,Option.map_some,HA,Array.all_eq_true',Option.some.injEq,exists_eq_left'];refine forall_congr' λe=>forall_congr' λ_=>?_;cases Region.binds .any e <;> simp
theorem Wk {m:Nat} (hf:Gw ops m=true) {Q:Exit->Act->World->Prop}:∀ (r k fuel:Nat) (listed:Array Bool) (a:Act) (w:World),r=ops.size - k->k<=ops.size->m<=k->r<=fuel->listed.size=ops.size ->
  (∀ i,i < k->listed.getD i false=true)->(∀ i,k<=i->i < ops.size->listed.getD i true=false)->wpListIn (Fr rr) 0 P ops Q (ops.toList.drop k) a w->wpAnyIn (Fr rr) 0 P .any ops Q fuel listed a w
 | r,k,fuel,listed,a,w,hr,hk,hmk,hfu,hs,hl,hn,h=>by
  have hready:∀ i,i∈Region.ready .any ops listed->i=k:=by
   intro i hi;obtain ⟨h1,h2,o,ho,h3⟩:=Bj.1 hi;rcases HS i k with h' | h' | h'
   ·have:=hl i h';simp [EZ,hs,h1] at this h2;rw [this] at h2;cases h2
   ·exact h'
   ·exfalso;have h4:=(Pz hf ho).2.2 om_ k h';have:=By (listed:=listed) (λi' o' ho' hl' e he hb=>?_) ops.size i k o ho h3 h4
    ·have h5:=hn k (FH _) om_;simp [EZ,hs,show k < ops.size by omega] at this h5;rw [this] at h5;cases h5
    ·have hi':i' < ops.size:=(E6.1 ho').1;have hik:i' < k:=by
      rcases GE i' k with h6 | h6
      ·exact h6
      ·have:=hn i' h6 hi';simp [EZ,hs,hi'] at this hl';rw [this] at hl';cases hl'
     exact hl _ (Nat.lt_trans ((Pz hf ho').1 e he hb) hik)
  rcases GE k ops.size with hlt | hge
  ·have ho:ops[k]?=some ops[k]:=G9 hlt;have hdrop:ops.toList.drop k=ops[k] :: ops.toList.drop (k + 1):=by
    rw [F5 (by simpa using hlt)];simp
   have hin:k∈Region.ready .any ops listed:=Bj.2 ⟨hlt,hn k (FH _) hlt,_,ho,λe he hb=>hl _ ((Pz hf ho).1 e he hb)⟩;cases fuel with
   | zero=>omega
   | succ fuel=>
    refine ⟨λhnil=>by rw [hnil] at hin;simp at hin,λi hi=>?_⟩;obtain rfl:=hready i hi;have ih:=λa' w'=>Wk hf (Q:=Q) (r - 1) (i + 1) fuel (listed.setIfInBounds i true) a' w' om_ hlt om_ om_ (by simp [hs])
     (λj hj=>by
      by_cases hji:j=i
      ·subst hji;simp [EZ,hs,hlt]
      ·have:=hl j om_;simpa [EZ,FZ (Ne.symm hji)] using this)
     (λj hj hj'=>by
      have:=hn j om_ hj';simpa [EZ,FZ (show i≠j by omega)] using this)
    rw [hdrop] at h;unfold wpOpIn;simp only [ho];unfold wpListIn at h;split
    ·rename_i hw;rw [if_pos hw] at h;exact Oper.wpIn_mono (λa' w'=>ih a' w') h
    ·rename_i hw;rw [if_neg hw] at h;exact ⟨λ_ _=>trivial,ih _ _ h.2⟩
  ·have hnil:Region.ready .any ops listed=[]:=by
    cases hrd:Region.ready .any ops listed with
    | nil=>rfl
    | cons x xs=>
     have hx:x∈Region.ready .any ops listed:=by rw [hrd];exact GD ..
     have:=hready x hx;have:=(Bj.1 hx).1;omega
   have hQ:Q .normal a w:=by
    rw [FN (by simpa using hge)] at h;exact h
   cases fuel with
   | zero=>exact ⟨hnil,hQ⟩
   | succ fuel=>exact ⟨λ_=>hQ,λi hi=>by rw [hnil] at hi;simp at hi⟩
class Mx (P:Program):Prop where
 mixed:P.follows .mixedOrders=true
theorem Bb {a:Act} {j dj:Nat} {b:Bool} (hj:(ops[j]?).bind (·.dst)=some dj) (h:a.get dj=.bool b):yielded ops a.tmps j=some b:=by
 unfold yielded;rw [hj];have:a.tmps[dj]?=some (.bool b):=by
  unfold Act.get at h;rw [EZ] at h;cases hg:a.tmps[dj]? with
  | none=>rw [hg] at h;simp [undef] at h
  | some v=>rw [hg] at h;simpa using h
 simp [this]
theorem Cm {a:Act} {j dj:Nat} (hj:(ops[j]?).bind (·.dst)=some dj) (h:a.get dj=undef):yielded ops a.tmps j=none:=by
 unfold yielded;rw [hj];unfold Act.get at h;rw [EZ] at h;simp only [HJ];cases hg:a.tmps[dj]? with
 | none=>rfl
 | some v=>
  rw [hg] at h;have:v=undef:=by simpa using h
  subst this;rfl
theorem DS {m n:Nat} {Δ:Cx} {M0:Fm} {w0:World} (hf:FlowW ops m) (hfl:Fl P ops Γ m Δ) (hdj:∀ x∈Δ,Am Γ x.1=none) (hn:∀ x∈Δ,x.1 < n) {Q:Exit->Act->World->Prop}
  (K:∀ (fuel:Nat) (listed:Array Bool) (a:Act) (w:World),ops.size - m<=fuel->listed.size=ops.size->(∀ i,m<=i->i < ops.size->listed.getD i true=false)->(∀ i,i < m->listed.getD i false=true)->St M0 w0 n (Δ ++ Γ) a w->wpAnyIn (Fr rr) 0 P .any ops Q fuel listed a w) :
  ∀ (fuel:Nat) (listed:Array Bool) (a:Act) (w:World),(listed.toList.take m).count false + (ops.size - m)<=fuel->listed.size=ops.size ->
   (∀ i,m<=i->i < ops.size->listed.getD i true=false)->(∀ i o,ops[i]?=some o->listed.getD i false=true->∀ e∈o.after,Region.binds .any e=true->listed.getD e.on false=true)->StF M0 w0 n (gl Γ Δ m listed) a w->wpAnyIn (Fr rr) 0 P .any ops Q fuel listed a w:=by
 have hm:m<=ops.size:=hf.le;have hds:=hfl.ds;have hlen:=hfl.len
 -- when all that float are listed
 have fin:∀ (fuel:Nat) (listed:Array Bool) (a:Act) (w:World),ops.size - m<=fuel->listed.size=ops.size->(∀ i,m<=i->i < ops.size->listed.getD i true=false) ->
   (∀ i,i < m->listed.getD i false=true)->StF M0 w0 n (gl Γ Δ m listed) a w->wpAnyIn (Fr rr) 0 P .any ops Q fuel listed a w:=by
  intro fuel listed a w h1 h2 h3 h4 h5;refine K fuel listed a w h1 h2 h3 h4 ?_;exact h5.less λt e he=>by rw [Vs hds (λi hi _=>h4 i hi)];exact he
 intro fuel
 induction fuel with
 | zero=>
  intro listed a w h1 h2 h3 hcl h4;refine fin 0 listed a w om_ h2 h3 (λi hi=>?_) h4;have hc:(listed.toList.take m).count false=0:=by omega
  have:=List.count_eq_zero.1 hc;cases hb:listed.getD i false
  ·exfalso;refine this ?_;have hi':i < listed.size:=by omega
   have:listed[i]=false:=by simpa [EZ,hi'] using hb
   rw [← this];exact List.mem_take_iff_getElem.2 ⟨i,by simp;omega,by simp⟩
  ·rfl
 | succ fuel ih=>
  intro listed a w h1 h2 h3 hcl h4;by_cases hall:∀ i,i < m->listed.getD i false=true
  ·exact fin _ listed a w om_ h2 h3 hall h4
  ·-- some operation is ready;each that is ready floats
   have hex:∃ i,i < m/\listed.getD i false=false:=by
    refine Classical.byContradiction λhc=>hall λi hi=>?_;cases hb:listed.getD i false
    ·exact absurd ⟨i,hi,hb⟩ hc
    ·rfl
   have hleast:∃ i,i < m/\listed.getD i false=false/\∀ j,j < i->listed.getD j false=true:=by
    obtain ⟨i,hi,hb⟩:=hex
    induction i using Nat.strongRecOn with
    | _ i ihi=>
     by_cases hj:∃ j,j < i/\listed.getD j false=false
     ·obtain ⟨j,hji,hjb⟩:=hj;exact ihi j hji om_ hjb
     ·refine ⟨i,hi,hb,λj hji=>?_⟩;cases hb':listed.getD j false
      ·exact absurd ⟨j,hji,hb'⟩ hj
      ·rfl
   refine ⟨λhnil=>?_,λi hi=>?_⟩
   ·exfalso;obtain ⟨i,hi,hb,hj⟩:=hleast;have hio:i < ops.size:=by omega
    have ho:ops[i]?=some ops[i]:=G9 hio;have hin:i∈Region.ready .any ops listed:=Bj.2 ⟨hio,by simpa [EZ,h2,hio] using hb,_,ho,λe he hb'=>hj _ ((hf.at_ ho).1 e he hb')⟩;rw [hnil] at hin;simp at hin
   ·obtain ⟨hio,hil,o,ho,hdeps⟩:=Bj.1 hi;have hfa:=hf.at_ ho;have him:i < m:=by
     rcases GE i m with h | h
     ·exact h
     ·exfalso;obtain ⟨j,hj,hjb⟩:=hex;have:=By hcl ops.size i j o ho hdeps (hfa.2.2 h j om_);rw [hjb] at this;cases this
    have hil':listed.getD i false=false:=by simpa [EZ,h2,hio] using hil
    have his:i < listed.size:=by omega
    obtain ⟨Δi,o',d,e,Δ',hFi,hΔ,hget,ho',hrule⟩:=hfl.at_ i him;obtain rfl:o=o':=by rw [ho] at ho';exact Option.some.inj ho'
    obtain ⟨hd1,hd2,hd3⟩:=hfa.2.1 him;have hdi:El ops i=some d:=by
     have:o.dst=some d:=by cases hrule with | plain ho' _=>rw [ho'] | guarded ho' _ _ _=>rw [ho'] | nested ho' _ _ _=>rw [ho']
     simp [El,ho,this]
    have hodst:o.dst=some d:=by simpa [El,ho] using hdi
    have hne:∀ j,j < m->j≠i->El ops j≠some d:=by
     intro j hj hji hjd;obtain ⟨d',h5,_,h6⟩:=hd3 j hj;rw [show El ops j=some d' from h5] at hjd;exact h6 (Ne.symm hji) (by rw [hodst,← hjd])
    have hdn:d < n:=hn (d,e) (FP hget)
    -- what its operands know
    have hop:∀ t,t∈Ax ops o->gl Γ Δ m listed t=Am (Δi ++ Γ) t:=by
     intro t ht;have hw:∀ j,j < m->El ops j=some t->j < i/\listed.getD j false=true:=by
      intro j hj hjt;obtain ⟨d',h5,h6,_⟩:=hd3 j hj;rw [show El ops j=some d' from h5] at hjt;obtain rfl:=Option.some.inj hjt;obtain ⟨h7,h8⟩:=h6 ht;refine ⟨h7,?_⟩;unfold dep at h8;simp only [JX,E3,beq_iff_eq] at h8;obtain ⟨ed,h9,h10,rfl⟩:=h8;exact hdeps ed h9 h10
     rw [Vs hds λj hj hjt=>(hw j hj hjt).2,hΔ,FM];refine Gv λx hx hxt=>?_;obtain ⟨j,h5,h6,h7⟩:=Ds.pre (hΔ ▸ hds) hFi.len x hx;have:=(hw j h6 (hxt ▸ h7)).1;omega
    have next:∀ a' w',StF M0 w0 n (put d e (gl Γ Δ m listed)) a' w'->wpAnyIn (Fr rr) 0 P .any ops Q fuel (listed.setIfInBounds i true) a' w':=by
     intro a' w' hs';refine ih _ a' w' ?_ (by simp [h2]) (λj hj hj'=>?_) (λj oj hoj hlj ed he hb=>?_) ?_
     ·have hgi0:listed[i]=false:=by simpa [EZ,his] using hil'
      have hcount:((listed.setIfInBounds i true).toList.take m).count false + 1=(listed.toList.take m).count false:=by
       rw [Array.toList_setIfInBounds,List.take_set];have hlt:i < (listed.toList.take m).length:=by simp;omega
       have hgi:(listed.toList.take m)[i]=false:=by
        simpa using hgi0
       have hpos:0 < (listed.toList.take m).count false:=List.count_pos_iff.2 (by rw [← hgi];exact E9 _);rw [List.count_set hlt];simp [hgi];omega
      omega
     ·have:=h3 j hj hj';simpa [EZ,FZ (show i≠j by omega)] using this
     ·have keep:listed.getD ed.on false=true->(listed.setIfInBounds i true).getD ed.on false=true:=by
       intro h;by_cases hk:ed.on=i
       ·simp [EZ,hk,his]
       ·simpa [EZ,FZ (Ne.symm hk)] using h
      by_cases hji:j=i
      ·subst hji;rw [ho] at hoj;obtain rfl:=Option.some.inj hoj;exact keep (hdeps ed he hb)
      ·refine keep (hcl j oj hoj ?_ ed he hb);simpa [EZ,FZ (Ne.symm hji)] using hlj
     ·rw [D9 hds him his hil' hget hne];exact hs'
    obtain ⟨M,φ,hst⟩:=h4;have rd:∀ op,(∀ t,t∈Ar op->t∈Ax ops o)->Rd (Am (Df (Ar op) Δi ++ Γ)) M w a.eval:=by
     intro op hsub;refine ⟨λt x hx=>?_,hst.rd.con,hst.rd.fn,hst.rd.bd,hst.rd.glo⟩;refine hst.rd.tmp t x ?_;rcases Gr hx with h5 | h5
     ·obtain ⟨h6,h7⟩:=Bl h5;rw [hop t (hsub t h6)];exact Dx h7
     ·have hnk:∀ y∈Δ,y.1≠t:=λy hy hyt=>by
       have:=hdj y hy;rw [hyt,h5] at this;cases this
      rw [Vs hds (λj hj hjt=>?_),Gv hnk]
      ·exact h5
      ·exfalso;obtain ⟨Δj,oj,dj,ej,_,_,_,hgj,hoj,hrj⟩:=hfl.at_ j hj;have hdj':El ops j=some dj:=by
        have:oj.dst=some dj:=by cases hrj with | plain ho' _=>rw [ho'] | guarded ho' _ _ _=>rw [ho'] | nested ho' _ _ _=>rw [ho']
        simp [El,hoj,this]
       rw [hdj'] at hjt;exact hnk _ (FP hgj) (Option.some.inj hjt)
    unfold wpOpIn;simp only [ho];cases hrule with
    | plain ho' hr=>
     subst ho';simp only [Region.wanted,if_true];refine (Bh.upon ((hr _ _ _ _ a.eval M w (rd _ λt ht=>FJ _ ht)).mono λv w' hg=>?_));exact next _ _ (hst.gives hg hdn)
    | guarded ho' hj hl hr=>
     rename_i j dj b want op ty pos aft e';subst ho';have hdj:dj∈Ax ops ⟨some d,op,ty,pos,aft,some (j,want)⟩:=by
      refine FK _ ?_;simp only [hj];simp
     have hlj:Am (Δi ++ Γ) dj=some (Va b):=by
      exact Dx hl
     have hyb:=Bb hj (Va.bool (hst.holds dj _ (by rw [hop dj hdj];exact hlj)));by_cases hbw:b=want
     ·rw [if_pos (by simp [Region.wanted,hyb,hbw])];refine (Bh.upon ((hr hbw _ _ _ _ a.eval M w (rd _ λt ht=>FJ _ ht)).mono λv w' hg=>?_));refine next _ _ (hst.gives ⟨hg.1,?_⟩ hdn);obtain ⟨F,hF1,hF2,hF3⟩:=hg.2;exact ⟨F,hF1,hF2,λ_=>hF3,λhne=>absurd hbw hne⟩
     ·rw [if_neg (by simp [Region.wanted,hyb,hbw])];refine ⟨λ_ _=>trivial,?_⟩;exact next _ _ (hst.gives ⟨Ext.refl _ _,[],GB,λk hk=>by simp at hk,λh=>absurd h hbw,λ_=>⟨rfl,rfl⟩⟩ hdn)
    | nested ho' hj hl hr=>
     rename_i j dj b c b2 want op ty pos aft e';subst ho';have hdj:dj∈Ax ops ⟨some d,op,ty,pos,aft,some (j,want)⟩:=by
      refine FK _ ?_;simp only [hj];simp
     have hlj:Am (Δi ++ Γ) dj=some (Gd b c (Va b2)):=by
      exact Dx hl
     have hgd:=hst.holds dj _ (by rw [hop dj hdj];exact hlj);by_cases hbc:b=c
     ·have hyb:=Bb hj (Va.bool (hgd.1 hbc));by_cases hbw:b2=want
      ·rw [if_pos (by simp [Region.wanted,hyb,hbw])];refine (Bh.upon ((hr hbc hbw _ _ _ _ a.eval M w (rd _ λt ht=>FJ _ ht)).mono λv w' hg=>?_));refine next _ _ (hst.gives ⟨hg.1,?_⟩ hdn);obtain ⟨F,hF1,hF2,hF3⟩:=hg.2;exact ⟨F,hF1,hF2,λ_=>hF3,λhne=>absurd (by simp [hbc,hbw]) hne⟩
      ·rw [if_neg (by simp [Region.wanted,hyb,hbw])];refine ⟨λ_ _=>trivial,?_⟩;exact next _ _ (hst.gives ⟨Ext.refl _ _,[],GB,λk hk=>by simp at hk,λh=>absurd (by simpa using h) (λh':b=c/\b2=want=>hbw h'.2),λ_=>⟨rfl,rfl⟩⟩ hdn)
     ·have hyb:=Cm hj (hgd.2 hbc).2;rw [if_neg (by simp [Region.wanted,hyb])];refine ⟨λ_ _=>trivial,?_⟩;exact next _ _ (hst.gives ⟨Ext.refl _ _,[],GB,λk hk=>by simp at hk,λh=>absurd (by simpa using h) (λh':b=c/\b2=want=>hbc h'.1),λ_=>⟨rfl,rfl⟩⟩ hdn)
theorem Lf {m n id:Nat} {Δ:Cx} {M0:Fm} {w0:World} [hmx:Mx P] {Q:Exit->Act->World->Prop} {a:Act} {w:World} (hs:St M0 w0 n Γ a w) (hfl:Fl P ops Γ m Δ) (hf:Gw ops m=true)
  (hdj:Δ.all (λx=>(Am Γ x.1).isNone)=true) (hn:Δ.all (λx=>Nat.blt x.1 n)=true)
  (K:∀ a' w',St M0 w0 n (Δ ++ Γ) a' w'->wpListIn (Fr rr) 0 P ops Q (ops.toList.drop m) a' w'):(Code.region id ops true).wpIn (Fr rr) 0 P Q a w:=by
 refine wpIn_region_any hmx.mixed (DS (EA hf) hfl (λx hx=>by simpa using E8.1 hdj x hx) (λx hx=>?_) (λfuel listed a w h1 h2 h3 h4 h5=>Wk hf _ m fuel listed a w rfl (EA hf).le (FH _) h1 h2 h4 h3 (K a w h5)) ops.size _ a _ ?_ As (λi _ hi=>by simp [EZ,hi]) (λi o ho hl=>?_) ?_)
 ·have:=E8.1 hn x hx;exact FA this
 ·have:((Array.replicate ops.size false).toList.take m).count false<=m:=by
   refine F6 List.count_le_length ?_;simp;omega
  have hm:m<=ops.size:=by
   unfold Gw at hf;simp only [E3,decide_eq_true_eq] at hf;exact hf.1
  omega
 ·have hi:i < ops.size:=(E6.1 ho).1;simp [EZ,hi] at hl
 ·have hmle:m<=ops.size:=by
   unfold Gw at hf;simp only [E3,decide_eq_true_eq] at hf;exact hf.1
  rw [AH hfl.ds λi hi=>by simp [EZ,show i < ops.size by omega]];obtain ⟨M,φ,h⟩:=hs;refine ⟨M,φ,λt e he=>Ent.st _ (h.holds t e he) (Ext.drawn _ _ _ (H3 _ _)),h.own,h.apart,h.sub,h.bd,h.fr.trans (Ext.drawn _ _ _ (H3 _ _)),h.sz,h.df⟩
end
end Go.Pn
namespace Go.Pn
open Go Go.RowKit
variable {rr:Option Nat}
section
variable {P:Program} {M0:Fm} {w0:World} {n:Nat} {Γ:Cx} {Q:Exit->Act->World->Prop} {a:Act} {w:World}
theorem rg {id:Nat} {ops:Array Oper} (h:wpListIn (Fr rr) 0 P ops Q ops.toList a w):(Code.region id ops false).wpIn (Fr rr) 0 P Q a w:=wpIn_region_list h
theorem nl {ops:Array Oper} (h:Q .normal a w):wpListIn (Fr rr) 0 P ops Q [] a w:=h
theorem sg {ops:Array Oper} {rest:List Oper} {d j dj:Nat} {b want:Bool} {op:Op} {ty:TypeId} {pos:String} {aft:Array Edge} {e:Ent}
  (hs:St M0 w0 n Γ a w) (hj:(ops[j]?).bind (·.dst)=some dj) (hl:Am Γ dj=some (Va b)) (ho:b=want->OR P op ty Γ e) (hn:Nat.blt d n=true)
  (k:∀ a' w',St M0 w0 n ((d,Gd b want e) :: Γ) a' w'->wpListIn (Fr rr) 0 P ops Q rest a' w'):wpListIn (Fr rr) 0 P ops Q (⟨some d,op,ty,pos,aft,some (j,want)⟩ :: rest) a w:=by
 obtain ⟨M,φ,h⟩:=hs;have hyb:=Bb hj (Va.bool (h.holds dj _ hl));refine wpListIn_step λK hK=>?_;by_cases hbw:b=want
 ·rw [if_pos (by simp [Region.wanted,hyb,hbw])];refine Bh.upon ((ho hbw (some d) pos aft _ a.eval M w h.rd).mono λv w' hg=>?_);obtain ⟨F,hF1,hF2,hF3⟩:=hg.2;refine hK _ _ (k _ _ (by unfold St;rw [Aj];exact h.gives ⟨hg.1,F,hF1,hF2,λ_=>hF3,λhne=>absurd hbw hne⟩ (FA hn)))
 ·rw [if_neg (by simp [Region.wanted,hyb,hbw])];refine ⟨λ_ _=>trivial,hK _ _ (k _ _ (by unfold St;rw [Aj];exact h.gives ⟨Ext.refl _ _,[],GB,λk hk=>by simp at hk,λh=>absurd h hbw,λ_=>⟨rfl,rfl⟩⟩ (FA hn)))⟩
theorem sn {ops:Array Oper} {rest:List Oper} {d j dj:Nat} {b c b2 want:Bool} {op:Op} {ty:TypeId} {pos:String} {aft:Array Edge} {e:Ent}
  (hs:St M0 w0 n Γ a w) (hj:(ops[j]?).bind (·.dst)=some dj) (hl:Am Γ dj=some (Gd b c (Va b2))) (ho:b=c->b2=want->OR P op ty Γ e) (hn:Nat.blt d n=true)
  (k:∀ a' w',St M0 w0 n ((d,Gd ((b == c) && (b2 == want)) true e) :: Γ) a' w'->wpListIn (Fr rr) 0 P ops Q rest a' w'):wpListIn (Fr rr) 0 P ops Q (⟨some d,op,ty,pos,aft,some (j,want)⟩ :: rest) a w:=by
 obtain ⟨M,φ,h⟩:=hs;have hgd:=h.holds dj _ hl;have no:¬ (b=c/\b2=want)->∀ K:Act->World->Prop,(∀ a w,wpListIn (Fr rr) 0 P ops Q rest a w->K a w)->K (a.put (some d) undef) w:=λhno K hK=>
  hK _ _ (k _ _ (by unfold St;rw [Aj];exact h.gives ⟨Ext.refl _ _,[],GB,λk hk=>by simp at hk,λh=>absurd (by simpa using h) hno,λ_=>⟨rfl,rfl⟩⟩ (FA hn)))
 refine wpListIn_step λK hK=>?_;by_cases hbc:b=c
 ·have hyb:=Bb hj (Va.bool (hgd.1 hbc));by_cases hbw:b2=want
  ·rw [if_pos (by simp [Region.wanted,hyb,hbw])];refine Bh.upon ((ho hbc hbw (some d) pos aft _ a.eval M w h.rd).mono λv w' hg=>?_);obtain ⟨F,hF1,hF2,hF3⟩:=hg.2;refine hK _ _ (k _ _ (by unfold St;rw [Aj];exact h.gives ⟨hg.1,F,hF1,hF2,λ_=>hF3,λhne=>absurd (by simp [hbc,hbw]) hne⟩ (FA hn)))
  ·rw [if_neg (by simp [Region.wanted,hyb,hbw])];exact ⟨λ_ _=>trivial,no (λh=>hbw h.2) K hK⟩
 ·have hyb:=Cm hj (hgd.2 hbc).2;rw [if_neg (by simp [Region.wanted,hyb])];exact ⟨λ_ _=>trivial,no (λh=>hbc h.1) K hK⟩
theorem se {c d:Code} (h:c.wpIn (Fr rr) 0 P (Exit.then (d.wpIn (Fr rr) 0 P Q) Q) a w):(Code.seq c d).wpIn (Fr rr) 0 P Q a w:=wpIn_seq h
theorem cd {t:Nat} {b:Bool} {c d:Code} (hs:St M0 w0 n Γ a w) (hl:Am Γ t=some (Va b)) (ht:b=true->c.wpIn (Fr rr) 0 P Q a w) (hf:b=false->d.wpIn (Fr rr) 0 P Q a w):(Code.cond (.tmp t) c d).wpIn (Fr rr) 0 P Q a w:=by
 obtain ⟨M,φ,h⟩:=hs;have hv:a.eval (.tmp t)=.bool b:=Va.bool (h.holds t _ hl);exact wpIn_cond_split hv ht hf
theorem lp {c:Code} {S:Type} (I:S->Act->World->Prop) (μ:S->Nat) (s:S) (h0:I s a w)
  (h:∀ s a w,I s a w->c.wpIn (Fr rr) 0 P (Exit.then (λa' w'=>∃ s',I s' a' w'/\μ s' < μ s) Q) a w):(Code.loop c).wpIn (Fr rr) 0 P Q a w:=by
 refine wpIn_loop (P:=P) (Q:=Q) (λa w=>∃ s,I s a w) (λa w=>Classical.epsilon λm=>(∃ s,I s a w/\μ s=m)/\∀ s,I s a w->m<=μ s) ⟨s,h0⟩ ?_;have least:∀ a w,(∃ s,I s a w)->∃ m,(∃ s,I s a w/\μ s=m)/\∀ s,I s a w->m<=μ s:=by
  intro a w ⟨s,hs⟩;have:∀ k,∀ s,I s a w->μ s=k->∃ m,(∃ s,I s a w/\μ s=m)/\∀ s,I s a w->m<=μ s:=by
   intro k
   induction k using Nat.strongRecOn with
   | _ k ih=>
    intro s hs hk;by_cases hc:∃ s',I s' a w/\μ s' < k
    ·obtain ⟨s',h1,h2⟩:=hc;exact ih _ h2 s' h1 rfl
    ·refine ⟨k,⟨s,hs,hk⟩,λs' hs'=>?_⟩;rcases GE (μ s') k with h | h
     ·exact absurd ⟨s',hs',h⟩ hc
     ·exact h
  exact this _ s hs rfl
 intro a w hI;have hm:=Classical.epsilon_spec (least a w hI);obtain ⟨⟨s,hs,hμ⟩,_⟩:=hm;refine wpIn_mono (h s a w hs) ?_;intro e a' w' hq;cases e <;> try exact hq
 obtain ⟨s',h1,h2⟩:=hq;refine ⟨⟨s',h1⟩,?_⟩;have hm':=Classical.epsilon_spec (least a' w' ⟨s',h1⟩);have:=hm'.2 s' h1;show Classical.epsilon _ < Classical.epsilon _;rw [← hμ];omega
def cal (P : Program) (f : FuncId) : Bool := match P.funcs[f]? with | some fn => fn.body.isSome && !(fn.name == "runtime.NumGoroutine") | none => false
def Ct (P:Program) (f:FuncId) (args:Array Value) (M:Nat->Prop) (w:World) (e:Ent):Prop:=
 cal P f=true/\Calls P f args w λen w'=>∃ v,en=.returned v/\Gives e M w v w'
def Pst (K:Fm) (w0:World) (R:Ent):Ending->World->Prop:=λen w'=>∃ v F,en=.returned v/\Ext K.b w0 w'/\F.Nodup /\
 (∀ k∈F,K.b k\/(w0.heap.size<=k/\k < w'.heap.size))/\R.p F (λk=>K.k k\/k∈F) w' v
abbrev bqM (P:Program) (fn:Func) (R:Ending->World->Prop):Exit->Act->World->Prop:=bodyPostM (Fr none) 0 P fn R
def mark (D:Nat):Deferred:={ target:=.collected D,args:=#[] }
abbrev mf (D:Nat) (K:Fm):Fm:=⟨K.k,K.b,mark D :: K.ds⟩
def Bd (K:Fm) (w:World):Prop:=(∀ k,K.k k->k < w.heap.size)/\∀ k,K.b k->¬ K.k k
class Zf (e:Ent):Prop where
 z:∀ {F M w v},e.p F M w v->F=[]
class Gh (e:Ent):Prop where
 g:∀ {F M w v},e.p F M w v->∀ u,e.p F M w u
def Ql (M:Nat->Prop) (w:World):List Ent->List Value->Prop
 | [],[]=>True
 | e :: es,v :: vs=>e.p [] M w v/\Ql M w es vs
 | _,_=>False
def Hy (M:Nat->Prop) (w:World):List Ent->List Nat->Prop
 | [],Ft=>Ft=[]
 | e :: G,Ft=>∃ F F',Ft=F ++ F'/\(∀ u,e.p F M w u)/\Hy M w G F'
theorem Hy.st {M:Nat->Prop} {w w':World}:∀ {G:List Ent} {Ft:List Nat},Hy M w G Ft->Ext (λk=>M k/\k ∉ Ft) w w'->Hy M w' G Ft
 | [],_,h,_=>h
 | e :: G,_,⟨F,F',rfl,h1,h2⟩,x=>⟨F,F',rfl,λu=>e.st (h1 u) (x.mono λk _ hk=>⟨hk.1,λhm=>hk.2 (FJ _ hm)⟩),
   Hy.st h2 (x.mono λk _ hk=>⟨hk.1,λhm=>hk.2 (FK _ hm)⟩)⟩
theorem Hy.sb {M M':Nat->Prop} {w:World}:∀ {G:List Ent} {Ft:List Nat},Hy M w G Ft->(∀ k,k < w.heap.size->M' k->M k)->Hy M' w G Ft
 | [],_,h,_=>h
 | e :: G,_,⟨F,F',hF,h1,h2⟩,s=>⟨F,F',hF,λu=>e.sb (h1 u) s,Hy.sb h2 s⟩
def Cg (P:Program) (f:FuncId) (ps G:List Ent) (R:Ent):Prop:=
 cal P f=true/\∀ (vs:List Value) (M:Nat->Prop) (w:World) (Ft:List Nat),(∀ k,M k->k < w.heap.size)->Ql M w ps vs->Hy M w G Ft->Ft.Nodup->(∀ k∈Ft,M k) ->
  Calls P f vs.toArray w (Pst ⟨λk=>M k/\k ∉ Ft,λk=>k∈Ft,[]⟩ w R)
def Sp (P:Program) (f:FuncId) (ps:List Ent) (R:Ent):Prop:=∀ (vs:List Value) (M:Nat->Prop) (w:World),(∀ k,M k->k < w.heap.size)->Ql M w ps vs->Ct P f vs.toArray M w R
@[reducible] def num:Nat->List Ent->Cx->Cx
 | _,[],Γ=>Γ
 | k,e :: es,Γ=>(k,e) :: num (k + 1) es Γ
theorem Gq:∀ {es:List Ent} {k t:Nat} {e:Ent} {Γ:Cx},Am (num k es Γ) t=some e->(k<=t/\t < k + es.length/\es[t - k]?=some e)\/Am Γ t=some e
 | [],_,_,_,_,h=>.inr h
 | e0 :: es,k,t,e,Γ,h=>by
  unfold num at h;rw [Aj] at h;unfold put at h;split at h
  ·rename_i ht;subst ht;left;simpa using h
  ·rename_i ht;rcases Gq h with ⟨h1,h2,h3⟩ | h1
   ·left;refine ⟨by omega,by simp;omega,?_⟩;rw [show t - k=(t - (k + 1)) + 1 by omega];simpa using h3
   ·exact .inr h1
theorem Ql.len {M:Nat->Prop} {w:World}:∀ {es:List Ent} {vs:List Value},Ql M w es vs->vs.length=es.length
 | [],[],_=>rfl
 | _ :: _,_ :: _,⟨_,h⟩=>by simp [Ql.len h]
theorem Ql.get {M:Nat->Prop} {w:World}:∀ {es:List Ent} {vs:List Value},Ql M w es vs->∀ (i:Nat) (e:Ent),es[i]?=some e->e.p [] M w (vs.getD i undef)
 | [],[],_,i,e,h=>by simp at h
 | _ :: _,_ :: _,⟨h1,_⟩,0,e,h=>by
  simp only [GY,Nat.zero_lt_succ,FY,List.getElem_cons_zero,Option.some.injEq] at h;subst h;simpa using h1
 | _ :: _,_ :: _,⟨_,h2⟩,i + 1,e,h=>by
  have:=Ql.get h2 i e (by simpa using h);simpa using this
theorem Hy.cut {M:Nat->Prop} {w:World}:∀ {G:List Ent} {Ft:List Nat},Hy M w G Ft->∃ ψ:Nat->List Nat,(∀ (i:Nat) (e:Ent),G[i]?=some e->∀ u,e.p (ψ i) M w u)/\(∀ i,i < G.length->∀ k∈ψ i,k∈Ft) /\
  (Ft.Nodup->(∀ i,i < G.length->(ψ i).Nodup)/\∀ i j,i < G.length->j < G.length->i≠j->∀ k∈ψ i,k ∉ ψ j)
 | [],_,_=>⟨λ_=>[],λi e h=>by simp at h,λi h=>by simp at h,λ_=>⟨λi h=>by simp at h,λi j h=>by simp at h⟩⟩
 | e :: G,_,⟨F,F',rfl,h1,h2⟩=>by
  obtain ⟨ψ,p1,p2,p3⟩:=Hy.cut h2;refine ⟨λi=>if i=0 then F else ψ (i - 1),λi e' he=>?_,λi hi k hk=>?_,λhn=>⟨λi hi=>?_,λi j hi hj hne k hk=>?_⟩⟩
  ·cases i with
   | zero=>simp at he;subst he;simpa using h1
   | succ i=>simpa using p1 i e' (by simpa using he)
  ·cases i with
   | zero=>exact FJ _ (by simpa using hk)
   | succ i=>exact FK _ (p2 i (by simpa using hi) k (by simpa using hk))
  ·obtain ⟨n1,n2,n3⟩:=H9.1 hn;cases i with
   | zero=>simpa using n1
   | succ i=>simpa using (p3 n2).1 i (by simpa using hi)
  ·obtain ⟨n1,n2,n3⟩:=H9.1 hn;cases i with
   | zero=>
    cases j with
    | zero=>exact absurd rfl hne
    | succ j=>
     simp only [if_true,Nat.succ_ne_zero,if_false,G5] at hk ⊢;exact λhm=>n3 k hk k (p2 j (by simpa using hj) k hm) rfl
   | succ i=>
    simp only [Nat.succ_ne_zero,if_false,G5] at hk;cases j with
    | zero=>simp only [if_true];exact λhm=>n3 k hm k (p2 i (by simpa using hi) k hk) rfl
    | succ j=>
     simp only [Nat.succ_ne_zero,if_false,G5];exact (p3 n2).2 i j (by simpa using hi) (by simpa using hj) om_ k hk
theorem tmps0 {vs:List Value} {m t:Nat} (h:t < vs.length):Act.get { tmps:=vs.toArray ++ Array.replicate m undef,defers:=[] } t=vs.getD t undef:=by
 unfold Act.get;rw [EZ,JG (by simpa using h)];simp [h]
theorem eng {f:FuncId} {fn:Func} {c:Code} {ps G:List Ent} {R:Ent} (hf:P.funcs[f]?=some fn) (hc:cal P f=true) (hb:fn.body=some c) (hn:fn.ntmps=n) (hsz:Nat.ble ps.length n=true) (h1000:Nat.ble n 1000=true)
  (h:∀ K w a,Bd K w->K.ds=[]->St K w n (num 0 ps (num 1000 G [])) a w->c.wpIn (Fr none) 0 P (bqM P fn (Pst K w R)) a w):Cg P f ps G R:=by
 refine ⟨hc,λvs M w Ft hM hv ho hnd hFM=>A5.1 (callsIn_of_wp_marks (F:=Fr none) (n:=0) hf hb trivial ?_)⟩;have hsz':=FA hsz;have h1000':=FA h1000;obtain ⟨ψ,p1,p2,p3⟩:=ho.cut;obtain ⟨p4,p5⟩:=p3 hnd;have hl:=hv.len;have key:∀ t,(Am (num 0 ps (num 1000 G [])) t).isSome=true->t < 1000\/(1000<=t/\t - 1000 < G.length):=λt ht=>by
  obtain ⟨e,he⟩:=GW.1 ht;rcases Gq he with ⟨h1,h2,h3⟩ | h1
  ·left;omega
  ·rcases Gq h1 with ⟨h1,h2,h3⟩ | h1
   ·right;omega
   ·simp [Am] at h1
 refine h _ _ _ ⟨λk hk=>hM k hk.1,λk hk hk'=>hk'.2 hk⟩ rfl ⟨M,λt=>if t < 1000 then [] else ψ (t - 1000),?_,λt ht=>?_,λt s hne ht hs k hk=>?_,λk hk=>hk.1,hM,Ext.refl _ _,?_,rfl⟩
 ·intro t e he;rcases Gq he with ⟨h1,h2,h3⟩ | h1
  ·rw [tmps0 om_];simp only [show t < 1000 by omega,if_true];exact hv.get t e h3
  ·rcases Gq h1 with ⟨h1,h2,h3⟩ | h1
   ·rw [if_neg om_];have h4:=p1 (t - 1000) e h3;generalize Act.get _ t=u;exact h4 u
   ·simp [Am] at h1
 ·rcases key t ht with h1 | ⟨h1,h2⟩
  ·simp [h1]
  ·simp only [show ¬ t < 1000 by omega,if_false];exact ⟨p4 _ h2,λk hk=>⟨hFM k (p2 _ h2 k hk),.inr (p2 _ h2 k hk)⟩⟩
 ·rcases key t ht with h1 | ⟨h1,h2⟩
  ·simp [h1] at hk
  ·rcases key s hs with h3 | ⟨h3,h4⟩
   ·simp [h3]
   ·simp only [show ¬ t < 1000 by omega,if_false] at hk;simp only [show ¬ s < 1000 by omega,if_false];exact p5 _ _ h2 h4 om_ k hk
 ·simp only [JL,HG,Array.size_replicate,hn];omega
theorem Cg.sp {f:FuncId} {ps:List Ent} {R:Ent} (h:Cg P f ps [] R):Sp P f ps R:=λvs M w hM hv=>by
 refine ⟨h.1,Calls.mono (h.2 vs M w [] hM hv rfl GB (λk hk=>by simp at hk)) ?_⟩;rintro en w' ⟨v,F,he,hx,hn,hF,hp⟩;refine ⟨v,he,hx.mono (λk _ hk=>by simp at hk),F,hn,λk hk=>(hF k hk).resolve_left As,?_⟩;exact R.sb hp λk _ hk=>hk.imp (λh=>⟨h,by simp⟩) id
theorem ens {f:FuncId} {fn:Func} {c:Code} {ps:List Ent} {R:Ent} (hf:P.funcs[f]?=some fn) (hc:cal P f=true) (hb:fn.body=some c) (hn:fn.ntmps=n) (hsz:Nat.ble ps.length n=true) (h1000:Nat.ble n 1000=true)
  (h:∀ K w a,Bd K w->K.ds=[]->St K w n (num 0 ps []) a w->c.wpIn (Fr none) 0 P (bqM P fn (Pst K w R)) a w):Sp P f ps R:=(eng (G:=[]) hf hc hb hn hsz h1000 h).sp
theorem DN {f:FuncId} {args:Array Operand} {argTypes:Array TypeId} {ty:TypeId} {e:Ent}
  (h:∀ ρ M w,Rd (Am Γ) M w ρ->Ct P f (args.map ρ) M w e):OR P (.call { callee:=.value (.func f),args:=args,argTypes:=argTypes }) ty Γ e:=by
 intro d pos aft gd ρ M w rd;unfold Bh;have:(execOp ρ ⟨d,.call { callee:=.value (.func f),args:=args,argTypes:=argTypes },ty,pos,aft,gd⟩).run P w=(invoke (.fn (.func f) #[]) (args.map ρ)).run P w:=by
  simp [execOp,resolve,Deferred.ofValue,rd.fn]
 rw [this];obtain ⟨hb,hc⟩:=h ρ M w rd;cases hf:P.funcs[f]? with
 | none=>simp [cal,hf] at hb
 | some fn=>
  simp only [cal,hf,E3,FX] at hb;have:(invoke (.fn (.func f) #[]) (args.map ρ)).run P w=.ok (.enter f (args.map ρ)) w:=by
   simp only [invoke,callFunc,EU,run_program,ER,hf,hb.2,Array.append_empty];have:fn.body.isNone=false:=by simpa using hb.1
   rw [this];rfl
  rw [this];exact hc
end
end Go.Pn
namespace Go.Pn
open Go Go.RowKit Go.ChangeShapes Go.WideShapes Go.ChangeAt Go.WideMaps Go.WideElems
class Rdt (P:Program) (t:TypeId) (α:Type) [Rep α]:Prop where
 rd:∀ {H:Type} {enc:TypeId×Value->H} {w:World} {base:Nat} {sp:Nat->Bool} {held:Bool} {n:Nat} {cs:List Value} {x:DataW H×List MemPlace},
  DataW.trod enc P w base sp held n t cs=some x->∃ a:α,Rep.rep No w cs a
section
variable {P:Program} {t e:TypeId}
theorem rdi (h:P.underlying t=some (.int .i64)):Rdt P t Int:=⟨λhd=>let ⟨n,hc,_⟩:=DataW.trod_int h hd;⟨n,hc⟩⟩
theorem rdb (h:P.underlying t=some .bool):Rdt P t Bool:=⟨λhd=>let ⟨n,hc,_⟩:=DataW.trod_bool h hd;⟨n,hc⟩⟩
theorem Oe {w:World} {base b o:Nat} {sp:Option Nat} {n:Nat} {cs:List Value} (h:w.cells? base ⟨b,o,sp⟩ n=some cs) (h0:0 < n):sp=none/\cs.length=n/\∀ j v,cs[j]?=some v->w.cell? ⟨b,o + j,none⟩=some v:=by
 unfold World.cells? at h;split at h
 case isFalse=>cases h
 have key:∀ (l:List Nat) (cs:List Value),l.mapM (λi=>w.cell? ((⟨b,o,sp⟩:Addr).add i))=some cs->cs.length=l.length/\∀ (j:Nat) v,cs[j]?=some v->∃ i,l[j]?=some i/\w.cell? ((⟨b,o,sp⟩:Addr).add i)=some v:=by
  intro l
  induction l with
  | nil=>intro cs h;simp at h;subst h;exact ⟨rfl,λj v hj=>by simp at hj⟩
  | cons i l ih=>
   intro cs h;simp only [List.mapM_cons,Option.bind_eq_bind,GP] at h;obtain ⟨v,hv,r,hr,h⟩:=h;obtain rfl:=Option.some.inj h;obtain ⟨h1,h2⟩:=ih r hr;refine ⟨by simp [h1],λj u hj=>?_⟩;cases j with
   | zero=>simp at hj;subst hj;exact ⟨i,rfl,hv⟩
   | succ j=>simpa using h2 j u (by simpa using hj)
 obtain ⟨h1,h2⟩:=key _ _ h;rw [F0] at h1;have hsp:sp=none:=by
  obtain ⟨i,hi,hv⟩:=h2 0 (cs[0]'om_) (FY om_);rw [FB h0] at hi;obtain rfl:=Option.some.inj hi;cases sp with
  | none=>rfl
  | some q=>
   exfalso;unfold World.cell? at hv;simp only [Addr.add,if_true] at hv;split at hv
   ·simp at hv
   ·cases hv
 subst hsp;refine ⟨rfl,h1,λj v hj=>?_⟩;obtain ⟨i,hi,hv⟩:=h2 j v hj;have hjl:j < n:=by
  rcases GE j n with h | h
  ·exact h
  ·rw [GC om_] at hj;cases hj
 rw [FB hjl] at hi;obtain rfl:=Option.some.inj hi
 rwa [Bc] at hv
theorem rdl {α:Type} [Rep α] (h:P.underlying t=some (.slice e)) (hc:P.cellsOf e=Rep.sz α) (hp:0 < Rep.sz α) (r:Rdt P e α):Rdt P t (List α):=⟨λ{H enc w base sp held n cs x} hd=>by
 rcases DataW.trod_slice h hd with ⟨rfl,_⟩ | ⟨a,len,cap,elems,rest,m,q1,rfl,q2,q3,q4,q5,hel,hat,q6⟩
 ·exact ⟨[],_,rfl,none,0,rfl,.inl rfl⟩
 ·by_cases h0:len=0
  ·subst h0;exact ⟨[],_,rfl,some a,cap,rfl,.inl rfl⟩
  ·obtain ⟨b,o,spot⟩:=a;have h1:spot=none:=by
    have h1:=hat 0 om_;rw [FY om_,Nat.zero_mul,hc] at h1;obtain ⟨cs,hcs,_⟩:=GP.1 h1;exact (Oe (b:=b) (o:=o) hcs hp).1
   subst h1;have get:∀ i,i < len->∃ x:α,Pl x No w b (o + i * Rep.sz α):=by
    intro i hi;have h1:=hat i hi;rw [FY om_] at h1;obtain ⟨cs,hcs,htr⟩:=GP.1 h1;obtain ⟨x,hx⟩:=r.rd htr;rw [hc,Bc] at hcs;obtain ⟨h2,h3,h4⟩:=Oe (b:=b) (o:=o + i * Rep.sz α) hcs hp;exact ⟨x,cs,λj v hj=>⟨id,h4 j v hj⟩,hx⟩
   have pick:∀ k,k<=len->∃ xs:List α,xs.length=k/\∀ i x,xs[i]?=some x->Pl x No w b (o + i * Rep.sz α):=by
    intro k
    induction k with
    | zero=>intro _;exact ⟨[],rfl,λi x hx=>by simp at hx⟩
    | succ k ih=>
     intro hk;obtain ⟨xs,hl,hx⟩:=ih om_;obtain ⟨y,hy⟩:=get k om_;refine ⟨xs ++ [y],by simp [hl],λi x hi=>?_⟩;by_cases hik:i < k
     ·rw [E5 om_] at hi;exact hx i x hi
     ·rw [EV om_] at hi;have:i - xs.length=0:=by
       rcases H7 (i - xs.length) with h | h
       ·exact h
       ·rw [GC (by simp;omega)] at hi;cases hi
      rw [this] at hi;obtain rfl:y=x:=by simpa using hi
      rw [show i=k by omega];exact hy
   obtain ⟨xs,hl,hx⟩:=pick len (FH _);subst hl;exact ⟨xs,_,rfl,some ⟨b,o,none⟩,cap - xs.length,by rw [J0 om_],.inr ⟨b,o,rfl,Row.of_get hx⟩⟩⟩
structure Flds (P:Program) (fs:List Field) (o:Nat) (β:Type) [Rep β]:Prop where
 go:∀ {H:Type} {enc:TypeId×Value->H} {w:World} {base:Nat} {sp:Nat->Bool} {held:Bool} {n:Nat} {cs:List Value},
  o + Rep.sz β<=cs.length->(∀ f∈fs,∃ x,DataW.trod enc P w base sp held n f.type ((cs.drop f.offset).take (P.cellsOf f.type))=some x)->∃ b:β,Rep.rep No w ((cs.drop o).take (Rep.sz β)) b
theorem Wa {α:Type} [Rep α] {f:Field} {o:Nat} (ho:f.offset=o) (hc:P.cellsOf f.type=Rep.sz α) (r:Rdt P f.type α):Flds P [f] o α:=.mk λ_ h=>by
 obtain ⟨x,hx⟩:=h f As;rw [ho,hc] at hx;exact r.rd hx
theorem Qb {α β:Type} [Rep α] [Rep β] {f:Field} {fs:List Field} {o:Nat} (ho:f.offset=o) (hc:P.cellsOf f.type=Rep.sz α) (r:Rdt P f.type α) (k:Flds P fs (o + Rep.sz α) β):Flds P (f :: fs) o (α×β):=.mk λ{H enc w base sp held n cs} hl h=>by
 have hl:o + (Rep.sz α + Rep.sz β)<=cs.length:=hl;obtain ⟨x,hx⟩:=h f As;rw [ho,hc] at hx;obtain ⟨a,ha⟩:=r.rd hx;obtain ⟨b,hb⟩:=k.go (cs:=cs) om_ λg hg=>h g (by simp [hg]);refine ⟨(a,b),_,_,?_,ha,hb⟩;show (cs.drop o).take (Rep.sz α + Rep.sz β)=_;rw [List.take_add,List.drop_drop]
theorem rdst {α β:Type} [Rep β] {l:List Field} {f:α->β} {g:β->α} (hfg:∀ b,f (g b)=b) (ht:P.underlying t=some (.struct l.toArray)) (hc:P.cellsOf t=Rep.sz β) (k:Flds P l 0 β):@Rdt P t α (Rep.via f):=
 @Rdt.mk P t α (Rep.via f) λ{H enc w base sp held n cs x} hd=>by
  obtain ⟨xs,m,rfl,_,hl,hxl,hf⟩:=DataW.trod_struct ht hd;obtain ⟨b,hb⟩:=k.go (cs:=cs) om_ (λf hm=>by
   obtain ⟨i,hi,rfl⟩:=JD.1 hm;have:=hf i l[i] (by simp [hi]);rw [FY (by simp at hxl;omega)] at this;exact ⟨_,this⟩)
  refine ⟨g b,?_⟩;show Rep.rep No w cs (f (g b));rw [hfg];rw [GG,HU om_] at hb;exact hb
theorem Qm {α:Type} [Rep α] {fs:Array Field} {H:Type} {enc:TypeId×Value->H} {w:World} {rch:Reach} {b0 base:Nat} {sp:Nat->Bool} {held:Bool} {v:Value} {d:DataW H} {ps:List MemPlace} (ht:P.underlying t=some (.struct fs)) (ha:Rep.agg α=true) (r:Rdt P t α)
  (hval:Value.okWide P w rch b0 t v) (hd:DataW.Trod enc P w base sp held t v d ps):∃ x:α,(Va x).p [] No w v:=by
 obtain ⟨n,hn⟩:=hd;obtain ⟨x,hx⟩:=r.rd hn;simp only [Value.okWide,ht] at hval;obtain ⟨cs,rfl,_⟩:=hval;exact ⟨x,rfl,cs.toList,by simp [mk,ha],hx⟩
theorem Fp {H:Type} {enc:TypeId×Value->H} {W W':World} {sp':Nat->Bool} (hl:laidOutB P=true) (hB:Below W.heap.size W W'):∀ {ts:List TypeId} {vs:List Value} {ds:List (DataW H)} {ps:List MemPlace},
  (∀ t∈ts,P.readableRec t=true/\t < P.types.size)->DataW.TrodAll enc P W 0 (λ_=>true) true ts vs ds ps->(∀ p∈ps,p.block < W.heap.size)->(∀ p∈ps,sp' p.block=true)->DataW.TrodAll enc P W' 0 sp' true ts vs ds ps
 | [],[],[],_,_,h,_,_=>h
 | t :: ts,v :: vs,d :: ds,_,hr,⟨p,q,h1,h2,rfl⟩,hb,hs=>by
  have h0:=hr t As;exact ⟨p,q,Trod_stays hl h0.1 h0.2 h1 (λx hx=>hB.same (hb x (by simp [hx]))) (λx hx=>hs x (by simp [hx])),Fp hl hB (λt ht=>hr t (by simp [ht])) h2 (λx hx=>hb x (by simp [hx])) (λx hx=>hs x (by simp [hx])),rfl⟩
 | [],_ :: _,_,_,_,h,_,_=>h.elim
 | [],[],_ :: _,_,_,h,_,_=>h.elim
 | _ :: _,[],_,_,_,h,_,_=>h.elim
 | _ :: _,_ :: _,[],_,_,h,_,_=>h.elim
theorem Xv {H:Type} {enc:TypeId×Value->H} {f:Func} {s:ChangeSpec} {apart fresh handsOn again:Bool} {W W':World} {args:Array Value} {ds gs:List (DataW H)} {before:List MemPlace} {tb:TypeId}
  (hl:laidOutB P=true) (hps:∀ t∈f.params.toList,P.readableRec t=true/\t < P.types.size) (hrt:f.resultTypes=#[tb]) (hb:P.underlying tb=some .bool) (hv:s.vars=[])
  (hfn:(s.fn H ds).results=[.lit (.bool true)]/\(s.fn H ds).args=ds/\(s.fn H ds).vars=[])
  (hW:DataW.Whole enc P f.params.toList s.vars apart W args.toList ds gs before) (hB:Below W.heap.size W W'):s.post enc P f apart fresh handsOn again W args (.bool true) W':=by
 have hlt:=hW.lt;have hW0:=hW;obtain ⟨pa,pv,hA,hV,rfl,hz,hn⟩:=hW;rw [hv] at hV;obtain ⟨rfl,rfl⟩:=ChangeShapes.trodVars_none hV;rw [GA] at hlt hz hn;have hres:∀ (b:Nat) (sp:Nat->Bool) (hd:Bool),DataW.TrodAll enc P W' b sp hd f.resultTypes.toList ((Value.bool true).resultList f.resultTypes.size) (s.fn H (ds ++ [])).results []:=by
  intro b sp hd;rw [GA,hfn.1,hrt];exact ChangeShapes.trodAll_mk1 (shut_bool hb _)
 have hargs:∀ sp:Nat->Bool,(∀ p∈pa,sp p.block=true)->DataW.TrodAll enc P W' 0 sp true f.params.toList args.toList (s.fn H (ds ++ [])).args pa:=by
  intro sp hsp;rw [GA,hfn.2.1];exact Fp hl hB hps hA hlt hsp
 have hvars:∀ sp:Nat->Bool,DataW.TrodVars enc P W' sp s.vars (s.fn H (ds ++ [])).vars []:=by
  intro sp;rw [GA,hfn.2.2,hv];exact rfl
 have hold:∀ p∈pa,(λb=>decide (b < W.heap.size)) p.block=true:=λp hp=>by simpa using hlt p hp
 refine ⟨ds,[],pa ++ [],[],pa,[],hW0,hres _ _ _,hargs _ hold,hvars _,hB.frame _,λ_=>?_⟩;refine ⟨?_,_,_,([] ++ pa) ++ [],⟨[] ++ pa,[],trodAll_append (hargs _ (λ_ _=>rfl)) (hres _ _ _),hvars _,rfl,?_,?_⟩,?_⟩
 ·intro j t r h1 h2;rw [hrt] at h1 h2
  match j,h1,h2 with
  | 0,h1,h2=>
   obtain rfl:tb=t:=by simpa using h1
   obtain rfl:Value.bool true=r:=by simpa [Value.resultList] using h2
   exact okWide_bool_mk hb _
 ·intro b off hp;have hp':MemPlace.cell b off∈pa:=by simpa using hp
  rw [hB.frozen (p:=⟨b,off,none⟩) (hlt _ hp')];exact hz b off hp'
 ·intro ha;simpa using hn ha
 ·intro p hp _;simpa using hp
end
end Go.Pn
namespace Go.Pn
open Go Go.RowKit
variable {rr:Option Nat}
def Qv (c:Value):Ent where
 p F _ _ v:=F=[]/\v=c
 st h _:=h
 sb h _:=h
def Dd:Ent where
 p F _ _ _:=F=[]
 st h _:=h
 sb h _:=h
instance {α:Type} [Rep α] {x:α}:Zf (Va x):=⟨λh=>h.1⟩
instance {α:Type} [Rep α] {x:α}:Zf (Pt x):=⟨λh=>h.1⟩
instance {c:Value}:Zf (Qv c):=⟨λh=>h.1⟩
@[reducible] def pb (b off:Nat):Value:=.pointer (some ⟨b,off,none⟩)
def Mg {α:Type} [Rep α] (b:Nat) (x:α):Ent where
 p F M w _:=F=[b]/\∃ cs T,w.heap[b]?=some (.cells cs T (0,0))/\Rep.rep M w cs.toList x
 st h e:=by
  obtain ⟨rfl,cs,T,hc,hr⟩:=h;have hb:b < _:=(E6.1 hc).1;exact ⟨rfl,cs,T,by rw [e.block b hb As];exact hc,Rep.ext hr (e.mono λ_ _ hk=>hk.1)⟩
 sb h s:=let ⟨hF,cs,T,hc,hr⟩:=h;⟨hF,cs,T,hc,Rep.sub hr s⟩
instance {α:Type} [Rep α] {b:Nat} {x:α}:Gh (Mg b x):=⟨λh _=>h⟩
def MB {α:Type} [Rep α] (x:α):Ent where
 p F M w v:=∃ b,v=pb b 0/\(Mg b x).p F M w v
 st h e:=let ⟨b,hv,h⟩:=h;⟨b,hv,(Mg b x).st h e⟩
 sb h s:=let ⟨b,hv,h⟩:=h;⟨b,hv,(Mg b x).sb h s⟩
def At (c:Value) (e:Ent):Ent where
 p F M w _:=e.p F M w c
 st h x:=e.st h x
 sb h s:=e.sb h s
instance {c:Value} {e:Ent}:Gh (At c e):=⟨λh _=>h⟩
class Zr (P:Program) (T:TypeId) {α:Type} [Rep α] (z:outParam α):Prop where
 zero:∃ cs,(P.info? T).map (·.zero)=some (some (mk (Rep.agg α) cs))/\∀ M w,Rep.rep M w cs z
theorem Rep.fresh {α:Type} [Rep α] {M:Nat->Prop} {w w':World} {cs:List Value} {x:α} {F:List Nat} (h:Rep.rep M w cs x) (e:Ext No w w') (hF:∀ k∈F,w.heap.size<=k):Rep.rep (λk=>M k\/k∈F) w' cs x:=by
 refine Rep.ext (Rep.sub h λk hk hk'=>?_) e.no;rcases hk' with h | h
 ·exact h
 ·exact absurd (hF k h) om_
section
variable {P:Program} {M0:Fm} {w0:World} {n:Nat} {Γ:Cx} {Q:Exit->Act->World->Prop} {a:Act} {w:World} {ty:TypeId}
theorem Bz (w:World) (o:Obj):(w.alloc o).heap[w.heap.size]?=some o:=by
 show (w.heap.push o)[w.heap.size]?=_;simp
theorem al {T:TypeId} {α:Type} [Rep α] {z:α} [hz:Zr P T z]:OR P (.alloc T) ty Γ (MB z):=by
 obtain ⟨cs,hz1,hz2⟩:=hz.zero;refine OR.run λρ M w r=>?_;have hr:=hz2 M w;refine ⟨.pointer (some ⟨w.heap.size,0,none⟩),w.alloc (.cells cs.toArray T),λ_ _ _ _=>?_,Ext.alloc _ _ _,[w.heap.size],by simp,λk hk=>?_,w.heap.size,rfl,rfl,cs.toArray,T,Bz _ _,?_⟩
 ·cases hi:P.info? T with
  | none=>simp [hi] at hz1
  | some i=>
   simp only [hi,Option.map_some,Option.some.injEq] at hz1;simp only [execOp,Instr.alloc,zeroValue,typeInfo,EU,run_program,ER,hi,EW,hz1,newVar,newRow,Cb hr,run_newObj];rfl
 ·simp at hk;subst hk;exact ⟨Nat.le_refl _,by simp⟩
 ·exact hz2 _ _
theorem bxm {T:TypeId} {x:Operand} {α:Type} [Rep α] {y:α} (h:Od Γ x (Va y)):OR P (.box T x) ty Γ (MB y):=by
 refine OR.run λρ M w r=>?_;obtain ⟨_,_,cs,hv,hr⟩:=h ρ M w r;refine ⟨.pointer (some ⟨w.heap.size,0,none⟩),w.alloc (.cells cs.toArray T),λ_ _ _ _=>?_,Ext.alloc _ _ _,[w.heap.size],by simp,λk hk=>?_,w.heap.size,rfl,rfl,cs.toArray,T,Bz _ _,?_⟩
 ·simp only [execOp,hv,Instr.box,newVar,newRow,Cb hr,EU,run_newObj,ER,EW];rfl
 ·simp at hk;subst hk;exact ⟨Nat.le_refl _,by simp⟩
 ·exact Rep.fresh hr (Ext.alloc _ _ _) λk hk=>by simp at hk;omega
theorem StM.split {g:Mp} {M:Nat->Prop} {φ:Nat->List Nat} {d k:Nat} {e1 e2:Ent} (h:StM M0 w0 n g a w M φ) (hd:(g d).isSome=true) (hne:d≠k)
  (h1:e1.p [] M w (a.get d)) (h2:e2.p (φ d) M w (a.get k)):StF M0 w0 n (put d e1 (put k e2 g)) a w:=by
 refine ⟨M,λt=>if t=d then [] else if t=k then φ d else φ t,λt e he=>?_,λt ht=>?_,λt s hts ht hs=>?_,h.sub,h.bd,h.fr,h.sz,h.df⟩
 ·simp only [put] at he;by_cases h3:t=d
  ·subst h3;simp only [if_true,Option.some.injEq] at he ⊢;subst he;exact h1
  ·by_cases h4:t=k
   ·subst h4;simp only [if_neg h3,if_true,Option.some.injEq] at he ⊢;subst he;exact h2
   ·simp only [if_neg h3,if_neg h4] at he ⊢;exact h.holds t e he
 ·by_cases h3:t=d
  ·subst h3;simp
  ·by_cases h4:t=k
   ·subst h4;simp only [if_neg h3,if_true];exact h.own d hd
   ·simp only [put,if_neg h3,if_neg h4] at ht ⊢;exact h.own t ht
 ·by_cases h3:t=d
  ·simp [h3]
  ·by_cases h5:s=d
   ·simp [h5]
   ·simp only [put,if_neg h3,if_neg h5] at ht hs ⊢;by_cases h4:t=k
    ·subst h4;simp only [if_true,if_neg (Ne.symm hts)] at hs ⊢;exact h.apart d s (Ne.symm h5) hd hs
    ·by_cases h6:s=k
     ·subst h6;simp only [if_neg h4,if_true] at ht ⊢;exact h.apart t d h3 ht hd
     ·simp only [if_neg h4,if_neg h6] at ht hs ⊢;exact h.apart t s hts ht hs
theorem Fh (d k:Nat) (e1 e2:Ent) (Γ:Cx):Am ((d,e1) :: (k,e2) :: Γ)=put d e1 (put k e2 (Am Γ)):=by rw [Aj,Aj]
theorem St.openB {d:Nat} {α:Type} [Rep α] {x:α} (h:St M0 w0 n Γ a w) (k:Nat) (hd:Am Γ d=some (MB x)) (hne:Nat.beq d k=false):∃ b,St M0 w0 n ((d,Qv (pb b 0)) :: (k,Mg b x) :: Γ) a w:=by
 obtain ⟨M,φ,h⟩:=h;obtain ⟨b,hv,hb⟩:=h.holds d _ hd;refine ⟨b,?_⟩;unfold St;rw [Fh];exact h.split (by rw [hd];rfl) (F8 hne) ⟨rfl,hv⟩ hb
theorem St.name {d:Nat} {e:Ent} (h:St M0 w0 n Γ a w) (k:Nat) (hd:Am Γ d=some e) (hne:Nat.beq d k=false):∃ c,St M0 w0 n ((d,Qv c) :: (k,At c e) :: Γ) a w:=by
 obtain ⟨M,φ,h⟩:=h;refine ⟨a.get d,?_⟩;unfold St;rw [Fh];exact h.split (by rw [hd];rfl) (F8 hne) ⟨rfl,rfl⟩ (h.holds d _ hd)
theorem nmk {d:Nat} {e:Ent} {R:Prop} (k:Nat) (h:St M0 w0 n Γ a w) (hd:Am Γ d=some e) (hne:Nat.beq d k=false) (r:∀ c,St M0 w0 n ((d,Qv c) :: (k,At c e) :: Γ) a w->R):R:=
 let ⟨c,s⟩:=h.name k hd hne;r c s
theorem ta {x:Operand} {k:Nat} {c:Value} {e:Ent} (hx:Od Γ x (Qv c)) (hk:Am Γ k=some (At c e)):Od Γ x e:=λρ M w r=>by
 obtain ⟨_,_,hv⟩:=hx ρ M w r;obtain ⟨F,h⟩:=r.tmp _ _ hk;exact ⟨F,by rw [hv];exact h⟩
theorem sqb {ops:Array Oper} {rest:List Oper} {d:Nat} {op:Op} {pos:String} {aft:Array Edge} {α:Type} [Rep α] {x:α} (K:Nat)
  (hs:St M0 w0 n Γ a w) (ho:OR P op ty Γ (MB x)) (hn:Nat.blt d n=true) (hdk:Nat.beq d K=false)
  (k:∀ b a' w',St M0 w0 n ((d,Qv (pb b 0)) :: (K,Mg b x) :: (d,MB x) :: Γ) a' w'->wpListIn (Fr rr) 0 P ops Q rest a' w'):wpListIn (Fr rr) 0 P ops Q (⟨some d,op,ty,pos,aft,none⟩ :: rest) a w:=
 sq hs ho hn λa' w' s=>let ⟨b,s⟩:=s.openB K (by simp [Am]) hdk;k b a' w' s
theorem cq {v:Value}:Od Γ (.const v) (Qv v):=λρ _ _ r=>⟨[],rfl,r.con _⟩
theorem mvq {x:Operand} {c:Value} (h:Od Γ x (Qv c)):OR P (.move x) ty Γ (Qv c):=
 OR.val λρ M w r=>let ⟨_,hF⟩:=h ρ M w r;⟨ρ x,λ_ _ _ _=>rfl,rfl,hF.2⟩
theorem saq {x:Operand} {c:Value} (h:Od Γ x (Qv c)):OR P (.assign x) ty Γ (Qv c):=
 OR.val λρ M w r=>let ⟨_,hF⟩:=h ρ M w r;⟨ρ x,λ_ _ _ _=>rfl,rfl,hF.2⟩
theorem nkq {x:Operand} {b o:Nat} (h:Od Γ x (Qv (pb b o))):OR P (.nilCheck x) ty Γ (Qv (pb b o)):=
 OR.val λρ M w r=>by
  obtain ⟨_,_,hv⟩:=h ρ M w r;exact ⟨ρ x,λ_ _ _ _=>by simp [execOp,hv,Sem.run,pure],rfl,hv⟩
theorem qi {x:Operand} {m:Int} (h:Od Γ x (Qv (.int .i64 m))):Od Γ x (Va m):=λρ M w r=>let ⟨_,_,hv⟩:=h ρ M w r;⟨[],by rw [hv];exact Va.mkInt⟩
theorem iq {x:Operand} {m:Int} (h:Od Γ x (Va m)):Od Γ x (Qv (.int .i64 m)):=λρ M w r=>let ⟨_,hv⟩:=h ρ M w r;⟨[],rfl,Va.int hv⟩
theorem bq {x:Operand} {m:Bool} (h:Od Γ x (Va m)):Od Γ x (Qv (.bool m)):=λρ M w r=>let ⟨_,hv⟩:=h ρ M w r;⟨[],rfl,Va.bool hv⟩
theorem stq' {x:Operand} {m:ByteArray} (h:Od Γ x (Va m)):Od Γ x (Qv (.string m)):=λρ M w r=>let ⟨_,hv⟩:=h ρ M w r;⟨[],rfl,Va.str hv⟩
theorem fm_ {S k:Nat} {x:Operand} {b o off m q:Nat} (h:Od Γ x (Qv (pb b o))) (ho:Ky P S k=some (off,m + 1)) (hq:o + off=q):OR P (.fieldAddr S x k) ty Γ (Qv (pb b q)):=by
 subst hq;refine OR.val λρ M w r=>?_;obtain ⟨_,_,hv⟩:=h ρ M w r;refine ⟨pb b (o + off),λ_ _ _ _=>?_,rfl,rfl⟩;simp only [execOp,hv,EU,Jr ho,ER,EW]
theorem lm {T K:TypeId} {x:Operand} {α:Type} [Rep α] [Ty P T α] {b:Nat} {y:α} (h:Od Γ x (Qv (pb b 0))) (hk:Am Γ K=some (Mg b y)):OR P (.load T x) ty Γ (Va y):=by
 refine OR.val λρ M w r=>?_;obtain ⟨_,_,hv⟩:=h ρ M w r;obtain ⟨_,_,cs,T',hc,hr⟩:=r.tmp _ _ hk;refine ⟨mk (Rep.agg α) cs.toList,λ_ _ _ _=>?_,rfl,cs.toList,rfl,hr⟩;simp only [execOp,hv,Instr.loadAt,Instr.sureAddr,EU,EW,ER];rw [Bt (λj v hj=>?_) hr]
 ·rfl
 ·simp [World.cell?,hc];simpa using hj
theorem lf {T K:Nat} {x:Operand} {α β:Type} [Rep α] [Rep β] [Ty P T β] {b:Nat} {y:α} {f:α->β} {off:Nat} [hd:DF f off] (h:Od Γ x (Qv (pb b off))) (hk:Am Γ K=some (Mg b y)):OR P (.load T x) ty Γ (Va (f y)):=by
 refine OR.val λρ M w r=>?_;obtain ⟨_,_,hv⟩:=h ρ M w r;obtain ⟨_,_,cs,T',hc,hr⟩:=r.tmp _ _ hk;obtain ⟨q,m,z,hcs,hl,hm⟩:=hd.at_ hr;refine ⟨mk (Rep.agg β) m,λ_ _ _ _=>?_,rfl,m,rfl,hm⟩;simp only [execOp,hv,Instr.loadAt,Instr.sureAddr,EU,EW,ER];rw [Bt (λj v hj=>?_) hm]
 ·rfl
 ·have:cs.toList[off + j]?=some v:=by
   rw [hcs,← hl,EV om_,Nat.add_sub_cancel_left];rw [E5]
   ·exact hj
   ·rcases GE j m.length with h1 | h1
    ·exact h1
    ·simp [GC h1] at hj
  simp [World.cell?,hc];simpa using this
theorem StM.write {g:Mp} {M:Nat->Prop} {φ:Nat->List Nat} {p b:Nat} {w':World} {e':Ent} (h:StM M0 w0 n g a w M φ) (hp:(g p).isSome=true) (hb:b∈φ p) (hx:Ext (λk=>k=b) w w')
  (he:e'.p (φ p) M w' (a.get p)):StF M0 w0 n (put p e' g) a w':=by
 have hsome:∀ t,((put p e' g) t).isSome=true->(g t).isSome=true:=by
  intro t ht;unfold put at ht;split at ht
  ·rename_i hh;rw [hh];exact hp
  ·exact ht
 refine ⟨M,φ,λt e ht=>?_,λt ht=>h.own t (hsome t ht),λt s hne ht hs=>h.apart t s hne (hsome t ht) (hsome s hs),h.sub,λk hk=>FS (h.bd k hk) hx.size,?_,h.sz,h.df⟩
 ·unfold put at ht;split at ht
  ·rename_i hh;subst hh;cases ht;exact he
  ·rename_i hh;refine Ent.st _ (h.holds t e ht) (hx.mono λk _ hk=>?_);subst hk;exact ⟨((h.own p hp).2 _ hb).1,λhm=>h.apart t p hh (by rw [ht];rfl) hp _ hm hb⟩
 ·have hlt:=((h.own p hp).2 b hb).2;exact ⟨hx.os.trans h.fr.os,hx.tape.trans h.fr.tape,hx.output.trans h.fr.output,F6 h.fr.size hx.size,λk hk hnb=>
   (hx.block k (FS hk h.fr.size) (λe=>by subst e;exact hlt.elim (λh=>absurd hk om_) hnb)).trans (h.fr.block k hk hnb),F6 h.fr.dr hx.dr⟩
theorem Ext.setRow (w:World) (b:Nat) (cs:Array Value):Ext (λk=>k=b) w (w.setRow b cs):=
 ⟨rfl,rfl,rfl,by simp,λk _ hne=>setRow_other w b k cs hne,FH _⟩
class DU {α β γ:Type} [Rep α] [Rep β] [Rep γ] (off:Nat) (u:outParam (α->β->γ)):Prop where
 upd:∀ {M w cs m x y},Rep.rep M w cs x->Rep.rep M w m y->∃ p q m0,cs=p ++ (m0 ++ q)/\p.length=off/\m0.length=m.length/\Rep.rep M w (p ++ (m ++ q)) (u x y)
theorem Dn {T:TypeId} {β:Type} [Rep β] [ht:Ty P T β] {y:β} {M:Nat->Prop} {w:World} {b off:Nat} {cs:Array Value} {T':TypeId} {m p q m0:List Value} (hc:w.heap[b]?=some (.cells cs T' (0,0))) (hy:Rep.rep M w m y)
  (hcs:cs.toList=p ++ (m0 ++ q)) (hl:p.length=off) (hm:m0.length=m.length):(storeVar T ⟨b,off,none⟩ (mk (Rep.agg β) m)).run P w=.ok () (w.setRow b (p ++ (m ++ q)).toArray):=by
 have hlen:=Rep.len hy;have hsz:cs.size=p.length + (m0.length + q.length):=by rw [← Array.length_toList,hcs];simp
 simp only [storeVar,EU,Cb hy,Ty.run_size ht.size,ER,HG,hlen];have:=run_storeCells_at (P:=P) b off T' m 0 cs w hc om_ (Rep.one hy);simp only [ne_eq,not_true,if_false,this,H1,Sem.run_ite];congr 3;rw [hcs,← hl];simp only [List.take_left',FM];congr 2;rw [List.drop_append,FN om_,← hm];simp
theorem sf {ops:Array Oper} {rest:List Oper} {T K:Nat} {x y:Operand} {ty:TypeId} {pos:String} {aft:Array Edge} {α β γ:Type} [Rep α] [Rep β] [Rep γ] [Ty P T β] {b off:Nat} {z:α} {v:β} {u:α->β->γ} [hu:DU off u]
  (hs:St M0 w0 n Γ a w) (hx:Od Γ x (Qv (pb b off))) (hp:Am Γ K=some (Mg b z)) (hy:Od Γ y (Va v))
  (k:∀ w',St M0 w0 n ((K,Mg b (u z v)) :: Γ) a w'->wpListIn (Fr rr) 0 P ops Q rest a w'):wpListIn (Fr rr) 0 P ops Q (⟨none,.store T x y,ty,pos,aft,none⟩ :: rest) a w:=by
 refine wpListIn_plain rfl λKc hK=>?_;obtain ⟨M,φ,h⟩:=hs;obtain ⟨_,_,hv⟩:=hx _ _ _ h.rd;obtain ⟨hF,cs,T',hc,hr⟩:=h.holds K _ hp;obtain ⟨_,_,m,hm,hmr⟩:=hy _ _ _ h.rd;obtain ⟨l,q,m0,hcs,hl,hml,hnew⟩:=hu.upd hr hmr;refine Bh.upon (Bh.skip (w':=w.setRow b (l ++ (m ++ q)).toArray) ?_ ?_)
 ·simp only [execOp,hv,hm,Instr.storeAt,Instr.sureAddr,EU,EW,ER,Dn hc hmr hcs hl hml]
 ·refine hK _ _ (k _ ?_);unfold St;rw [Aj];refine h.write (by rw [hp];rfl) (by rw [hF];simp) (Ext.setRow w b _) ⟨hF,_,T',setRow_heap w b cs _ T' _ hc,?_⟩;refine Rep.ext hnew ((Ext.setRow w b _).mono λk _ hk=>?_);subst hk;exact ((h.own K (by rw [hp];rfl)).2 _ (by rw [hF];simp)).1
theorem sw {ops:Array Oper} {rest:List Oper} {T K:Nat} {x y:Operand} {ty:TypeId} {pos:String} {aft:Array Edge} {α β:Type} [Rep α] [Rep β] [Ty P T β] {b:Nat} {z:α} {v:β}
  (hs:St M0 w0 n Γ a w) (hx:Od Γ x (Qv (pb b 0))) (hp:Am Γ K=some (Mg b z)) (hy:Od Γ y (Va v)) (hz:Rep.sz α=Rep.sz β)
  (k:∀ w',St M0 w0 n ((K,Mg b v) :: Γ) a w'->wpListIn (Fr rr) 0 P ops Q rest a w'):wpListIn (Fr rr) 0 P ops Q (⟨none,.store T x y,ty,pos,aft,none⟩ :: rest) a w:=by
 refine wpListIn_plain rfl λKc hK=>?_;obtain ⟨M,φ,h⟩:=hs;obtain ⟨_,_,hpv⟩:=hx _ _ _ h.rd;obtain ⟨hF,cs,T',hc,hr⟩:=h.holds K _ hp;obtain ⟨_,_,m,hm,hmr⟩:=hy _ _ _ h.rd;refine Bh.upon (Bh.skip (w':=w.setRow b ([] ++ (m ++ [])).toArray) ?_ ?_)
 ·have hst:(storeVar T ⟨b,0,none⟩ (mk (Rep.agg β) m)).run P w=.ok () (w.setRow b ([] ++ (m ++ [])).toArray):=
   Dn (m0:=cs.toList) (p:=[]) (q:=[]) hc hmr As rfl (by rw [Rep.len hr,Rep.len hmr,hz])
  simp only [execOp,hpv,hm,Instr.storeAt,Instr.sureAddr,EU,EW,ER,hst]
 ·refine hK _ _ (k _ ?_);unfold St;rw [Aj];refine h.write (by rw [hp];rfl) (by rw [hF];simp) (Ext.setRow w b _) ⟨hF,_,T',setRow_heap w b cs _ T' _ hc,?_⟩;simp only [G1,GA];refine Rep.ext hmr ((Ext.setRow w b _).mono λk _ hk=>?_);subst hk;exact ((h.own K (by rw [hp];rfl)).2 _ (by rw [hF];simp)).1
theorem x20 {x:Operand} {e1 e2:Ent} [z:Zf e1] (h:Od Γ x (T2 e1 e2)):OR P (.extract x 0) ty Γ e1:=
 OR.val λρ M w r=>by
  obtain ⟨_,v1,v2,F1,F2,hv,_,h1,h2⟩:=h ρ M w r;exact ⟨v1,λ_ _ _ _=>by simp only [execOp,hv];rfl,by have:=z.z h1;subst this;exact h1⟩
theorem x21 {x:Operand} {e1 e2:Ent} [z:Zf e2] (h:Od Γ x (T2 e1 e2)):OR P (.extract x 1) ty Γ e2:=
 OR.val λρ M w r=>by
  obtain ⟨_,v1,v2,F1,F2,hv,_,h1,h2⟩:=h ρ M w r;exact ⟨v2,λ_ _ _ _=>by simp only [execOp,hv];rfl,by have:=z.z h2;subst this;exact h2⟩
theorem x30 {x:Operand} {e1 e2 e3:Ent} [z:Zf e1] (h:Od Γ x (T3 e1 e2 e3)):OR P (.extract x 0) ty Γ e1:=
 OR.val λρ M w r=>by
  obtain ⟨_,v1,v2,v3,F1,F2,F3,hv,_,h1,h2,h3⟩:=h ρ M w r;exact ⟨v1,λ_ _ _ _=>by simp only [execOp,hv];rfl,by have:=z.z h1;subst this;exact h1⟩
theorem x31 {x:Operand} {e1 e2 e3:Ent} [z:Zf e2] (h:Od Γ x (T3 e1 e2 e3)):OR P (.extract x 1) ty Γ e2:=
 OR.val λρ M w r=>by
  obtain ⟨_,v1,v2,v3,F1,F2,F3,hv,_,h1,h2,h3⟩:=h ρ M w r;exact ⟨v2,λ_ _ _ _=>by simp only [execOp,hv];rfl,by have:=z.z h2;subst this;exact h2⟩
theorem x32 {x:Operand} {e1 e2 e3:Ent} [z:Zf e3] (h:Od Γ x (T3 e1 e2 e3)):OR P (.extract x 2) ty Γ e3:=
 OR.val λρ M w r=>by
  obtain ⟨_,v1,v2,v3,F1,F2,F3,hv,_,h1,h2,h3⟩:=h ρ M w r;exact ⟨v3,λ_ _ _ _=>by simp only [execOp,hv];rfl,by have:=z.z h3;subst this;exact h3⟩
instance {e1 e2:Ent} [z1:Zf e1] [z2:Zf e2]:Zf (T2 e1 e2):=⟨λ⟨_,_,_,_,_,hF,h1,h2⟩=>by rw [hF,z1.z h1,z2.z h2];rfl⟩
instance {e1 e2 e3:Ent} [z1:Zf e1] [z2:Zf e2] [z3:Zf e3]:Zf (T3 e1 e2 e3):=⟨λ⟨_,_,_,_,_,_,_,hF,h1,h2,h3⟩=>by rw [hF,z1.z h1,z2.z h2,z3.z h3];rfl⟩
def rsv (tmps:Array Value):ResultVar->Sem Value
 | .tmp t=>pure (tmps.getD t undef)
 | .cell x T=>do loadVar T (← asAddr (tmps.getD x undef))
theorem Ed (fn:Func) (tmps:Array Value):results fn tmps=(do
 let vs ← fn.results.mapM (rsv tmps)
 pure (if h:vs.size=1 then vs[0] else .tuple vs)):=by
 unfold results;congr 1
def RS (P:Program) (Γ:Cx) (r:ResultVar) (e:Ent):Prop:=
 ∀ M0 w0 n a w M φ,StM M0 w0 n (Am Γ) a w M φ->∃ v,(rsv a.tmps r).run P w=.ok v w/\e.p [] M w v
theorem rt {t:Nat} {e:Ent} [z:Zf e] (h:Am Γ t=some e):RS P Γ (.tmp t) e:=λ_ _ _ a w M φ hs=>⟨a.get t,rfl,by have h1:=hs.holds t _ h;have h2:=z.z h1;rw [h2] at h1;exact h1⟩
theorem ro {t:Nat} {e:Ent} [z:Zf e] (h:Od Γ (.tmp t) e):RS P Γ (.tmp t) e:=λ_ _ _ a w M φ hs=>by
 obtain ⟨F,h1⟩:=h _ _ _ hs.rd;obtain rfl:=z.z h1;exact ⟨a.get t,rfl,h1⟩
theorem rc {t T K b:Nat} {α:Type} [Rep α] [Ty P T α] {x:α} (h:Am Γ t=some (Qv (pb b 0))) (hk:Am Γ K=some (Mg b x)):RS P Γ (.cell t T) (Va x):=λ_ _ _ a w M φ hs=>by
 obtain ⟨_,hv⟩:=hs.holds t _ h;obtain ⟨_,cs,T',hc,hr⟩:=hs.holds K _ hk;have hv':a.tmps.getD t undef=.pointer (some ⟨b,0,none⟩):=hv;refine ⟨mk (Rep.agg α) cs.toList,?_,rfl,cs.toList,rfl,hr⟩;simp only [rsv,hv',asAddr,EU,EW,ER];exact Bt (λj v hj=>by simp [World.cell?,hc];simpa using hj) hr
def RV (P:Program) (Γ:Cx) (rs:Array ResultVar) (e:Ent):Prop:=
 ∀ M0 w0 n a w M φ fn,fn.results=rs->StM M0 w0 n (Am Γ) a w M φ->∃ v,(results fn a.tmps).run P w=.ok v w/\e.p [] M w v
theorem rv0:RV P Γ #[] Dd:=λ_ _ _ a w M φ fn hr hs=>⟨.tuple #[],by rw [Ed,hr];simp,rfl⟩
theorem rv1 {r:ResultVar} {e:Ent} (h:RS P Γ r e):RV P Γ #[r] e:=λ_ _ _ a w M φ fn hr hs=>by
 obtain ⟨v,hv,hp⟩:=h _ _ _ a w M φ hs;exact ⟨v,by rw [Ed,hr];simp [hv],hp⟩
theorem rv2 {r1 r2:ResultVar} {e1 e2:Ent} (h1:RS P Γ r1 e1) (h2:RS P Γ r2 e2):RV P Γ #[r1,r2] (T2 e1 e2):=λ_ _ _ a w M φ fn hr hs=>by
 obtain ⟨v1,hv1,hp1⟩:=h1 _ _ _ a w M φ hs;obtain ⟨v2,hv2,hp2⟩:=h2 _ _ _ a w M φ hs;exact ⟨.tuple #[v1,v2],by rw [Ed,hr];simp [hv1,hv2],v1,v2,[],[],rfl,rfl,hp1,hp2⟩
theorem rv3 {r1 r2 r3:ResultVar} {e1 e2 e3:Ent} (h1:RS P Γ r1 e1) (h2:RS P Γ r2 e2) (h3:RS P Γ r3 e3):RV P Γ #[r1,r2,r3] (T3 e1 e2 e3):=λ_ _ _ a w M φ fn hr hs=>by
 obtain ⟨v1,hv1,hp1⟩:=h1 _ _ _ a w M φ hs;obtain ⟨v2,hv2,hp2⟩:=h2 _ _ _ a w M φ hs;obtain ⟨v3,hv3,hp3⟩:=h3 _ _ _ a w M φ hs;exact ⟨.tuple #[v1,v2,v3],by rw [Ed,hr];simp [hv1,hv2,hv3],v1,v2,v3,[],[],[],rfl,rfl,hp1,hp2,hp3⟩
theorem Tr {fn:Func} {tmps:Array Value} {R:Ending->World->Prop} {ds:List Deferred} {w:World} {v:Value} (hd:ds=[]) (hv:(results fn tmps).run P w=.ok v w) (hR:R (.returned v) w):LeavesInM (Fr none) 0 P fn tmps R ds .returning w:=by
 subst hd;exact ⟨v,hv,hR⟩
theorem rn {fn:Func} {rs:Array ResultVar} {e:Ent} (hD:M0.ds=[]) (hs:St M0 w0 n Γ a w) (hr:fn.results=rs) (h:RV P Γ rs e):bqM P fn (Pst M0 w0 e) .ret a w:=by
 obtain ⟨M,φ,h0⟩:=hs;obtain ⟨v,hv,hp⟩:=h _ _ _ a w M φ fn hr h0;refine Tr (h0.df.trans hD) hv ⟨v,[],rfl,h0.fr,GB,λk hk=>by simp at hk,Ent.sb _ hp λk _ hk=>hk.elim (h0.sub k) λh=>by simp at h⟩
def Rz {X:Type} (eo:X->Ent) (G:X->List Ent):Ent where
 p F M w v:=∃ x,(eo x).p [] M w v/\Hy M w (G x) F
 st h x:=let ⟨y,h1,h2⟩:=h;⟨y,(eo y).st h1 (x.mono λk _ hk=>⟨hk.1,by simp⟩),h2.st x⟩
 sb h s:=let ⟨y,h1,h2⟩:=h;⟨y,(eo y).sb h1 s,h2.sb s⟩
def Kg (g:Mp):List Nat->List Ent->Prop
 | [],[]=>True
 | k :: ks,e :: es=>(g k=some e/\Gh e)/\Kg g ks es
 | _,_=>False
theorem kn {g:Mp}:Kg g [] []:=trivial
theorem kc {k:Nat} {e:Ent} {ks:List Nat} {es:List Ent} {g:Mp} [hg:Gh e] (h:g k=some e) (r:Kg g ks es):Kg g (k :: ks) (e :: es):=⟨⟨h,hg⟩,r⟩
def dis:List Nat->Bool
 | []=>true
 | k :: ks=>!(ks.any (Nat.beq k ·)) && dis ks
theorem Av {k:Nat} {ks:List Nat} (h:dis (k :: ks)=true):(∀ j∈ks,j≠k)/\dis ks=true:=by
 simp only [dis,E3,FX,F4] at h;refine ⟨λj hj e=>?_,h.2⟩;subst e;exact h.1 j hj (Nat.beq_refl j)
theorem Kg.owns {g:Mp} {M:Nat->Prop} {φ:Nat->List Nat}:∀ {ks:List Nat} {G:List Ent},StM M0 w0 n g a w M φ->Kg g ks G->dis ks=true ->
  Hy M w G (ks.map φ).flatten/\(ks.map φ).flatten.Nodup/\(∀ k∈(ks.map φ).flatten,M k/\(w0.heap.size<=k\/M0.b k))/\∀ t,(g t).isSome=true->t ∉ ks->∀ q∈φ t,q ∉ (ks.map φ).flatten
 | [],[],_,_,_=>⟨rfl,GB,λk hk=>by simp at hk,λt _ _ q _ h=>by simp at h⟩
 | k :: ks,e :: es,h,⟨⟨h1,h2⟩,h3⟩,hd=>by
  obtain ⟨hd1,hd2⟩:=Av hd;obtain ⟨i1,i2,i3,i4⟩:=Kg.owns h h3 hd2;have hs:(g k).isSome=true:=by rw [h1];rfl
  have hk:k ∉ ks:=λhm=>hd1 k hm rfl;simp only [FC,J2];refine ⟨⟨φ k,_,rfl,λu=>h2.g (h.holds k e h1) u,i1⟩,H9.2 ⟨(h.own k hs).1,i2,λx hx y hy e=>i4 k hs hk x hx (e ▸ hy)⟩,λq hq=>?_,λt ht hnt q hq hm=>?_⟩
  ·rcases FQ.1 hq with hq | hq
   ·exact (h.own k hs).2 q hq
   ·exact i3 q hq
  ·rcases FQ.1 hm with hm | hm
   ·exact h.apart t k (λe=>hnt (by rw [e];exact GD ..)) ht hs q hq hm
   ·exact i4 t ht (λhh=>hnt (FR _ hh)) q hq hm
theorem rzz {fn:Func} {rs:Array ResultVar} {X:Type} {eo:X->Ent} {G:X->List Ent} (ks:List Nat) (x:X) (hM:Bd M0 w0) (hD:M0.ds=[]) (hs:St M0 w0 n Γ a w) (hr:fn.results=rs) (h:RV P Γ rs (eo x)) (hk:Kg (Am Γ) ks (G x)) (hd:dis ks=true) :
  ∃ v,(results fn a.tmps).run P w=.ok v w/\a.defers=[]/\Pst M0 w0 (Rz eo G) (.returned v) w:=by
 obtain ⟨M,φ,h0⟩:=hs;obtain ⟨v,hv,hp⟩:=h _ _ _ a w M φ fn hr h0;obtain ⟨i1,i2,i3,_⟩:=Kg.owns h0 hk hd;have hs:∀ k,k < w.heap.size->(M0.k k\/k∈(ks.map φ).flatten)->M k:=λk _ hk=>hk.elim (h0.sub k) λh=>(i3 k h).1;exact ⟨v,hv,h0.df.trans hD,v,_,rfl,h0.fr,i2,λk hk=>(i3 k hk).2.elim (λh=>.inr ⟨h,h0.bd k (i3 k hk).1⟩) .inl,x,Ent.sb _ hp hs,i1.sb hs⟩
theorem rz {fn:Func} {rs:Array ResultVar} {X:Type} {eo:X->Ent} {G:X->List Ent} (ks:List Nat) (x:X) (hM:Bd M0 w0) (hD:M0.ds=[]) (hs:St M0 w0 n Γ a w) (hr:fn.results=rs) (h:RV P Γ rs (eo x)) (hk:Kg (Am Γ) ks (G x)) (hd:dis ks=true):bqM P fn (Pst M0 w0 (Rz eo G)) .ret a w:=
 let ⟨v,h1,h2,h3⟩:=rzz ks x hM hD hs hr h hk hd;Tr h2 h1 h3
theorem rze {fn:Func} {rs:Array ResultVar} {X:Type} {eo:X->Ent} {G:X->List Ent} (ks:List Nat) (x:X) (hM:Bd M0 w0) (hD:M0.ds=[]) (hs:St M0 w0 n Γ a w) (hr:fn.results=rs) (h:RV P Γ rs (eo x)) (hk:Kg (Am Γ) ks (G x)) (hd:dis ks=true):bqM P fn (Pst M0 w0 (Rz eo G)) .normal a w:=
 let ⟨v,h1,h2,h3⟩:=rzz ks x hM hD hs hr h hk hd;Tr h2 h1 h3
inductive Lo (σ ρ:Type) where
 | brk (s:σ)
 | ret (r:ρ)
theorem bs {α β:Type} {o:Option α} {f:α->Option β} {r:β} (h:o.bind f=some r):∃ x,o=some x/\f x=some r:=GP.1 h
theorem cm {t:Nat} {b:Bool} {c d:Code} {ρ:Type} {x y:Option ρ} {r:ρ} (hs:St M0 w0 n Γ a w) (hl:Am Γ t=some (Va b)) (hm:(bif b then x else y)=some r)
  (ht:b=true->x=some r->c.wpIn (Fr rr) 0 P Q a w) (hf:b=false->y=some r->d.wpIn (Fr rr) 0 P Q a w):(Code.cond (.tmp t) c d).wpIn (Fr rr) 0 P Q a w:=by
 refine cd hs hl (λh=>ht h ?_) (λh=>hf h ?_)
 ·rw [h] at hm;exact hm
 ·rw [h] at hm;exact hm
theorem si {α:Type} {x r:α} (h:some x=some r):x=r:=Option.some.inj h
theorem paP {c:Operand} {m:Nat} {b p:Bool} (hc:Od Γ c (Va b)) (hx:Am Γ m=some (Gd b true (Va p))):OR P (.pick c (.tmp m) (.const (.bool false))) ty Γ (Va (b && p)):=
 pa hc hx (λh=>by rw [h];rfl) (λh=>by rw [h];rfl)
theorem poP {c:Operand} {m:Nat} {b p:Bool} (hc:Od Γ c (Va b)) (hx:Am Γ m=some (Gd b false (Va p))):OR P (.pick c (.const (.bool true)) (.tmp m)) ty Γ (Va (b || p)):=
 po hc hx (λh=>by rw [h];rfl) (λh=>by rw [h];rfl)
theorem beq {x y:Operand} {T T':TypeId} {b c:Bool} (hx:Od Γ x (Va b)) (hy:Od Γ y (Va c)) (hT:P.underlying T=some .bool):OR P (.binOp .eql T x y T') ty Γ (Va (b == c)):=
 OR.val λρ M w r=>by
  obtain ⟨_,h1⟩:=hx ρ M w r;obtain ⟨_,h2⟩:=hy ρ M w r;refine ⟨.bool (b == c),λ_ _ _ _=>?_,Va.mkBool⟩;have h3:(binOp .eql T (.bool b) (.bool c)).run P w=.ok (.bool (b == c)) w:=by
   show ((do pure (.bool (← Op.equal T (.bool b) (.bool c))):Sem Value)).run P w=_;simp only [EU,run_equal_bool w T b c hT,ER,EW]
  have h4:(eqGuard .eql T x y (.bool b) (.bool c)).run P w=.ok () w:=rfl;simp only [execOp,Va.bool h1,Va.bool h2,EU,h3,h4,ER,EW]
theorem bne {x y:Operand} {T T':TypeId} {b c:Bool} (hx:Od Γ x (Va b)) (hy:Od Γ y (Va c)) (hT:P.underlying T=some .bool):OR P (.binOp .neq T x y T') ty Γ (Va (b != c)):=
 OR.val λρ M w r=>by
  obtain ⟨_,h1⟩:=hx ρ M w r;obtain ⟨_,h2⟩:=hy ρ M w r;refine ⟨.bool (b != c),λ_ _ _ _=>?_,Va.mkBool⟩;have h3:(binOp .neq T (.bool b) (.bool c)).run P w=.ok (.bool (b != c)) w:=by
   show ((do pure (.bool (!(← Op.equal T (.bool b) (.bool c)))):Sem Value)).run P w=_;simp only [EU,run_equal_bool w T b c hT,ER,EW];rfl
  have h4:(eqGuard .neq T x y (.bool b) (.bool c)).run P w=.ok () w:=rfl;simp only [execOp,Va.bool h1,Va.bool h2,EU,h3,h4,ER,EW]
theorem seq {x y:Operand} {T T':TypeId} {b c:ByteArray} (hx:Od Γ x (Va b)) (hy:Od Γ y (Va c)):OR P (.binOp .eql T x y T') ty Γ (Va (b.toList == c.toList)):=
 OR.val λρ M w r=>by
  obtain ⟨_,h1⟩:=hx ρ M w r;obtain ⟨_,h2⟩:=hy ρ M w r;exact ⟨.bool (b.toList == c.toList),λ_ _ _ _=>by simp only [execOp,Va.str h1,Va.str h2];rfl,Va.mkBool⟩
theorem sne {x y:Operand} {T T':TypeId} {b c:ByteArray} (hx:Od Γ x (Va b)) (hy:Od Γ y (Va c)):OR P (.binOp .neq T x y T') ty Γ (Va (!(b.toList == c.toList))):=
 OR.val λρ M w r=>by
  obtain ⟨_,h1⟩:=hx ρ M w r;obtain ⟨_,h2⟩:=hy ρ M w r;exact ⟨.bool (!(b.toList == c.toList)),λ_ _ _ _=>by simp only [execOp,Va.str h1,Va.str h2];rfl,Va.mkBool⟩
theorem lns {x:Operand} {T:TypeId} {b:ByteArray} (hx:Od Γ x (Va b)) (hT:P.underlying T=some .string):OR P (.call { callee:=.builtin .len,args:=#[x],argTypes:=#[T] }) ty Γ (Va (b.size:Int)):=
 OR.val λρ M w r=>by
  obtain ⟨_,h1⟩:=hx ρ M w r;exact ⟨.int .i64 b.size,λ_ _ _ _=>by simp [execOp,resolve,Va.str h1,invoke,builtin,Builtin.len_,run_underlying hT,goInt],Va.mkInt⟩
def Ta (b:ByteArray) (i:Int):Option UInt8:=if 0<=i then b[i.toNat]? else none
theorem sx {x i:Operand} {T:TypeId} {b:ByteArray} {n:Int} {c:UInt8} (hx:Od Γ x (Va b)) (hi:Od Γ i (Va n)) (hT:P.underlying T=some .string) (h:Ta b n=some c):OR P (.index T x i) ty Γ (Va c):=
 OR.val λρ M w r=>by
  obtain ⟨_,h1⟩:=hx ρ M w r;obtain ⟨_,h2⟩:=hi ρ M w r;refine ⟨.int .u8 c.toNat,λ_ _ _ _=>?_,Va.mkByte⟩;unfold Ta at h;split at h
  ·rename_i h0;simp [execOp,Va.str h1,Va.int h2,Instr.index,asIntOf,run_underlying hT,h0,h]
  ·cases h
theorem bin8 {op:BinOp} {x y:Operand} {T T':TypeId} {m n:UInt8} {e:Ent} (hx:Od Γ x (Va m)) (hy:Od Γ y (Va n))
  (h:∀ w,∃ v,(binOp op T (.int .u8 m.toNat) (.int .u8 n.toNat)).run P w=.ok v w/\∀ M,e.p [] M w v):OR P (.binOp op T x y T') ty Γ e:=by
 refine OR.val λρ M w r=>?_;obtain ⟨_,h1⟩:=hx ρ M w r;obtain ⟨_,h2⟩:=hy ρ M w r;obtain ⟨v,hv,hp⟩:=h w;refine ⟨v,λ_ _ _ _=>?_,hp M⟩;simp only [execOp,Va.byte h1,Va.byte h2];have:∀ o,(eqGuard o T x y (.int .u8 m.toNat) (.int .u8 n.toNat)).run P w=.ok () w:=by
  intro o; unfold eqGuard; cases o <;> rfl
 simp only [EU,this,ER,hv];rfl
theorem c8 {n:Nat} (h:n < 256):Od Γ (.const (.int .u8 n)) (Va (UInt8.ofNat n)):=λρ _ _ r=>⟨[],rfl,[.int .u8 (UInt8.ofNat n).toNat],by rw [r.con];simp [mk,H2 h],rfl⟩
theorem lt8 {x y:Operand} {T T':TypeId} {m n:UInt8} (hx:Od Γ x (Va m)) (hy:Od Γ y (Va n)):OR P (.binOp .lss T x y T') ty Γ (Va (decide ((m.toNat:Int) < n.toNat))):=bin8 hx hy λ_=>⟨_,rfl,λ_=>Va.mkBool⟩
theorem le8 {x y:Operand} {T T':TypeId} {m n:UInt8} (hx:Od Γ x (Va m)) (hy:Od Γ y (Va n)):OR P (.binOp .leq T x y T') ty Γ (Va (decide ((m.toNat:Int)<=n.toNat))):=bin8 hx hy λ_=>⟨_,rfl,λ_=>Va.mkBool⟩
theorem gt8 {x y:Operand} {T T':TypeId} {m n:UInt8} (hx:Od Γ x (Va m)) (hy:Od Γ y (Va n)):OR P (.binOp .gtr T x y T') ty Γ (Va (decide ((m.toNat:Int) > n.toNat))):=bin8 hx hy λ_=>⟨_,rfl,λ_=>Va.mkBool⟩
theorem ge8 {x y:Operand} {T T':TypeId} {m n:UInt8} (hx:Od Γ x (Va m)) (hy:Od Γ y (Va n)):OR P (.binOp .geq T x y T') ty Γ (Va (decide ((m.toNat:Int)>=n.toNat))):=bin8 hx hy λ_=>⟨_,rfl,λ_=>Va.mkBool⟩
theorem eq8 {x y:Operand} {T T':TypeId} {m n:UInt8} (hx:Od Γ x (Va m)) (hy:Od Γ y (Va n)):OR P (.binOp .eql T x y T') ty Γ (Va ((m.toNat:Int) == n.toNat)):=bin8 hx hy λ_=>⟨_,rfl,λ_=>Va.mkBool⟩
theorem ne8 {x y:Operand} {T T':TypeId} {m n:UInt8} (hx:Od Γ x (Va m)) (hy:Od Γ y (Va n)):OR P (.binOp .neq T x y T') ty Γ (Va ((m.toNat:Int) != n.toNat)):=bin8 hx hy λ_=>⟨_,rfl,λ_=>Va.mkBool⟩
theorem mx {x y:Operand} {T T':TypeId} {m n:Int} (hx:Od Γ x (Va m)) (hy:Od Γ y (Va n)):OR P (.call { callee:=.builtin .max,args:=#[x,y],argTypes:=#[T,T'] }) ty Γ (Va (if n > m then n else m)):=
 OR.val λρ M w r=>by
  obtain ⟨_,h1⟩:=hx ρ M w r;obtain ⟨_,h2⟩:=hy ρ M w r;refine ⟨.int .i64 (if n > m then n else m),λ_ _ _ _=>?_,Va.mkInt⟩
  simp [execOp,resolve,Va.int h1,Va.int h2,invoke,builtin,Builtin.max_,Builtin.max2]
theorem gT {ρ:Type} {B:Bool} {x y:Option ρ} {r:ρ} (h:(bif B then x else y)=some r):B=true->x=some r:=λhb=>by rw [hb] at h;exact h
theorem gF {ρ:Type} {B:Bool} {x y:Option ρ} {r:ρ} (h:(bif B then x else y)=some r):B=false->y=some r:=λhb=>by rw [hb] at h;exact h
theorem gx {α ρ:Type} [Inhabited α] {B c:Bool} {o:Option α} {k:α->Option ρ} {r:ρ} (h:B=c->o.bind k=some r):∃ x,(B=c->o=some x)/\(B=c->k x=some r):=by
 by_cases hb:B=c
 ·obtain ⟨x,h1,h2⟩:=bs (h hb);exact ⟨x,λ_=>h1,λ_=>h2⟩
 ·exact ⟨default,λh=>absurd h hb,λh=>absurd h hb⟩
theorem gT2 {ρ:Type} {B c B2:Bool} {x y:Option ρ} {r:ρ} (h:B=c->(bif B2 then x else y)=some r):((B == c) && (B2 == true))=true->x=some r:=λhb=>by
 have:B=c/\B2=true:=by simpa using hb
 have h:=h this.1;rw [this.2] at h;exact h
theorem gF2 {ρ:Type} {B c B2:Bool} {x y:Option ρ} {r:ρ} (h:B=c->(bif B2 then x else y)=some r):((B == c) && (B2 == false))=true->y=some r:=λhb=>by
 have:B=c/\B2=false:=by simpa using hb
 have h:=h this.1;rw [this.2] at h;exact h
theorem g2 {B c b2 w:Bool} (h1:B=c) (h2:b2=w):((B == c) && (b2 == w))=true:=by simp [h1,h2]
theorem gF1 {ρ:Type} {B c B2:Bool} {x y:Option ρ} {r:ρ} (h:B=c->(bif B2 then x else y)=some r):B=c->B2=false->y=some r:=λh1 h2=>by have h:=h h1;rw [h2] at h;exact h
theorem gT1 {ρ:Type} {B c B2:Bool} {x y:Option ρ} {r:ρ} (h:B=c->(bif B2 then x else y)=some r):B=c->B2=true->x=some r:=λh1 h2=>by have h:=h h1;rw [h2] at h;exact h
theorem pag {c:Operand} {m:Nat} {b g p r:Bool} (hc:Od Γ c (Va b)) (hx:Am Γ m=some (Gd g true (Va p))) (hg:b=true->g=true) (hr:b=true->p=r) (hr':b=false->r=false) :
  OR P (.pick c (.tmp m) (.const (.bool false))) ty Γ (Va r):=by
 refine OR.val λρ M w rd=>?_;obtain ⟨_,h⟩:=hc ρ M w rd;refine ⟨.bool r,λ_ _ _ _=>?_,Va.mkBool⟩;simp only [execOp,Va.bool h];cases b
 ·obtain rfl:=hr' rfl;rw [rd.con];rfl
 ·obtain ⟨F,hF⟩:=rd.tmp _ _ hx;rw [Va.bool (hF.1 (hg rfl)),hr rfl];rfl
theorem pog {c:Operand} {m:Nat} {b g p r:Bool} (hc:Od Γ c (Va b)) (hx:Am Γ m=some (Gd g true (Va p))) (hg:b=false->g=true) (hr:b=false->p=r) (hr':b=true->r=true) :
  OR P (.pick c (.const (.bool true)) (.tmp m)) ty Γ (Va r):=by
 refine OR.val λρ M w rd=>?_;obtain ⟨_,h⟩:=hc ρ M w rd;refine ⟨.bool r,λ_ _ _ _=>?_,Va.mkBool⟩;simp only [execOp,Va.bool h];cases b
 ·obtain ⟨F,hF⟩:=rd.tmp _ _ hx;rw [Va.bool (hF.1 (hg rfl)),hr rfl];rfl
 ·obtain rfl:=hr' rfl;rw [rd.con];rfl
theorem pagP {c:Operand} {m:Nat} {b g p:Bool} (hc:Od Γ c (Va b)) (hx:Am Γ m=some (Gd g true (Va p))) (hg:b=true->g=true):OR P (.pick c (.tmp m) (.const (.bool false))) ty Γ (Va (b && p)):=
 pag hc hx hg (λh=>by rw [h];rfl) (λh=>by rw [h];rfl)
theorem pogP {c:Operand} {m:Nat} {b g p:Bool} (hc:Od Γ c (Va b)) (hx:Am Γ m=some (Gd g true (Va p))) (hg:b=false->g=true):OR P (.pick c (.const (.bool true)) (.tmp m)) ty Γ (Va (b || p)):=
 pog hc hx hg (λh=>by rw [h];rfl) (λh=>by rw [h];rfl)
def Odl (Γ:Cx):List Operand->List Ent->Prop
 | [],[]=>True
 | x :: xs,e :: es=>(Od Γ x e/\Zf e)/\Odl Γ xs es
 | _,_=>False
theorem on:Odl Γ [] []:=trivial
theorem oc {x:Operand} {e:Ent} {xs:List Operand} {es:List Ent} [z:Zf e] (h:Od Γ x e) (r:Odl Γ xs es):Odl Γ (x :: xs) (e :: es):=⟨⟨h,z⟩,r⟩
theorem Odl.fits {ρ:Operand->Value} {M:Nat->Prop} {w:World} (rd:Rd (Am Γ) M w ρ):∀ {xs:List Operand} {es:List Ent},Odl Γ xs es->Ql M w es (xs.map ρ)
 | [],[],_=>trivial
 | _ :: _,_ :: _,⟨⟨h,z⟩,r⟩=>by
  obtain ⟨F,hF⟩:=h ρ M w rd;obtain rfl:=z.z hF;exact ⟨hF,r.fits rd⟩
theorem cc {f:FuncId} {A:Array TypeId} {args:Array Operand} {xs:List Operand} {ps:List Ent} {e:Ent} (ha:args.toList=xs) (h:Odl Γ xs ps) (c:Sp P f ps e):OR P (.call { callee:=.value (.func f),args:=args,argTypes:=A }) ty Γ e:=
 DN λρ M w rd=>by
  have:=c _ M w rd.bd (h.fits rd);subst ha;have e:(List.map ρ args.toList).toArray=args.map ρ:=by rw [← G4]
  rwa [e] at this
end
end Go.Pn
namespace Go.Pn
theorem k2 {k k' : Nat} {e e' : Ent} {ks : List Nat} {es : List Ent} {g : Mp} [Gh e] [Gh e'] (h : g k = some e) (h' : g k' = some e') (r : Kg g ks es) : Kg g (k :: k' :: ks) (e :: e' :: es) := kc h (kc h' r)
theorem k4 {k k' l l' : Nat} {e e' d d' : Ent} {ks : List Nat} {es : List Ent} {g : Mp} [Gh e] [Gh e'] [Gh d] [Gh d'] (h : g k = some e) (h' : g k' = some e') (i : g l = some d) (i' : g l' = some d') (r : Kg g ks es) : Kg g (k :: k' :: l :: l' :: ks) (e :: e' :: d :: d' :: es) := k2 h h' (k2 i i' r)
end Go.Pn
namespace Go.Pn
open Go Go.RowKit
structure Ar6 where
 l:List Bool
 deriving Inhabited
def Ar6.z:Ar6:=⟨List.replicate 6 false⟩
def Ar6.at_ (x:Ar6) (j:Nat):Bool:=x.l.getD j false
def Ar6.put (x:Ar6) (j:Nat) (v:Bool):Ar6:=⟨x.l.set j v⟩
def eqqA (x y:Ar6):Bool:=(List.range 6).all λj=>x.at_ j == y.at_ j
instance:Rep Ar6 where
 sz:=6
 agg:=true
 rep _ _ cs x:=cs=x.l.map Value.bool/\x.l.length=6
 len h:=by rw [h.1,FL,h.2]
 ext h _:=h
 sub h _:=h
 one h:=by
  rw [h.1];intro c hc;obtain ⟨b,_,rfl⟩:=FE.1 hc;simp [Value.oneCell']
 flat h:=by cases h
theorem Ar6.cut {l:List Bool} {j:Nat} (h:j < l.length):l=l.take j ++ (l.getD j false :: l.drop (j + 1)):=by
 rw [ES,FY h,HA,← F5 h,JQ]
theorem Ar6.df {j:Nat} (hj:j < 6):DF (λx:Ar6=>x.at_ j) j:=⟨λ{M w cs x} h=>by
 obtain ⟨rfl,hl⟩:=h;refine ⟨(x.l.take j).map Value.bool,[.bool (x.at_ j)],(x.l.drop (j + 1)).map Value.bool,?_,by rw [FL,JB];omega,rfl⟩;have:=congrArg (List.map Value.bool) (Ar6.cut (l:=x.l) (j:=j) om_);rw [GQ,FC] at this;exact this⟩
theorem Ar6.du {j:Nat} (hj:j < 6):DU j (λ(x:Ar6) (v:Bool)=>x.put j v):=⟨λ{M w cs m x y} h g=>by
 obtain ⟨rfl,hl⟩:=h;have g:m=[.bool y]:=g;subst g;refine ⟨(x.l.take j).map Value.bool,(x.l.drop (j + 1)).map Value.bool,[.bool (x.at_ j)],?_,by rw [FL,JB];omega,rfl,?_,?_⟩
 ·have:=congrArg (List.map Value.bool) (Ar6.cut (l:=x.l) (j:=j) om_);rw [GQ,FC] at this;exact this
 ·show _=(x.l.set j y).map Value.bool;rw [List.set_eq_take_append_cons_drop,if_pos om_,GQ,FC];rfl
 ·show (x.l.set j y).length=6;rw [GR];exact hl⟩
end Go.Pn
namespace Go.Pn
open Go Go.RowKit
structure Ab where
 Actuator:Int
 Out:Bool
 deriving Inhabited
instance:Rep Ab:=Rep.via λx=>(x.Actuator,x.Out)
instance:DF Ab.Actuator 0:=⟨λh=>by
 obtain ⟨c0,d0,rfl,h0,h1⟩:=h;exact ⟨[],c0,d0,by simp,rfl,h0⟩⟩
instance:DF Ab.Out 1:=⟨λh=>by
 obtain ⟨c0,d0,rfl,h0,h1⟩:=h;exact ⟨c0,d0,[],by simp,by simp only [ET,Rep.len h0];rfl,h1⟩⟩
structure Step where
 Strokes:List Ab
 Wait:Int
 deriving Inhabited
instance:Rep Step:=Rep.via λx=>(x.Strokes,x.Wait)
instance:DF Step.Strokes 0:=⟨λh=>by
 obtain ⟨c0,d0,rfl,h0,h1⟩:=h;exact ⟨[],c0,d0,by simp,rfl,h0⟩⟩
instance:DF Step.Wait 1:=⟨λh=>by
 obtain ⟨c0,d0,rfl,h0,h1⟩:=h;exact ⟨c0,d0,[],by simp,by simp only [ET,Rep.len h0];rfl,h1⟩⟩
structure Ah where
 Actuators:Int
 Steps:List Step
 deriving Inhabited
instance:Rep Ah:=Rep.via λx=>(x.Actuators,x.Steps)
instance:DF Ah.Actuators 0:=⟨λh=>by
 obtain ⟨c0,d0,rfl,h0,h1⟩:=h;exact ⟨[],c0,d0,by simp,rfl,h0⟩⟩
instance:DF Ah.Steps 1:=⟨λh=>by
 obtain ⟨c0,d0,rfl,h0,h1⟩:=h;exact ⟨c0,d0,[],by simp,by simp only [ET,Rep.len h0];rfl,h1⟩⟩
structure Fault where
 Kind:Int
 Index:Int
 deriving Inhabited
instance:Rep Fault:=Rep.via λx=>(x.Kind,x.Index)
instance:DF Fault.Kind 0:=⟨λh=>by
 obtain ⟨c0,d0,rfl,h0,h1⟩:=h;exact ⟨[],c0,d0,by simp,rfl,h0⟩⟩
instance:DF Fault.Index 1:=⟨λh=>by
 obtain ⟨c0,d0,rfl,h0,h1⟩:=h;exact ⟨c0,d0,[],by simp,by simp only [ET,Rep.len h0];rfl,h1⟩⟩
structure Expr where
 Op:Int
 Index:Int
 Args:List Expr
 deriving Inhabited
mutual
def Qk (M:Nat->Prop) (w:World) (cs:List Value):Expr->Prop
 | ⟨op,ix,args⟩=>∃ a cap,cs=[.int .i64 op,.int .i64 ix,.slice a args.length (cap + args.length)]/\(args=[]\/∃ b o,a=some ⟨b,o,none⟩/\Ei M w b o args)
def Ei (M:Nat->Prop) (w:World) (b o:Nat):List Expr->Prop
 | []=>True
 | x :: xs=>(∃ cs,Cls M w b o cs/\Qk M w cs x)/\Ei M w b (o + 3) xs
end
mutual
theorem Up {M:Nat->Prop} {w w':World} (e:Ext M w w'):∀ (x:Expr) {cs:List Value},Qk M w cs x->Qk M w' cs x
 | ⟨op,ix,args⟩,cs,h=>by
  unfold Qk at h ⊢;obtain ⟨a,cap,rfl,h⟩:=h;exact ⟨a,cap,rfl,h.imp id λ⟨b,o,ha,hr⟩=>⟨b,o,ha,Qr e args hr⟩⟩
theorem Qr {M:Nat->Prop} {w w':World} (e:Ext M w w'):∀ (xs:List Expr) {b o:Nat},Ei M w b o xs->Ei M w' b o xs
 | [],_,_,_=>by unfold Ei;trivial
 | x :: xs,b,o,h=>by
  unfold Ei at h ⊢;obtain ⟨⟨cs,hc,hr⟩,h2⟩:=h;exact ⟨⟨cs,hc.ext e,Up e x hr⟩,Qr e xs h2⟩
end
mutual
theorem Uo {M M':Nat->Prop} {w:World} (s:∀ k,k < w.heap.size->M' k->M k):∀ (x:Expr) {cs:List Value},Qk M w cs x->Qk M' w cs x
 | ⟨op,ix,args⟩,cs,h=>by
  unfold Qk at h ⊢;obtain ⟨a,cap,rfl,h⟩:=h;exact ⟨a,cap,rfl,h.imp id λ⟨b,o,ha,hr⟩=>⟨b,o,ha,Qq s args hr⟩⟩
theorem Qq {M M':Nat->Prop} {w:World} (s:∀ k,k < w.heap.size->M' k->M k):∀ (xs:List Expr) {b o:Nat},Ei M w b o xs->Ei M' w b o xs
 | [],_,_,_=>by unfold Ei;trivial
 | x :: xs,b,o,h=>by
  unfold Ei at h ⊢;obtain ⟨⟨cs,hc,hr⟩,h2⟩:=h;exact ⟨⟨cs,hc.sub s,Uo s x hr⟩,Qq s xs h2⟩
end
theorem Hd {M:Nat->Prop} {w:World} {cs:List Value}:∀ {x:Expr},Qk M w cs x->∃ a cap,cs=[.int .i64 x.Op,.int .i64 x.Index,.slice a x.Args.length (cap + x.Args.length)]/\(x.Args=[]\/∃ b o,a=some ⟨b,o,none⟩/\Ei M w b o x.Args)
 | ⟨_,_,_⟩,h=>by unfold Qk at h;exact h
instance:Rep Expr where
 sz:=3
 agg:=true
 rep:=Qk
 len h:=by obtain ⟨a,cap,rfl,_⟩:=Hd h;rfl
 ext h e:=Up e _ h
 sub h s:=Uo s _ h
 one h:=by obtain ⟨a,cap,rfl,_⟩:=Hd h;simp [Value.oneCell']
 flat h:=by cases h
theorem Hq {M:Nat->Prop} {w:World} {b:Nat}:∀ {xs:List Expr} {o:Nat},Ei M w b o xs->Row M w b o xs
 | [],_,_=>trivial
 | x :: xs,o,h=>by unfold Ei at h;exact ⟨h.1,Hq h.2⟩
theorem Hr {M:Nat->Prop} {w:World} {b:Nat}:∀ {xs:List Expr} {o:Nat},Row M w b o xs->Ei M w b o xs
 | [],_,_=>by unfold Ei;trivial
 | x :: xs,o,h=>by unfold Ei;exact ⟨h.1,Hr h.2⟩
theorem Ee {M:Nat->Prop} {w:World} {cs:List Value} {x:Expr}:Rep.rep M w cs x↔Rep.rep M w cs (x.Op,x.Index,x.Args):=by
 constructor
 ·intro h;obtain ⟨a,cap,e1,h1⟩:=Hd h;subst e1;exact ⟨[_],[_,_],rfl,rfl,[_],[_],rfl,rfl,_,rfl,a,cap,rfl,h1.imp id λ⟨b,o,ha,hr⟩=>⟨b,o,ha,Hq hr⟩⟩
 ·intro h;obtain ⟨c0,d0,rfl,h0,c1,d1,hd,h1,v,rfl,a,cap,rfl,hs⟩:=h;obtain ⟨op,ix,args⟩:=x;have e0:c0=[.int .i64 op]:=h0;have e1:c1=[.int .i64 ix]:=h1;subst e0;have hd':d0=[.int .i64 ix] ++ [.slice a args.length (cap + args.length)]:=by rw [← e1];exact hd
  subst hd';show Qk M w _ _;unfold Qk;exact ⟨a,cap,rfl,hs.imp id λ⟨b,o,ha,hr⟩=>⟨b,o,ha,Hr hr⟩⟩
instance:DF Expr.Op 0:=⟨λh=>by
 obtain ⟨c0,d0,rfl,h0,c1,d1,rfl,h1,h2⟩:=Ee.1 h;exact ⟨[],c0,c1 ++ d1,by simp,rfl,h0⟩⟩
instance:DF Expr.Index 1:=⟨λh=>by
 obtain ⟨c0,d0,rfl,h0,c1,d1,rfl,h1,h2⟩:=Ee.1 h;exact ⟨c0,c1,d1,by simp,by simp only [ET,Rep.len h0];rfl,h1⟩⟩
instance:DF Expr.Args 2:=⟨λh=>by
 obtain ⟨c0,d0,rfl,h0,c1,d1,rfl,h1,h2⟩:=Ee.1 h;exact ⟨c0 ++ c1,d1,[],by simp,by simp only [ET,Rep.len h0,Rep.len h1];rfl,h2⟩⟩
structure Ae where
 Name:ByteArray
 Kind:Int
 On:Expr
 Off:Expr
 Delay:Int
 Init:Bool
 deriving Inhabited
instance:Rep Ae:=Rep.via λx=>(x.Name,x.Kind,x.On,x.Off,x.Delay,x.Init)
instance:DF Ae.Name 0:=⟨λh=>by
 obtain ⟨c0,d0,rfl,h0,c1,d1,rfl,h1,c2,d2,rfl,h2,c3,d3,rfl,h3,c4,d4,rfl,h4,h5⟩:=h;exact ⟨[],c0,c1 ++ c2 ++ c3 ++ c4 ++ d4,by simp,rfl,h0⟩⟩
instance:DF Ae.Kind 1:=⟨λh=>by
 obtain ⟨c0,d0,rfl,h0,c1,d1,rfl,h1,c2,d2,rfl,h2,c3,d3,rfl,h3,c4,d4,rfl,h4,h5⟩:=h;exact ⟨c0,c1,c2 ++ c3 ++ c4 ++ d4,by simp,by simp only [ET,Rep.len h0];rfl,h1⟩⟩
instance:DF Ae.On 2:=⟨λh=>by
 obtain ⟨c0,d0,rfl,h0,c1,d1,rfl,h1,c2,d2,rfl,h2,c3,d3,rfl,h3,c4,d4,rfl,h4,h5⟩:=h;exact ⟨c0 ++ c1,c2,c3 ++ c4 ++ d4,by simp,by simp only [ET,Rep.len h0,Rep.len h1];rfl,h2⟩⟩
instance:DU (α:=Ae) 2 (λ(x:Ae) (y:Expr)=>{ x with On:=y }):=⟨λ{M w cs m x y} h g=>by
 obtain ⟨c0,d0,rfl,h0,c1,d1,rfl,h1,c2,d2,rfl,h2,c3,d3,rfl,h3,c4,d4,rfl,h4,h5⟩:=h;refine ⟨c0 ++ c1,c3 ++ c4 ++ d4,c2,by simp,by simp only [ET,Rep.len h0,Rep.len h1];rfl,by rw [Rep.len h2,Rep.len g],?_⟩;have:Rep.rep M w (c0 ++ (c1 ++ (m ++ (c3 ++ (c4 ++ (d4)))))) (x.Name,x.Kind,y,x.Off,x.Delay,x.Init):=⟨c0,_,rfl,h0,⟨c1,_,rfl,h1,⟨m,_,rfl,g,⟨c3,_,rfl,h3,⟨c4,_,rfl,h4,h5⟩⟩⟩⟩⟩;show Rep.rep M w _ (x.Name,x.Kind,y,x.Off,x.Delay,x.Init);simpa using this⟩
instance:DF Ae.Off 5:=⟨λh=>by
 obtain ⟨c0,d0,rfl,h0,c1,d1,rfl,h1,c2,d2,rfl,h2,c3,d3,rfl,h3,c4,d4,rfl,h4,h5⟩:=h;exact ⟨c0 ++ c1 ++ c2,c3,c4 ++ d4,by simp,by simp only [ET,Rep.len h0,Rep.len h1,Rep.len h2];rfl,h3⟩⟩
instance:DU (α:=Ae) 5 (λ(x:Ae) (y:Expr)=>{ x with Off:=y }):=⟨λ{M w cs m x y} h g=>by
 obtain ⟨c0,d0,rfl,h0,c1,d1,rfl,h1,c2,d2,rfl,h2,c3,d3,rfl,h3,c4,d4,rfl,h4,h5⟩:=h;refine ⟨c0 ++ c1 ++ c2,c4 ++ d4,c3,by simp,by simp only [ET,Rep.len h0,Rep.len h1,Rep.len h2];rfl,by rw [Rep.len h3,Rep.len g],?_⟩;have:Rep.rep M w (c0 ++ (c1 ++ (c2 ++ (m ++ (c4 ++ (d4)))))) (x.Name,x.Kind,x.On,y,x.Delay,x.Init):=⟨c0,_,rfl,h0,⟨c1,_,rfl,h1,⟨c2,_,rfl,h2,⟨m,_,rfl,g,⟨c4,_,rfl,h4,h5⟩⟩⟩⟩⟩;show Rep.rep M w _ (x.Name,x.Kind,x.On,y,x.Delay,x.Init);simpa using this⟩
instance:DF Ae.Delay 8:=⟨λh=>by
 obtain ⟨c0,d0,rfl,h0,c1,d1,rfl,h1,c2,d2,rfl,h2,c3,d3,rfl,h3,c4,d4,rfl,h4,h5⟩:=h;exact ⟨c0 ++ c1 ++ c2 ++ c3,c4,d4,by simp,by simp only [ET,Rep.len h0,Rep.len h1,Rep.len h2,Rep.len h3];rfl,h4⟩⟩
instance:DF Ae.Init 9:=⟨λh=>by
 obtain ⟨c0,d0,rfl,h0,c1,d1,rfl,h1,c2,d2,rfl,h2,c3,d3,rfl,h3,c4,d4,rfl,h4,h5⟩:=h;exact ⟨c0 ++ c1 ++ c2 ++ c3 ++ c4,d4,[],by simp,by simp only [ET,Rep.len h0,Rep.len h1,Rep.len h2,Rep.len h3,Rep.len h4];rfl,h5⟩⟩
structure Aa where
 Actuators:Int
 Inputs:List ByteArray
 Signals:List Ae
 Plus:List Int
 Minus:List Int
 deriving Inhabited
instance:Rep Aa:=Rep.via λx=>(x.Actuators,x.Inputs,x.Signals,x.Plus,x.Minus)
instance:DF Aa.Actuators 0:=⟨λh=>by
 obtain ⟨c0,d0,rfl,h0,c1,d1,rfl,h1,c2,d2,rfl,h2,c3,d3,rfl,h3,h4⟩:=h;exact ⟨[],c0,c1 ++ c2 ++ c3 ++ d3,by simp,rfl,h0⟩⟩
instance:DF Aa.Inputs 1:=⟨λh=>by
 obtain ⟨c0,d0,rfl,h0,c1,d1,rfl,h1,c2,d2,rfl,h2,c3,d3,rfl,h3,h4⟩:=h;exact ⟨c0,c1,c2 ++ c3 ++ d3,by simp,by simp only [ET,Rep.len h0];rfl,h1⟩⟩
instance:DF Aa.Signals 2:=⟨λh=>by
 obtain ⟨c0,d0,rfl,h0,c1,d1,rfl,h1,c2,d2,rfl,h2,c3,d3,rfl,h3,h4⟩:=h;exact ⟨c0 ++ c1,c2,c3 ++ d3,by simp,by simp only [ET,Rep.len h0,Rep.len h1];rfl,h2⟩⟩
instance:DF Aa.Plus 3:=⟨λh=>by
 obtain ⟨c0,d0,rfl,h0,c1,d1,rfl,h1,c2,d2,rfl,h2,c3,d3,rfl,h3,h4⟩:=h;exact ⟨c0 ++ c1 ++ c2,c3,d3,by simp,by simp only [ET,Rep.len h0,Rep.len h1,Rep.len h2];rfl,h3⟩⟩
instance:DF Aa.Minus 4:=⟨λh=>by
 obtain ⟨c0,d0,rfl,h0,c1,d1,rfl,h1,c2,d2,rfl,h2,c3,d3,rfl,h3,h4⟩:=h;exact ⟨c0 ++ c1 ++ c2 ++ c3,d3,[],by simp,by simp only [ET,Rep.len h0,Rep.len h1,Rep.len h2,Rep.len h3];rfl,h4⟩⟩
structure Builder where
 s:Ah
 division:List Int
 groups:List Int
 timers:List Int
 steps:List Int
 c:Aa
 deriving Inhabited
instance:Rep Builder:=Rep.via λx=>(x.s,x.division,x.groups,x.timers,x.steps,x.c)
instance:DF Builder.s 0:=⟨λh=>by
 obtain ⟨c0,d0,rfl,h0,c1,d1,rfl,h1,c2,d2,rfl,h2,c3,d3,rfl,h3,c4,d4,rfl,h4,h5⟩:=h;exact ⟨[],c0,c1 ++ c2 ++ c3 ++ c4 ++ d4,by simp,rfl,h0⟩⟩
instance:DF Builder.division 2:=⟨λh=>by
 obtain ⟨c0,d0,rfl,h0,c1,d1,rfl,h1,c2,d2,rfl,h2,c3,d3,rfl,h3,c4,d4,rfl,h4,h5⟩:=h;exact ⟨c0,c1,c2 ++ c3 ++ c4 ++ d4,by simp,by simp only [ET,Rep.len h0];rfl,h1⟩⟩
structure World_detect where
 good:Aa
 bad:Aa
 deriving Inhabited
instance:Rep World_detect:=Rep.via λx=>(x.good,x.bad)
instance:DF World_detect.good 0:=⟨λh=>by
 obtain ⟨c0,d0,rfl,h0,h1⟩:=h;exact ⟨[],c0,d0,by simp,rfl,h0⟩⟩
instance:DF World_detect.bad 5:=⟨λh=>by
 obtain ⟨c0,d0,rfl,h0,h1⟩:=h;exact ⟨c0,d0,[],by simp,by simp only [ET,Rep.len h0];rfl,h1⟩⟩
structure Ad where
 Ends:List Int
 Valves:List Bool
 Inputs:List Bool
 Values:List Bool
 Timers:List Int
 deriving Inhabited
instance:Rep Ad:=Rep.via λx=>(x.Ends,x.Valves,x.Inputs,x.Values,x.Timers)
instance:DF Ad.Ends 0:=⟨λh=>by
 obtain ⟨c0,d0,rfl,h0,c1,d1,rfl,h1,c2,d2,rfl,h2,c3,d3,rfl,h3,h4⟩:=h;exact ⟨[],c0,c1 ++ c2 ++ c3 ++ d3,by simp,rfl,h0⟩⟩
instance:DF Ad.Valves 1:=⟨λh=>by
 obtain ⟨c0,d0,rfl,h0,c1,d1,rfl,h1,c2,d2,rfl,h2,c3,d3,rfl,h3,h4⟩:=h;exact ⟨c0,c1,c2 ++ c3 ++ d3,by simp,by simp only [ET,Rep.len h0];rfl,h1⟩⟩
instance:DF Ad.Inputs 2:=⟨λh=>by
 obtain ⟨c0,d0,rfl,h0,c1,d1,rfl,h1,c2,d2,rfl,h2,c3,d3,rfl,h3,h4⟩:=h;exact ⟨c0 ++ c1,c2,c3 ++ d3,by simp,by simp only [ET,Rep.len h0,Rep.len h1];rfl,h2⟩⟩
instance:DF Ad.Values 3:=⟨λh=>by
 obtain ⟨c0,d0,rfl,h0,c1,d1,rfl,h1,c2,d2,rfl,h2,c3,d3,rfl,h3,h4⟩:=h;exact ⟨c0 ++ c1 ++ c2,c3,d3,by simp,by simp only [ET,Rep.len h0,Rep.len h1,Rep.len h2];rfl,h3⟩⟩
instance:DF Ad.Timers 4:=⟨λh=>by
 obtain ⟨c0,d0,rfl,h0,c1,d1,rfl,h1,c2,d2,rfl,h2,c3,d3,rfl,h3,h4⟩:=h;exact ⟨c0 ++ c1 ++ c2 ++ c3,d3,[],by simp,by simp only [ET,Rep.len h0,Rep.len h1,Rep.len h2,Rep.len h3];rfl,h4⟩⟩
structure Pair where
 Good:Ad
 Bad:Ad
 deriving Inhabited
instance:Rep Pair:=Rep.via λx=>(x.Good,x.Bad)
instance:DF Pair.Good 0:=⟨λh=>by
 obtain ⟨c0,d0,rfl,h0,h1⟩:=h;exact ⟨[],c0,d0,by simp,rfl,h0⟩⟩
instance:DF Pair.Bad 5:=⟨λh=>by
 obtain ⟨c0,d0,rfl,h0,h1⟩:=h;exact ⟨c0,d0,[],by simp,by simp only [ET,Rep.len h0];rfl,h1⟩⟩
structure Af where
 Kind:Int
 Index:Int
 Value:Bool
 deriving Inhabited
instance:Rep Af:=Rep.via λx=>(x.Kind,x.Index,x.Value)
instance:DF Af.Kind 0:=⟨λh=>by
 obtain ⟨c0,d0,rfl,h0,c1,d1,rfl,h1,h2⟩:=h;exact ⟨[],c0,c1 ++ d1,by simp,rfl,h0⟩⟩
instance:DF Af.Index 1:=⟨λh=>by
 obtain ⟨c0,d0,rfl,h0,c1,d1,rfl,h1,h2⟩:=h;exact ⟨c0,c1,d1,by simp,by simp only [ET,Rep.len h0];rfl,h1⟩⟩
instance:DF Af.Value 2:=⟨λh=>by
 obtain ⟨c0,d0,rfl,h0,c1,d1,rfl,h1,h2⟩:=h;exact ⟨c0 ++ c1,d1,[],by simp,by simp only [ET,Rep.len h0,Rep.len h1];rfl,h2⟩⟩
structure Ai where
 pairs:List Pair
 run:List Af
 differs:Bool
 deriving Inhabited
instance:Rep Ai:=Rep.via λx=>(x.pairs,x.run,x.differs)
instance:DF Ai.run 1:=⟨λh=>by
 obtain ⟨c0,d0,rfl,h0,c1,d1,rfl,h1,h2⟩:=h;exact ⟨c0,c1,d1,by simp,by simp only [ET,Rep.len h0];rfl,h1⟩⟩
instance:DF Ai.differs 2:=⟨λh=>by
 obtain ⟨c0,d0,rfl,h0,c1,d1,rfl,h1,h2⟩:=h;exact ⟨c0 ++ c1,d1,[],by simp,by simp only [ET,Rep.len h0,Rep.len h1];rfl,h2⟩⟩
structure Pilots where
 plus:Int
 minus:Int
 deriving Inhabited
instance:Rep Pilots:=Rep.via λx=>(x.plus,x.minus)
instance:DF Pilots.plus 0:=⟨λh=>by
 obtain ⟨c0,d0,rfl,h0,h1⟩:=h;exact ⟨[],c0,d0,by simp,rfl,h0⟩⟩
instance:DU (α:=Pilots) 0 (λ(x:Pilots) (y:Int)=>{ x with plus:=y }):=⟨λ{M w cs m x y} h g=>by
 obtain ⟨c0,d0,rfl,h0,h1⟩:=h;refine ⟨[],d0,c0,by simp,rfl,by rw [Rep.len h0,Rep.len g],?_⟩;have:Rep.rep M w (m ++ (d0)) (y,x.minus):=⟨m,_,rfl,g,h1⟩;show Rep.rep M w _ (y,x.minus);simpa using this⟩
instance:DF Pilots.minus 1:=⟨λh=>by
 obtain ⟨c0,d0,rfl,h0,h1⟩:=h;exact ⟨c0,d0,[],by simp,by simp only [ET,Rep.len h0];rfl,h1⟩⟩
instance:DU (α:=Pilots) 1 (λ(x:Pilots) (y:Int)=>{ x with minus:=y }):=⟨λ{M w cs m x y} h g=>by
 obtain ⟨c0,d0,rfl,h0,h1⟩:=h;refine ⟨c0,[],d0,by simp,by simp only [ET,Rep.len h0];rfl,by rw [Rep.len h1,Rep.len g],?_⟩;have:Rep.rep M w (c0 ++ (m)) (x.plus,y):=⟨c0,_,rfl,h0,g⟩;show Rep.rep M w _ (x.plus,y);simpa using this⟩
structure Ag where
 value:Bool
 timer:Int
 conflict:Bool
 deriving Inhabited
instance:Rep Ag:=Rep.via λx=>(x.value,x.timer,x.conflict)
instance:DF Ag.value 0:=⟨λh=>by
 obtain ⟨c0,d0,rfl,h0,c1,d1,rfl,h1,h2⟩:=h;exact ⟨[],c0,c1 ++ d1,by simp,rfl,h0⟩⟩
instance:DU (α:=Ag) 0 (λ(x:Ag) (y:Bool)=>{ x with value:=y }):=⟨λ{M w cs m x y} h g=>by
 obtain ⟨c0,d0,rfl,h0,c1,d1,rfl,h1,h2⟩:=h;refine ⟨[],c1 ++ d1,c0,by simp,rfl,by rw [Rep.len h0,Rep.len g],?_⟩;have:Rep.rep M w (m ++ (c1 ++ (d1))) (y,x.timer,x.conflict):=⟨m,_,rfl,g,⟨c1,_,rfl,h1,h2⟩⟩;show Rep.rep M w _ (y,x.timer,x.conflict);simpa using this⟩
instance:DF Ag.timer 1:=⟨λh=>by
 obtain ⟨c0,d0,rfl,h0,c1,d1,rfl,h1,h2⟩:=h;exact ⟨c0,c1,d1,by simp,by simp only [ET,Rep.len h0];rfl,h1⟩⟩
instance:DU (α:=Ag) 1 (λ(x:Ag) (y:Int)=>{ x with timer:=y }):=⟨λ{M w cs m x y} h g=>by
 obtain ⟨c0,d0,rfl,h0,c1,d1,rfl,h1,h2⟩:=h;refine ⟨c0,d1,c1,by simp,by simp only [ET,Rep.len h0];rfl,by rw [Rep.len h1,Rep.len g],?_⟩;have:Rep.rep M w (c0 ++ (m ++ (d1))) (x.value,y,x.conflict):=⟨c0,_,rfl,h0,⟨m,_,rfl,g,h2⟩⟩;show Rep.rep M w _ (x.value,y,x.conflict);simpa using this⟩
instance:DF Ag.conflict 2:=⟨λh=>by
 obtain ⟨c0,d0,rfl,h0,c1,d1,rfl,h1,h2⟩:=h;exact ⟨c0 ++ c1,d1,[],by simp,by simp only [ET,Rep.len h0,Rep.len h1];rfl,h2⟩⟩
instance:DU (α:=Ag) 2 (λ(x:Ag) (y:Bool)=>{ x with conflict:=y }):=⟨λ{M w cs m x y} h g=>by
 obtain ⟨c0,d0,rfl,h0,c1,d1,rfl,h1,h2⟩:=h;refine ⟨c0 ++ c1,[],d1,by simp,by simp only [ET,Rep.len h0,Rep.len h1];rfl,by rw [Rep.len h2,Rep.len g],?_⟩;have:Rep.rep M w (c0 ++ (c1 ++ (m))) (x.value,x.timer,y):=⟨c0,_,rfl,h0,⟨c1,_,rfl,h1,g⟩⟩;show Rep.rep M w _ (x.value,x.timer,y);simpa using this⟩
end Go.Pn
namespace Go.Pn
open Go Go.RowKit Go.Proofs
instance:Mx Tryz.prog:=⟨by kernel_rfl⟩
instance:Ty Tryz.prog 3 (Int):=⟨by kernel_rfl,by kernel_rfl⟩
instance:Zr Tryz.prog 3 (0:Int):=⟨[.int .i64 0],by kernel_rfl,λ_ _=>rfl⟩
instance:Ty Tryz.prog 4 (Bool):=⟨by kernel_rfl,by kernel_rfl⟩
instance:Zr Tryz.prog 4 false:=⟨[.bool false],by kernel_rfl,λ_ _=>rfl⟩
instance:Ty Tryz.prog 9 (ByteArray):=⟨by kernel_rfl,by kernel_rfl⟩
instance:Ty Tryz.prog 22 (List Step):=⟨by kernel_rfl,by kernel_rfl⟩
instance:Es Tryz.prog 22 (Step):=⟨78,by kernel_rfl,by kernel_rfl⟩
instance:Ty Tryz.prog 24 (Ah):=⟨by kernel_rfl,by kernel_rfl⟩
instance:Fd Tryz.prog 24 0 Ah.Actuators:=⟨0,0,by kernel_rfl,inferInstance⟩
instance:Fd Tryz.prog 24 1 Ah.Steps:=⟨1,0,by kernel_rfl,inferInstance⟩
instance:Ty Tryz.prog 26 (Fault):=⟨by kernel_rfl,by kernel_rfl⟩
instance:Fd Tryz.prog 26 0 Fault.Kind:=⟨0,0,by kernel_rfl,inferInstance⟩
instance:Fd Tryz.prog 26 1 Fault.Index:=⟨1,0,by kernel_rfl,inferInstance⟩
instance:Ty Tryz.prog 30 (List ByteArray):=⟨by kernel_rfl,by kernel_rfl⟩
instance:Es Tryz.prog 30 (ByteArray):=⟨9,by kernel_rfl,by kernel_rfl⟩
instance:Ty Tryz.prog 31 (List Ae):=⟨by kernel_rfl,by kernel_rfl⟩
instance:Es Tryz.prog 31 (Ae):=⟨85,by kernel_rfl,by kernel_rfl⟩
instance:Ty Tryz.prog 32 (List Int):=⟨by kernel_rfl,by kernel_rfl⟩
instance:Es Tryz.prog 32 (Int):=⟨3,by kernel_rfl,by kernel_rfl⟩
instance:Ty Tryz.prog 34 (Aa):=⟨by kernel_rfl,by kernel_rfl⟩
instance:Fd Tryz.prog 34 0 Aa.Actuators:=⟨0,0,by kernel_rfl,inferInstance⟩
instance:Fd Tryz.prog 34 1 Aa.Inputs:=⟨1,0,by kernel_rfl,inferInstance⟩
instance:Fd Tryz.prog 34 2 Aa.Signals:=⟨2,0,by kernel_rfl,inferInstance⟩
instance:Fd Tryz.prog 34 3 Aa.Plus:=⟨3,0,by kernel_rfl,inferInstance⟩
instance:Fd Tryz.prog 34 4 Aa.Minus:=⟨4,0,by kernel_rfl,inferInstance⟩
instance:Ty Tryz.prog 35 (Int):=⟨by kernel_rfl,by kernel_rfl⟩
instance:Zr Tryz.prog 35 (0:Int):=⟨[.int .i64 0],by kernel_rfl,λ_ _=>rfl⟩
instance:Ty Tryz.prog 39 (List Af):=⟨by kernel_rfl,by kernel_rfl⟩
instance:Es Tryz.prog 39 (Af):=⟨74,by kernel_rfl,by kernel_rfl⟩
instance:Fd Tryz.prog 54 0 Builder.s:=⟨0,1,by kernel_rfl,inferInstance⟩
instance:Fd Tryz.prog 54 1 Builder.division:=⟨2,0,by kernel_rfl,inferInstance⟩
instance:Ty Tryz.prog 57 (World_detect):=⟨by kernel_rfl,by kernel_rfl⟩
instance:Fd Tryz.prog 57 0 World_detect.good:=⟨0,4,by kernel_rfl,inferInstance⟩
instance:Fd Tryz.prog 57 1 World_detect.bad:=⟨5,4,by kernel_rfl,inferInstance⟩
instance:Ty Tryz.prog 60 (List Pair):=⟨by kernel_rfl,by kernel_rfl⟩
instance:Es Tryz.prog 60 (Pair):=⟨69,by kernel_rfl,by kernel_rfl⟩
instance:Ty Tryz.prog 62 (Ai):=⟨by kernel_rfl,by kernel_rfl⟩
instance:Ty Tryz.prog 65 (List Bool):=⟨by kernel_rfl,by kernel_rfl⟩
instance:Es Tryz.prog 65 (Bool):=⟨4,by kernel_rfl,by kernel_rfl⟩
instance:Ty Tryz.prog 67 (Ad):=⟨by kernel_rfl,by kernel_rfl⟩
instance:Fd Tryz.prog 67 0 Ad.Ends:=⟨0,0,by kernel_rfl,inferInstance⟩
instance:Fd Tryz.prog 67 1 Ad.Valves:=⟨1,0,by kernel_rfl,inferInstance⟩
instance:Fd Tryz.prog 67 2 Ad.Inputs:=⟨2,0,by kernel_rfl,inferInstance⟩
instance:Fd Tryz.prog 67 3 Ad.Values:=⟨3,0,by kernel_rfl,inferInstance⟩
instance:Fd Tryz.prog 67 4 Ad.Timers:=⟨4,0,by kernel_rfl,inferInstance⟩
instance:Ty Tryz.prog 69 (Pair):=⟨by kernel_rfl,by kernel_rfl⟩
instance:Fd Tryz.prog 69 0 Pair.Good:=⟨0,4,by kernel_rfl,inferInstance⟩
instance:Fd Tryz.prog 69 1 Pair.Bad:=⟨5,4,by kernel_rfl,inferInstance⟩
instance:Ty Tryz.prog 74 (Af):=⟨by kernel_rfl,by kernel_rfl⟩
instance:Fd Tryz.prog 74 0 Af.Kind:=⟨0,0,by kernel_rfl,inferInstance⟩
instance:Fd Tryz.prog 74 1 Af.Index:=⟨1,0,by kernel_rfl,inferInstance⟩
instance:Fd Tryz.prog 74 2 Af.Value:=⟨2,0,by kernel_rfl,inferInstance⟩
instance:Zr Tryz.prog 74 (⟨(0:Int),(0:Int),false⟩:Af):=⟨[.int .i64 0,.int .i64 0,.bool false],by kernel_rfl,λ_ _=>⟨[.int .i64 0],[.int .i64 0,.bool false],rfl,rfl,⟨[.int .i64 0],[.bool false],rfl,rfl,rfl⟩⟩⟩
instance:Ty Tryz.prog 76 (List Ab):=⟨by kernel_rfl,by kernel_rfl⟩
instance:Es Tryz.prog 76 (Ab):=⟨107,by kernel_rfl,by kernel_rfl⟩
instance:Ty Tryz.prog 78 (Step):=⟨by kernel_rfl,by kernel_rfl⟩
instance:Fd Tryz.prog 78 0 Step.Strokes:=⟨0,0,by kernel_rfl,inferInstance⟩
instance:Fd Tryz.prog 78 1 Step.Wait:=⟨1,0,by kernel_rfl,inferInstance⟩
instance:Ty Tryz.prog 81 (List Expr):=⟨by kernel_rfl,by kernel_rfl⟩
instance:Es Tryz.prog 81 (Expr):=⟨83,by kernel_rfl,by kernel_rfl⟩
instance:Ty Tryz.prog 83 (Expr):=⟨by kernel_rfl,by kernel_rfl⟩
instance:Fd Tryz.prog 83 0 Expr.Op:=⟨0,0,by kernel_rfl,inferInstance⟩
instance:Fd Tryz.prog 83 1 Expr.Index:=⟨1,0,by kernel_rfl,inferInstance⟩
instance:Fd Tryz.prog 83 2 Expr.Args:=⟨2,0,by kernel_rfl,inferInstance⟩
instance:Ty Tryz.prog 85 (Ae):=⟨by kernel_rfl,by kernel_rfl⟩
instance:Fd Tryz.prog 85 0 Ae.Name:=⟨0,0,by kernel_rfl,inferInstance⟩
instance:Fd Tryz.prog 85 1 Ae.Kind:=⟨1,0,by kernel_rfl,inferInstance⟩
instance:Fd Tryz.prog 85 2 Ae.On:=⟨2,2,by kernel_rfl,inferInstance⟩
instance:Fd Tryz.prog 85 3 Ae.Off:=⟨5,2,by kernel_rfl,inferInstance⟩
instance:Fd Tryz.prog 85 4 Ae.Delay:=⟨8,0,by kernel_rfl,inferInstance⟩
instance:Ty Tryz.prog 92 (List (List Af)):=⟨by kernel_rfl,by kernel_rfl⟩
instance:Ty Tryz.prog 107 (Ab):=⟨by kernel_rfl,by kernel_rfl⟩
instance:Fd Tryz.prog 107 0 Ab.Actuator:=⟨0,0,by kernel_rfl,inferInstance⟩
instance:Fd Tryz.prog 107 1 Ab.Out:=⟨1,0,by kernel_rfl,inferInstance⟩
instance:Zr Tryz.prog 107 (⟨(0:Int),false⟩:Ab):=⟨[.int .i64 0,.bool false],by kernel_rfl,λ_ _=>⟨[.int .i64 0],[.bool false],rfl,rfl,rfl⟩⟩
instance:Ty Tryz.prog 119 (Ar6):=⟨by kernel_rfl,by kernel_rfl⟩
instance:Zr Tryz.prog 119 Ar6.z:=⟨[.bool false,.bool false,.bool false,.bool false,.bool false,.bool false],by kernel_rfl,λ_ _=>⟨rfl,rfl⟩⟩
instance:Es Tryz.prog 138 (List Int):=⟨32,by kernel_rfl,by kernel_rfl⟩
instance:Ty Tryz.prog 155 (Pilots):=⟨by kernel_rfl,by kernel_rfl⟩
instance:Zr Tryz.prog 155 (⟨(0:Int),(0:Int)⟩:Pilots):=⟨[.int .i64 0,.int .i64 0],by kernel_rfl,λ_ _=>⟨[.int .i64 0],[.int .i64 0],rfl,rfl,rfl⟩⟩
instance:Es Tryz.prog 168 (Pilots):=⟨155,by kernel_rfl,by kernel_rfl⟩
instance:Ty Tryz.prog 269 (Ag):=⟨by kernel_rfl,by kernel_rfl⟩
instance:Zr Tryz.prog 269 (⟨false,(0:Int),false⟩:Ag):=⟨[.bool false,.int .i64 0,.bool false],by kernel_rfl,λ_ _=>⟨[.bool false],[.int .i64 0,.bool false],rfl,rfl,⟨[.int .i64 0],[.bool false],rfl,rfl,rfl⟩⟩⟩
instance:Es Tryz.prog 282 (List Bool):=⟨65,by kernel_rfl,by kernel_rfl⟩
end Go.Pn
namespace Go.Pn
open Go Go.RowKit
theorem Dy {l:List Value} (h:l.length=1):∃ a,l=[a]:=by match l,h with | [a],_=>exact ⟨a,rfl⟩
theorem len3 {l:List Value} (h:l.length=3):∃ a b c,l=[a,b,c]:=by match l,h with | [a,b,c],_=>exact ⟨a,b,c,rfl⟩
theorem len5 {l:List Value} (h:l.length=5):∃ a b c d e,l=[a,b,c,d,e]:=by match l,h with | [a,b,c,d,e],_=>exact ⟨a,b,c,d,e,rfl⟩
def Li (pl:List (Nat×Nat)):List Value->List (Nat×List Value)->Option (List Value)
 | cells,[]=>some cells
 | cells,(i,c) :: rest=>match pl[i]? with
  | none=>none
  | some (off,size)=>if c.length≠size || off + c.length > cells.length then none else Li pl (cells.take off ++ (c ++ cells.drop (off + c.length))) rest
def Ld:List (Nat×Value)->List (Nat×List Value)->Prop
 | [],[]=>True
 | (i,v) :: l,(j,c) :: m=>i=j/\v.cells=c.toArray/\Ld l m
 | _,_=>False
theorem Sh (c:List Value):∀ (off k:Nat) (cells:List Value),off + k + c.length<=cells.length ->
  ((c.zipIdx k).foldl (λ(cs:Array Value) (x:Value×Nat)=>cs.setIfInBounds (off + x.2) x.1) cells.toArray)=(cells.take (off + k) ++ (c ++ cells.drop (off + k + c.length))).toArray:=by
 induction c with
 | nil=>intro off k cells h;simp
 | cons v c ih=>
  intro off k cells h;simp only [List.zipIdx_cons,H4,List.setIfInBounds_toArray];simp only [GY] at h;rw [ih off (k + 1) (cells.set (off + k) v) (by simp;omega)];congr 1;have e1:off + (k + 1) + c.length=off + k + (c.length + 1):=by omega
  have h3:List.take (off + (k + 1)) (cells.set (off + k) v)=List.take (off + k) cells ++ [v]:=by
   apply HO;intro j;by_cases h1:j < off + k
   ·rw [E5 (by simp;omega),GZ om_,GZ h1,G6 om_]
   ·by_cases h2:j=off + k
    ·subst h2;have l2:(List.take (off + k) cells).length=off + k:=by simp;omega
     rw [EV om_,GZ om_,GM om_,l2,HR];rfl
    ·rw [GC (by simp;omega),GC (by simp;omega)]
  have h4:List.drop (off + (k + 1) + c.length) (cells.set (off + k) v)=List.drop (off + k + (c.length + 1)) cells:=by
   rw [e1,List.drop_set_of_lt om_]
  rw [h3,h4];simp [FM]
theorem Wb {pl:List (Nat×Nat)}:∀ {l:List (Nat×Value)} {m:List (Nat×List Value)} {z res:List Value},Ld l m->Li pl z m=some res->Instr.fill (pl[·]?) z.toArray l=some res.toArray
 | [],[],z,res,_,h=>by simp only [Li,Option.some.injEq] at h;subst h;rfl
 | [],_ :: _,_,_,h,_=>h.elim
 | _ :: _,[],_,_,h,_=>h.elim
 | (i,v) :: l,(j,c) :: m,z,res,h,hf=>by
  obtain ⟨rfl,hv,h⟩:=h;unfold Li at hf;unfold Instr.fill;split at hf
  ·cases hf
  ·rename_i off size hp;split at hf
   ·cases hf
   ·rename_i hne;simp only [hp,hv,HG];rw [if_neg (by simpa using hne)];simp only [G8,decide_eq_true_eq,not_or] at hne;have:=Sh c off 0 z om_;have hfold:(c.toArray.zipIdx.foldl (λ(cs:Array Value) (x:Value×Nat)=>cs.setIfInBounds (off + x.2) x.1) z.toArray)=(c.zipIdx 0).foldl (λ(cs:Array Value) (x:Value×Nat)=>cs.setIfInBounds (off + x.2) x.1) z.toArray:=by
     rw [← JW];congr 1;simp
    show Instr.fill _ (c.toArray.zipIdx.foldl (λ(cs:Array Value) (x:Value×Nat)=>cs.setIfInBounds (off + x.2) x.1) z.toArray) l=_;rw [hfold,this];exact Wb h (by simpa using hf)
def Be (P:Program) (fs:List Field):Option (List (Nat×Nat)):=fs.mapM λf=>(P.info? f.type).map λi=>(f.offset,i.size)
theorem Lq {P:Program} {w:World}:∀ {fs:List Field} {L:List (Nat×Nat)},Be P fs=some L->(fs.mapM λf=>(do pure (f.offset,← sizeOf f.type):Sem (Nat×Nat))).run P w=.ok L w
 | [],L,h=>by simp only [Be,List.mapM_nil,Option.pure_def,Option.some.injEq] at h;subst h;rfl
 | f :: fs,L,h=>by
  unfold Be at h;rw [List.mapM_cons] at h;cases hi:P.info? f.type with
  | none=>rw [hi] at h;cases h
  | some i=>
   cases hr:Be P fs with
   | none=>unfold Be at hr;rw [hi,hr] at h;cases h
   | some L'=>
    unfold Be at hr;rw [hi,hr] at h;have:L=(f.offset,i.size) :: L':=by cases h;rfl
    subst this;have ih:=Lq (w:=w) (show Be P fs=some L' from hr);rw [List.mapM_cons];simp only [EU,sizeOf,typeInfo,run_program,ER,hi,EW] at ih ⊢;rw [ih];rfl
def fieldsOf (P:Program) (T:TypeId):Option (List Field):=match P.underlying T with | some (.struct fs)=>some fs.toList | _=>none
theorem A7 {P:Program} {T:TypeId} {fs:List Field} {L:List (Nat×Nat)} {z res:List Value} {l:List (Nat×Value)} {m:List (Nat×List Value)} {w:World}
  (hu:fieldsOf P T=some fs) (hp:Be P fs=some L) (hz:(P.info? T).map (·.zero)=some (some (.agg z.toArray))) (hc:Ld l m) (hf:Li L z m=some res) :
  (Instr.build T l.toArray).run P w=.ok (.agg res.toArray) w:=by
 unfold fieldsOf at hu;split at hu
 ·rename_i fs' hu';obtain rfl:=Option.some.inj hu;cases hi:P.info? T with
  | none=>simp [hi] at hz
  | some i=>
   simp only [hi,Option.map_some,Option.some.injEq] at hz;have h1:=Wb (pl:=L) hc hf;have h2:(fs'.mapM λf=>(do pure (f.offset,← sizeOf f.type):Sem (Nat×Nat))).run P w=.ok L.toArray w:=by
    have:=Lq (w:=w) hp;rw [← JT (xs:=fs'),List.mapM_toArray];simp only [Sem.run_map,this,ER]
   simp only [Instr.build,zeroValue,typeInfo,EU,run_program,ER,hi,EW,hz,run_underlying hu',h2,Value.cells];have h3:(λx:Nat=>L.toArray[x]?)=(λx:Nat=>L[x]?):=by funext x;simp
   rw [h3,h1];rfl
 ·cases hu
theorem Ap {P:Program} {T:TypeId} {L:List (Nat×Nat)} {z res:List Value} {l:List (Nat×Value)} {m:List (Nat×List Value)} {w:World}
  (hp:(fieldsOf P T).bind (Be P)=some L) (hz:(P.info? T).map (·.zero)=some (some (.agg z.toArray))) (hc:Ld l m) (hf:Li L z m=some res) :
  (Instr.build T l.toArray).run P w=.ok (.agg res.toArray) w:=by
 cases hu:fieldsOf P T with
 | none=>rw [hu] at hp;cases hp
 | some fs=>rw [hu] at hp;exact A7 hu hp hz hc hf
theorem An {α:Type} [Rep α] {M:Nat->Prop} {w:World} {cs:List Value} {x:α} {v:Value} (hv:v=mk (Rep.agg α) cs) (hr:Rep.rep M w cs x):v.cells=cs.toArray:=by rw [hv,Cb hr]
end Go.Pn
namespace Go.Pn
open Go Go.RowKit
def Chk {α:Type} [Rep α] (M:Nat->Prop) (w:World):List Value->List α->Prop
 | cs,[]=>cs=[]
 | cs,x :: xs=>∃ c d,cs=c ++ d/\Rep.rep M w c x/\Chk M w d xs
section
variable {α:Type} [Rep α] {M M':Nat->Prop} {w w':World}
theorem Chk.ext (e:Ext M w w'):∀ {xs:List α} {cs:List Value},Chk M w cs xs->Chk M w' cs xs
 | [],_,h=>h
 | _ :: _,_,⟨c,d,h1,h2,h3⟩=>⟨c,d,h1,Rep.ext h2 e,Chk.ext e h3⟩
theorem Chk.sub (s:∀ k,k < w.heap.size->M' k->M k):∀ {xs:List α} {cs:List Value},Chk M w cs xs->Chk M' w cs xs
 | [],_,h=>h
 | _ :: _,_,⟨c,d,h1,h2,h3⟩=>⟨c,d,h1,Rep.sub h2 s,Chk.sub s h3⟩
theorem Chk.one:∀ {xs:List α} {cs:List Value},Chk M w cs xs->∀ u∈cs,u.oneCell'=true
 | [],_,h,u,hu=>by subst h;simp at hu
 | _ :: _,_,⟨c,d,h1,h2,h3⟩,u,hu=>by
  subst h1;rcases FQ.1 hu with h | h
  ·exact Rep.one h2 u h
  ·exact Chk.one h3 u h
theorem Chk.len:∀ {xs:List α} {cs:List Value},Chk M w cs xs->cs.length=xs.length * Rep.sz α
 | [],_,h=>by subst h;simp
 | _ :: xs,_,⟨c,d,h1,h2,h3⟩=>by subst h1;rw [ET,Rep.len h2,Chk.len h3,GY,G3];omega
theorem Chk.append:∀ {xs ys:List α} {cs ds:List Value},Chk M w cs xs->Chk M w ds ys->Chk M w (cs ++ ds) (xs ++ ys)
 | [],_,_,_,h,k=>by subst h;exact k
 | _ :: _,_,_,ds,⟨c,d,h1,h2,h3⟩,k=>⟨c,d ++ ds,by rw [h1,FM],h2,Chk.append h3 k⟩
theorem Row.chk {b:Nat}:∀ {xs:List α} {o:Nat},Row M w b o xs->∃ cs,Chk M w cs xs/\Cls M w b o cs
 | [],_,_=>⟨[],rfl,λj v hj=>by simp at hj⟩
 | x :: xs,o,⟨⟨c,hc,hr⟩,h2⟩=>by
  obtain ⟨d,hd,hd2⟩:=Row.chk h2;refine ⟨c ++ d,⟨c,d,rfl,hr,hd⟩,λj v hj=>?_⟩;rcases GE j c.length with h | h
  ·exact hc j v (by rwa [E5 h] at hj)
  ·rw [EV h] at hj;have:=hd2 (j - c.length) v hj;rw [Rep.len hr] at this h
   rwa [show o + Rep.sz α + (j - Rep.sz α)=o + j by omega] at this
theorem Chk.row {b:Nat}:∀ {xs:List α} {o:Nat} {cs:List Value},Chk M w cs xs->Cls M w b o cs->Row M w b o xs
 | [],_,_,_,_=>trivial
 | x :: xs,o,cs,⟨c,d,h1,h2,h3⟩,hc=>by
  subst h1;obtain ⟨h4,h5⟩:=Cls.append hc;rw [Rep.len h2] at h5;exact ⟨⟨c,h4,h2⟩,Chk.row h3 h5⟩
theorem Chk.get:∀ {xs:List α} {cs:List Value} {i:Nat} {x:α},Chk M w cs xs->xs[i]?=some x->∃ p c q,cs=p ++ (c ++ q)/\p.length=i * Rep.sz α/\Rep.rep M w c x /\
  ∀ c' y,Rep.rep M w c' y->Chk M w (p ++ (c' ++ q)) (xs.set i y)
 | [],_,_,_,_,hx=>by simp at hx
 | y :: ys,cs,0,x,⟨c,d,h1,h2,h3⟩,hx=>by
  obtain rfl:y=x:=by simpa using hx
  exact ⟨[],c,d,h1,by simp,h2,λc' y hy=>⟨c',d,rfl,hy,h3⟩⟩
 | y :: ys,cs,i + 1,x,⟨c,d,h1,h2,h3⟩,hx=>by
  obtain ⟨p,c1,q,h4,h5,h6,h7⟩:=Chk.get (i:=i) h3 (by simpa using hx);refine ⟨c ++ p,c1,q,by rw [h1,h4,FM],by rw [ET,h5,Rep.len h2,G3];omega,h6,λc' z hz=>⟨c,p ++ (c' ++ q),by rw [FM],h2,?_⟩⟩;exact h7 c' z hz
end
theorem Xw {w w':World} {e size n:Nat} {c:Value} {cs:List Value} (h:w.ownsRow 0 e size c n cs) (hk:∀ k,c.ownBlock=some k->w'.heap[k]?=w.heap[k]?):w'.ownsRow 0 e size c n cs:=by
 refine ⟨h.1,?_⟩;rcases h.2 with hn | ⟨g,cap,cur,rfl,hb,hgg,rest⟩
 ·exact .inl hn
 ·refine .inr ⟨g,cap,cur,rfl,hb,?_,rest⟩;rw [hk g rfl];exact hgg
def Ow {α:Type} [Rep α] (e:TypeId) (c:Value) (xs:List α):Ent where
 p F M w _:=(F=c.ownBlock.toList/\∃ cs,w.ownsRow 0 e (Rep.sz α) c xs.length cs/\Chk M w cs xs)\/(F=[]/\xs=[]/\∃ g,c=.slice (some ⟨g,0,none⟩) 0 0)
 st h x:=by
  rcases h with ⟨hF,cs,ho,hc⟩ | h
  ·refine .inl ⟨hF,cs,Xw ho λk hk=>?_,hc.ext (x.mono λ_ _ hk=>hk.1)⟩;exact x.block k (ho.lt k hk).2 λhm=>hm.2 (by rw [hF,hk];simp)
  ·exact .inr h
 sb h s:=h.imp (λ⟨hF,cs,ho,hc⟩=>⟨hF,cs,ho,hc.sub s⟩) id
def Or {α:Type} [Rep α] (e:TypeId) (xs:List α):Ent where
 p F M w v:=(Ow e v xs).p F M w v
 st {_ _ _ _ v} h x:=(Ow e v xs).st h x
 sb {_ _ _ _ v} h s:=(Ow e v xs).sb h s
class Ea (P:Program) (T:Nat) (e:outParam Nat) (α:Type) [Rep α]:Prop where
 el:P.underlying T=some (.slice e)
 inf':((P.info? e).bind λi=>i.zero.map λz=>(i.size,Nat.ble i.bytes 65536,z.cells.size))=some (Rep.sz α,true,Rep.sz α)
 pos:Nat.blt 0 (Rep.sz α)=true
theorem Ea.inf {P:Program} {T e:Nat} {α:Type} [Rep α] (h:Ea P T e α):∃ i z,P.info? e=some i/\i.zero=some z/\i.size=Rep.sz α/\Nat.ble i.bytes 65536=true/\z.cells.size=Rep.sz α:=by
 have h:=h.inf';cases hi:P.info? e with
 | none=>rw [hi] at h;cases h
 | some i=>
  rw [hi] at h;cases hz:i.zero with
  | none=>simp [hz] at h
  | some z=>
   simp only [HJ,hz,Option.map_some,Option.some.injEq,Prod.mk.injEq] at h;exact ⟨i,z,rfl,hz,h.1,h.2.1,h.2.2⟩
section
variable {P:Program} {M0:Fm} {w0:World} {n:Nat} {Γ:Cx} {Q:Exit->Act->World->Prop} {a:Act} {w:World} {ty:TypeId}
theorem St.openO {α:Type} [Rep α] {d e:Nat} {xs:List α} (h:St M0 w0 n Γ a w) (k:Nat) (hd:Am Γ d=some (Or e xs)) (hne:Nat.beq d k=false):∃ c,St M0 w0 n ((d,Qv c) :: (k,Ow e c xs) :: Γ) a w:=by
 obtain ⟨M,φ,h⟩:=h;refine ⟨a.get d,?_⟩;unfold St;rw [Fh];exact h.split (by rw [hd];rfl) (F8 hne) ⟨rfl,rfl⟩ (h.holds d _ hd)
theorem St.nilO {α:Type} [Rep α] (k e:Nat) (h:St M0 w0 n Γ a w):St M0 w0 n ((k,Ow e (.slice none 0 0) ([]:List α)) :: Γ) a w:=by
 obtain ⟨M,φ,h⟩:=h;unfold St;rw [Aj];refine ⟨M,λt=>if t=k then [] else φ t,λt e' he=>?_,λt ht=>?_,λt s hts ht hs=>?_,h.sub,h.bd,h.fr,h.sz,h.df⟩
 ·simp only [put] at he;by_cases h3:t=k
  ·subst h3;simp only [if_true,Option.some.injEq] at he ⊢;subst he;exact .inl ⟨rfl,[],World.ownsRow_nil w 0 e _,rfl⟩
  ·simp only [if_neg h3] at he ⊢;exact h.holds t e' he
 ·by_cases h3:t=k
  ·simp [h3]
  ·simp only [put,if_neg h3] at ht ⊢;exact h.own t ht
 ·by_cases h3:t=k
  ·simp [h3]
  ·by_cases h4:s=k
   ·simp [h4]
   ·simp only [put,if_neg h3,if_neg h4] at ht hs ⊢;exact h.apart t s hts ht hs
theorem Ow.sl {α:Type} [Rep α] {e:Nat} {c:Value} {xs:List α} {F:List Nat} {M:Nat->Prop} {v:Value} (h:(Ow e c xs).p F M w v) (hM:∀ k∈F,¬ M k):Sl M w c xs:=by
 obtain ⟨hF,cs,ho,hc⟩ | ⟨_,rfl,g,rfl⟩:=h
 case inr=>exact ⟨_,0,rfl,.inl rfl⟩
 rcases ho.2 with ⟨rfl,h0⟩ | ⟨g,cap,cur,rfl,hb,hg,q1,q2,q3,htake⟩
 ·exact ⟨none,0,by rw [h0],.inl (HE h0)⟩
 ·refine ⟨some ⟨g,0,none⟩,cap - xs.length,by rw [J0 om_],.inr ⟨g,0,rfl,hc.row λj v hj=>⟨hM g (by rw [hF];simp [Value.ownBlock]),?_⟩⟩⟩;have:=ho.cells (g:=g) rfl j v hj
  rwa [Bc] at this
abbrev Fz {α:Type} [Rep α] (c:Value) (xs:List α):Ent:=At c (Va xs)
instance {α:Type} [Rep α] {e:TypeId} {c:Value} {xs:List α}:Gh (Ow e c xs):=⟨λh _=>h⟩
theorem fz {α:Type} [Rep α] {k e:Nat} {c:Value} {xs:List α} (hM:Bd M0 w0) (h:St M0 w0 n Γ a w) (hk:Am Γ k=some (Ow e c xs)):St M0 w0 n ((k,Fz c xs) :: Γ) a w:=by
 obtain ⟨M,φ,h⟩:=h;have hks:(Am Γ k).isSome=true:=by rw [hk];rfl
 have hMs:∀ q,q < w.heap.size->(M q/\q ∉ φ k)->M q:=λq _ hq=>hq.1;unfold St;rw [Aj];refine ⟨λq=>M q/\q ∉ φ k,λt=>if t=k then [] else φ t,λt e' he=>?_,λt ht=>?_,λt s hts ht hs=>?_,λq hq=>⟨h.sub q hq,λhm=>?_⟩,λq hq=>h.bd q hq.1,h.fr,h.sz,h.df⟩
 ·simp only [put] at he;by_cases h4:t=k
  ·subst h4;simp only [if_true,Option.some.injEq] at he ⊢;subst he;exact Va.mkList (Ow.sl (Ent.sb _ (h.holds t _ hk) hMs) λq hq hm=>hm.2 hq)
  ·simp only [if_neg h4] at he ⊢;exact Ent.sb _ (h.holds t e' he) hMs
 ·by_cases h4:t=k
  ·simp [h4]
  ·simp only [put,if_neg h4] at ht ⊢;have:=h.own t ht;exact ⟨this.1,λq hq=>⟨⟨(this.2 q hq).1,h.apart t k h4 ht hks q hq⟩,(this.2 q hq).2⟩⟩
 ·by_cases h5:t=k
  ·simp [h5]
  ·by_cases h6:s=k
   ·simp [h6]
   ·simp only [put,if_neg h5,if_neg h6] at ht hs ⊢;exact h.apart t s hts ht hs
 ·rcases ((h.own k hks).2 q hm).2 with h1 | h1
  ·have:=hM.1 q hq;omega
  ·exact hM.2 q h1 hq
theorem fzk {α:Type} [Rep α] {k e:Nat} {c:Value} {xs:List α} {R:Prop} (hM:Bd M0 w0) (h:St M0 w0 n Γ a w) (hk:Am Γ k=some (Ow e c xs)) (r:St M0 w0 n ((k,Fz c xs) :: Γ) a w->R):R:=r (fz hM h hk)
end
end Go.Pn
namespace Go.Pn
open Go Go.RowKit
theorem app_dr {P:Program} {w w':World} {v v':Value} {base:Nat} {t ty e:TypeId} {i:TypeInfo} {z:Value} {size bytes:Nat} (ht:P.underlying t=some (.slice e)) (hi:P.info? e=some i) (hz:i.zero=some z)
  (hsize:i.size=size) (hby:i.bytes=bytes) {n:Nat} {xs:List Value} (hown:w.ownsRow base e size v n xs)
  {a:Addr} {m c:Nat} {news:List Value} (hl:news.length=m * size) (hnews:∀ j u,news[j]?=some u->w.cell? (a.add j)=some u) (h1:∀ u∈news,u.oneCell'=true)
  (h63:n + m<=maxLen) (hbytes:(n + m) * bytes<=140737488355328) (hr:(Builtin.append_ #[t,t] ty #[v,.slice (some a) m c]).run P w=.ok v' w'):w.drawn<=w'.drawn:=by
 subst hsize;subst hby
 have hsm:n + m<=9223372036854775807:=by simp only [maxLen] at h63;omega
 have done:∀ {u:Value} {w2:World},(Builtin.append_ #[t,t] ty #[v,.slice (some a) m c]).run P w=.ok u w2->w.drawn<=w2.drawn->w.drawn<=w'.drawn:=λh hd=>by
  rw [h] at hr;cases hr
  exact hd
 rcases hown.2 with ⟨rfl,rfl⟩ | ⟨g,cap,cur,rfl,_,hg,hnc,_,hcs,htake⟩
 ·by_cases hm:m=0
  ·subst hm;refine done (u:=.slice none 0 0) (w2:=w) ?_ (FH _);simp [Builtin.append_,run_underlying ht,sizeOf,typeInfo,hi,Builtin.lenOf,Builtin.firstCells,loadCells,loadCellsFrom]
  ·exact done (run_append_nil (P:=P) w t ty e i z ht hi hz a m c news hl hnews om_ om_ (by simp only [GV] at hbytes;omega)) (Nat.le_succ _)
 ·by_cases hroom:n + m<=cap
  ·exact done (run_append_room (P:=P) w t ty e i ht hi g n cap cur hg a m c news hl hnews h1 hroom (by rw [hl,hcs,← G3];exact Nat.mul_le_mul_right _ hroom)) (FH _)
  ·exact done (run_append_grow (P:=P) w t ty e i z ht hi hz ⟨g,0,none⟩ n cap xs hown.1 (hown.cells (g:=g) rfl) a m c news hl hnews om_ om_ (growslice_fits om_ hbytes)) (Nat.le_succ _)
end Go.Pn
namespace Go.Pn
open Go Go.RowKit
variable {rr:Option Nat}
def app {α:Type} (xs ys:List α):Option (List α):=if xs.length + ys.length<=1073741824 then some (xs ++ ys) else none
def Afit (P:Program) (e N:Nat):Prop:=N<=70368744177664/\∀ i,P.info? e=some i->N * i.bytes<=140737488355328
theorem app_fit {P:Program} {α:Type} [Rep α] {T e:Nat} [he:Ea P T e α] {xs ys zs:List α} (ha:app xs ys=some zs):zs=xs ++ ys/\Afit P e (xs.length + ys.length):=by
 unfold app at ha;split at ha
 case isFalse=>cases ha
 rename_i hlen;obtain ⟨i,z,hi,hz,hs,hb,hzs⟩:=he.inf;refine ⟨(Option.some.inj ha).symm,by omega,λi' hi'=>?_⟩;rw [hi] at hi';cases hi'
 exact F6 (Nat.mul_le_mul hlen (FA hb)) (by decide)
section
variable {P:Program} {M0:Fm} {w0:World} {n:Nat} {Γ:Cx} {Q:Exit->Act->World->Prop} {a:Act} {w:World} {ty:TypeId}
theorem run_app {α:Type} [Rep α] {T e:Nat} [he:Ea P T e α] {M:Nat->Prop} {w:World} {c v:Value} {xs ys zs:List α} {cs:List Value}
  (ho:w.ownsRow 0 e (Rep.sz α) c xs.length cs) (hc:Chk M w cs xs) (hy:Sl M w v ys) (ha:zs=xs ++ ys/\Afit P e (xs.length + ys.length)) (ty:TypeId) :
  ∃ v' w' ds,(Builtin.append_ #[T,T] ty #[c,v]).run P w=.ok v' w'/\w'.ownsRow 0 e (Rep.sz α) v' zs.length (cs ++ ds)/\(w.grownBy w' c.ownBlock/\w.drawn<=w'.drawn)/\(v'.ownBlock=c.ownBlock\/v'.ownBlock=some w.heap.size)/\Chk M w (cs ++ ds) zs:=by
 obtain ⟨rfl,hlen,hfit⟩:=ha;obtain ⟨i,z,hi,hz,hs,hb,hzs⟩:=he.inf;have hfit:=hfit i hi;have hp:0 < Rep.sz α:=FA he.pos;obtain ⟨ad,cap,rfl,hy⟩:=hy;cases ad with
 | none=>
  have:ys=[]:=by
   rcases hy with h | ⟨b,o,h,_⟩
   ·exact h
   ·cases h
  subst this;refine ⟨c,w,[],?_,by simpa using ho,⟨⟨rfl,rfl,rfl,FH _,λ_ _ _=>rfl⟩,FH _⟩,.inl rfl,by simpa using hc⟩;rcases ho.2 with ⟨rfl,h00⟩ | ⟨g,cap,cur,rfl,_,_,hnc,_⟩
  ·obtain rfl:=HE h00;simp [Builtin.append_,run_underlying he.el,sizeOf,typeInfo,hi,Builtin.lenOf,Builtin.firstCells]
  ·simp [Builtin.append_,run_underlying he.el,sizeOf,typeInfo,hi,Builtin.lenOf,Builtin.firstCells,hnc,storeCells]
 | some ad=>
  have:∃ ds,Chk M w ds ys/\∀ j u,ds[j]?=some u->w.cell? (ad.add j)=some u:=by
   rcases hy with rfl | ⟨b,o,h,hr⟩
   ·exact ⟨[],rfl,λj u hj=>by simp at hj⟩
   ·cases h
    obtain ⟨ds,h1,h2⟩:=hr.chk;exact ⟨ds,h1,λj u hj=>by rw [Bc];exact (h2 j u hj).2⟩
  obtain ⟨ds,hd,hcell⟩:=this;obtain ⟨v',w',h1,h2,h3,_,h5⟩:=run_append_own_at (P:=P) w 0 T ty e i z (Rep.sz α) i.bytes he.el hi hz hs rfl hzs hp c xs.length cs ho ad ys.length cap ds hd.len hcell hd.one (by unfold maxLen;omega)
   hfit (GH _)
  exact ⟨v',w',ds,h1,by rw [ET];exact h2,⟨h3,app_dr (P:=P) he.el hi hz hs rfl ho hd.len hcell hd.one (by unfold maxLen;omega) hfit h1⟩,h5,hc.append hd⟩
theorem StM.own2 {g:Mp} {M:Nat->Prop} {φ:Nat->List Nat} {d k:Nat} {e':Ent} {w':World} {v':Value} {F:List Nat} (h:StM M0 w0 n g a w M φ) (hk:(g k).isSome=true) (hd:d < n) (hne:d≠k)
  (hx:Ext (λq=>q∈φ k) w w') (hn:F.Nodup) (hF:∀ q∈F,q∈φ k\/(w.heap.size<=q/\q < w'.heap.size)) (he:∀ u,e'.p F (λq=>M q\/q∈F) w' u) :
  StF M0 w0 n (put d (Qv v') (put k e' g)) (a.put (some d) v') w':=by
 have hown:=h.own k hk;have hFM:∀ q∈F,∀ t,t≠k->(g t).isSome=true->q ∉ φ t:=λq hq t ht hs hm=>by
  rcases hF q hq with h1 | h1
  ·exact h.apart t k ht hs hk q hm h1
  ·have:=h.bd q ((h.own t hs).2 q hm).1;omega
 refine ⟨λq=>M q\/q∈F,λt=>if t=d then [] else if t=k then F else φ t,λt e he'=>?_,λt ht=>?_,λt s hts ht hs=>?_,λq hq=>.inl (h.sub q hq),λq hq=>?_,?_,by rw [Act.size_put];exact h.sz,by rw [Act.defers_put];exact h.df⟩
 ·simp only [put] at he';by_cases h3:t=d
  ·subst h3;simp only [if_true,Option.some.injEq] at he' ⊢;subst he';exact ⟨rfl,Act.get_put_eq (by rw [h.sz];exact hd)⟩
  ·rw [Act.get_put_ne (Ne.symm h3)];by_cases h4:t=k
   ·subst h4;simp only [if_neg h3,if_true,Option.some.injEq] at he' ⊢;subst he';exact he _
   ·simp only [if_neg h3,if_neg h4] at he' ⊢;have hs:(g t).isSome=true:=by rw [he'];rfl
    refine Ent.st _ (Ent.sb _ (h.holds t e he') (M':=λq=>M q\/q∈F) ?_) (hx.mono λq _ hq=>⟨.inl (hown.2 q hq).1,λhm=>h.apart t k h4 hs hk q hm hq⟩);rintro q hq (hm | hm)
    ·exact hm
    ·rcases hF q hm with h1 | h1
     ·exact (hown.2 q h1).1
     ·omega
 ·by_cases h3:t=d
  ·simp [h3]
  ·by_cases h4:t=k
   ·subst h4;simp only [if_neg h3,if_true];refine ⟨hn,λq hq=>⟨.inr hq,?_⟩⟩;rcases hF q hq with h1 | h1
    ·exact (hown.2 q h1).2
    ·exact .inl (F6 h.fr.size h1.1)
   ·simp only [put,if_neg h3,if_neg h4] at ht ⊢;have:=h.own t ht;exact ⟨this.1,λq hq=>⟨.inl (this.2 q hq).1,(this.2 q hq).2⟩⟩
 ·by_cases h3:t=d
  ·simp [h3]
  ·by_cases h4:s=d
   ·simp [h4]
   ·simp only [put,if_neg h3,if_neg h4] at ht hs ⊢;by_cases h5:t=k
    ·subst h5;simp only [if_true,if_neg (Ne.symm hts)] at hs ⊢;exact λq hq=>hFM q hq s (Ne.symm hts) hs
    ·by_cases h6:s=k
     ·subst h6;simp only [if_neg h5,if_true] at ht ⊢;exact λq hq hm=>hFM q hm t h5 ht hq
     ·simp only [if_neg h5,if_neg h6] at ht hs ⊢;exact h.apart t s hts ht hs
 ·rcases hq with hq | hq
  ·exact FS (h.bd q hq) hx.size
  ·rcases hF q hq with h1 | h1
   ·exact FS (h.bd q (hown.2 q h1).1) hx.size
   ·exact h1.2
 ·exact ⟨hx.os.trans h.fr.os,hx.tape.trans h.fr.tape,hx.output.trans h.fr.output,F6 h.fr.size hx.size,λq hq hnb=>
   (hx.block q (FS hq h.fr.size) (λhm=>(hown.2 q hm).2.elim (λh=>absurd hq om_) hnb)).trans (h.fr.block q hq hnb),F6 h.fr.dr hx.dr⟩
theorem BV {α:Type} [Rep α] {T e:Nat} [he:Ea P T e α] {M:Nat->Prop} {w:World} {g:Nat} {v:Value} {ys zs:List α} (hM:∀ k,M k->k < w.heap.size) (hyv:Sl M w v ys) (ha:zs=([]:List α) ++ ys/\Afit P e (([]:List α).length + ys.length)) (ty:TypeId) :
  ∃ v' w' F,(Builtin.append_ #[T,T] ty #[.slice (some ⟨g,0,none⟩) 0 0,v]).run P w=.ok v' w'/\Ext No w w'/\F.Nodup/\(∀ k∈F,w.heap.size<=k/\k < w'.heap.size)/\∀ u,(Ow e v' zs).p F (λq=>M q\/q∈F) w' u:=by
 obtain ⟨ad,cap,hyv',hys⟩:=hyv;obtain ⟨hz0,hlen,hfit⟩:=ha;have hz0:ys=zs:=hz0.symm;subst hz0;obtain ⟨i,z,hi,hz,hs,hb,hzs⟩:=he.inf;have hfit:=hfit i hi;have hp:0 < Rep.sz α:=FA he.pos;by_cases h0:ys=[]
 ·subst h0;refine ⟨.slice (some ⟨g,0,none⟩) 0 0,w,[],?_,Ext.refl _ _,GB,λk hk=>by simp at hk,λu=>.inr ⟨rfl,rfl,g,rfl⟩⟩;cases ad <;> simp [hyv',Builtin.append_,run_underlying he.el,sizeOf,typeInfo,hi,Builtin.lenOf,Builtin.firstCells,storeCells,loadCells,loadCellsFrom]
 ·obtain h | ⟨b,o,rfl,hr⟩:=hys
  ·exact absurd h h0
  ·obtain ⟨ds,hd,hdc⟩:=hr.chk;have hpos:0 < ys.length:=JV.2 h0;simp only [HN,GV] at hlen;have hbytes:(0 + ys.length) * i.bytes<=140737488355328:=hfit;have hrun:=run_append_grow (P:=P) w T ty e i z he.el hi hz ⟨g,0,none⟩ 0 0 [] As (λj u hj=>by simp at hj) ⟨b,o,none⟩ ys.length cap ds (by rw [hs];exact hd.len) (λj u hj=>by rw [Bc];exact (hdc j u hj).2) om_ om_ (growslice_fits om_ hbytes);have hx:Ext No w (w.drew.alloc (.cells (([]:List Value).toArray ++ ds.toArray ++ Builtin.zeroCells z.cells (grownCap w (0 + ys.length) 0 e - (0 + ys.length))) e)):=(Ext.drew _ w).trans (Ext.alloc _ _ _);refine ⟨.slice (some ⟨w.heap.size,0,none⟩) (0 + ys.length) (grownCap w (0 + ys.length) 0 e),_,[w.heap.size],by rw [hyv'];exact hrun,hx,by simp,λk hk=>?_,λu=>.inl ⟨rfl,ds,?_,?_⟩⟩
   ·simp at hk;subst hk;exact ⟨Nat.le_refl _,by rw [World.size_alloc];exact Nat.lt_succ_self _⟩
   ·have hn:=Bz w.drew (.cells (([]:List Value).toArray ++ ds.toArray ++ Builtin.zeroCells z.cells (grownCap w (0 + ys.length) 0 e - (0 + ys.length))) e);rw [show (w.drew).heap.size=w.heap.size from rfl] at hn;have hge:=grownCap_ge w (0 + ys.length) 0 e;have hcm:grownCap w (0 + ys.length) 0 e<=maxLen:=grownCap_le_maxLen w (0 + ys.length) 0 e (by unfold maxLen;omega);refine ⟨by rw [hd.len],.inr ⟨w.heap.size,_,_,by simp,GH _,hn,by simpa using hge,hcm,?_,?_⟩⟩
    ·clear hn hx hrun;generalize grownCap w (0 + ys.length) 0 e=G at *;simp only [JL,HG,size_zeroCells,hzs,hd.len,HN,GV,← G3] at hge ⊢;congr 1;omega
    ·simp only [Array.toList_append,G1,← hd.len];exact List.take_left
   ·exact Chk.ext hx.no (Chk.sub (λk hk hm=>by
     rcases hm with hm | hm
     ·exact hm
     ·simp at hm;omega) hd)
theorem apdA {ops:Array Oper} {rest:List Oper} {d:Nat} {T e:Nat} {pos:String} {aft:Array Edge} {x y:Operand} {α:Type} [Rep α] [he:Ea P T e α] {c:Value} {k:Nat} {xs ys zs:List α}
  (hs:St M0 w0 n Γ a w) (hx:Od Γ x (Qv c)) (hk:Am Γ k=some (Ow e c xs)) (hy:Od Γ y (Va ys)) (ha:zs=xs ++ ys/\Afit P e (xs.length + ys.length)) (hn:Nat.blt d n=true) (hdk:Nat.beq d k=false)
  (cont:∀ c' a' w',St M0 w0 n ((d,Qv c') :: (k,Ow e c' zs) :: Γ) a' w'->wpListIn (Fr rr) 0 P ops Q rest a' w') :
  wpListIn (Fr rr) 0 P ops Q (⟨some d,.call { callee:=.builtin .append,args:=#[x,y],argTypes:=#[T,T] },ty,pos,aft,none⟩ :: rest) a w:=by
 refine wpListIn_plain rfl λK hK=>?_;obtain ⟨M,φ,h⟩:=hs;obtain ⟨_,_,hv⟩:=hx _ _ _ h.rd;obtain ⟨_,hyv⟩:=hy _ _ _ h.rd;obtain ⟨hF,cs,ho,hc⟩ | ⟨hF,rfl,g,rfl⟩:=h.holds k _ hk
 case inr=>
  obtain ⟨v',w',F,h1,h2,h3,h4,h5⟩:=BV (P:=P) (T:=T) (e:=e) (g:=g) h.bd (Va.list hyv) ha ty;refine Bh.upon (Bh.val (v:=v') (w':=w') ?_ ?_)
  ·simp only [execOp,resolve,invoke,builtin,EU,EW,ER,FO,FC,FW,hv,h1]
  ·refine hK _ _ (cont v' _ _ ?_);unfold St;rw [Fh];exact h.own2 (F:=F) (by rw [hk];rfl) (FA hn) (F8 hdk) h2.no h3 (λq hq=>.inr (h4 q hq)) h5
 obtain ⟨v',w',ds,h1,h2,h3,h4,h5⟩:=run_app (P:=P) (T:=T) ho hc (Va.list hyv) ha ty;have hx:Ext (λq=>q∈φ k) w w':=⟨h3.1.os,h3.1.tape,h3.1.output,h3.1.size,λq hq hm=>h3.1.block q hq λhh=>hm (by rw [hF,← hh];simp),h3.2⟩;refine Bh.upon (Bh.val (v:=v') (w':=w') ?_ ?_)
 ·simp only [execOp,resolve,invoke,builtin,EU,EW,ER,FO,FC,FW,hv,h1]
 ·refine hK _ _ (cont v' _ _ ?_);unfold St;rw [Fh];have hlt:∀ q,v'.ownBlock=some q->q < w'.heap.size:=λq hq=>(h2.lt q hq).2;refine h.own2 (F:=v'.ownBlock.toList) (by rw [hk]; rfl) (FA hn) (F8 hdk) hx (by cases v'.ownBlock <;> simp) (λq hq=>?_) λu=>.inl ⟨rfl,_,h2,?_⟩
  ·rcases h4 with h4 | h4
   ·rw [h4] at hq;left;rw [hF];exact hq
   ·right;rw [h4] at hq;simp at hq;subst hq;exact ⟨Nat.le_refl _,hlt _ h4⟩
  ·refine Chk.ext (hx.mono λq _ hq=>.inl ((h.own k (by rw [hk];rfl)).2 q hq).1) (Chk.sub (λq hq hm=>?_) h5);rcases hm with hm | hm
   ·exact hm
   ·rcases h4 with h4 | h4
    ·rw [h4,← hF] at hm;exact ((h.own k (by rw [hk];rfl)).2 q hm).1
    ·rw [h4] at hm;simp at hm;omega
theorem apd {ops:Array Oper} {rest:List Oper} {d:Nat} {T e:Nat} {pos:String} {aft:Array Edge} {x y:Operand} {α:Type} [Rep α] [he:Ea P T e α] {c:Value} {k:Nat} {xs ys zs:List α}
  (hs:St M0 w0 n Γ a w) (hx:Od Γ x (Qv c)) (hk:Am Γ k=some (Ow e c xs)) (hy:Od Γ y (Va ys)) (ha:app xs ys=some zs) (hn:Nat.blt d n=true) (hdk:Nat.beq d k=false)
  (cont:∀ c' a' w',St M0 w0 n ((d,Qv c') :: (k,Ow e c' zs) :: Γ) a' w'->wpListIn (Fr rr) 0 P ops Q rest a' w') :
  wpListIn (Fr rr) 0 P ops Q (⟨some d,.call { callee:=.builtin .append,args:=#[x,y],argTypes:=#[T,T] },ty,pos,aft,none⟩ :: rest) a w:=
 apdA hs hx hk hy (app_fit (T:=T) ha) hn hdk cont
def Pe (c:Value) (off:Nat):Ent where
 p F _ _ v:=F=[]/\∃ g,c.ownBlock=some g/\v=.pointer (some ⟨g,off,none⟩)
 st h _:=h
 sb h _:=h
theorem Ow.val {α:Type} [Rep α] {e:Nat} {c:Value} {xs:List α} {F:List Nat} {M:Nat->Prop} {v:Value} (h:(Ow e c xs).p F M w v):∃ ad cap,c=.slice ad xs.length cap/\(xs=[]\/∃ g,ad=some ⟨g,0,none⟩):=by
 obtain ⟨hF,cs,ho,hc⟩ | ⟨_,rfl,g,rfl⟩:=h
 case inr=>exact ⟨_,0,rfl,.inl rfl⟩
 rcases ho.2 with ⟨rfl,h0⟩ | ⟨g,cap,cur,rfl,_⟩
 ·exact ⟨none,0,by rw [h0],.inl (HE h0)⟩
 ·exact ⟨_,cap,rfl,.inr ⟨g,rfl⟩⟩
theorem lnq {T k e:Nat} {x:Operand} {α:Type} [Rep α] [he:Ea P T e α] {c:Value} {xs:List α} (hx:Od Γ x (Qv c)) (hk:Am Γ k=some (Ow e c xs)):OR P (.call { callee:=.builtin .len,args:=#[x],argTypes:=#[T] }) ty Γ (Va (xs.length:Int)):=by
 refine OR.val λρ M w r=>?_;obtain ⟨_,_,hv⟩:=hx ρ M w r;obtain ⟨_,ho⟩:=r.tmp _ _ hk;obtain ⟨ad,cap,rfl,_⟩:=Ow.val ho;refine ⟨.int .i64 xs.length,λ_ _ _ _=>?_,Va.mkInt⟩;simp [execOp,resolve,hv,invoke,builtin,Builtin.len_,run_underlying he.el,goInt]
theorem ixq {T k e:Nat} {x i:Operand} {α:Type} [Rep α] [he:Ea P T e α] {c:Value} {xs:List α} {m:Int} {y:α} (hx:Od Γ x (Qv c)) (hk:Am Γ k=some (Ow e c xs)) (hi:Od Γ i (Va m)) (h:idx xs m=some y):OR P (.indexAddr T x i) ty Γ (Pe c (m.toNat * Rep.sz α)):=by
 refine OR.val λρ M w r=>?_;obtain ⟨_,_,hv⟩:=hx ρ M w r;obtain ⟨_,h2⟩:=hi ρ M w r;obtain ⟨_,ho⟩:=r.tmp _ _ hk;obtain ⟨h0,hl,hg⟩:=Ay h;obtain ⟨ad,cap,rfl,h3⟩:=Ow.val ho;obtain ⟨ii,z,hii,_,hs,_⟩:=he.inf;obtain rfl | ⟨g,rfl⟩:=h3
 ·simp at hg
 ·refine ⟨.pointer (some ⟨g,m.toNat * Rep.sz α,none⟩),λ_ _ _ _=>?_,rfl,g,rfl,rfl⟩;simp only [execOp,hv,Va.int h2,Instr.indexAt,EU,asIntOf,EW,ER,run_underlying he.el];simp [h0,hl,sizeOf,typeInfo,hii,hs,Bc]
theorem Ow.at_ {α:Type} [Rep α] {e:Nat} {c:Value} {xs:List α} {F:List Nat} {M:Nat->Prop} {v:Value} {i g:Nat} {y:α} (h:(Ow e c xs).p F M w v) (hg:c.ownBlock=some g) (hi:xs[i]?=some y) :
  ∃ m,Rep.rep M w m y/\∀ j u,m[j]?=some u->w.cell? ⟨g,i * Rep.sz α + j,none⟩=some u:=by
 obtain ⟨hF,cs,ho,hc⟩ | ⟨_,rfl,_⟩:=h
 case inr=>simp at hi
 obtain ⟨p,m,q,hcs,hl,hr,_⟩:=hc.get hi;refine ⟨m,hr,λj u hj=>?_⟩;have:=ho.cells hg (i * Rep.sz α + j) u (by
  rw [hcs,← hl,EV om_,Nat.add_sub_cancel_left,E5]
  ·exact hj
  ·rcases GE j m.length with h1 | h1
   ·exact h1
   ·simp [GC h1] at hj)
 rwa [Bc,GV] at this
theorem lq {T k e i:Nat} {x:Operand} {α:Type} [Rep α] [Ty P T α] {c:Value} {xs:List α} {y:α} (hx:Od Γ x (Pe c (i * Rep.sz α))) (hk:Am Γ k=some (Ow e c xs)) (h:xs[i]?=some y):OR P (.load T x) ty Γ (Va y):=by
 refine OR.val λρ M w r=>?_;obtain ⟨_,_,g,hg,hv⟩:=hx ρ M w r;obtain ⟨_,ho⟩:=r.tmp _ _ hk;obtain ⟨m,hr,hc⟩:=Ow.at_ ho hg h;refine ⟨mk (Rep.agg α) m,λ_ _ _ _=>?_,rfl,m,rfl,hr⟩;simp only [execOp,hv,Instr.loadAt,Instr.sureAddr,EU,EW,ER,Bt hc hr]
theorem Fk {α:Type} {xs:List α} {m:Int} {y:α} (h:idx xs m=some y):xs[m.toNat]?=some y:=(Ay h).2.2
def Ods (Γ:Cx) {α:Type} [Rep α]:List Operand->List α->Prop
 | [],[]=>True
 | x :: xs,y :: ys=>Od Γ x (Va y)/\Ods Γ xs ys
 | _,_=>False
theorem o0 {α:Type} [Rep α]:Ods Γ [] ([]:List α):=trivial
theorem o1 {α:Type} [Rep α] {x:Operand} {y:α} {xs:List Operand} {ys:List α} (h:Od Γ x (Va y)) (k:Ods Γ xs ys):Ods Γ (x :: xs) (y :: ys):=⟨h,k⟩
def prt {β:Type}:Nat->List β->List (Nat×β)
 | _,[]=>[]
 | k,v :: vs=>(k,v) :: prt (k + 1) vs
def LitC (sz:Nat):List Value->List (List Value)->Prop
 | [],[]=>True
 | v :: vs,c :: cs=>v.cells=c.toArray/\c.length=sz/\LitC sz vs cs
 | _,_=>False
theorem Gy {sz:Nat}:∀ {vs:List Value} {cs:List (List Value)} {z:List Value} {k:Nat},LitC sz vs cs->(k + vs.length) * sz<=z.length ->
  Instr.fill (λi=>some (i * sz,sz)) z.toArray (prt k vs)=some (z.take (k * sz) ++ (cs.flatten ++ z.drop ((k + vs.length) * sz))).toArray
 | [],[],z,k,_,_=>by simp [prt,Instr.fill]
 | [],_ :: _,_,_,h,_=>h.elim
 | _ :: _,[],_,_,h,_=>h.elim
 | v :: vs,c :: cs,z,k,⟨h1,h2,h3⟩,hl=>by
  unfold prt Instr.fill;have hkl:(k + (v :: vs).length) * sz=k * sz + sz + vs.length * sz:=by simp only [GY,G3];omega
  rw [hkl] at hl;have e1:k * sz + c.length<=z.length:=by omega
  simp only [h1,HG];rw [if_neg (by simp [h2];omega)];have hf:=Sh c (k * sz) 0 z om_;have hfold:(c.toArray.zipIdx.foldl (λ(cs:Array Value) (x:Value×Nat)=>cs.setIfInBounds (k * sz + x.2) x.1) z.toArray)=(c.zipIdx 0).foldl (λ(cs:Array Value) (x:Value×Nat)=>cs.setIfInBounds (k * sz + x.2) x.1) z.toArray:=by
   rw [← JW];congr 1;simp
  show Instr.fill _ (c.toArray.zipIdx.foldl (λ(cs:Array Value) (x:Value×Nat)=>cs.setIfInBounds (k * sz + x.2) x.1) z.toArray) (prt (k + 1) vs)=_;rw [hfold,hf];have hlen:(List.take (k * sz + 0) z ++ (c ++ List.drop (k * sz + 0 + c.length) z)).length=z.length:=by simp;omega
  rw [Gy (k:=k + 1) h3 (by rw [hlen,G3,G3];omega)];congr 2;have e2:(k + 1) * sz=k * sz + c.length:=by rw [G3,h2];omega
  have e3:(k + 1 + vs.length) * sz=(k * sz + c.length) + vs.length * sz:=by rw [G3,e2]
  have e4:(k + (v :: vs).length) * sz=(k * sz + c.length) + vs.length * sz:=by rw [hkl,h2]
  rw [e2,e3,e4];simp only [H1];have ht:(List.take (k * sz) z).length=k * sz:=by simp;omega
  rw [← FM (List.take (k * sz) z) c];have hl2:(List.take (k * sz) z ++ c).length=k * sz + c.length:=by rw [ET,ht]
  rw [List.take_append_of_le_length om_,HU om_,List.drop_append,hl2,FN om_];simp [FM,Nat.add_assoc]
theorem Ods.vals {α:Type} [Rep α] {ρ:Operand->Value} {M:Nat->Prop} {w:World} (r:Rd (Am Γ) M w ρ):∀ {xs:List Operand} {ys:List α},Ods Γ xs ys->∃ cs,LitC (Rep.sz α) (xs.map ρ) cs/\Chk M w cs.flatten ys/\cs.flatten.length=ys.length * Rep.sz α/\xs.length=ys.length
 | [],[],_=>⟨[],trivial,rfl,by simp,rfl⟩
 | [],_ :: _,h=>h.elim
 | _ :: _,[],h=>h.elim
 | x :: xs,y :: ys,⟨h,k⟩=>by
  obtain ⟨cs,h1,h2,h3,h4⟩:=Ods.vals r k;obtain ⟨_,_,c,hv,hr⟩:=h ρ M w r;refine ⟨c :: cs,⟨by rw [hv,Cb hr],Rep.len hr,h1⟩,⟨c,cs.flatten,rfl,hr,h2⟩,?_,by simp [h4]⟩;rw [J2,ET,Rep.len hr,h3,GY,G3];omega
theorem Xk {α:Type} [Rep α] {T e:Nat} [he:Ea P T e α] {ρ:Operand->Value} {M:Nat->Prop} {w:World} (r:Rd (Am Γ) M w ρ) {xs:List Operand} {ys:List α} {parts:Array (Nat×Operand)} {len:Nat}
  (h:Ods Γ xs ys) (hp:parts.toList=prt 0 xs) (hl:ys.length=len) (hs:Nat.ble (len * Rep.sz α) 16777216=true) :
  ∃ cs,(Instr.buildSlice T len (parts.map λ(i,x)=>(i,ρ x))).run P w=.ok (.slice (some ⟨w.heap.size,0,none⟩) len len) (w.alloc (.cells cs.toArray e))/\Chk M w cs ys/\cs.length=len * Rep.sz α:=by
 obtain ⟨cs,h1,h2,h3,h4⟩:=Ods.vals r h;obtain ⟨i,z,hi,hz,hsz,hb,hzs⟩:=he.inf;have hs':=FA hs;refine ⟨cs.flatten,?_,h2,by rw [h3,hl]⟩;have hpm:(parts.map λ(i,x)=>(i,ρ x)).toList=prt 0 (xs.map ρ):=by
  rw [G4,hp];have:∀ (l:List Operand) (k:Nat),List.map (λ(x:Nat×Operand)=>(x.1,ρ x.2)) (prt k l)=prt k (l.map ρ):=by
   intro l
   induction l with
   | nil=>intro k;rfl
   | cons x l ih=>intro k;simp [prt,ih]
  exact this xs 0
 have hfl:∀ zz:List Value,zz.length=len * Rep.sz α->Instr.fill (λi=>some (i * Rep.sz α,Rep.sz α)) zz.toArray (prt 0 (xs.map ρ))=some cs.flatten.toArray:=by
  intro zz hzz;rw [Gy h1 (by rw [hzz,FL,h4,hl,GV];exact FH _)];simp [h4,hl,hzz]
 have hnot:¬ (len * Rep.sz α > 2 ^ 24):=by omega
 simp only [Instr.buildSlice,EU,run_underlying he.el,ER,sizeOf,typeInfo,run_program,hi,EW,hsz];rw [if_neg hnot];simp only [hpm];by_cases h0:len * Rep.sz α=0
 ·have hz0:(Array.map (λx=>(#[]:Array Value)[x % (#[]:Array Value).size]!) (Array.range (len * Rep.sz α)))=([]:List Value).toArray:=by rw [h0];simp
  rw [if_pos h0];simp only [EU,EW,ER,hz0];rw [hfl [] (by rw [h0];rfl)];rfl
 ·have hz1:(Array.map (λx=>z.cells[x % z.cells.size]!) (Array.range (len * Rep.sz α)))=((Array.map (λx=>z.cells[x % z.cells.size]!) (Array.range (len * Rep.sz α))).toList).toArray:=JT.symm;rw [if_neg h0];simp only [zeroValue,EU,typeInfo,run_program,hi,hz,EW,ER];rw [hz1,hfl _ As];rfl
theorem lit_new {α:Type} [Rep α] {M:Nat->Prop} {w:World} {e len:Nat} {cs:List Value} {ys:List α} (hc:Chk M w cs ys):Cls (λk=>M k/\k≠w.heap.size) (w.alloc (.cells cs.toArray e)) w.heap.size 0 cs:=by
 intro j v hj;refine ⟨λh=>h.2 rfl,?_⟩;have:(w.alloc (.cells cs.toArray e)).heap[w.heap.size]?=some (.cells cs.toArray e):=heap_alloc_new w _;unfold World.cell?;rw [this];simpa using hj
theorem bsv {α:Type} [Rep α] {T e:Nat} [he:Ea P T e α] {xs:List Operand} {ys:List α} {parts:Array (Nat×Operand)} {len:Nat}
  (h:Ods Γ xs ys) (hp:parts.toList=prt 0 xs) (hl:ys.length=len) (hs:Nat.ble (len * Rep.sz α) 16777216=true):OR P (.buildSlice T len parts) ty Γ (Va ys):=by
 refine OR.run λρ M w r=>?_;obtain ⟨cs,h1,h2,h3⟩:=Xk (P:=P) (T:=T) (e:=e) r h hp hl hs;refine ⟨.slice (some ⟨w.heap.size,0,none⟩) len len,w.alloc (.cells cs.toArray e),λ_ _ _ _=>by simp only [execOp,EU,Sem.run_map,h1,ER,EW],Ext.alloc _ _ _,[],GB,λk hk=>by simp at hk,?_⟩;refine Va.mkList ⟨_,0,by rw [hl,GV],.inr ⟨w.heap.size,0,rfl,?_⟩⟩;refine Chk.row (Chk.ext (Ext.alloc _ _ _) (Chk.sub (λk _ hk=>?_) h2)) λj v hj=>⟨λhm=>?_,((lit_new (e:=e) (len:=len) h2) j v hj).2⟩
 ·rcases hk with hk | hk
  ·exact hk
  ·simp at hk
 ·rcases hm with hm | hm
  ·exact absurd (r.bd _ hm) om_
  ·simp at hm
theorem bso {α:Type} [Rep α] {T e:Nat} [he:Ea P T e α] {xs:List Operand} {ys:List α} {parts:Array (Nat×Operand)} {len:Nat}
  (h:Ods Γ xs ys) (hp:parts.toList=prt 0 xs) (hl:ys.length=len) (hs:Nat.ble (len * Rep.sz α) 16777216=true):OR P (.buildSlice T len parts) ty Γ (Or e ys):=by
 refine OR.run λρ M w r=>?_;obtain ⟨cs,h1,h2,h3⟩:=Xk (P:=P) (T:=T) (e:=e) r h hp hl hs;refine ⟨.slice (some ⟨w.heap.size,0,none⟩) len len,w.alloc (.cells cs.toArray e),λ_ _ _ _=>by simp only [execOp,EU,Sem.run_map,h1,ER,EW],Ext.alloc _ _ _,[w.heap.size],by simp,λk hk=>?_,.inl ⟨rfl,cs,?_,?_⟩⟩
 ·simp at hk;subst hk;exact ⟨Nat.le_refl _,by simp⟩
 ·rw [hl];have hp0:0 < Rep.sz α:=FA he.pos;have hs':=FA hs;refine World.ownsRow_lit (base:=0) (e:=e) (size:=Rep.sz α) w cs.toArray len (GH _) ?_ (by simpa using h3);have:len<=len * Rep.sz α:=Nat.le_mul_of_pos_right _ hp0;unfold maxLen;omega
 ·refine Chk.ext (Ext.alloc _ _ _) (Chk.sub (λk hk' hk=>?_) h2);rcases hk with hk | hk
  ·exact hk
  ·simp at hk;omega
end
end Go.Pn
namespace Go.Pn
open Go Go.RowKit
variable {rr:Option Nat}
section
variable {P:Program} {M0:Fm} {w0:World} {n:Nat} {Γ:Cx} {Q:Exit->Act->World->Prop} {a:Act} {w:World} {ty:TypeId}
theorem Ow.put {α:Type} [Rep α] {e:Nat} {c:Value} {xs:List α} {F:List Nat} {M:Nat->Prop} {u:Value} {i g:Nat} {y0:α} (h:(Ow e c xs).p F M w u) (hg:c.ownBlock=some g) (hi:xs[i]?=some y0) :
  ∃ (cur:Array Value) (p m q:List Value),w.heap[g]?=some (.cells cur e (0,0))/\cur.toList=p ++ (m ++ q)/\p.length=i * Rep.sz α/\Rep.rep M w m y0 /\
   ∀ (m':List Value) (y:α),Rep.rep M w m' y->M g->(Ow e c (xs.set i y)).p F M (w.setRow g (p ++ (m' ++ q)).toArray) u:=by
 obtain ⟨hF,cs,ho,hc⟩ | ⟨_,rfl,_⟩:=h
 case inr=>simp at hi
 obtain ⟨p,m,q,hcs,hl,hr,hset⟩:=hc.get hi;rcases ho.2 with ⟨rfl,_⟩ | ⟨g',cap,cur,rfl,hb,hgg,hnc,hcm,hcz,htake⟩
 ·simp [Value.ownBlock] at hg
 ·simp only [Value.ownBlock,Option.some.injEq] at hg;subst hg;obtain ⟨tl,hcur⟩:∃ tl,cur.toList=cs ++ tl:=⟨cur.toList.drop (xs.length * Rep.sz α),by rw [← htake,JQ]⟩;refine ⟨cur,p,m,q ++ tl,hgg,by rw [hcur,hcs];simp [FM],hl,hr,λm' y hy hM=>?_⟩;have hlm:m'.length=m.length:=by rw [Rep.len hy,Rep.len hr]
  have hx:=Ext.setRow w g' (p ++ (m' ++ (q ++ tl))).toArray;have hlen:(p ++ (m' ++ q)).length=xs.length * Rep.sz α:=by
   have:=ho.1;rw [hcs] at this;simp only [ET] at this ⊢;omega
  refine .inl ⟨hF,p ++ (m' ++ q),⟨by rw [GR];exact hlen,.inr ⟨g',cap,_,by rw [GR],hb,setRow_heap w g' cur _ e _ hgg,by rw [GR];exact hnc,hcm,?_,?_⟩⟩,?_⟩
  ·have h1:cur.size=(p ++ (m ++ q)).length + tl.length:=by
    rw [← hcs,← ET,← hcur];simp
   rw [← hcz,h1];simp only [HG,ET];omega
  ·rw [GR,← hlen];have:(p ++ (m' ++ (q ++ tl)))=(p ++ (m' ++ q)) ++ tl:=by simp [FM]
   simp only [this];exact List.take_left
  ·exact Chk.ext (hx.mono λk _ hk=>by subst hk;exact hM) (hset m' y hy)
theorem stq {ops:Array Oper} {rest:List Oper} {T k e i:Nat} {x y:Operand} {pos:String} {aft:Array Edge} {α:Type} [Rep α] [Ty P T α] {c:Value} {xs:List α} {y0 v:α}
  (hs:St M0 w0 n Γ a w) (hx:Od Γ x (Pe c (i * Rep.sz α))) (hk:Am Γ k=some (Ow e c xs)) (hi:xs[i]?=some y0) (hy:Od Γ y (Va v))
  (cont:∀ w',St M0 w0 n ((k,Ow e c (xs.set i v)) :: Γ) a w'->wpListIn (Fr rr) 0 P ops Q rest a w'):wpListIn (Fr rr) 0 P ops Q (⟨none,.store T x y,ty,pos,aft,none⟩ :: rest) a w:=by
 refine wpListIn_plain rfl λK hK=>?_;obtain ⟨M,φ,h⟩:=hs;obtain ⟨_,_,g,hg,hv⟩:=hx _ _ _ h.rd;obtain ⟨_,_,m,hm,hmr⟩:=hy _ _ _ h.rd;have ho:=h.holds k _ hk;obtain ⟨cur,p,m0,q,hh,hcur,hl,hr,hput⟩:=Ow.put ho hg hi;have hgk:g∈φ k:=by
  rcases ho with ho | ⟨_,h0,_⟩
  ·rw [ho.1,hg];simp
  ·rw [h0] at hi;simp at hi
 refine Bh.upon (Bh.skip (w':=w.setRow g (p ++ (m ++ q)).toArray) ?_ ?_)
 ·simp only [execOp,hv,hm,Instr.storeAt,Instr.sureAddr,EU,EW,ER,Dn hh hmr hcur hl (by rw [Rep.len hr,Rep.len hmr])]
 ·refine hK _ _ (cont _ ?_);unfold St;rw [Aj];exact h.write (by rw [hk];rfl) hgk (Ext.setRow w g _) (hput m v hmr ((h.own k (by rw [hk];rfl)).2 _ hgk).1)
class Flat (α:Type) [Rep α]:Prop where
 at_:∀ {M w M' w' cs x},Rep.rep (α:=α) M w cs x->Rep.rep M' w' cs x
instance:Flat Bool:=⟨λh=>h⟩
instance:Flat Int:=⟨λh=>h⟩
def Fl0 (e:Ent):Prop:=∀ {F M M' w v},e.p F M w v->e.p F M' w v
theorem fl1 {α:Type} [Rep α] [Flat α] {x:α}:Fl0 (Va x):=λ⟨h,cs,hv,hr⟩=>⟨h,cs,hv,Flat.at_ hr⟩
theorem fl2 {e1 e2:Ent} (h1:Fl0 e1) (h2:Fl0 e2):Fl0 (T2 e1 e2):=λ⟨v1,v2,F1,F2,hv,hF,k1,k2⟩=>⟨v1,v2,F1,F2,hv,hF,h1 k1,h2 k2⟩
theorem cpI {c:Code} (I:Act->World->Prop) (h:c.wpIn (Fr rr) 0 P (Exit.then I Q) a w) (h':∀ a w,I a w->Q .normal a w):c.wpIn (Fr rr) 0 P Q a w:=by
 refine wpIn_mono h λe a w hq=>?_;cases e <;> first | exact h' _ _ hq | exact hq
theorem lcI {c:Code} {σ ρ:Type} (o:Lo σ ρ) (I:σ->Act->World->Prop) (h:c.wpIn (Fr rr) 0 P (Exit.then (λa w=>∃ z,o=.brk z/\I z a w) Q) a w) (h':∀ z a w,o=.brk z->I z a w->Q .normal a w):c.wpIn (Fr rr) 0 P Q a w:=by
 refine wpIn_mono h λe a w hq=>?_;cases e <;> first | exact (let ⟨z,h1,h2⟩:=hq; h' z _ _ h1 h2) | exact hq
theorem loI {c:Code} {S ρ:Type} (m:Nat->S->Option ρ) (out:ρ) (I:S->Act->World->Prop) (f:Nat) (s:S) (h0:I s a w) (hm:m f s=some out) (hz:∀ s,m 0 s=none)
  (h:∀ f s a w,m (f + 1) s=some out->I s a w->c.wpIn (Fr rr) 0 P (Exit.then (λa' w'=>∃ s',m f s'=some out/\I s' a' w') Q) a w):(Code.loop c).wpIn (Fr rr) 0 P Q a w:=by
 refine lp (λ(x:Nat×S) a w=>m x.1 x.2=some out/\I x.2 a w) (λx=>x.1) (f,s) ⟨hm,h0⟩ λx a w hI=>?_;obtain ⟨f,s⟩:=x;obtain ⟨hm,hs⟩:=hI;cases f with
 | zero=>rw [hz] at hm;cases hm
 | succ f=>
  refine wpIn_mono (h f s a w hm hs) λe a w hq=>?_;cases e <;> try exact hq
  obtain ⟨s',h1,h2⟩:=hq;exact ⟨(f,s'),⟨h1,h2⟩,Nat.lt_succ_self f⟩
theorem sqo {ops:Array Oper} {rest:List Oper} {d e:Nat} {op:Op} {pos:String} {aft:Array Edge} {α:Type} [Rep α] {xs:List α} (k:Nat)
  (hs:St M0 w0 n Γ a w) (ho:OR P op ty Γ (Or e xs)) (hn:Nat.blt d n=true) (hdk:Nat.beq d k=false)
  (cont:∀ c a' w',St M0 w0 n ((d,Qv c) :: (k,Ow e c xs) :: (d,Or e xs) :: Γ) a' w'->wpListIn (Fr rr) 0 P ops Q rest a' w'):wpListIn (Fr rr) 0 P ops Q (⟨some d,op,ty,pos,aft,none⟩ :: rest) a w:=
 sq hs ho hn λa' w' s=>let ⟨c,s⟩:=s.openO k (by simp [Am]) hdk;cont c a' w' s
end
end Go.Pn
namespace Go.Pn
open Go Go.RowKit
def ssl (s:ByteArray) (l h:Int):Option ByteArray:=if 0<=l/\l<=h/\h<=s.size then some (s.extract l.toNat h.toNat) else none
def cat (x y:ByteArray):Option ByteArray:=if x.size + y.size<=1073741824 then some (x ++ y) else none
def rem (x y:Int):Option Int:=if y=0 then none else some (x.tmod y)
def wr8 (x:Int):UInt8:=UInt8.ofNat (x % 256).toNat
section
variable {P:Program} {Γ:Cx} {ty:TypeId}
theorem sl2 {T:TypeId} {x lo hi:Operand} {s r:ByteArray} {l h:Int} (hx:Od Γ x (Va s)) (hl:Od Γ lo (Va l)) (hh:Od Γ hi (Va h)) (hT:P.underlying T=some .string) (hm:ssl s l h=some r):OR P (.slice T x (some lo) (some hi) none) ty Γ (Va r):=by
 unfold ssl at hm;split at hm
 case isFalse=>cases hm
 rename_i hc;cases hm
 refine OR.val λρ M w rd=>?_;obtain ⟨_,h1⟩:=hx ρ M w rd;obtain ⟨_,h2⟩:=hl ρ M w rd;obtain ⟨_,h3⟩:=hh ρ M w rd;refine ⟨.string (s.extract l.toNat h.toNat),λ_ _ _ _=>?_,Va.mkStr⟩;have e1:0<=h:=by omega
 have e2:l<=(h.toNat:Int):=by omega
 simp [execOp,Instr.sliceAt,Instr.slice,Instr.sliceBounds,Va.str h1,Va.int h2,Va.int h3,run_underlying hT,Instr.sliceBound,asIntOf,hc.1,hc.2.2,e1,e2];intro hmax;omega
theorem ct {x y:Operand} {T T':TypeId} {b c r:ByteArray} (hx:Od Γ x (Va b)) (hy:Od Γ y (Va c)) (h:cat b c=some r):OR P (.binOp .add T x y T') ty Γ (Va r):=by
 unfold cat at h;split at h
 case isFalse=>cases h
 rename_i hc;cases h
 refine OR.val λρ M w rd=>?_;obtain ⟨_,h1⟩:=hx ρ M w rd;obtain ⟨_,h2⟩:=hy ρ M w rd;refine ⟨.string (b ++ c),λ_ _ _ _=>?_,Va.mkStr⟩;have h3:(binOp .add T (.string b) (.string c)).run P w=.ok (.string (b ++ c)) w:=by
  show (Op.stringOp .add b c).run P w=_;have:¬ (((b.size + c.size:Nat):Int) > IntKind.i64.max):=by simp [IntKind.max,IntKind.bits,IntKind.signed];omega
  unfold Op.stringOp;simp only [this,if_false];rfl
 have h4:(eqGuard .add T x y (.string b) (.string c)).run P w=.ok () w:=rfl;simp only [execOp,Va.str h1,Va.str h2,EU,h3,h4,ER,EW]
theorem rmd {x y:Operand} {T T':TypeId} {m n r:Int} (hx:Od Γ x (Va m)) (hy:Od Γ y (Va n)) (h:rem m n=some r):OR P (.binOp .rem T x y T') ty Γ (Va r):=
 bin hx hy λ_=>by
  unfold rem at h;split at h
  ·cases h
  ·rename_i h0;cases h
   exact ⟨_,by unfold binOp;simp [Op.intDiv,h0],λ_=>Va.mkInt⟩
class Eqs (P:Program) (T:Nat) {α:Type} [Rep α] (f:outParam (α->α->Bool)):Prop where
 run:∀ {M M' w w' cs ds} {x y:α},Rep.rep M w cs x->Rep.rep M' w' ds y->∀ w1,(Op.equalIn 10000 T (.agg cs.toArray) (.agg ds.toArray)).run P w1=.ok (f x y) w1
 agg:Rep.agg α=true
 guard:P.eqGuardType P.depth T=false
theorem seql {x y:Operand} {T T':TypeId} {α:Type} [Rep α] {f:α->α->Bool} [he:Eqs P T f] {b c:α} (hx:Od Γ x (Va b)) (hy:Od Γ y (Va c)):OR P (.binOp .eql T x y T') ty Γ (Va (f b c)):=by
 refine OR.val λρ M w rd=>?_;obtain ⟨_,_,cs,h1,r1⟩:=hx ρ M w rd;obtain ⟨_,_,ds,h2,r2⟩:=hy ρ M w rd;refine ⟨.bool (f b c),λ_ _ _ _=>?_,Va.mkBool⟩;have h3:=he.run r1 r2 w;simp only [mk,he.agg,if_true] at h1 h2;simp only [execOp,h1,h2,EU,run_eqGuard_agg w .eql T x y _ _ he.guard,run_eql_struct,h3,ER,EW]
theorem sneq {x y:Operand} {T T':TypeId} {α:Type} [Rep α] {f:α->α->Bool} [he:Eqs P T f] {b c:α} (hx:Od Γ x (Va b)) (hy:Od Γ y (Va c)):OR P (.binOp .neq T x y T') ty Γ (Va (!(f b c))):=by
 refine OR.val λρ M w rd=>?_;obtain ⟨_,_,cs,h1,r1⟩:=hx ρ M w rd;obtain ⟨_,_,ds,h2,r2⟩:=hy ρ M w rd;refine ⟨.bool (!(f b c)),λ_ _ _ _=>?_,Va.mkBool⟩;have h3:=he.run r1 r2 w;simp only [mk,he.agg,if_true] at h1 h2;simp only [execOp,h1,h2,EU,run_eqGuard_agg w .neq T x y _ _ he.guard,run_neq_struct,h3,ER,EW]
theorem Bi {T:TypeId} {xs:Array Value} {o:Nat} {v:Value} {w:World} (h:(P.underlying T).map Bp=some false) (hv:xs[o]?=some v):(part T xs o).run P w=.ok v w:=by
 simp only [part,EU,Ty.run_agg h,ER];simp [hv]
def Wx (f : Field) : Bool × Nat × Nat := (f.name == "_", f.type, f.offset)
theorem eqm {l : List Field} {n : Bool} {T o : Nat} {asx : List (Bool × Nat × Nat)} (h : l.map Wx = (n, T, o) :: asx) : ∃ f fs, l = f :: fs /\ (f.name == "_") = n /\ f.type = T /\ f.offset = o /\ fs.map Wx = asx := by
 cases l with
 | nil=>cases h
 | cons f fs=>
  simp only [FC,List.cons.injEq,Wx,Prod.mk.injEq] at h;exact ⟨f,fs,rfl,h.1.1,h.1.2.1,h.1.2.2,h.2⟩
theorem eqm0 {l:List Field} (h:l.map Wx=[]):l=[]:=JF.1 h
theorem eqf0 {d:Nat} {xs ys:Array Value} {w:World}:(Op.eqFields d xs ys []).run P w=.ok true w:=rfl
theorem eqfi {d : Nat} {xs ys : Array Value} {f : Field} {fs : List Field} {w : World} {k : IntKind} {a b : Int} {r : Bool} (hn : (f.name == "_") = false) (hu : P.underlying f.type = some (.int k)) (h1 : xs[f.offset]? = some (.int k a)) (h2 : ys[f.offset]? = some (.int k b))
  (h:(Op.eqFields (d + 1) xs ys fs).run P w=.ok r w):(Op.eqFields (d + 1) xs ys (f :: fs)).run P w=.ok ((a == b) && r) w:=by
 have hn' : f.name ≠ "_" := by intro h; rw [h] at hn; simp at hn
 have ha:(P.underlying f.type).map Bp=some false:=by rw [hu];rfl
 simp only [Op.eqFields,if_pos hn',EU,Bi ha h1,Bi ha h2,ER,run_equalIn_int w d f.type k k a b hu];cases hab:(a == b) <;> simp [h]
theorem eqfb {d : Nat} {xs ys : Array Value} {f : Field} {fs : List Field} {w : World} {a b : Bool} {r : Bool} (hn : (f.name == "_") = false) (hu : P.underlying f.type = some .bool) (h1 : xs[f.offset]? = some (.bool a)) (h2 : ys[f.offset]? = some (.bool b))
  (h:(Op.eqFields (d + 1) xs ys fs).run P w=.ok r w):(Op.eqFields (d + 1) xs ys (f :: fs)).run P w=.ok ((a == b) && r) w:=by
 have hn' : f.name ≠ "_" := by intro h; rw [h] at hn; simp at hn
 have ha:(P.underlying f.type).map Bp=some false:=by rw [hu];rfl
 simp only [Op.eqFields,if_pos hn',EU,Bi ha h1,Bi ha h2,ER,run_equalIn_bool' w d f.type a b hu];cases hab:(a == b) <;> simp [h]
end
end Go.Pn
namespace Go.Pn
open Go Go.RowKit
variable {rr:Option Nat}
def Qa (cs:List Value):Ent where
 p F _ _ v:=F=[]/\v=.agg cs.toArray/\∀ c∈cs,c.oneCell'=true
 st h _:=h
 sb h _:=h
instance {cs:List Value}:Zf (Qa cs):=⟨λh=>h.1⟩
def Mr (b:Nat) (cs:List Value):Ent where
 p F M w _:=F=[b]/\(∃ T,w.heap[b]?=some (.cells cs.toArray T (0,0)))/\∀ c∈cs,c.oneCell'=true
 st h e:=by
  obtain ⟨rfl,⟨T,hc⟩,h1⟩:=h;have hb:b < _:=(E6.1 hc).1;exact ⟨rfl,⟨T,by rw [e.block b hb As];exact hc⟩,h1⟩
 sb h _:=h
instance {b:Nat} {cs:List Value}:Gh (Mr b cs):=⟨λh _=>h⟩
section
variable {P:Program} {M0:Fm} {w0:World} {n:Nat} {Γ:Cx} {Q:Exit->Act->World->Prop} {a:Act} {w:World} {ty:TypeId}
def Oc (Γ:Cx) (c:Value):Prop:=∀ ρ M w,Rd (Am Γ) M w ρ->c.oneCell'=true
theorem ocr {c:Value} (h:c.oneCell'=true):Oc Γ c:=λ_ _ _ _=>h
theorem oco {α:Type} [Rep α] {k e:Nat} {c:Value} {xs:List α} (h:Am Γ k=some (Ow e c xs)):Oc Γ c:=λρ M w r=>by
 obtain ⟨F,hF⟩:=r.tmp _ _ h;obtain ⟨ad,cap,rfl,_⟩:=Ow.val hF;rfl
theorem ocf {α:Type} [Rep α] {k:Nat} {c:Value} {xs:List α} (h:Am Γ k=some (At c (Va xs))):Oc Γ c:=λρ M w r=>by
 obtain ⟨F,hF⟩:=r.tmp _ _ h;obtain ⟨ad,cap,hv,_⟩:=Va.list hF;rw [hv];rfl
theorem Jq {T:TypeId} {α:Type} [Rep α] [ht:Ty P T α] {w:World} {b o:Nat} {cs:List Value} (hc:∀ j v,cs[j]?=some v->w.cell? ⟨b,o + j,none⟩=some v) (hl:cs.length=Rep.sz α) :
  (loadVar T ⟨b,o,none⟩).run P w=.ok (mk (Rep.agg α) cs) w:=by
 simp only [loadVar,EU,Ty.run_agg ht.agg,ER];cases hg:Rep.agg α
 ·have h1:=Rep.flat hg;obtain ⟨c,rfl⟩:∃ c,cs=[c]:=by
   match cs,hl with
   | [c],_=>exact ⟨c,rfl⟩
   | [],h=>simp [h1] at h
   | _ :: _ :: _,h=>simp [h1] at h
  have:=hc 0 c rfl;simp only [H1] at this;simp [this,mk]
 ·simp only [if_true,EU,Ty.run_size ht.size,ER];rw [← hl,run_loadCells_list w ⟨b,o,none⟩ cs (λj v hj=>by rw [Bc];exact hc j v hj)];rfl
theorem Mr.cell {b:Nat} {cs:List Value} {F:List Nat} {M:Nat->Prop} {v:Value} (h:(Mr b cs).p F M w v) (o:Nat):∀ u,cs[o]?=some u->w.cell? ⟨b,o,none⟩=some u:=by
 obtain ⟨_,⟨T,hc⟩,_⟩:=h;intro u hu;unfold World.cell?;rw [hc];simpa using hu
theorem lra {T K:TypeId} (α:Type) [Rep α] [Ty P T α] {x:Operand} {b off:Nat} {cs ds:List Value} (h:Od Γ x (Qv (pb b off))) (hk:Am Γ K=some (Mr b cs)) (hd:(cs.drop off).take ds.length=ds) (hl:Nat.beq ds.length (Rep.sz α)=true) (hg:Rep.agg α=true):OR P (.load T x) ty Γ (Qa ds):=by
 refine OR.val λρ M w r=>?_;obtain ⟨_,_,hv⟩:=h ρ M w r;obtain ⟨_,hh⟩:=r.tmp _ _ hk;have hcell:∀ j u,ds[j]?=some u->cs[off + j]?=some u:=λj u hj=>by
  have hjl:j < ds.length:=by
   rcases GE j ds.length with h1 | h1
   ·exact h1
   ·simp [GC h1] at hj
  have:((cs.drop off).take ds.length)[j]?=some u:=by rw [hd];exact hj
  rw [GZ hjl,JJ] at this;exact this
 refine ⟨.agg ds.toArray,λ_ _ _ _=>?_,rfl,rfl,λc hc=>?_⟩
 ·simp only [execOp,hv,Instr.loadAt,Instr.sureAddr,EU,EW,ER];rw [Jq (α:=α) (λj u hj=>Mr.cell hh _ u (hcell j u hj)) (G0 hl),hg];rfl
 ·obtain ⟨j,hj⟩:=GO.1 hc;exact hh.2.2 c (GO.2 ⟨_,hcell j c hj⟩)
theorem lrc {T K:Nat} (β:Type) [Rep β] [Ty P T β] {x:Operand} {b off:Nat} {cs:List Value} {c:Value} (h:Od Γ x (Qv (pb b off))) (hk:Am Γ K=some (Mr b cs)) (hc:cs[off]?=some c) (hl:Rep.sz β=1) (hg:Rep.agg β=false):OR P (.load T x) ty Γ (Qv c):=by
 refine OR.val λρ M w r=>?_;obtain ⟨_,_,hv⟩:=h ρ M w r;obtain ⟨_,hh⟩:=r.tmp _ _ hk;refine ⟨c,λ_ _ _ _=>?_,rfl,rfl⟩;simp only [execOp,hv,Instr.loadAt,Instr.sureAddr,EU,EW,ER];rw [Jq (α:=β) (cs:=[c]) (λj u hj=>?_) (by rw [hl];rfl),hg]
 ·rfl
 ·match j,hj with
  | 0,hj=>cases hj;exact Mr.cell hh off _ hc
theorem lrp {T K:Nat} {x:Operand} {b off:Nat} {cs:List Value} {c:Value} (h:Od Γ x (Qv (pb b off))) (hk:Am Γ K=some (Mr b cs)) (hc:cs[off]?=some c) (ha:(P.underlying T).map Bp=some false):OR P (.load T x) ty Γ (Qv c):=by
 refine OR.val λρ M w r=>?_;obtain ⟨_,_,hv⟩:=h ρ M w r;obtain ⟨_,hh⟩:=r.tmp _ _ hk;refine ⟨c,λ_ _ _ _=>?_,rfl,rfl⟩;have:=Mr.cell hh off _ hc;simp only [execOp,hv,Instr.loadAt,Instr.sureAddr,EU,EW,ER,loadVar,Ty.run_agg ha];simp [this]
theorem Do {T:TypeId} {sz:Nat} (hs:(P.info? T).map (·.size)=some sz) {M:Nat->Prop} {w:World} {b off:Nat} {cs:Array Value} {T':TypeId} {m:List Value} {v:Value} (hv:v.cells=m.toArray) (hc:w.heap[b]?=some (.cells cs T' (0,0))) (hm:m.length=sz) (h1:∀ c∈m,c.oneCell'=true)
  (hsz:off + m.length<=cs.size):(storeVar T ⟨b,off,none⟩ v).run P w=.ok () (w.setRow b (cs.toList.take off ++ (m ++ cs.toList.drop (off + m.length))).toArray):=by
 have hr:(sizeOf T).run P w=.ok sz w:=by
  cases hi:P.info? T with
  | none=>simp [hi] at hs
  | some i=>simp [hi] at hs;simp [sizeOf,typeInfo,hi,hs]
 simp only [storeVar,EU,hv,hr,ER,HG,hm];have:=run_storeCells_at (P:=P) b off T' m 0 cs w hc hsz h1;simp only [ne_eq,not_true,if_false,this,H1,Sem.run_ite,FM,hm]
theorem srk {ops:Array Oper} {rest:List Oper} {T K sz:Nat} {x y:Operand} {pos:String} {aft:Array Edge} {b off:Nat} {cs cs' m:List Value} {e:Ent}
  (hs:St M0 w0 n Γ a w) (hx:Od Γ x (Qv (pb b off))) (hk:Am Γ K=some (Mr b cs)) (hT:(P.info? T).map (·.size)=some sz) (hy:Od Γ y e) (hm:m.length=sz) (ho:Nat.ble (off + m.length) cs.length=true)
  (he:∀ ρ M w F v,Rd (Am Γ) M w ρ->e.p F M w v->v.cells=m.toArray/\∀ c∈m,c.oneCell'=true) (hcs:cs.take off ++ (m ++ cs.drop (off + m.length))=cs')
  (k:∀ w',St M0 w0 n ((K,Mr b cs') :: Γ) a w'->wpListIn (Fr rr) 0 P ops Q rest a w'):wpListIn (Fr rr) 0 P ops Q (⟨none,.store T x y,ty,pos,aft,none⟩ :: rest) a w:=by
 refine wpListIn_plain rfl λKc hK=>?_;obtain ⟨M,φ,h⟩:=hs;obtain ⟨_,_,hv⟩:=hx _ _ _ h.rd;obtain ⟨hF,⟨T',hc⟩,h1⟩:=h.holds K _ hk;obtain ⟨F',hy'⟩:=hy _ _ _ h.rd;obtain ⟨hmv,hm1⟩:=he _ _ _ _ _ h.rd hy';have ho':=FA ho;refine Bh.upon (Bh.skip (w':=w.setRow b cs'.toArray) ?_ ?_)
 ·have:=Do (P:=P) (M:=M) hT hmv hc hm hm1 (by simpa using ho');simp only [List.toList_toArray] at this;rw [hcs] at this;simp only [execOp,hv,Instr.storeAt,Instr.sureAddr,EU,EW,ER,this]
 ·refine hK _ _ (k _ ?_);unfold St;rw [Aj];refine h.write (by rw [hk];rfl) (by rw [hF];simp) (Ext.setRow w b _) ⟨hF,⟨T',setRow_heap w b _ _ T' _ hc⟩,λc hc'=>?_⟩;rw [← hcs] at hc';rcases FQ.1 hc' with h2 | h2
  ·exact h1 c (HY h2)
  ·rcases FQ.1 h2 with h2 | h2
   ·exact hm1 c h2
   ·exact h1 c (JU h2)
theorem srq {ops:Array Oper} {rest:List Oper} {T K:Nat} {x y:Operand} {pos:String} {aft:Array Edge} {b off:Nat} {cs cs':List Value} {c:Value}
  (hs:St M0 w0 n Γ a w) (hx:Od Γ x (Qv (pb b off))) (hk:Am Γ K=some (Mr b cs)) (hy:Od Γ y (Qv c)) (hT:(P.info? T).map (·.size)=some 1) (hc:Oc Γ c) (ho:Nat.ble (off + 1) cs.length=true)
  (hcs:cs.take off ++ ([c] ++ cs.drop (off + 1))=cs')
  (k:∀ w',St M0 w0 n ((K,Mr b cs') :: Γ) a w'->wpListIn (Fr rr) 0 P ops Q rest a w'):wpListIn (Fr rr) 0 P ops Q (⟨none,.store T x y,ty,pos,aft,none⟩ :: rest) a w:=
 srk hs hx hk hT hy (m:=[c]) rfl ho (λρ M w F v r hp=>by
  have h1:=hc ρ M w r;refine ⟨?_,λd hd=>by simp at hd;rw [hd];exact h1⟩;rw [hp.2];cases c <;> first | rfl | simp [Value.oneCell'] at h1) hcs k
theorem sra {ops:Array Oper} {rest:List Oper} {T K sz:Nat} {x y:Operand} {pos:String} {aft:Array Edge} {b off:Nat} {cs cs' m:List Value}
  (hs:St M0 w0 n Γ a w) (hx:Od Γ x (Qv (pb b off))) (hk:Am Γ K=some (Mr b cs)) (hy:Od Γ y (Qa m)) (hT:(P.info? T).map (·.size)=some sz) (hm:m.length=sz) (ho:Nat.ble (off + m.length) cs.length=true)
  (hcs:cs.take off ++ (m ++ cs.drop (off + m.length))=cs')
  (k:∀ w',St M0 w0 n ((K,Mr b cs') :: Γ) a w'->wpListIn (Fr rr) 0 P ops Q rest a w'):wpListIn (Fr rr) 0 P ops Q (⟨none,.store T x y,ty,pos,aft,none⟩ :: rest) a w:=
 srk hs hx hk hT hy hm ho (λρ M w F v r hp=>⟨by rw [hp.2.1];rfl,hp.2.2⟩) hcs k
theorem swr {ops:Array Oper} {rest:List Oper} {T K:Nat} {x y:Operand} {pos:String} {aft:Array Edge} {α:Type} [Rep α] [ht:Ty P T α] {b:Nat} {z:α} {cs:List Value}
  (hs:St M0 w0 n Γ a w) (hx:Od Γ x (Qv (pb b 0))) (hk:Am Γ K=some (Mg b z)) (hy:Od Γ y (Qa cs)) (hl:cs.length=Rep.sz α)
  (k:∀ w',St M0 w0 n ((K,Mr b cs) :: Γ) a w'->wpListIn (Fr rr) 0 P ops Q rest a w'):wpListIn (Fr rr) 0 P ops Q (⟨none,.store T x y,ty,pos,aft,none⟩ :: rest) a w:=by
 refine wpListIn_plain rfl λKc hK=>?_;obtain ⟨M,φ,h⟩:=hs;obtain ⟨_,_,hpv⟩:=hx _ _ _ h.rd;obtain ⟨hF,cs0,T',hc,hr⟩:=h.holds K _ hk;obtain ⟨_,_,hv,h1⟩:=hy _ _ _ h.rd;have hlen:cs0.size=cs.length:=by rw [hl,← Rep.len hr];simp
 refine Bh.upon (Bh.skip (w':=w.setRow b cs.toArray) ?_ ?_)
 ·have hst:(storeVar T ⟨b,0,none⟩ (.agg cs.toArray)).run P w=.ok () (w.setRow b cs.toArray):=by
   have:=Do (P:=P) (M:=M) (v:=.agg cs.toArray) (m:=cs) (off:=0) ht.size rfl hc hl h1 om_;rw [this];congr 3;simp only [GV,H8,G1];rw [FN (by simp;omega),GA]
  simp only [execOp,hpv,hv,Instr.storeAt,Instr.sureAddr,EU,EW,ER,hst]
 ·refine hK _ _ (k _ ?_);unfold St;rw [Aj];exact h.write (by rw [hk];rfl) (by rw [hF];simp) (Ext.setRow w b _) ⟨hF,⟨T',setRow_heap w b cs0 _ T' _ hc⟩,h1⟩
def Rp (Γ:Cx) {α:Type} [Rep α] (cs:List Value) (x:α):Prop:=∀ ρ M w,Rd (Am Γ) M w ρ->Rep.rep M w cs x
theorem rpi {m:Int}:Rp Γ [.int .i64 m] m:=λ_ _ _ _=>rfl
theorem rpb {m:Bool}:Rp Γ [.bool m] m:=λ_ _ _ _=>rfl
theorem rpz {α:Type} [Rep α] {k:Nat} {c:Value} {xs:List α} (h:Am Γ k=some (At c (Va xs))):Rp Γ [c] xs:=λρ M w r=>by
 obtain ⟨F,hF⟩:=r.tmp _ _ h;exact ⟨c,rfl,Va.list hF⟩
theorem rpp {α β:Type} [Rep α] [Rep β] {c d:List Value} {x:α} {y:β} (h1:Rp Γ c x) (h2:Rp Γ d y):Rp Γ (c ++ d) (x,y):=λρ M w r=>⟨c,d,rfl,h1 ρ M w r,h2 ρ M w r⟩
theorem qad {α:Type} [Rep α] {x:Operand} {cs:List Value} {y:α} (hx:Od Γ x (Qa cs)) (h:Rp Γ cs y) (hg:Rep.agg α=true):Od Γ x (Va y):=λρ M w r=>by
 obtain ⟨_,_,hv,_⟩:=hx ρ M w r;exact ⟨[],rfl,cs,by rw [hv,hg];rfl,h ρ M w r⟩
theorem St.turn1 {k:Nat} {e e':Ent} (h:St M0 w0 n Γ a w) (hk:Am Γ k=some e) (tn:∀ F M v,Rd (Am Γ) M w a.eval->e.p F M w v->e'.p F M w v):St M0 w0 n ((k,e') :: Γ) a w:=by
 obtain ⟨M,φ,h⟩:=h;have hs:(Am Γ k).isSome=true:=by rw [hk];rfl
 have hsome:∀ t,((put k e' (Am Γ)) t).isSome=true->((Am Γ) t).isSome=true:=by
  intro t ht;unfold put at ht;split at ht
  ·rename_i hh;rw [hh];exact hs
  ·exact ht
 unfold St;rw [Aj];refine ⟨M,φ,λt e ht=>?_,λt ht=>h.own t (hsome t ht),λt s hne ht hs=>h.apart t s hne (hsome t ht) (hsome s hs),h.sub,h.bd,h.fr,h.sz,h.df⟩;unfold put at ht;split at ht
 ·rename_i hh;subst hh;cases ht;exact tn _ _ _ h.rd (h.holds _ _ hk)
 ·exact h.holds t e ht
theorem Lh {α:Type} [Rep α] {k b:Nat} {cs:List Value} {x:α} {R:Prop} (h:St M0 w0 n Γ a w) (hk:Am Γ k=some (Mr b cs)) (hr:Rp Γ cs x) (r:St M0 w0 n ((k,Mg b x) :: Γ) a w->R):R:=
 r (h.turn1 hk λF M v rd hp=>⟨hp.1,cs.toArray,let ⟨T,hT⟩:=hp.2.1;⟨T,hT,by simpa using hr _ M w rd⟩⟩)
theorem St.more {k:Nat} {e:Ent} (h:St M0 w0 n Γ a w) (tn:∀ M,Rd (Am Γ) M w a.eval->∀ v,e.p [] M w v):St M0 w0 n ((k,e) :: Γ) a w:=by
 obtain ⟨M,φ,h⟩:=h;unfold St;rw [Aj];refine ⟨M,λt=>if t=k then [] else φ t,λt' e' he=>?_,λt ht=>?_,λt s hts ht hs=>?_,h.sub,h.bd,h.fr,h.sz,h.df⟩
 ·simp only [put] at he;by_cases h3:t'=k
  ·subst h3;simp only [if_true,Option.some.injEq] at he ⊢;subst he;exact tn M h.rd _
  ·simp only [if_neg h3] at he ⊢;exact h.holds t' e' he
 ·by_cases h3:t=k
  ·simp [h3]
  ·simp only [put,if_neg h3] at ht ⊢;exact h.own t ht
 ·by_cases h3:t=k
  ·simp [h3]
  ·by_cases h4:s=k
   ·simp [h4]
   ·simp only [put,if_neg h3,if_neg h4] at ht hs ⊢;exact h.apart t s hts ht hs
@[reducible] def Hb:List Nat->List Ent->Cx->Cx
 | k :: ks,e :: es,Γ=>(k,e) :: Hb ks es Γ
 | _,_,Γ=>Γ
theorem Kt:∀ {ks:List Nat} {es:List Ent} {t:Nat} {e:Ent},ks.length=es.length->Am (Hb ks es Γ) t=some e->(∃ i:Nat,ks[i]?=some t/\es[i]?=some e)\/(t ∉ ks/\Am Γ t=some e)
 | [],[],t,e,_,h=>.inr ⟨by simp,h⟩
 | k :: ks,e0 :: es,t,e,hl,h=>by
  unfold Hb at h;rw [Aj] at h;unfold put at h;split at h
  ·rename_i hh;cases h;exact .inl ⟨0,by simp [hh],rfl⟩
  ·rename_i hh;rcases Kt (by simpa using hl) h with ⟨i,h1,h2⟩ | ⟨h1,h2⟩
   ·exact .inl ⟨i + 1,by simpa using h1,by simpa using h2⟩
   ·exact .inr ⟨by simp [hh,h1],h2⟩
theorem StM.called (hM:Bd M0 w0) {M:Nat->Prop} {φ:Nat->List Nat} {ks js:List Nat} {G G':List Ent} {eo:Ent} {d:Nat} {w':World} {v:Value} {Fr:List Nat} (h:StM M0 w0 n (Am Γ) a w M φ) (hk:Kg (Am Γ) ks G) (hd:dis ks=true) (hdn:d < n)
  (hx:Ext (λk=>k∈(ks.map φ).flatten) w w') (hn:Fr.Nodup) (hF:∀ k∈Fr,k∈(ks.map φ).flatten\/(w.heap.size<=k/\k < w'.heap.size))
  (hp:eo.p [] (λk=>(M k/\k ∉ (ks.map φ).flatten)\/k∈Fr) w' v) (ho:Hy (λk=>(M k/\k ∉ (ks.map φ).flatten)\/k∈Fr) w' G' Fr) (hl:js.length=G'.length) (hjs:dis (d :: js)=true) (hkj:∀ k∈ks,k∈js) :
  St M0 w0 n ((d,eo) :: Hb js G' Γ) (a.put (some d) v) w':=by
 obtain ⟨o1,o2,o3,o4⟩:=Kg.owns h hk hd;obtain ⟨ψ,p1,p2,p3⟩:=ho.cut;obtain ⟨p4,p5⟩:=p3 hn;obtain ⟨hd1,hd2⟩:=Av hjs;have hfst:∀ {js:List Nat},dis js=true->∀ (i j t:Nat),js[i]?=some t->js[j]?=some t->i=j:=by
  intro js
  induction js with
  | nil=>intro _ i j t h1;simp at h1
  | cons k ks ih=>
   intro hd i j t h1 h2;obtain ⟨q1,q2⟩:=Av hd;cases i with
   | zero=>
    cases j with
    | zero=>rfl
    | succ j=>simp at h1 h2;exact absurd h1.symm (q1 t (GO.2 ⟨j,h2⟩))
   | succ i=>
    cases j with
    | zero=>simp at h1 h2;exact absurd h2.symm (q1 t (GO.2 ⟨i,h1⟩))
    | succ j=>simp at h1 h2;rw [ih q2 i j t h1 h2]
 let ix:Nat->Nat:=λt=>js.findIdx (· == t)
 have hix:∀ (i t:Nat),js[i]?=some t->ix t=i:=λi t hi=>by
  have hm:t∈js:=GO.2 ⟨i,hi⟩;have hlt:ix t < js.length:=List.findIdx_lt_length_of_exists ⟨t,hm,by simp⟩;have hg:js[ix t]?=some t:=by
   rw [FY hlt];have:=List.findIdx_getElem (w:=hlt);simp at this;rw [this]
  exact hfst hd2 _ _ t hg hi
 have hold:∀ t,t ∉ js->t≠d->∀ e,Am Γ t=some e->(∀ q∈φ t,q ∉ (ks.map φ).flatten):=λt ht _ e he=>o4 t (by rw [he];rfl) λhm=>ht (hkj t hm);have cases3:∀ t e,Am ((d,eo) :: Hb js G' Γ) t=some e->(t=d/\e=eo)\/(t≠d/\∃ i:Nat,js[i]?=some t/\G'[i]?=some e)\/(t≠d/\t ∉ js/\Am Γ t=some e):=by
  intro t e he;rw [Aj] at he;unfold put at he;split at he
  ·rename_i hh;cases he;exact .inl ⟨hh,rfl⟩
  ·rename_i hh;rcases Kt hl he with ⟨i,h1,h2⟩ | ⟨h1,h2⟩
   ·exact .inr (.inl ⟨hh,i,h1,h2⟩)
   ·exact .inr (.inr ⟨hh,h1,h2⟩)
 have ilt:∀ {i:Nat} {e:Ent},G'[i]?=some e->i < G'.length:=λh=>(EY.1 h).1
 -- the footprint of a key
 refine ⟨λk=>(M k/\k ∉ (ks.map φ).flatten)\/k∈Fr,λt=>if t=d then [] else if t∈js then ψ (ix t) else φ t,λt e he=>?_,λt ht=>?_,λt s hts ht hs=>?_,λk hk=>?_,λk hk=>?_,?_,by rw [Act.size_put];exact h.sz,by rw [Act.defers_put];exact h.df⟩
 ·rcases cases3 t e he with ⟨rfl,rfl⟩ | ⟨h1,i,h2,h3⟩ | ⟨h1,h2,h3⟩
  ·simp only [if_true];rw [Act.get_put_eq (by rw [h.sz];exact hdn)];exact hp
  ·have hm:t∈js:=GO.2 ⟨i,h2⟩;simp only [if_neg h1,if_pos hm,hix i t h2];exact p1 i e h3 _
  ·simp only [if_neg h1,if_neg h2];rw [Act.get_put_ne (Ne.symm h1)];have e1:e.p (φ t) (λk=>M k\/(w.heap.size<=k)) w (a.get t):=Ent.sb _ (h.holds t e h3) λk hk hm=>hm.elim id λh=>by omega
   have e2:e.p (φ t) (λk=>M k\/(w.heap.size<=k)) w' (a.get t):=Ent.st _ e1 (hx.mono λk _ hk=>⟨.inl (o3 k hk).1,λhm=>hold t h2 h1 e h3 k hm hk⟩);refine Ent.sb _ e2 λk hk hm=>?_;rcases hm with hm | hm
   ·exact .inl hm.1
   ·rcases hF k hm with h5 | h5
    ·exact .inl (o3 k h5).1
    ·exact .inr h5.1
 ·obtain ⟨e,he⟩:=GW.1 ht;rcases cases3 t e he with ⟨rfl,rfl⟩ | ⟨h1,i,h2,h3⟩ | ⟨h1,h2,h3⟩
  ·simp
  ·have hm:t∈js:=GO.2 ⟨i,h2⟩;simp only [if_neg h1,if_pos hm,hix i t h2];refine ⟨p4 i (ilt h3),λk hk=>⟨.inr (p2 i (ilt h3) k hk),?_⟩⟩;rcases hF k (p2 i (ilt h3) k hk) with h5 | h5
   ·exact (o3 k h5).2
   ·by_cases hb:M0.b k
    ·exact .inr hb
    ·exact .inl (F6 h.fr.size h5.1)
  ·simp only [if_neg h1,if_neg h2];have:=h.own t (by rw [h3];rfl);exact ⟨this.1,λk hk=>⟨.inl ⟨(this.2 k hk).1,hold t h2 h1 e h3 k hk⟩,(this.2 k hk).2⟩⟩
 ·obtain ⟨e,he⟩:=GW.1 ht;obtain ⟨f,hf⟩:=GW.1 hs;have oldnew:∀ t e,t ∉ js->t≠d->Am Γ t=some e->∀ q∈φ t,q ∉ Fr:=λt e h1 h2 he q hq hm=>by
   rcases hF q hm with h5 | h5
   ·exact hold t h1 h2 e he q hq h5
   ·have:=h.bd q ((h.own t (by rw [he];rfl)).2 q hq).1;omega
  rcases cases3 t e he with ⟨rfl,rfl⟩ | ⟨h1,i,h2,h3⟩ | ⟨h1,h2,h3⟩
  ·simp
  ·have hm:t∈js:=GO.2 ⟨i,h2⟩;simp only [if_neg h1,if_pos hm,hix i t h2];rcases cases3 s f hf with ⟨rfl,rfl⟩ | ⟨g1,j,g2,g3⟩ | ⟨g1,g2,g3⟩
   ·simp
   ·have hm':s∈js:=GO.2 ⟨j,g2⟩;simp only [if_neg g1,if_pos hm',hix j s g2];refine p5 i j (ilt h3) (ilt g3) λe=>?_;subst e;rw [h2] at g2;exact hts (Option.some.inj g2)
   ·simp only [if_neg g1,if_neg g2];exact λq hq hm2=>oldnew s f g2 g1 g3 q hm2 (p2 i (ilt h3) q hq)
  ·simp only [if_neg h1,if_neg h2];rcases cases3 s f hf with ⟨rfl,rfl⟩ | ⟨g1,j,g2,g3⟩ | ⟨g1,g2,g3⟩
   ·simp
   ·have hm':s∈js:=GO.2 ⟨j,g2⟩;simp only [if_neg g1,if_pos hm',hix j s g2];exact λq hq hm2=>oldnew t e h2 h1 h3 q hq (p2 j (ilt g3) q hm2)
   ·simp only [if_neg g1,if_neg g2];exact h.apart t s hts (by rw [h3];rfl) (by rw [g3];rfl)
 ·refine .inl ⟨h.sub k hk,λhm=>?_⟩;rcases (o3 k hm).2 with h5 | h5
  ·have:=hM.1 k hk;omega
  ·exact hM.2 k h5 hk
 ·rcases hk with hk | hk
  ·exact FS (h.bd k hk.1) hx.size
  ·rcases hF k hk with h5 | h5
   ·exact FS (h.bd k (o3 k h5).1) hx.size
   ·exact h5.2
 ·exact ⟨hx.os.trans h.fr.os,hx.tape.trans h.fr.tape,hx.output.trans h.fr.output,F6 h.fr.size hx.size,λk hk hb=>
   (hx.block k (FS hk h.fr.size) λhm=>(o3 k hm).2.elim (λh5=>by omega) hb).trans (h.fr.block k hk hb),F6 h.fr.dr hx.dr⟩
end
end Go.Pn
namespace Go.Pn
open Go Go.RowKit
variable {rr:Option Nat}
@[reducible] def fv (f:Nat) (fs cs:List Value):Value:=.func (.func f) fs.toArray cs.toArray
def MR (cs:List Value):Ent where
 p F M w v:=∃ b,v=pb b 0/\(Mr b cs).p F M w v
 st h e:=let ⟨b,hv,h⟩:=h;⟨b,hv,(Mr b cs).st h e⟩
 sb h s:=let ⟨b,hv,h⟩:=h;⟨b,hv,(Mr b cs).sb h s⟩
section
variable {P:Program} {M0:Fm} {w0:World} {n:Nat} {Γ:Cx} {Q:Exit->Act->World->Prop} {a:Act} {w:World} {ty:TypeId}
theorem St.openR {d:Nat} {cs:List Value} (h:St M0 w0 n Γ a w) (k:Nat) (hd:Am Γ d=some (MR cs)) (hne:Nat.beq d k=false):∃ b,St M0 w0 n ((d,Qv (pb b 0)) :: (k,Mr b cs) :: Γ) a w:=by
 obtain ⟨M,φ,h⟩:=h;obtain ⟨b,hv,hb⟩:=h.holds d _ hd;refine ⟨b,?_⟩;unfold St;rw [Fh];exact h.split (by rw [hd];rfl) (F8 hne) ⟨rfl,hv⟩ hb
theorem sqr {ops:Array Oper} {rest:List Oper} {d:Nat} {op:Op} {pos:String} {aft:Array Edge} {cs:List Value} (K:Nat)
  (hs:St M0 w0 n Γ a w) (ho:OR P op ty Γ (MR cs)) (hn:Nat.blt d n=true) (hdk:Nat.beq d K=false)
  (k:∀ b a' w',St M0 w0 n ((d,Qv (pb b 0)) :: (K,Mr b cs) :: (d,MR cs) :: Γ) a' w'->wpListIn (Fr rr) 0 P ops Q rest a' w'):wpListIn (Fr rr) 0 P ops Q (⟨some d,op,ty,pos,aft,none⟩ :: rest) a w:=
 sq hs ho hn λa' w' s=>let ⟨b,s⟩:=s.openR K (by simp [Am]) hdk;k b a' w' s
theorem alr {T:TypeId} {cs:List Value} {z:Value} (hz:(P.info? T).map (·.zero)=some (some z)) (hc:z.cells=cs.toArray) (h1:cs.all (·.oneCell')=true):OR P (.alloc T) ty Γ (MR cs):=by
 refine OR.run λρ M w r=>?_;refine ⟨pb w.heap.size 0,w.alloc (.cells cs.toArray T),λ_ _ _ _=>?_,Ext.alloc _ _ _,[w.heap.size],by simp,λk hk=>?_,w.heap.size,rfl,rfl,⟨T,Bz _ _⟩,by simpa using h1⟩
 ·cases hi:P.info? T with
  | none=>simp [hi] at hz
  | some i=>
   simp only [hi,Option.map_some,Option.some.injEq] at hz;simp only [execOp,Instr.alloc,zeroValue,typeInfo,EU,run_program,ER,hi,EW,hz,newVar,newRow,hc,run_newObj];rfl
 ·simp at hk;subst hk;exact ⟨Nat.le_refl _,by simp⟩
theorem bxr {T:TypeId} {x:Operand} {c:Value} (h:Od Γ x (Qv c)) (h1:Oc Γ c):OR P (.box T x) ty Γ (MR [c]):=by
 refine OR.run λρ M w r=>?_;obtain ⟨_,_,hv⟩:=h ρ M w r;have h2:=h1 ρ M w r;have hc:c.cells=#[c]:=by cases c <;> first | rfl | simp [Value.oneCell'] at h2
 refine ⟨pb w.heap.size 0,w.alloc (.cells #[c] T),λ_ _ _ _=>?_,Ext.alloc _ _ _,[w.heap.size],by simp,λk hk=>?_,w.heap.size,rfl,rfl,⟨T,Bz _ _⟩,λd hd=>by simp at hd;rw [hd];exact h2⟩
 ·simp only [execOp,hv,Instr.box,newVar,newRow,hc,EU,run_newObj,ER,EW];rfl
 ·simp at hk;subst hk;exact ⟨Nat.le_refl _,by simp⟩
theorem bxa {T:TypeId} {x:Operand} {cs:List Value} (h:Od Γ x (Qa cs)):OR P (.box T x) ty Γ (MR cs):=by
 refine OR.run λρ M w r=>?_;obtain ⟨_,_,hv,h2⟩:=h ρ M w r;refine ⟨pb w.heap.size 0,w.alloc (.cells cs.toArray T),λ_ _ _ _=>?_,Ext.alloc _ _ _,[w.heap.size],by simp,λk hk=>?_,w.heap.size,rfl,rfl,⟨T,Bz _ _⟩,h2⟩
 ·simp only [execOp,hv,Instr.box,newVar,newRow,Value.cells,EU,run_newObj,ER,EW];rfl
 ·simp at hk;subst hk;exact ⟨Nat.le_refl _,by simp⟩
theorem qf {f:Nat}:Od Γ (.func f) (Qv (fv f [] [])):=λρ _ _ r=>⟨[],rfl,r.fn f⟩
def Qdl (Γ:Cx):List Operand->List Value->Prop
 | [],[]=>True
 | x :: xs,c :: cs=>Od Γ x (Qv c)/\Qdl Γ xs cs
 | _,_=>False
theorem qn:Qdl Γ [] []:=trivial
theorem qc {x:Operand} {c:Value} {xs:List Operand} {cs:List Value} (h:Od Γ x (Qv c)) (r:Qdl Γ xs cs):Qdl Γ (x :: xs) (c :: cs):=⟨h,r⟩
theorem Qdl.map {ρ:Operand->Value} {M:Nat->Prop} {w:World} (rd:Rd (Am Γ) M w ρ):∀ {xs:List Operand} {cs:List Value},Qdl Γ xs cs->xs.map ρ=cs
 | [],[],_=>rfl
 | _ :: _,_ :: _,⟨h,r⟩=>by
  obtain ⟨_,_,hv⟩:=h ρ M w rd;rw [FC,hv,r.map rd]
theorem mkf {f:Nat} {x1 x2:Array Operand} {l1 l2:List Operand} {fs cs:List Value} (h1:x1.toList=l1) (h2:x2.toList=l2) (hf:Qdl Γ l1 fs) (hc:Qdl Γ l2 cs):OR P (.makeFunc (.func f) x1 x2) ty Γ (Qv (fv f fs cs)):=
 OR.val λρ M w r=>by
  refine ⟨fv f fs cs,λ_ _ _ _=>?_,rfl,rfl⟩;have e1:x1.map ρ=fs.toArray:=by rw [← hf.map r,← h1,← G4]
  have e2:x2.map ρ=cs.toArray:=by rw [← hc.map r,← h2,← G4]
  simp only [execOp,Instr.makeFunc,e1,e2,EU,EW,ER]
def Vdl (Γ:Cx) (cs:List Value) (es:List Ent):Prop:=∀ ρ M w,Rd (Am Γ) M w ρ->Ql M w es cs
theorem vn:Vdl Γ [] []:=λ_ _ _ _=>trivial
theorem vq {c:Value} {cs:List Value} {es:List Ent} (r:Vdl Γ cs es):Vdl Γ (c :: cs) (Qv c :: es):=λρ M w rd=>⟨⟨rfl,rfl⟩,r ρ M w rd⟩
theorem va {c:Value} {k:Nat} {e:Ent} {cs:List Value} {es:List Ent} [z:Zf e] (h:Am Γ k=some (At c e)) (r:Vdl Γ cs es):Vdl Γ (c :: cs) (e :: es):=λρ M w rd=>by
 obtain ⟨F,hF⟩:=rd.tmp _ _ h;obtain rfl:=z.z (show e.p F M w c from hF);exact ⟨hF,r ρ M w rd⟩
theorem Ql.app {M:Nat->Prop} {w:World}:∀ {es fs:List Ent} {vs us:List Value},Ql M w es vs->Ql M w fs us->Ql M w (es ++ fs) (vs ++ us)
 | [],_,[],_,_,k=>k
 | _ :: _,_,_ :: _,_,⟨h1,h2⟩,k=>⟨h1,h2.app k⟩
theorem La {x:Operand} {f:FuncId} {fs cs:List Value} {args:Array Operand} {argTypes:Array TypeId} {ρ:Operand->Value} {w:World} {d:Option Tmp} {pos:String} {aft:Array Edge} {gd:Option (Nat×Bool)} (hx:ρ x=fv f fs cs) (hb:cal P f=true) :
  (execOp ρ ⟨d,.call { callee:=.value x,args:=args,argTypes:=argTypes },ty,pos,aft,gd⟩).run P w=.ok (.enter f (fs ++ (args.toList.map ρ ++ cs)).toArray) w:=by
 have h1:(execOp ρ ⟨d,.call { callee:=.value x,args:=args,argTypes:=argTypes },ty,pos,aft,gd⟩).run P w=(invoke (.fn (.func f) cs.toArray) (fs.toArray ++ args.map ρ)).run P w:=by
  simp [execOp,resolve,Deferred.ofValue,hx]
 rw [h1];cases hf:P.funcs[f]? with
 | none=>simp [cal,hf] at hb
 | some fn=>
  simp only [cal,hf,E3,FX] at hb;simp only [invoke,callFunc,EU,run_program,ER,hf,hb.2];have h2:fn.body.isNone=false:=by simpa using hb.1
  have h3:fs.toArray ++ args.map ρ ++ cs.toArray=(fs ++ (args.toList.map ρ ++ cs)).toArray:=by
   apply Array.ext';simp
  rw [h2,h3];rfl
theorem ccv {x:Operand} {f:FuncId} {fs cs:List Value} {A:Array TypeId} {args:Array Operand} {xs:List Operand} {p1 ps p2:List Ent} {e:Ent} (hx:Od Γ x (Qv (fv f fs cs))) (ha:args.toList=xs) (h:Odl Γ xs ps) (h1:Vdl Γ fs p1) (h2:Vdl Γ cs p2)
  (c:Sp P f (p1 ++ (ps ++ p2)) e):OR P (.call { callee:=.value x,args:=args,argTypes:=A }) ty Γ e:=by
 intro d pos aft gd ρ M w rd;subst ha;obtain ⟨_,_,hv⟩:=hx ρ M w rd;have hc:=c _ M w rd.bd ((h1 ρ M w rd).app ((h.fits rd).app (h2 ρ M w rd)));unfold Bh;rw [La hv hc.1];exact hc.2
theorem cgv {ops:Array Oper} {rest:List Oper} {x:Operand} {f:FuncId} {fs cs:List Value} {A:Array TypeId} {args:Array Operand} {xs:List Operand} {p1 ps p2 G:List Ent} {X:Type} {eo:X->Ent} {G':X->List Ent} {d:Nat} {pos:String} {aft:Array Edge} (ks js:List Nat)
  (hM:Bd M0 w0) (hs:St M0 w0 n Γ a w) (hx:Od Γ x (Qv (fv f fs cs))) (ha:args.toList=xs) (h:Odl Γ xs ps) (h1:Vdl Γ fs p1) (h2:Vdl Γ cs p2) (c:Cg P f (p1 ++ (ps ++ p2)) G (Rz eo G')) (hk:Kg (Am Γ) ks G) (hd:dis ks=true) (hl:∀ x,js.length=(G' x).length) (hjs:dis (d :: js)=true) (hkj:(ks.all λk=>js.any (Nat.beq k))=true) (hn:Nat.blt d n=true)
  (k:∀ x a' w',St M0 w0 n ((d,eo x) :: Hb js (G' x) Γ) a' w'->wpListIn (Fr rr) 0 P ops Q rest a' w'):wpListIn (Fr rr) 0 P ops Q (⟨some d,.call { callee:=.value x,args:=args,argTypes:=A },ty,pos,aft,none⟩ :: rest) a w:=by
 refine wpListIn_plain rfl λKc hK=>?_;subst ha;obtain ⟨M,φ,hs⟩:=hs;obtain ⟨_,_,hv⟩:=hx _ _ _ hs.rd;obtain ⟨o1,o2,o3,o4⟩:=Kg.owns hs hk hd;have hcall:=c.2 _ M w _ hs.bd ((h1 _ M w hs.rd).app ((h.fits hs.rd).app (h2 _ M w hs.rd))) o1 o2 (λk hk=>(o3 k hk).1);refine Bh.upon ?_;unfold Bh;rw [La hv c.1];refine Calls.mono hcall ?_;rintro en w' ⟨v,Fr,rfl,hx,hnd,hF,x,hp,ho⟩;refine ⟨v,rfl,hK _ _ (k x _ _ ?_)⟩;exact hs.called hM hk hd (FA hn) hx hnd hF hp ho (hl x) hjs λk hk'=>by
  have:=E8.1 hkj k hk';obtain ⟨j,hj,hb⟩:=E7.1 this;rw [G0 hb];exact hj
theorem St.turnV {k:Nat} {e e':Ent} {M:Nat->Prop} {φ:Nat->List Nat} (h:∃ M' φ',(M'=M/\φ'=φ)/\StM M0 w0 n (Am Γ) a w M' φ') (hk:Am Γ k=some e) (hp:e'.p (φ k) M w (a.get k)):St M0 w0 n ((k,e') :: Γ) a w:=by
 obtain ⟨_,_,⟨rfl,rfl⟩,h⟩:=h;have hs:(Am Γ k).isSome=true:=by rw [hk];rfl
 have hsome:∀ t,((put k e' (Am Γ)) t).isSome=true->((Am Γ) t).isSome=true:=by
  intro t ht;unfold put at ht;split at ht
  ·rename_i hh;rw [hh];exact hs
  ·exact ht
 unfold St;rw [Aj];refine ⟨_,_,λt e ht=>?_,λt ht=>h.own t (hsome t ht),λt s hne ht hs=>h.apart t s hne (hsome t ht) (hsome s hs),h.sub,h.bd,h.fr,h.sz,h.df⟩;unfold put at ht;split at ht
 ·rename_i hh;subst hh;cases ht;exact hp
 ·exact h.holds t e ht
theorem StM.split2 {g:Mp} {M:Nat->Prop} {φ:Nat->List Nat} {d k:Nat} {e1 e2:Ent} {F1 F2:List Nat} (h:StM M0 w0 n g a w M φ) (hd:(g d).isSome=true) (hne:d≠k) (hF:φ d=F2 ++ F1)
  (h1:e1.p F1 M w (a.get d)) (h2:e2.p F2 M w (a.get k)):StF M0 w0 n (put d e1 (put k e2 g)) a w:=by
 obtain ⟨o1,o2⟩:=h.own d hd;rw [hF] at o1 o2;obtain ⟨n1,n2,n3⟩:=H9.1 o1;have s1:∀ q∈F1,q∈φ d:=λq hq=>by rw [hF];exact FK _ hq
 have s2:∀ q∈F2,q∈φ d:=λq hq=>by rw [hF];exact FJ _ hq
 refine ⟨M,λt=>if t=d then F1 else if t=k then F2 else φ t,λt e he=>?_,λt ht=>?_,λt s hts ht hs=>?_,h.sub,h.bd,h.fr,h.sz,h.df⟩
 ·simp only [put] at he;by_cases h3:t=d
  ·subst h3;simp only [if_true,Option.some.injEq] at he ⊢;subst he;exact h1
  ·by_cases h4:t=k
   ·subst h4;simp only [if_neg h3,if_true,Option.some.injEq] at he ⊢;subst he;exact h2
   ·simp only [if_neg h3,if_neg h4] at he ⊢;exact h.holds t e he
 ·by_cases h3:t=d
  ·subst h3;simp only [if_true];exact ⟨n2,λq hq=>o2 q (FK _ hq)⟩
  ·by_cases h4:t=k
   ·subst h4;simp only [if_neg h3,if_true];exact ⟨n1,λq hq=>o2 q (FJ _ hq)⟩
   ·simp only [put,if_neg h3,if_neg h4] at ht ⊢;exact h.own t ht
 ·have ap:∀ u,u≠d->u≠k->((put d e1 (put k e2 g)) u).isSome=true->∀ q∈φ u,q ∉ φ d:=λu hu hk hs q hq=>by
   simp only [put,if_neg hu,if_neg hk] at hs;exact h.apart u d hu hs hd q hq
  by_cases h3:t=d
  ·subst h3;simp only [if_true,if_neg (Ne.symm hts)];by_cases h6:s=k
   ·subst h6;simp only [if_true];exact λq hq hm=>n3 q hm q hq rfl
   ·simp only [if_neg h6];exact λq hq hm=>ap s (Ne.symm hts) h6 hs q hm (s1 q hq)
  ·by_cases h4:t=k
   ·subst h4;simp only [if_neg h3,if_true];by_cases h5:s=d
    ·subst h5;simp only [if_true];exact λq hq hm=>n3 q hq q hm rfl
    ·simp only [if_neg h5,if_neg (Ne.symm hts)];exact λq hq hm=>ap s h5 (Ne.symm hts) hs q hm (s2 q hq)
   ·simp only [if_neg h3,if_neg h4];by_cases h5:s=d
    ·subst h5;simp only [if_true];exact λq hq hm=>ap t h3 h4 ht q hq (s1 q hm)
    ·by_cases h6:s=k
     ·subst h6;simp only [if_neg h5,if_true];exact λq hq hm=>ap t h3 h4 ht q hq (s2 q hm)
     ·simp only [if_neg h5,if_neg h6];simp only [put,if_neg h3,if_neg h4] at ht;simp only [put,if_neg h5,if_neg h6] at hs;exact h.apart t s hts ht hs
def Zz (eo:Ent) (G:List Ent):Ent where
 p F M w v:=eo.p [] M w v/\Hy M w G F
 st h x:=⟨eo.st h.1 (x.mono λk _ hk=>⟨hk.1,by simp⟩),h.2.st x⟩
 sb h s:=⟨eo.sb h.1 s,h.2.sb s⟩
theorem St.openZ {d:Nat} {X:Type} {eo:X->Ent} {G:X->List Ent} (h:St M0 w0 n Γ a w) (hd:Am Γ d=some (Rz eo G)):∃ x,St M0 w0 n ((d,Zz (eo x) (G x)) :: Γ) a w:=by
 obtain ⟨M,φ,h⟩:=h;obtain ⟨x,hp⟩:=h.holds d _ hd;exact ⟨x,St.turnV ⟨M,φ,⟨rfl,rfl⟩,h⟩ hd hp⟩
theorem St.nextZ {d:Nat} {eo e:Ent} {G:List Ent} (k:Nat) (h:St M0 w0 n ((d,Zz eo (e :: G)) :: Γ) a w) (hne:Nat.beq d k=false):St M0 w0 n ((d,Zz eo G) :: (k,e) :: Γ) a w:=by
 obtain ⟨M,φ,h⟩:=h;obtain ⟨hp,F,F',hF,h1,h2⟩:=h.holds d (Zz eo (e :: G)) (by simp [Am]);have:=h.split2 (d:=d) (k:=k) (e1:=Zz eo G) (e2:=e) (F1:=F') (F2:=F) (by simp [Am]) (F8 hne) hF ⟨hp,h2⟩ (h1 _);refine this.less λt e' he=>?_;rw [Fh] at he;rw [Aj];simp only [put] at he ⊢;split
 ·rename_i h3;rw [if_pos h3] at he;exact he
 ·rename_i h3;rw [if_neg h3] at he;exact he
theorem St.endZ {d:Nat} {eo:Ent} (h:St M0 w0 n ((d,Zz eo []) :: Γ) a w):St M0 w0 n ((d,eo) :: Γ) a w:=by
 obtain ⟨M,φ,h0⟩:=h;have:=St.turn1 (Γ:=(d,Zz eo []) :: Γ) (k:=d) (e:=Zz eo []) (e':=eo) ⟨M,φ,h0⟩ (by simp [Am]) λF M v rd h=>by
  have:F=[]:=h.2;subst this;exact h.1
 refine StF.less this λt e he=>?_;rw [Aj] at he ⊢;simp only [put] at he ⊢;split
 ·rename_i h3;rw [if_pos h3] at he;exact he
 ·rename_i h3;rw [if_neg h3] at he;rw [Aj];simp only [put,if_neg h3];exact he
theorem sqz {ops:Array Oper} {rest:List Oper} {d:Nat} {op:Op} {pos:String} {aft:Array Edge} {X:Type} {eo:X->Ent} {G':X->List Ent} (js:List Nat)
  (hM:Bd M0 w0) (hs:St M0 w0 n Γ a w) (ho:OR P op ty Γ (Rz eo G')) (hl:∀ x,js.length=(G' x).length) (hjs:dis (d :: js)=true) (hn:Nat.blt d n=true)
  (k:∀ x a' w',St M0 w0 n ((d,eo x) :: Hb js (G' x) Γ) a' w'->wpListIn (Fr rr) 0 P ops Q rest a' w'):wpListIn (Fr rr) 0 P ops Q (⟨some d,op,ty,pos,aft,none⟩ :: rest) a w:=by
 refine wpListIn_plain rfl λKc hK=>?_;obtain ⟨M,φ,hs⟩:=hs;refine Bh.upon ((ho (some d) pos aft none a.eval M w hs.rd).mono ?_);rintro v w' ⟨hx,F,hnd,hF,x,hp,ho⟩;refine hK _ _ (k x _ _ ?_);have hs':∀ k,k < w'.heap.size->((M k/\k ∉ (([]:List Nat).map φ).flatten)\/k∈F)->(M k\/k∈F):=λk _ h=>h.imp (λh=>h.1) id;exact hs.called (ks:=[]) (G:=[]) hM kn rfl (FA hn) hx.no hnd (λk hk=>.inr (hF k hk)) (Ent.sb _ hp hs') (ho.sb hs') (hl x) hjs As
end
end Go.Pn
namespace Go.Pn
open Go Go.RowKit
section
variable {P:Program} {M0:Fm} {w0:World} {n:Nat} {Γ:Cx} {Q:Exit->Act->World->Prop} {a:Act} {w:World} {ty:TypeId}
inductive Rk (Γ:Cx):List (Nat×Nat)->Cx->Prop
 | nil:Rk Γ [] []
 | same {t:Nat} {e:Ent} {l:List (Nat×Nat)} {Δ:Cx} (h:Am Γ t=some e) (r:Rk Γ l Δ):Rk Γ ((t,t) :: l) ((t,e) :: Δ)
 | key {t u:Nat} {e:Ent} {l:List (Nat×Nat)} {Δ:Cx} [Gh e] (h:Am Γ t=some e) (r:Rk Γ l Δ):Rk Γ ((t,u) :: l) ((u,e) :: Δ)
theorem Rk.find {l:List (Nat×Nat)} {Δ:Cx} (h:Rk Γ l Δ):∀ {u:Nat} {e:Ent},Am Δ u=some e->∃ t,(t,u)∈l/\Am Γ t=some e/\(t=u\/Gh e):=by
 induction h with
 | nil=>intro u e h;simp [Am] at h
 | same h r ih=>
  intro u e hu;rw [Aj] at hu;unfold put at hu;split at hu
  ·rename_i hh;subst hh;cases hu;exact ⟨_,GD ..,h,.inl rfl⟩
  ·obtain ⟨t,h1,h2,h3⟩:=ih hu;exact ⟨t,FR _ h1,h2,h3⟩
 | key h r ih=>
  rename_i hg;intro u e hu;rw [Aj] at hu;unfold put at hu;split at hu
  ·rename_i hh;subst hh;cases hu;exact ⟨_,GD ..,h,.inr hg⟩
  ·obtain ⟨t,h1,h2,h3⟩:=ih hu;exact ⟨t,FR _ h1,h2,h3⟩
theorem AY:∀ {l:List (Nat×Nat)},dis (l.map (·.2))=true->∀ {t t' u:Nat},(t,u)∈l->(t',u)∈l->t=t'
 | [],_,_,_,_,h,_=>by simp at h
 | (x,y) :: l,hd,t,t',u,h,h'=>by
  obtain ⟨d1,d2⟩:=Av hd;rcases FG.1 h with h | h
  ·rcases FG.1 h' with h' | h'
   ·cases h;cases h';rfl
   ·cases h;exact absurd rfl (d1 _ (FE.2 ⟨_,h',rfl⟩))
  ·rcases FG.1 h' with h' | h'
   ·cases h';exact absurd rfl (d1 _ (FE.2 ⟨_,h,rfl⟩))
   ·exact AY d2 h h'
theorem Wf:∀ {l:List (Nat×Nat)},dis (l.map (·.1))=true->∀ {t u u':Nat},(t,u)∈l->(t,u')∈l->u=u'
 | [],_,_,_,_,h,_=>by simp at h
 | (x,y) :: l,hd,t,u,u',h,h'=>by
  obtain ⟨d1,d2⟩:=Av hd;rcases FG.1 h with h | h
  ·rcases FG.1 h' with h' | h'
   ·cases h;cases h';rfl
   ·cases h;exact absurd rfl (d1 _ (FE.2 ⟨_,h',rfl⟩))
  ·rcases FG.1 h' with h' | h'
   ·cases h';exact absurd rfl (d1 _ (FE.2 ⟨_,h,rfl⟩))
   ·exact Wf d2 h h'
theorem St.rekey {l:List (Nat×Nat)} {Δ:Cx} (h:St M0 w0 n Γ a w) (r:Rk Γ l Δ) (h1:dis (l.map (·.1))=true) (h2:dis (l.map (·.2))=true):St M0 w0 n Δ a w:=by
 obtain ⟨M,φ,h⟩:=h
 let src:Nat->Nat:=λu=>((l.find? λp=>p.2 == u).map (·.1)).getD 0
 have hsrc:∀ t u,(t,u)∈l->src u=t:=by
  intro t u hm;have:∃ p,l.find? (λp=>p.2 == u)=some p:=by
   cases hf:l.find? λp=>p.2 == u with
   | none=>simp at hf;exact absurd rfl (hf t u hm)
   | some p=>exact ⟨p,rfl⟩
  obtain ⟨⟨p1,p2⟩,hp⟩:=this;have hpm:=JM hp;have hpe:=List.find?_some hp;have hpe':p2=u:=by simpa using hpe
  subst hpe';show ((l.find? λp=>p.2 == p2).map (·.1)).getD 0=t;rw [hp];exact AY h2 hpm hm
 refine ⟨M,λu=>φ (src u),λu e he=>?_,λu hu=>?_,λu s hne hu hs=>?_,h.sub,h.bd,h.fr,h.sz,h.df⟩
 ·obtain ⟨t,q1,q2,q3⟩:=r.find he;rw [hsrc t u q1];rcases q3 with rfl | hg
  ·exact h.holds _ _ q2
  ·exact hg.g (h.holds _ _ q2) _
 ·obtain ⟨e,he⟩:=GW.1 hu;obtain ⟨t,q1,q2,q3⟩:=r.find he;rw [hsrc t u q1];exact h.own t (by rw [q2];rfl)
 ·obtain ⟨e,he⟩:=GW.1 hu;obtain ⟨t,q1,q2,q3⟩:=r.find he;obtain ⟨e',he'⟩:=GW.1 hs;obtain ⟨t',q1',q2',q3'⟩:=r.find he';rw [hsrc t u q1,hsrc t' s q1'];exact h.apart t t' (λe=>hne (Wf h1 q1 (e ▸ q1'))) (by rw [q2];rfl) (by rw [q2'];rfl)
theorem tfg {op:Op} {k e:Nat} {c:Value} {α:Type} [Rep α] {xs:List α} {e':Ent} (hf:Fl0 e') (hk:Am Γ k=some (Ow e c xs)) (h:OR P op ty ((k,At c (Va xs)) :: Γ) e'):OR P op ty Γ e':=by
 intro dd pos aft g ρ M w r;obtain ⟨F,hF⟩:=r.tmp _ _ hk;have hs:∀ q,q < w.heap.size->(M q/\q ∉ F)->M q:=λq _ hq=>hq.1;refine (h dd pos aft g ρ (λq=>M q/\q ∉ F) w ⟨λt e1 he=>?_,r.con,r.fn,λq hq=>r.bd q hq.1,r.glo⟩).mono ?_
 ·rw [Aj] at he;unfold Pn.put at he;split at he
  ·rename_i ht;subst ht;cases he
   exact ⟨[],Va.mkList (Ow.sl (Ent.sb _ hF hs) λq hq hm=>hm.2 hq)⟩
  ·obtain ⟨F1,h1⟩:=r.tmp _ _ he;exact ⟨F1,Ent.sb _ h1 hs⟩
 ·rintro v w' ⟨hx,F1,h1,h2,h3⟩;exact ⟨hx,F1,h1,h2,hf h3⟩
theorem flq {c:Value}:Fl0 (Qv c):=λh=>h
theorem fla {cs:List Value}:Fl0 (Qa cs):=λh=>h
theorem flo {α:Type} [Rep α] [Flat α] {e:Nat} {c:Value} {xs:List α}:Fl0 (Ow e c xs):=by
 rintro F M M' w v (⟨hF,cs,ho,hc⟩ | h)
 case inr=>exact .inr h
 refine .inl ⟨hF,cs,ho,?_⟩;clear ho hF
 induction xs generalizing cs with
 | nil=>exact hc
 | cons x xs ih=>
  obtain ⟨c,d,h1,h2,h3⟩:=hc;exact ⟨c,d,h1,Flat.at_ h2,ih d h3⟩
def FlL:List Ent->Prop
 | []=>True
 | e :: es=>Fl0 e/\FlL es
theorem fln:FlL []:=trivial
theorem flc {e:Ent} {es:List Ent} (h:Fl0 e) (r:FlL es):FlL (e :: es):=⟨h,r⟩
theorem FlL.owns {M M':Nat->Prop} {w:World}:∀ {G:List Ent} {F:List Nat},FlL G->Hy M w G F->Hy M' w G F
 | [],_,_,h=>h
 | _ :: _,_,⟨h1,h2⟩,⟨F,F',hF,k1,k2⟩=>⟨F,F',hF,λu=>h1 (k1 u),h2.owns k2⟩
theorem flz {X:Type} {eo:X->Ent} {G:X->List Ent} (h1:∀ x,Fl0 (eo x)) (h2:∀ x,FlL (G x)):Fl0 (Rz eo G):=λ⟨x,k1,k2⟩=>⟨x,h1 x k1,(h2 x).owns k2⟩
theorem fzb {α:Type} [Rep α] {k b:Nat} {x:α} {R:Prop} (hM:Bd M0 w0) (h:St M0 w0 n Γ a w) (hk:Am Γ k=some (Mg b x)) (r:St M0 w0 n ((k,At (pb b 0) (Pt x)) :: Γ) a w->R):R:=by
 refine r ?_;obtain ⟨M,φ,h⟩:=h;have hks:(Am Γ k).isSome=true:=by rw [hk];rfl
 have hMs:∀ q,q < w.heap.size->(M q/\q ∉ φ k)->M q:=λq _ hq=>hq.1;unfold St;rw [Aj];refine ⟨λq=>M q/\q ∉ φ k,λt=>if t=k then [] else φ t,λt e' he=>?_,λt ht=>?_,λt s hts ht hs=>?_,λq hq=>⟨h.sub q hq,λhm=>?_⟩,λq hq=>h.bd q hq.1,h.fr,h.sz,h.df⟩
 ·simp only [put] at he;by_cases h4:t=k
  ·subst h4;simp only [if_true,Option.some.injEq] at he ⊢;subst he;obtain ⟨hF,cs,T,hc,hr⟩:=(Mg b x).sb (h.holds t _ hk) hMs;refine ⟨rfl,b,0,rfl,cs.toList,λj v hj=>⟨λhm=>hm.2 (by rw [hF];simp),?_⟩,hr⟩;simp [World.cell?,hc];simpa using hj
  ·simp only [if_neg h4] at he ⊢;exact Ent.sb _ (h.holds t e' he) hMs
 ·by_cases h4:t=k
  ·simp [h4]
  ·simp only [put,if_neg h4] at ht ⊢;have:=h.own t ht;exact ⟨this.1,λq hq=>⟨⟨(this.2 q hq).1,h.apart t k h4 ht hks q hq⟩,(this.2 q hq).2⟩⟩
 ·by_cases h5:t=k
  ·simp [h5]
  ·by_cases h6:s=k
   ·simp [h6]
   ·simp only [put,if_neg h5,if_neg h6] at ht hs ⊢;exact h.apart t s hts ht hs
 ·rcases ((h.own k hks).2 q hm).2 with h1 | h1
  ·have:=hM.1 q hq;omega
  ·exact hM.2 q h1 hq
end
end Go.Pn
namespace Go.Pn
open Go Go.RowKit
section
variable {P:Program} {M0:Fm} {w0:World} {n:Nat} {Γ:Cx} {Q:Exit->Act->World->Prop} {a:Act} {w:World} {ty:TypeId}
theorem En:∀ {js:List Nat} {es:List Ent} {Γ Γ':Cx} {t:Nat},(Am Γ t=Am Γ' t)->Am (Hb js es Γ) t=Am (Hb js es Γ') t
 | k :: js,e :: es,Γ,Γ',t,h=>by
  unfold Hb;rw [Aj,Aj];simp only [put];split
  ·rfl
  ·exact En h
 | [],_,_,_,_,h=>h
 | _ :: _,[],_,_,_,h=>h
theorem Gp:∀ {js:List Nat} {es:List Ent} {Γ:Cx} {t:Nat},t ∉ js->Am (Hb js es Γ) t=Am Γ t
 | k :: js,e :: es,Γ,t,h=>by
  unfold Hb;rw [Aj];simp only [put];rw [if_neg (λe=>h (by rw [e];exact GD ..))];exact Gp λhm=>h (FR _ hm)
 | [],_,_,_,h=>rfl
 | _ :: _,[],_,_,h=>rfl
theorem St.allZ {d:Nat} {eo:Ent}:∀ {js:List Nat} {es:List Ent} {Γ:Cx},js.length=es.length->dis (d :: js)=true->St M0 w0 n ((d,Zz eo es) :: Γ) a w->St M0 w0 n ((d,eo) :: Hb js es Γ) a w
 | [],[],Γ,_,_,h=>h.endZ
 | k :: js,e :: es,Γ,hl,hd,h=>by
  obtain ⟨d1,d2⟩:=Av hd;obtain ⟨d3,d4⟩:=Av d2;have hne:Nat.beq d k=false:=by
   cases hb:Nat.beq d k
   ·rfl
   ·exact absurd (G0 hb).symm (d1 k (GD ..))
  have hd':dis (d :: js)=true:=by
   simp only [dis,E3,FX,F4] at hd ⊢;exact ⟨λj hj=>hd.1 j (FR _ hj),d4⟩
  have ih:=St.allZ (Γ:=(k,e) :: Γ) (by simpa using hl) hd' (h.nextZ k hne);refine StF.less ih λt e' he=>?_;rw [Aj] at he ⊢;simp only [put] at he ⊢;split
  ·rename_i ht;rw [if_pos ht] at he;exact he
  ·rename_i ht;rw [if_neg ht] at he;unfold Hb at he;rw [Aj] at he;simp only [put] at he;split at he
   ·rename_i hk;subst hk;rw [Gp (λhm=>d3 _ hm rfl),Aj];simp only [put,if_true];exact he
   ·rename_i hk;rw [En (Γ':=Γ) (by rw [Aj];simp only [put,if_neg hk])];exact he
theorem opz {d:Nat} {X:Type} {eo:X->Ent} {G:X->List Ent} {R:Prop} (js:List Nat) (h:St M0 w0 n Γ a w) (hd:Am Γ d=some (Rz eo G)) (hl:∀ x,js.length=(G x).length) (hjs:dis (d :: js)=true)
  (r:∀ x,St M0 w0 n ((d,eo x) :: Hb js (G x) Γ) a w->R):R:=
 let ⟨x,s⟩:=h.openZ hd;r x (s.allZ (hl x) hjs)
theorem opo {α:Type} [Rep α] {d e:Nat} {xs:List α} {R:Prop} (k:Nat) (h:St M0 w0 n Γ a w) (hd:Am Γ d=some (Or e xs)) (hne:Nat.beq d k=false) (r:∀ c,St M0 w0 n ((d,Qv c) :: (k,Ow e c xs) :: Γ) a w->R):R:=
 let ⟨x,s⟩:=h.openO k hd hne;r x s
theorem opb {α:Type} [Rep α] {d:Nat} {x:α} {R:Prop} (k:Nat) (h:St M0 w0 n Γ a w) (hd:Am Γ d=some (MB x)) (hne:Nat.beq d k=false) (r:∀ b,St M0 w0 n ((d,Qv (pb b 0)) :: (k,Mg b x) :: Γ) a w->R):R:=
 let ⟨x,s⟩:=h.openB k hd hne;r x s
theorem opr {d:Nat} {cs:List Value} {R:Prop} (k:Nat) (h:St M0 w0 n Γ a w) (hd:Am Γ d=some (MR cs)) (hne:Nat.beq d k=false) (r:∀ b,St M0 w0 n ((d,Qv (pb b 0)) :: (k,Mr b cs) :: Γ) a w->R):R:=
 let ⟨x,s⟩:=h.openR k hd hne;r x s
theorem qns {α:Type} [Rep α] {x:Operand} {m:Nat} (h:Od Γ x (Qv (.slice none 0 m))):Od Γ x (Va ([]:List α)):=λρ M w r=>let ⟨_,_,hv⟩:=h ρ M w r;⟨[],by rw [hv];exact Va.mkList ⟨none,m,rfl,.inl rfl⟩⟩
theorem rpn {α:Type} [Rep α] {m:Nat}:Rp Γ [.slice none 0 m] ([]:List α):=λ_ _ _ _=>⟨_,rfl,none,m,rfl,.inl rfl⟩
def Pd (Γ:Cx):List (Nat×Operand)->List (Nat×List Value)->Prop
 | [],[]=>True
 | (i,x) :: l,(j,c) :: m=>(i=j/\∀ ρ M w,Rd (Am Γ) M w ρ->(ρ x).cells=c.toArray/\∀ u∈c,u.oneCell'=true)/\Pd Γ l m
 | _,_=>False
theorem pdn:Pd Γ [] []:=trivial
theorem pdq {i:Nat} {x:Operand} {c:Value} {l:List (Nat×Operand)} {m:List (Nat×List Value)} (h:Od Γ x (Qv c)) (h1:Oc Γ c) (r:Pd Γ l m):Pd Γ ((i,x) :: l) ((i,[c]) :: m):=
 ⟨⟨rfl,λρ M w rd=>by
  obtain ⟨_,_,hv⟩:=h ρ M w rd;have h2:=h1 ρ M w rd;refine ⟨?_,λu hu=>by simp at hu;rw [hu];exact h2⟩;rw [hv];cases c <;> first | rfl | simp [Value.oneCell'] at h2⟩,r⟩
theorem pda {i:Nat} {x:Operand} {cs:List Value} {l:List (Nat×Operand)} {m:List (Nat×List Value)} (h:Od Γ x (Qa cs)) (r:Pd Γ l m):Pd Γ ((i,x) :: l) ((i,cs) :: m):=
 ⟨⟨rfl,λρ M w rd=>by
  obtain ⟨_,_,hv,h2⟩:=h ρ M w rd;exact ⟨by rw [hv];rfl,h2⟩⟩,r⟩
theorem Pd.cells {ρ:Operand->Value} {M:Nat->Prop} {w:World} (rd:Rd (Am Γ) M w ρ):∀ {l:List (Nat×Operand)} {m:List (Nat×List Value)},Pd Γ l m->Ld (l.map λp=>(p.1,ρ p.2)) m/\∀ p∈m,∀ u∈p.2,u.oneCell'=true
 | [],[],_=>⟨trivial,λp hp=>by simp at hp⟩
 | (i,x) :: l,(j,c) :: m,⟨⟨h1,h2⟩,r⟩=>by
  obtain ⟨h3,h4⟩:=h2 ρ M w rd;obtain ⟨k1,k2⟩:=r.cells rd;refine ⟨⟨h1,h3,k1⟩,λp hp=>?_⟩;rcases FG.1 hp with rfl | hp
  ·exact h4
  ·exact k2 p hp
theorem So {L:List (Nat×Nat)}:∀ {m:List (Nat×List Value)} {z res:List Value},Li L z m=some res->(∀ u∈z,u.oneCell'=true)->(∀ p∈m,∀ u∈p.2,u.oneCell'=true)->∀ u∈res,u.oneCell'=true
 | [],z,res,h,hz,_,u,hu=>by simp only [Li,Option.some.injEq] at h;subst h;exact hz u hu
 | (i,c) :: m,z,res,h,hz,hm,u,hu=>by
  unfold Li at h;split at h
  ·cases h
  ·split at h
   ·cases h
   ·refine So h (λv hv=>?_) (λp hp=>hm p (FR _ hp)) u hu;rcases FQ.1 hv with h1 | h1
    ·exact hz v (HY h1)
    ·rcases FQ.1 h1 with h1 | h1
     ·exact hm _ (GD ..) v h1
     ·exact hz v (JU h1)
theorem bla {T:TypeId} {parts:Array (Nat×Operand)} {l:List (Nat×Operand)} {m:List (Nat×List Value)} {L:List (Nat×Nat)} {z res:List Value} (hl:parts.toList=l) (hp:(fieldsOf P T).bind (Be P)=some L) (hz:(P.info? T).map (·.zero)=some (some (.agg z.toArray))) (h:Pd Γ l m) (hf:Li L z m=some res) (h1:z.all (·.oneCell')=true) :
  OR P (.build T parts) ty Γ (Qa res):=by
 refine OR.val λρ M w r=>?_;obtain ⟨c1,c2⟩:=h.cells r;have hb:=Ap (P:=P) (w:=w) hp hz c1 hf;refine ⟨.agg res.toArray,λ_ _ _ _=>?_,rfl,rfl,So hf (by simpa using h1) c2⟩;have e1:parts.map (λp=>(p.1,ρ p.2))=(l.map λp=>(p.1,ρ p.2)).toArray:=by subst hl;rw [← G4]
 have e2:(λ(x:Nat×Operand)=>match x with | (i,x)=>(i,ρ x))=λp=>(p.1,ρ p.2):=rfl
 simp only [execOp,e1,EU,hb,ER,EW]
end
end Go.Pn
namespace Go.Pn
open Go Go.RowKit
variable {rr:Option Nat}
def mks {α:Type} (z:α) (n:Int):Option (List α):=if 0<=n/\n<=1073741824 then some (List.replicate n.toNat z) else none
def lsl {α:Type} (xs:List α) (l h:Int):Option (List α):=if 0<=l/\l<=h/\h<=xs.length then some ((xs.drop l.toNat).take (h.toNat - l.toNat)) else none
section
variable {P:Program} {M0:Fm} {w0:World} {n:Nat} {Γ:Cx} {Q:Exit->Act->World->Prop} {a:Act} {w:World} {ty:TypeId}
theorem mve {x:Operand} {e:Ent} [z:Zf e] (h:Od Γ x e):OR P (.move x) ty Γ e:=
 OR.val λρ M w r=>let ⟨F,hF⟩:=h ρ M w r;⟨ρ x,λ_ _ _ _=>rfl,by have h1:=z.z hF;subst h1;exact hF⟩
theorem tv {d:Nat} {e:Ent} [z:Zf e] (h:St M0 w0 n Γ a w) (ho:Od Γ (.tmp d) e):St M0 w0 n ((d,e) :: Γ) a w:=by
 obtain ⟨M,φ,h⟩:=h;obtain ⟨F,hF⟩:=ho a.eval M w h.rd;obtain rfl:=z.z hF;unfold St;rw [Aj];refine ⟨M,λt=>if t=d then [] else φ t,λt' e' he=>?_,λt ht=>?_,λt s hts ht hs=>?_,h.sub,h.bd,h.fr,h.sz,h.df⟩
 ·simp only [put] at he;by_cases h3:t'=d
  ·subst h3;simp only [if_true,Option.some.injEq] at he ⊢;subst he;exact hF
  ·simp only [if_neg h3] at he ⊢;exact h.holds t' e' he
 ·by_cases h3:t=d
  ·simp [h3]
  ·simp only [put,if_neg h3] at ht ⊢;exact h.own t ht
 ·by_cases h3:t=d
  ·simp [h3]
  ·by_cases h4:s=d
   ·simp [h4]
   ·simp only [put,if_neg h3,if_neg h4] at ht hs ⊢;exact h.apart t s hts ht hs
theorem Ja {α:Type} [Rep α] {R:Prop} {d:Nat} (k e:Nat) (h:St M0 w0 n Γ a w) (hd:Am Γ d=some (Qv (.slice none 0 0))) (hne:Nat.beq d k=false) (r:∀ c,St M0 w0 n ((d,Qv c) :: (k,Ow e c ([]:List α)) :: Γ) a w->R):R:=by
 refine r (.slice none 0 0) ?_;have h1:=h.nilO (α:=α) k e;refine StF.less h1 λt e' he=>?_;rw [Aj] at he;simp only [put] at he;split at he
 ·rename_i ht;subst ht;cases he
  rw [Aj];simp only [put];rw [if_neg (F8 hne)];exact hd
 ·exact he
theorem B9 {α:Type} [Rep α] {R:Prop} {k b:Nat} {cs:List Value} {cs':Value->List Value} (j e:Nat) (h:St M0 w0 n Γ a w) (hk:Am Γ k=some (Mr b cs)) (hc:∀ _:Unit,cs' (.slice none 0 0)=cs) (hne:Nat.beq k j=false) (r:∀ c,St M0 w0 n ((k,Mr b (cs' c)) :: (j,Ow e c ([]:List α)) :: Γ) a w->R):R:=by
 refine r (.slice none 0 0) ?_;rw [hc ()];have h1:=h.nilO (α:=α) j e;refine StF.less h1 λt e' he=>?_;rw [Aj] at he;simp only [put] at he;split at he
 ·rename_i ht;subst ht;cases he
  rw [Aj];simp only [put];rw [if_neg (F8 hne)];exact hk
 ·exact he
theorem rca {t T K b:Nat} {cs:List Value} (h:Am Γ t=some (Qv (pb b 0))) (hk:Am Γ K=some (Mr b cs)) (ha:(P.underlying T).map Bp=some true) (hl:cs.length=cs.length) (hs:(P.info? T).map (·.size)=some cs.length):RS P Γ (.cell t T) (Qa cs):=λ_ _ _ a w M φ st=>by
 obtain ⟨_,hv⟩:=st.holds t _ h;have hh:=st.holds K _ hk;have hv':a.tmps.getD t undef=.pointer (some ⟨b,0,none⟩):=hv;refine ⟨.agg cs.toArray,?_,rfl,rfl,hh.2.2⟩;have hr:(sizeOf T).run P w=.ok cs.length w:=by
  cases hi:P.info? T with
  | none=>simp [hi] at hs
  | some i=>simp [hi] at hs;simp [sizeOf,typeInfo,hi,hs]
 simp only [rsv,hv',asAddr,EU,EW,ER,loadVar,Ty.run_agg ha,if_true,hr];rw [run_loadCells_list w ⟨b,0,none⟩ cs (λj v hj=>by rw [Bc,GV];exact Mr.cell hh j v hj)];rfl
theorem swd {ops:Array Oper} {rest:List Oper} {T K:Nat} {x y:Operand} {pos:String} {aft:Array Edge} {α:Type} [Rep α] [ht:Ty P T α] {b:Nat} {v:α} {cs:List Value}
  (hs:St M0 w0 n Γ a w) (hx:Od Γ x (Qv (pb b 0))) (hk:Am Γ K=some (Mr b cs)) (hy:Od Γ y (Va v)) (hl:cs.length=Rep.sz α)
  (k:∀ w',St M0 w0 n ((K,Mg b v) :: Γ) a w'->wpListIn (Fr rr) 0 P ops Q rest a w'):wpListIn (Fr rr) 0 P ops Q (⟨none,.store T x y,ty,pos,aft,none⟩ :: rest) a w:=by
 refine wpListIn_plain rfl λKc hK=>?_;obtain ⟨M,φ,h⟩:=hs;obtain ⟨_,_,hpv⟩:=hx _ _ _ h.rd;obtain ⟨hF,⟨T',hc⟩,h1⟩:=h.holds K _ hk;obtain ⟨_,_,m,hm,hmr⟩:=hy _ _ _ h.rd;refine Bh.upon (Bh.skip (w':=w.setRow b m.toArray) ?_ ?_)
 ·have hst:(storeVar T ⟨b,0,none⟩ (mk (Rep.agg α) m)).run P w=.ok () (w.setRow b m.toArray):=by
   have:=Do (P:=P) (M:=M) (v:=mk (Rep.agg α) m) (m:=m) (off:=0) ht.size (Cb hmr) hc (Rep.len hmr) (Rep.one hmr) (by rw [Rep.len hmr,← hl];simp);rw [this];congr 3;simp only [GV,H8,G1];rw [FN (by rw [Rep.len hmr,← hl];simp),GA]
  simp only [execOp,hpv,hm,Instr.storeAt,Instr.sureAddr,EU,EW,ER,hst]
 ·refine hK _ _ (k _ ?_);unfold St;rw [Aj];refine h.write (by rw [hk];rfl) (by rw [hF];simp) (Ext.setRow w b _) ⟨hF,m.toArray,T',setRow_heap w b _ _ T' _ hc,?_⟩;refine Rep.ext (by simpa using hmr) ((Ext.setRow w b _).mono λk _ hk'=>?_);subst hk';exact ((h.own K (by rw [hk];rfl)).2 _ (by rw [hF];simp)).1
theorem BO {α:Type} [Rep α] {T:TypeId} {z:α} [hz:Zr P T z] {i:TypeInfo} {v:Value} (hi:P.info? T=some i) (hv:i.zero=some v) (M:Nat->Prop) (w:World):∃ cs,v.cells=cs.toArray/\Rep.rep M w cs z:=by
 obtain ⟨cs,h1,h2⟩:=hz.zero;rw [hi,Option.map_some,hv] at h1;simp only [Option.some.injEq] at h1;exact ⟨cs,by rw [h1];exact Cb (h2 M w),h2 M w⟩
theorem Wh {α:Type} [Rep α] {M:Nat->Prop} {w:World} {z:α} {cs:List Value} (h:Rep.rep M w cs z) (hp:0 < Rep.sz α):∀ m:Nat,Chk M w (madeCells cs.toArray (m * Rep.sz α)).toList (List.replicate m z)
 | 0=>by
  show _=[];simp [madeCells]
 | m + 1=>by
  rw [List.replicate_succ];refine ⟨cs,(madeCells cs.toArray (m * Rep.sz α)).toList,?_,h,Wh h hp m⟩;have hl:=Rep.len h;apply HO;intro j;have hsz:cs.toArray.size=Rep.sz α:=by simpa using hl
  rcases GE j cs.length with h1 | h1
  ·rw [E5 h1];have hj:j < (m + 1) * Rep.sz α:=by rw [G3];omega
   simp only [madeCells,G4,Array.toList_range,FD,FB hj,Option.map_some,hsz];rw [H2 om_];rw [FY h1];simp [h1]
  ·rw [EV h1];by_cases hj:j < (m + 1) * Rep.sz α
   ·have hj2:j - cs.length < m * Rep.sz α:=by rw [G3] at hj;omega
    simp only [madeCells,G4,Array.toList_range,FD,FB hj,FB hj2,Option.map_some,hsz];congr 2;rw [hl,← Nat.mod_eq_sub_mod om_]
   ·have hj2:¬ j - cs.length < m * Rep.sz α:=by rw [G3] at hj;omega
    rw [GC (by simp [madeCells];omega),GC (by simp [madeCells];omega)]
theorem mkS {α:Type} [Rep α] {T e:Nat} [he:Ea P T e α] {z:α} [hz:Zr P e z] {x y:Operand} {m:Int} {xs:List α} (hx:Od Γ x (Va m)) (hy:Od Γ y (Va m)) (h:mks z m=some xs):OR P (.makeSlice T x y) ty Γ (Or e xs):=by
 unfold mks at h;split at h
 case isFalse=>cases h
 rename_i hc;cases h
 refine OR.run λρ M w r=>?_;obtain ⟨_,h1⟩:=hx ρ M w r;obtain ⟨_,h2⟩:=hy ρ M w r;obtain ⟨i,zv,hi,hzv,hs,hb,hzs⟩:=he.inf;have hb':=FA hb;have hp:0 < Rep.sz α:=FA he.pos;obtain ⟨k,rfl⟩:∃ k:Nat,m=k:=⟨m.toNat,by omega⟩;have hk:k<=1073741824:=by omega
 have hr:=run_make (P:=P) w T e i zv he.el hi hzv .i64 .i64 (k:Int) (k:Int) om_ (Int.le_refl _) (by
  have:i.bytes * k<=65536 * 1073741824:=Nat.mul_le_mul hb' hk;have h3:((i.bytes * k:Nat):Int)<=281474976710656:=by omega
  rwa [Int.natCast_mul] at h3) om_
 simp only [F7,hs] at hr;obtain ⟨cs,hcs,hrep⟩:=BO (P:=P) (z:=z) hi hzv M w;refine ⟨.slice (some ⟨w.heap.size,0,none⟩) k k,w.alloc (.cells (madeCells zv.cells (k * Rep.sz α)) e),λ_ _ _ _=>by simp only [execOp,Va.int h1,Va.int h2,EU,hr,ER,EW],Ext.alloc _ _ _,[w.heap.size],by simp,λq hq=>?_,.inl ⟨rfl,(madeCells cs.toArray (k * Rep.sz α)).toList,?_,?_⟩⟩
 ·simp at hq;subst hq;exact ⟨Nat.le_refl _,by simp⟩
 ·rw [hcs,F7,List.length_replicate];exact World.ownsRow_lit (base:=0) (e:=e) (size:=Rep.sz α) w (madeCells cs.toArray (k * Rep.sz α)) k (GH _) (by unfold maxLen;omega) (by simp [madeCells])
 ·rw [F7];refine Chk.ext (Ext.alloc _ _ _) (Chk.sub (λq hq' hq=>?_) (Wh hrep hp k));rcases hq with hq | hq
  ·exact hq
  ·simp at hq;omega
end
end Go.Pn
namespace Go.Pn
open Go Go.RowKit
section
variable {P:Program} {M0:Fm} {w0:World} {n:Nat} {Γ:Cx} {a:Act} {w:World}
theorem StM.more1 {M:Nat->Prop} {φ:Nat->List Nat} (h:StM M0 w0 n (Am Γ) a w M φ) (k:Nat) {e:Ent} (tn:∀ v,e.p [] M w v):StM M0 w0 n (Am ((k,e) :: Γ)) a w M (λt=>if t=k then [] else φ t):=by
 rw [Aj];refine ⟨λt' e' he=>?_,λt ht=>?_,λt s hts ht hs=>?_,h.sub,h.bd,h.fr,h.sz,h.df⟩
 ·simp only [put] at he;by_cases h3:t'=k
  ·subst h3;simp only [if_true,Option.some.injEq] at he ⊢;subst he;exact tn _
  ·simp only [if_neg h3] at he ⊢;exact h.holds t' e' he
 ·by_cases h3:t=k
  ·simp [h3]
  ·simp only [put,if_neg h3] at ht ⊢;exact h.own t ht
 ·by_cases h3:t=k
  ·simp [h3]
  ·by_cases h4:s=k
   ·simp [h4]
   ·simp only [put,if_neg h3,if_neg h4] at ht hs ⊢;exact h.apart t s hts ht hs
theorem St.turnT {M:Nat->Prop} {φ:Nat->List Nat} {d:Nat} {e e':Ent} [z:Zf e] (h:StM M0 w0 n (Am Γ) a w M φ) (hd:Am Γ d=some e) (hp:e'.p [] M w (a.get d)):St M0 w0 n ((d,e') :: Γ) a w:=by
 refine St.turnV ⟨M,φ,⟨rfl,rfl⟩,h⟩ hd ?_;have:=z.z (h.holds d _ hd);rw [this];exact hp
theorem Dp {d k:Nat} {ks:List Nat} (h:dis (d :: k :: ks)=true):¬ d=k/\dis (d :: ks)=true:=by
 obtain ⟨h1,h2⟩:=Av h;obtain ⟨h3,h4⟩:=Av h2;refine ⟨λe=>h1 k (GD ..) e.symm,?_⟩;simp only [dis,E3,FX,F4] at h ⊢;exact ⟨λj hj=>h.1 j (FR _ hj),h4⟩
end
end Go.Pn
