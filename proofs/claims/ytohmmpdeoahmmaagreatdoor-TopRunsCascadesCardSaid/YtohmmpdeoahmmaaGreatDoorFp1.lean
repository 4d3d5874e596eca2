import Derived.WalkKit
import Derived.RangeFuncIn
import Derived.RangeFuncLeaves
import Derived.TacticsIn
import Derived.OrdersIn
import Derived.ControlIn
import Derived.WalkSpells
import Derived.Orders
import Derived.ChangeArms
import Derived.ChangeSame
import Derived.ProofKit
import Derived.RowKit
import Derived.Below
import Derived.WideKeyArgs
import Derived.OpenShut
import Derived.LaidMore
import Derived.Lay
import Derived.SevenTiedAt
import Derived.Stop.Joined
import Derived.Test.YtohmmpdeoahmmaaGreatDoorProg
import Derived.Maps.AppendAt
import Derived.Laws.OwnMore
import Derived.Laws.StructEq
import Derived.Laws.MakeOwn
import Derived.Laws.Runes
import Derived.MapKept
import Derived.WideKeyRuns
import Derived.ChangeKeysEq
import Derived.Lib.AppendZeros
import Derived.Deep.Draws
import Derived.Ground.NamesProg
import Derived.Shelf.Sort.Plain
import Derived.Shelf.Slices.In.SortNone
import Derived.Shelf.Slices.CompactI
import Derived.Shelf.Strconv.Itoa3
import Derived.Shelf.Bits.Mul64
import Derived.RangeFuncRecord
import Derived.Laws.CopyRow
import Derived.Laws.RangeAny
import Derived.Lib.Strings
import Derived.Lib.Slices
import Derived.Lib.Walk
import Derived.Lib.Builder
import Derived.Lib.AppendStr
import Derived.Lib.UnsafeStr
import Derived.Lib.MakeNoZero
import Derived.Lib.LaidTab
import Derived.Deep.RegionLaw
import Derived.Lib.SliceRun
import Derived.Lib.SlicesDelete
import Derived.Stop.LaidErr
set_option synthInstance.checkSynthOrder false
set_option synthInstance.maxSize 10000
set_option synthInstance.maxHeartbeats 400000
set_option maxRecDepth 100000
set_option maxHeartbeats 4000000
set_option linter.unusedVariables false
set_option linter.unusedSimpArgs false
set_option linter.defProp false
namespace Go
abbrev PZ:=List _root_.Int
abbrev P0:=List _root_.Bool
abbrev P1:=List _root_.Nat
abbrev P2:=List Go.Value
abbrev P3:=_root_.ByteArray
def KE:=@Go.Result.andThen_ok
def KG:=@List.getElem?_eq_some_iff
def KH:=@List.length_append
def KJ:=@Go.Sem.run_bind
def KM:=@List.getD_eq_getElem?_getD
def KN:=@Array.getD_eq_getD_getElem?
def KO:=@List.getElem?_append_right
def KQ:=@Go.Sem.run_pure
def KR:=@List.getElem?_append_left
def KS:=@Array.getElem?_eq_some_iff
def KU:=@Bool.and_eq_true
def KV:=@List.getElem_mem
def KW:=@List.all_eq_true
def KX:=@List.mem_range
def KY:=@Nat.le_of_ble_eq_true
def KZ:=@List.getElem?_map
def K0:=@List.mem_of_getElem?
def K1:=@List.any_eq_true
def K3:=@List.append_assoc
def K4:=@List.map_cons
def K5:=@List.length_map
def K6:=@List.getElem?_range
def K7:=@List.mem_map
def K8:=@List.mem_cons
def K9:=@Nat.le_refl
def LA:=@List.mem_append
def LB:=@List.drop_eq_getElem_cons
def LC:=@List.mem_append_right
def LD:=@List.mem_append_left
def LE:=@Array.getElem?_setIfInBounds_ne
def LF:=@List.drop_eq_nil_of_le
def LG:=@List.getElem?_eq_none
def LH:=@List.map_toArray
def LJ:=@List.length_take
def LK:=@List.mem_cons_of_mem
def LL:=@List.findIdx?_eq_some_iff_getElem
def LM:=@List.length_cons
def LN:=@List.getElem?_take_of_lt
def LO:=@List.mem_cons_self
def LP:=@List.append_nil
def LQ:=@List.map_nil
def LR:=@Nat.lt_of_lt_of_le
def LS:=@Nat.eq_or_lt_of_le
def LT:=@Bool.not_eq_true'
def LU:=@Nat.ne_of_beq_eq_false
def LV:=@Nat.lt_or_ge
def LW:=@Nat.le_trans
def LX:=@List.drop_zero
def LY:=@List.getElem?_of_mem
def LZ:=@Bool.eq_iff_iff
def L0:=@Nat.zero_le
def L4:=@Array.getElem?_eq_getElem
def L5:=@List.nodup_nil
def L6:=@List.range_succ
def L7:=@List.length_range
def L8:=@Int.toNat_natCast
def L9:=@List.getElem?_eq_getElem
def MA:=@List.any_eq_false
def MC:=@List.take_add_one
def MD:=@List.map_append
def ME:=@List.flatMap_append
def MF:=@List.take_of_length_le
def MG:=@List.getElem?_set_self
def MH:=@Option.bind_eq_some_iff
def MJ:=@Nat.zero_add
def ML:=@List.getElem?_replicate
def MN:=@List.eq_nil_of_length_eq_zero
def MO:=@Option.getD_some
def MP:=@List.findIdx?_eq_none_iff
def MQ:=@List.nil_append
def MS:=@List.mem_filter
def MT:=@Bool.and_true
def MU:=@List.mem_singleton
def MV:=@Array.getElem?_toList
def MW:=@List.mem_iff_getElem?
def MX:=@Nat.eq_of_beq_eq_true
def MY:=@List.length_set
def MZ:=@Go.Lib.cell_of_heap
def M3:=@Bool.not_true
def M4:=@List.getElem?_set_ne
def M5:=@Nat.mul_one
def M6:=@Option.isSome_iff_exists
def M7:=@List.ext_getElem?
def M8:=@Bool.false_or
def M9:=@Bool.or_eq_true
def NA:=@Array.toList_map
def NB:=@List.length_pos_iff
def NC:=@Nat.add_mul
def ND:=@Array.getElem?_setIfInBounds
def NE:=@Nat.add_sub_cancel
def NF:=@List.size_toArray
def NG:=@Option.map_none
def NH:=@List.length_nil
def NJ:=@List.take_length
def NK:=@List.pairwise_cons
def NL:=@Bool.true_and
def NM:=@Bool.or_false
def NN:=@Bool.and_false
def NO:=@List.mem_of_mem_take
def NP:=@List.length_eq_zero_iff
def NQ:=@Int.eq_ofNat_of_zero_le
def NR:=@Option.bind_some
def NS:=@Nat.add_zero
def NT:=@List.length_drop
def NU:=@List.cons_append
def NV:=@Nat.le_add_right
def NW:=@List.mem_filterMap
def NX:=@Array.getElem?_modify
def NY:=@Nat.eq_zero_or_pos
def NZ:=@List.length_filter_le
def N0:=@List.nodup_append
def N1:=@List.flatten_cons
def N2:=@List.flatMap_cons
def N3:=@Nat.lt_irrefl
def N4:=@Option.map_eq_some_iff
def N5:=@List.getElem?_drop
def N6:=@List.filter_append
def N7:=@List.all_cons
def N8:=@List.take_append_drop
def N9:=@Bool.and_eq_false_iff
def OA:=@Nat.lt_trichotomy
def OB:=@List.take_zero
def OC:=@Bool.not_false
def OD:=@Bool.or_eq_false_iff
def OE:=@Nat.sub_self
def OF:=@Nat.mod_eq_of_lt
def OG:=@List.any_cons
def OH:=@List.foldl_cons
def OJ:=@List.getElem?_take
def OK:=@List.find?_eq_none
def OL:=@Nat.sub_add_cancel
def ON:=@Array.all_eq_true_iff_forall_mem
def OP:=@Nat.mul_le_mul
def OQ:=@Go.Lib.wpList_append_run
def OS:=@List.mem_of_mem_drop
def OT:=@List.count_le_length
def OU:=@List.take_append_of_le_length
def OV:=@List.map_eq_nil_iff
def OW:=@List.flatten_append
def OX:=@Go.Lib.strCells_length
def OY:=@Array.any_eq_true'
def OZ:=@Array.toList_setIfInBounds
def O0:=@Array.getElem?_append_left
def O1:=@List.count_pos_iff
def O2:=@Array.size_append
def O3:=@List.pairwise_iff_getElem
def O4:=@List.mem_of_find?_eq_some
def O5:=@List.getElem?_eq_none_iff
def O6:=@Go.Lib.run_unsafeString_none
def O7:=@List.eq_of_mem_replicate
def O8:=@List.getElem_map
def O9:=@List.filter_cons
def PA:=@List.ext_getElem
def PB:=@Nat.add_sub_cancel_left
def PC:=@Nat.succ_mul
def PD:=@List.append_inj
def PE:=@List.any_append
def PF:=@Nat.min_eq_left
def PG:=@Int.natCast_mul
def PH:=@Nat.ble_eq_true_of_le
def PJ:=@Array.toArray_toList
def PK:=@List.drop_drop
def PM:=@Bool.false_and
def PN:=@Nat.le_succ
def PO:=@Int.le_refl
def PP:=@Array.length_toList
def PQ:=@Option.toList_some
def PR:=@List.replicate_succ
def PS:=@List.map_congr_left
def PT:=@List.filterMap_cons
def PU:=@Array.foldl_toList
def PV:=@Nat.add_assoc
def PW:=@List.zip_cons_cons
def PX:=@List.count_eq_zero
def PY:=@List.map_map
end Go
namespace Go.Pn
open Go Go.RowKit
theorem ab {α β : Type} {a : α} {f : α → Option β} : (some a).bind f = f a := rfl
theorem ak {α : Type} {l : List α} {i : Nat} (h : i < l.length) : l[i]? = some l[i] := L9 h
theorem au {p : Prop} [inst : Decidable p] (h : p) : decide p = true := decide_eq_true h
theorem ar {p : Prop} [inst : Decidable p] (h : ¬p) : decide p = false := decide_eq_false h
theorem bl : ((0 : Int) != 0) = false := rfl
theorem dE : (!true) = false := rfl
theorem pO : (!false) = true := rfl
theorem af {α : Type} {a b : α} : (bif false then a else b) = b := rfl
theorem ah {α : Type} {a b : α} : (bif true then a else b) = a := rfl
abbrev nz : Go.Value := .slice none 0 0
theorem ae {p : Prop} (h : p := by kernel_rfl) : p := h
theorem aa {p : Prop} (h : p := by omega) : p := h
theorem ai {p : Prop} (h : p := by simp) : p := h
theorem aF {p : Prop} (h : p := by simp;omega) : p := h
section
def Fr (ro:Option Nat):Fence:={ fn:=λ_=>True,depth:=none,alive:=false,round:=ro }
theorem GA {ro:Option Nat} {n:Nat} {P:Program} {f:FuncId} {args:Array Value} {w:World} {R:Ending->World->Prop}:CallsIn (Fr ro) n P f args w R↔Calls P f args w R:=by have h:CallsIn (Fr ro) n P f args w R↔CallsIn Fence.wide n P f args w R:=Iff.rfl;exact h.trans callsIn_wide
theorem Ym {ro:Option Nat} {k:Nat}:(Fr ro).depth.isSome=true->1<=k:=λh=>by simp [Fr] at h
structure Ext (M:Nat->Prop) (w w':World):Prop where
  os:w'.os=w.os
  tape:w'.tape=w.tape
  output:w'.output=w.output
  size:w.heap.size<=w'.heap.size
  block:∀ k,k < w.heap.size->¬ M k->w'.heap[k]?=w.heap[k]?
  dr:w.drawn<=w'.drawn
def No:Nat->Prop:=λ_=>False
theorem Ext.refl (M:Nat->Prop) (w:World):Ext M w w:=⟨rfl,rfl,rfl,K9 _,λ_ _ _=>rfl,K9 _⟩
theorem Ext.trans {M:Nat->Prop} {a b c:World} (h:Ext M a b) (k:Ext M b c):Ext M a c:=
  ⟨k.os.trans h.os,k.tape.trans h.tape,k.output.trans h.output,LW h.size k.size,
   λi hi hm=>(k.block i (LR hi h.size) hm).trans (h.block i hi hm),LW h.dr k.dr⟩
theorem Ext.mono {M M':Nat->Prop} {w w':World} (h:Ext M w w') (hM:∀ k,k < w.heap.size->M k->M' k):Ext M' w w':=
  ⟨h.os,h.tape,h.output,h.size,λk hk hm=>h.block k hk λhk'=>hm (hM k hk hk'),h.dr⟩
theorem Ext.no {M:Nat->Prop} {w w':World} (h:Ext No w w'):Ext M w w':=h.mono λ_ _ f=>f.elim
theorem Ext.drew (M:Nat->Prop) (w:World):Ext M w w.drew:=⟨rfl,rfl,rfl,K9 _,λ_ _ _=>rfl,PN _⟩
theorem Ext.drawn (M:Nat->Prop) (w:World) (n:Nat) (h:w.drawn<=n):Ext M w { w with drawn:=n }:=⟨rfl,rfl,rfl,K9 _,λ_ _ _=>rfl,h⟩
theorem Ext.alloc (M:Nat->Prop) (w:World) (o:Obj):Ext M w (w.alloc o):=
  ⟨rfl,rfl,rfl,by simp,λk hk _=>Below.heap_alloc w o k hk,K9 _⟩
theorem Ext.setCell {M:Nat->Prop} (w:World) (a:Addr) (v:Value) (h:M a.block):Ext M w (w.setCell a v):=
  ⟨rfl,rfl,rfl,by simp [World.setCell],λk _ hm=>Below.heap_setCell w a v k λe=>hm (e ▸ h),K9 _⟩
theorem Ext.below {w w':World} (h:Ext No w w'):Below w.heap.size w w':=
  ⟨h.os,h.tape,h.output,h.size,λk hk=>h.block k hk id⟩
theorem F9 {w:World} {b o:Nat} {v:Value} (h:w.cell? ⟨b,o,none⟩=some v):b < w.heap.size:=by (unfold World.cell? at h;rcases LV b w.heap.size with h1 | h1);exact h1;simp [Array.getElem?_eq_none h1] at h
def Cl (M:Nat->Prop) (w:World) (b o:Nat) (v:Value):Prop:=¬ M b/\w.cell? ⟨b,o,none⟩=some v
theorem Cl.ext {M:Nat->Prop} {w w':World} {b o:Nat} {v:Value} (h:Cl M w b o v) (e:Ext M w w'):Cl M w' b o v:=
  ⟨h.1,by rw [← h.2];exact World.cell?_of_block (w:=w) (e.block b (F9 h.2) h.1)⟩
theorem Cl.sub {M M':Nat->Prop} {w:World} {b o:Nat} {v:Value} (h:Cl M w b o v) (s:∀ k,k < w.heap.size->M' k->M k):Cl M' w b o v:=
  ⟨λhm=>h.1 (s b (F9 h.2) hm),h.2⟩
class Rep (α:Type) where
  sz:Nat
  agg:Bool
  rep:(Nat->Prop)->World->P2->α->Prop
  len:∀ {M w cs x},rep M w cs x->cs.length=sz
  ext:∀ {M w w' cs x},rep M w cs x->Ext M w w'->rep M w' cs x
  sub:∀ {M M' w cs x},rep M w cs x->(∀ k,k < w.heap.size->M' k->M k)->rep M' w cs x
  one:∀ {M w cs x},rep M w cs x->∀ c∈cs,c.oneCell'=true
  flat:agg=false->sz=1
def mk (agg:Bool) (cs:P2):Value:=if agg then .agg cs.toArray else cs.headD undef
def V {α:Type} [Rep α] (x:α) (M:Nat->Prop) (w:World) (v:Value):Prop:=∃ cs,v=mk (Rep.agg α) cs/\Rep.rep M w cs x
def Cls (M:Nat->Prop) (w:World) (b o:Nat) (cs:P2):Prop:=∀ j v,cs[j]?=some v->Cl M w b (o + j) v
def Pl {α:Type} [Rep α] (x:α) (M:Nat->Prop) (w:World) (b o:Nat):Prop:=∃ cs,Cls M w b o cs/\Rep.rep M w cs x
theorem Cls.ext {M:Nat->Prop} {w w':World} {b o:Nat} {cs:P2} (h:Cls M w b o cs) (e:Ext M w w'):Cls M w' b o cs:=
  λj v hj=>(h j v hj).ext e
theorem Cls.sub {M M':Nat->Prop} {w:World} {b o:Nat} {cs:P2} (h:Cls M w b o cs) (s:∀ k,k < w.heap.size->M' k->M k):Cls M' w b o cs:=
  λj v hj=>(h j v hj).sub s
theorem Cls.append {M:Nat->Prop} {w:World} {b o:Nat} {cs ds:P2} (h:Cls M w b o (cs ++ ds)):Cls M w b o cs/\Cls M w b (o + cs.length) ds:=by refine ⟨λj v hj=>h j v ?_,λj v hj=>?_⟩;rw [KR];exact hj;(rcases LV j cs.length with h1 | h1);exact h1;simp [LG h1] at hj;have:=h (cs.length + j) v (by rw [KO aa];simpa using hj);rwa [PV]
section
variable {α:Type} [Rep α] {x:α} {M M':Nat->Prop} {w w':World} {v:Value} {b o:Nat}
theorem V.ext (h:V x M w v) (e:Ext M w w'):V x M w' v:=let ⟨cs,hv,hr⟩:=h;⟨cs,hv,Rep.ext hr e⟩
theorem V.sub (h:V x M w v) (s:∀ k,k < w.heap.size->M' k->M k):V x M' w v:=let ⟨cs,hv,hr⟩:=h;⟨cs,hv,Rep.sub hr s⟩
theorem Pl.ext (h:Pl x M w b o) (e:Ext M w w'):Pl x M w' b o:=let ⟨cs,hv,hr⟩:=h;⟨cs,hv.ext e,Rep.ext hr e⟩
theorem Pl.sub (h:Pl x M w b o) (s:∀ k,k < w.heap.size->M' k->M k):Pl x M' w b o:=let ⟨cs,hv,hr⟩:=h;⟨cs,hv.sub s,Rep.sub hr s⟩
end
instance:Rep Bool where
  sz:=1
  agg:=false
  rep _ _ cs x:=cs=[.bool x]
  len h:=by rw [h];rfl
  ext h _:=h
  sub h _:=h
  one h:=by rw [h];simp [Value.oneCell']
  flat _:=rfl
instance:Rep Int where
  sz:=1
  agg:=false
  rep _ _ cs x:=cs=[.int .i64 x]
  len h:=by rw [h];rfl
  ext h _:=h
  sub h _:=h
  one h:=by rw [h];simp [Value.oneCell']
  flat _:=rfl
instance:Rep UInt8 where
  sz:=1
  agg:=false
  rep _ _ cs x:=cs=[.int .u8 x.toNat]
  len h:=by rw [h];rfl
  ext h _:=h
  sub h _:=h
  one h:=by rw [h];simp [Value.oneCell']
  flat _:=rfl
instance:Rep P3 where
  sz:=1
  agg:=false
  rep _ _ cs x:=cs=[.string x]
  len h:=by rw [h];rfl
  ext h _:=h
  sub h _:=h
  one h:=by rw [h];simp [Value.oneCell']
  flat _:=rfl
def Row {α:Type} [Rep α] (M:Nat->Prop) (w:World) (b:Nat):Nat->List α->Prop
  | _,[]=>True
  | o,x :: xs=>Pl x M w b o/\Row M w b (o + Rep.sz α) xs
section
variable {α:Type} [Rep α] {M M':Nat->Prop} {w w':World} {b:Nat}
theorem Row.ext (e:Ext M w w'):∀ {xs:List α} {o:Nat},Row M w b o xs->Row M w' b o xs
  | [],_,_=>trivial
  | _ :: _,_,h=>⟨h.1.ext e,Row.ext e h.2⟩
theorem Row.sub (s:∀ k,k < w.heap.size->M' k->M k):∀ {xs:List α} {o:Nat},Row M w b o xs->Row M' w b o xs
  | [],_,_=>trivial
  | _ :: _,_,h=>⟨h.1.sub s,Row.sub s h.2⟩
theorem Row.get:∀ {xs:List α} {o i:Nat} {x:α},Row M w b o xs->xs[i]?=some x->Pl x M w b (o + i * Rep.sz α)
  | [],_,_,_,_,hx=>by simp at hx
  | y :: ys,o,0,x,h,hx=>by
    obtain rfl:y=x:=by simpa using hx
    simpa using h.1
  | y :: ys,o,i + 1,x,h,hx=>by
    have:=Row.get (i:=i) h.2 (by simpa using hx)
    rwa [show o + (i + 1) * Rep.sz α=o + Rep.sz α + i * Rep.sz α by rw [NC];omega]
theorem Row.of_get:∀ {xs:List α} {o:Nat},(∀ i x,xs[i]?=some x->Pl x M w b (o + i * Rep.sz α))->Row M w b o xs
  | [],_,_=>trivial
  | y :: ys,o,h=>by
    refine ⟨by simpa using h 0 y rfl,Row.of_get λi x hx=>?_⟩;have:=h (i + 1) x (by simpa using hx)
    rwa [show o + (i + 1) * Rep.sz α=o + Rep.sz α + i * Rep.sz α by rw [NC];omega] at this
end
def Sl {α:Type} [Rep α] (M:Nat->Prop) (w:World) (v:Value) (xs:List α):Prop:=
  ∃ a cap,v=.slice a xs.length (cap + xs.length)/\(xs=[]\/∃ b o,a=some ⟨b,o,none⟩/\Row M w b o xs)
instance {α:Type} [Rep α]:Rep (List α) where
  sz:=1
  agg:=false
  rep M w cs xs:=∃ v,cs=[v]/\Sl M w v xs
  len h:=by obtain ⟨v,rfl,_⟩:=h;rfl
  ext h e:=by
    obtain ⟨v,rfl,a,cap,rfl,h⟩:=h;exact ⟨_,rfl,a,cap,rfl,h.imp id λ⟨b,o,ha,hr⟩=>⟨b,o,ha,hr.ext e⟩⟩
  sub h s:=by
    obtain ⟨v,rfl,a,cap,rfl,h⟩:=h;exact ⟨_,rfl,a,cap,rfl,h.imp id λ⟨b,o,ha,hr⟩=>⟨b,o,ha,hr.sub s⟩⟩
  one h:=by obtain ⟨v,rfl,a,cap,rfl,h⟩:=h;simp [Value.oneCell']
  flat _:=rfl
instance {α β:Type} [Rep α] [Rep β]:Rep (α×β) where
  sz:=Rep.sz α + Rep.sz β
  agg:=true
  rep M w cs x:=∃ c d,cs=c ++ d/\Rep.rep M w c x.1/\Rep.rep M w d x.2
  len h:=by obtain ⟨c,d,rfl,h1,h2⟩:=h;rw [KH,Rep.len h1,Rep.len h2]
  ext h e:=by obtain ⟨c,d,rfl,h1,h2⟩:=h;exact ⟨c,d,rfl,Rep.ext h1 e,Rep.ext h2 e⟩
  sub h s:=by obtain ⟨c,d,rfl,h1,h2⟩:=h;exact ⟨c,d,rfl,Rep.sub h1 s,Rep.sub h2 s⟩
  one h:=by
    obtain ⟨c,d,rfl,h1,h2⟩:=h;intro v hv;rcases LA.1 hv with h | h
    · exact Rep.one h1 v h
    · exact Rep.one h2 v h
  flat h:=by cases h
abbrev Rep.via {α β:Type} [Rep β] (f:α->β):Rep α where
  sz:=Rep.sz β
  agg:=true
  rep M w cs x:=Rep.rep M w cs (f x)
  len h:=Rep.len h
  ext h e:=Rep.ext h e
  sub h s:=Rep.sub h s
  one h:=Rep.one h
  flat h:=by cases h
end
section
variable {rr:Option Nat}
structure Ent where
 p:P1->(Nat->Prop)->World->Value->Prop
 st:∀ {F M w w' v},p F M w v->Ext (λk=>M k/\k ∉ F) w w'->p F M w' v
 sb:∀ {F M M' w v},p F M w v->(∀ k,k < w.heap.size->M' k->M k)->p F M' w v
abbrev Cx:=List (Nat×Ent)
def _root_.Go.Act.get (a:Act) (t:Nat):Value:=a.tmps.getD t undef
def Ao:Cx->Nat->Option Ent
 | [],_=>none
 | (s,e) :: Γ,t=>match Nat.beq s t with | true=>some e | false=>Ao Γ t
abbrev Mp:=Nat->Option Ent
structure Fm where
 k:Nat->Prop
 b:Nat->Prop
 ds:List Deferred
structure StM (M0:Fm) (w0:World) (n:Nat) (g:Mp) (a:Act) (w:World) (M:Nat->Prop) (φ:Nat->P1):Prop where
 holds:∀ t e,g t=some e->e.p (φ t) M w (a.get t)
 own:∀ t,(g t).isSome=true->(φ t).Nodup/\∀ k∈φ t,M k/\(w0.heap.size<=k\/M0.b k)
 apart:∀ t s,t≠s->(g t).isSome=true->(g s).isSome=true->∀ k∈φ t,k ∉ φ s
 sub:∀ k,M0.k k->M k
 bd:∀ k,M k->k < w.heap.size
 fr:Ext M0.b w0 w
 sz:a.tmps.size=n
 df:a.defers=M0.ds
def StF (M0:Fm) (w0:World) (n:Nat) (g:Mp) (a:Act) (w:World):Prop:=∃ M φ,StM M0 w0 n g a w M φ
abbrev St (M0:Fm) (w0:World) (n:Nat) (Γ:Cx) (a:Act) (w:World):Prop:=StF M0 w0 n (Ao Γ) a w
theorem _root_.Go.Act.get_put_ne {a:Act} {d t:Nat} {v:Value} (h:d≠t):(a.put (some d) v).get t=a.get t:=by simp [Act.get,Act.put,KN,LE h]
theorem _root_.Go.Act.get_put_eq {a:Act} {d:Nat} {v:Value} (h:d < a.tmps.size):(a.put (some d) v).get d=v:=by simp [Act.get,Act.put,KN,h]
theorem _root_.Go.Act.size_put {a:Act} {d:Option Nat} {v:Value}:(a.put d v).tmps.size=a.tmps.size:=by cases d <;> simp [Act.put]
theorem _root_.Go.Act.defers_put {a:Act} {d:Option Nat} {v:Value}:(a.put d v).defers=a.defers:=by cases d <;> rfl
theorem StF.less {M0:Fm} {w0:World} {n:Nat} {g g':Mp} {a:Act} {w:World} (h:StF M0 w0 n g a w) (s:∀ t e,g' t=some e->g t=some e):StF M0 w0 n g' a w:=by (let ⟨M,φ,h⟩:=h;have hs:∀ t,(g' t).isSome=true->(g t).isSome=true:=λt ht=>by let ⟨e,he⟩:=M6.1 ht;rw [s t e he];rfl);exact ⟨M,φ,λt e he=>h.holds t e (s t e he),λt ht=>h.own t (hs t ht),λt s' hne ht hs'=>h.apart t s' hne (hs t ht) (hs s' hs'),h.sub,h.bd,h.fr,h.sz,h.df⟩
def pick (Γ:Cx):P1->Cx
 | []=>[]
 | t :: l=>match Ao Γ t with
  | some e=>(t,e) :: pick Γ l
  | none=>pick Γ l
theorem Bj {Γ:Cx} {t:Nat} {e:Ent}:∀ {l:P1},Ao (pick Γ l) t=some e->Ao Γ t=some e
 | [],h=>by simp [pick,Ao] at h
 | s :: l,h=>by
  unfold pick at h;split at h
  ·rename_i e' he;unfold Ao at h;split at h
   ·rename_i hb;rw [← MX hb,he];exact h
   ·exact Bj h
  ·exact Bj h
theorem St.pick {M0:Fm} {w0:World} {n:Nat} {Γ:Cx} {a:Act} {w:World} (h:St M0 w0 n Γ a w) (l:P1):St M0 w0 n (Pn.pick Γ l) a w:=
 StF.less h λ_ _=>Bj
def l8 (P:Program) (R:Value->World->Prop):Result Next->Prop
 | .ok (.value v) w'=>R v w'
 | .ok .skip w'=>R undef w'
 | .ok (.enter f args) w'=>Calls P f args w' λe w''=>∃ v,e=.returned v/\R v w''
 | _=>False
def Bk (P:Program) (ρ:Operand->Value) (o:Oper) (w:World) (R:Value->World->Prop):Prop:=l8 P R ((execOp ρ o).run P w)
theorem Bk.mono {P:Program} {ρ:Operand->Value} {o:Oper} {w:World} {R R':Value->World->Prop} (h:Bk P ρ o w R) (hr:∀ v w',R v w'->R' v w'):Bk P ρ o w R':=by
 unfold Bk at *;generalize (execOp ρ o).run P w=r at *;cases r with
 | ok n w'=>
  cases n <;> first | exact hr _ _ h | exact h.elim | exact Calls.mono h λe w'' ⟨v,he,hv⟩=>⟨v,he,hr _ _ hv⟩
 | halt x w'=>exact h.elim
theorem Bk.upon {P:Program} {o:Oper} {a:Act} {w:World} {K:Act->World->Prop} {Q:Exit->Act->World->Prop} (h:Bk P a.eval o w λv w'=>K (a.put o.dst v) w'):o.wpIn (Fr rr) 0 P a w K Q:=by
 refine ⟨λ_ _=>trivial,?_⟩;have hs:(o.semAt rr a.eval).run P w=(execOp a.eval o).run P w:=by
  unfold Oper.semAt;cases rr with
  | none=>rfl
  | some l=>
   cases ho:o.op with
   | defer c=>
    exfalso;unfold Bk at h;simp only [execOp,ho,KJ] at h;generalize (resolve a.eval c o.type).run P w=r at h;cases r <;> exact h
   | _=>rfl
 rw [show (Fr rr).round=rr from rfl,hs];unfold Bk at h;generalize (execOp a.eval o).run P w=r at *;cases r with
 | ok n w'=>
  cases n <;> first | exact h | exact h.elim | exact ⟨Ym,GA.2 (Calls.mono h λe w'' ⟨v,he,hv⟩=>by subst he; exact hv)⟩
 | halt x w'=>exact h.elim
theorem Bk.val {P:Program} {ρ:Operand->Value} {o:Oper} {w w':World} {v:Value} {R:Value->World->Prop} (h:(execOp ρ o).run P w=.ok (.value v) w') (hr:R v w'):Bk P ρ o w R:=by unfold Bk;rw [h];exact hr
theorem Bk.skip {P:Program} {ρ:Operand->Value} {o:Oper} {w w':World} {R:Value->World->Prop} (h:(execOp ρ o).run P w=.ok .skip w') (hr:R undef w'):Bk P ρ o w R:=by unfold Bk;rw [h];exact hr
structure Rd (g:Mp) (M:Nat->Prop) (w:World) (ρ:Operand->Value):Prop where
 tmp:∀ t e,g t=some e->∃ F,e.p F M w (ρ (.tmp t))
 con:∀ v,ρ (.const v)=v
 fn:∀ f,ρ (.func f)=.func (.func f) #[] #[]
 bd:∀ k,M k->k < w.heap.size
 glo:∀ g,ρ (.global g)=.pointer (some ⟨g,0,none⟩)
def eQ (e:Ent) (M:Nat->Prop) (w:World) (v:Value) (w':World):Prop:=
 Ext No w w'/\∃ F,F.Nodup/\(∀ k∈F,w.heap.size<=k/\k < w'.heap.size)/\e.p F (λk=>M k\/k∈F) w' v
def ORF (P:Program) (op:Op) (ty:TypeId) (g:Mp) (e:Ent):Prop:=
 ∀ (d:Option Tmp) (pos:String) (ag:Array Edge) (gd:Option (Nat×Bool)) (ρ:Operand->Value) (M:Nat->Prop) (w:World),Rd g M w ρ ->
  Bk P ρ ⟨d,op,ty,pos,ag,gd⟩ w (eQ e M w)
abbrev OR (P:Program) (op:Op) (ty:TypeId) (Γ:Cx) (e:Ent):Prop:=ORF P op ty (Ao Γ) e
theorem StM.rd {M0:Fm} {w0:World} {n:Nat} {g:Mp} {a:Act} {w:World} {M:Nat->Prop} {φ:Nat->P1} (h:StM M0 w0 n g a w M φ):Rd g M w a.eval:=
 ⟨λt e hl=>⟨φ t,h.holds t e hl⟩,λ_=>rfl,λ_=>rfl,h.bd,λ_=>rfl⟩
def put (d:Nat) (e:Ent) (g:Mp):Mp:=λt=>if t=d then some e else g t
theorem Ak (d:Nat) (e:Ent) (Γ:Cx):Ao ((d,e) :: Γ)=put d e (Ao Γ):=by funext t;simp only [Ao,put];split;rename_i hb;rw [if_pos (MX hb).symm];rename_i hb;rw [if_neg];intro e;subst e;simp at hb
theorem StM.gives {M0:Fm} {w0:World} {n:Nat} {g:Mp} {a:Act} {w w':World} {M:Nat->Prop} {φ:Nat->P1} {d:Nat} {e:Ent} {v:Value}
  (h:StM M0 w0 n g a w M φ) (hg:eQ e M w v w') (hn:d < n):StF M0 w0 n (put d e g) (a.put (some d) v) w':=by let ⟨hx,F,hn1,hf1,hp⟩:=hg;refine ⟨λk=>M k\/k∈F,λt=>if t=d then F else φ t,?_,?_,?_,λk hk=>.inl (h.sub k hk),?_,h.fr.trans hx.no,by rw [Act.size_put];exact h.sz,by rw [Act.defers_put];exact h.df⟩;intro t e' he;unfold put at he;by_cases ht:t=d;subst ht;simp only [if_true,Option.some.injEq] at he ⊢;subst he;rw [Act.get_put_eq (by rw [h.sz];exact hn)];exact hp;rw [if_neg ht] at he;simp only [if_neg ht];rw [Act.get_put_ne (Ne.symm ht)];refine Ent.st _ (Ent.sb _ (h.holds t e' he) (M':=λk=>M k\/k∈F) ?_) (hx.mono λ_ _ f=>f.elim);rintro k hk (hm | hm);exact hm;exact absurd (hf1 k hm).1 aa;intro t ht;by_cases hd:t=d;subst hd;simp only [if_true];exact ⟨hn1,λk hk=>⟨.inr hk,.inl (LW h.fr.size (hf1 k hk).1)⟩⟩;simp only [if_neg hd];have:=h.own t (by simpa [put,hd] using ht);exact ⟨this.1,λk hk=>⟨.inl (this.2 k hk).1,(this.2 k hk).2⟩⟩;(have key:∀ s,s≠d->((put d e g) s).isSome=true->∀ k∈φ s,k ∉ F:=λs hs hsome k hk hkF=>by have:=h.bd k ((h.own s (by simpa [put,hs] using hsome)).2 k hk).1;have:=(hf1 k hkF).1;omega);intro t s hne ht hs;by_cases hd:t=d;subst hd;simp only [if_true,if_neg (Ne.symm hne)];exact λk hk hk'=>key s (Ne.symm hne) hs k hk' hk;by_cases hd':s=d;subst hd';simp only [if_true,if_neg hd];exact λk hk=>key t hd ht k hk;simp only [if_neg hd,if_neg hd'];exact h.apart t s hne (by simpa [put,hd] using ht) (by simpa [put,hd'] using hs);rintro k (hm | hm);exact LR (h.bd k hm) hx.size;exact (hf1 k hm).2
theorem sq {P:Program} {M0:Fm} {w0:World} {n:Nat} {Γ:Cx} {ops:Array Oper} {Q:Exit->Act->World->Prop} {rest:List Oper} {d:Nat} {op:Op} {ty:TypeId} {pos:String} {ag:Array Edge} {e:Ent} {a:Act} {w:World}
  (hs:St M0 w0 n Γ a w) (ho:OR P op ty Γ e) (hn:Nat.blt d n=true)
  (k:∀ a' w',St M0 w0 n ((d,e) :: Γ) a' w'->wpListIn (Fr rr) 0 P ops Q rest a' w'):wpListIn (Fr rr) 0 P ops Q (⟨some d,op,ty,pos,ag,none⟩ :: rest) a w:=by refine wpListIn_plain rfl λK hK=>?_;let ⟨M,φ,h⟩:=hs;refine Bk.upon ((ho (some d) pos ag none a.eval M w h.rd).mono ?_);intro v w' hg;exact hK _ _ (k _ _ (by unfold St;rw [Ak];exact h.gives hg (KY hn)))
end
section
def Va {α:Type} [Rep α] (x:α):Ent where
 p F M w v:=F=[]/\V x M w v
 st h e:=⟨h.1,h.2.ext (e.mono λ_ _ hk=>hk.1)⟩
 sb h s:=⟨h.1,h.2.sub s⟩
def Pt {α:Type} [Rep α] (x:α):Ent where
 p F M w v:=F=[]/\∃ b o,v=.pointer (some ⟨b,o,none⟩)/\Pl x M w b o
 st h e:=let ⟨hf,b,o,hv,hp⟩:=h;⟨hf,b,o,hv,hp.ext (e.mono λ_ _ hk=>hk.1)⟩
 sb h s:=let ⟨hf,b,o,hv,hp⟩:=h;⟨hf,b,o,hv,hp.sub s⟩
def Gd (b c:Bool) (e:Ent):Ent where
 p F M w v:=(b=c->e.p F M w v)/\(b≠c->F=[]/\v=undef)
 st h x:=⟨λhb=>e.st (h.1 hb) x,h.2⟩
 sb h s:=⟨λhb=>e.sb (h.1 hb) s,h.2⟩
def T2 (e1 e2:Ent):Ent where
 p F M w v:=∃ v1 v2 F1 F2,v=.tuple #[v1,v2]/\F=F1 ++ F2/\e1.p F1 M w v1/\e2.p F2 M w v2
 st h x:=by
  obtain ⟨v1,v2,F1,F2,hv,rfl,h1,h2⟩:=h;exact ⟨v1,v2,F1,F2,hv,rfl,e1.st h1 (x.mono λk _ hk=>⟨hk.1,λhm=>hk.2 (LD _ hm)⟩),e2.st h2 (x.mono λk _ hk=>⟨hk.1,λhm=>hk.2 (LC _ hm)⟩)⟩
 sb h s:=let ⟨v1,v2,F1,F2,hv,hF,h1,h2⟩:=h;⟨v1,v2,F1,F2,hv,hF,e1.sb h1 s,e2.sb h2 s⟩
def T3 (e1 e2 e3:Ent):Ent where
 p F M w v:=∃ v1 v2 v3 F1 F2 F3,v=.tuple #[v1,v2,v3]/\F=F1 ++ (F2 ++ F3)/\e1.p F1 M w v1/\e2.p F2 M w v2/\e3.p F3 M w v3
 st h x:=by
  obtain ⟨v1,v2,v3,F1,F2,F3,hv,rfl,h1,h2,h3⟩:=h;exact ⟨v1,v2,v3,F1,F2,F3,hv,rfl,e1.st h1 (x.mono λk _ hk=>⟨hk.1,λhm=>hk.2 (LD _ hm)⟩),
   e2.st h2 (x.mono λk _ hk=>⟨hk.1,λhm=>hk.2 (LC _ (LD _ hm))⟩),
   e3.st h3 (x.mono λk _ hk=>⟨hk.1,λhm=>hk.2 (LC _ (LC _ hm))⟩)⟩
 sb h s:=let ⟨v1,v2,v3,F1,F2,F3,hv,hF,h1,h2,h3⟩:=h;⟨v1,v2,v3,F1,F2,F3,hv,hF,e1.sb h1 s,e2.sb h2 s,e3.sb h3 s⟩
def Od (Γ:Cx) (x:Operand) (e:Ent):Prop:=∀ ρ M w,Rd (Ao Γ) M w ρ->∃ F,e.p F M w (ρ x)
section
variable {P:Program} {Γ:Cx} {ty:TypeId}
theorem t {n:Nat} {e:Ent} (h:Ao Γ n=some e):Od Γ (.tmp n) e:=λ_ _ _ r=>r.tmp _ _ h
theorem ci {n:Int}:Od Γ (.const (.int .i64 n)) (Va n):=λρ _ _ r=>⟨[],rfl,[.int .i64 n],r.con _,rfl⟩
theorem cb {b:Bool}:Od Γ (.const (.bool b)) (Va b):=λρ _ _ r=>⟨[],rfl,[.bool b],r.con _,rfl⟩
theorem cs {s:P3}:Od Γ (.const (.string s)) (Va s):=λρ _ _ r=>⟨[],rfl,[.string s],r.con _,rfl⟩
theorem tg {n:Nat} {b c:Bool} {e:Ent} (h:Ao Γ n=some (Gd b c e)) (hb:b=c):Od Γ (.tmp n) e:=λ_ _ _ r=>let ⟨F,hF⟩:=r.tmp _ _ h;⟨F,hF.1 hb⟩
theorem OR.val {op:Op} {e:Ent} (h:∀ ρ M w,Rd (Ao Γ) M w ρ->∃ v,(∀ d pos ag g,(execOp ρ ⟨d,op,ty,pos,ag,g⟩).run P w=.ok (.value v) w)/\e.p [] M w v):OR P op ty Γ e:=by intro d pos ag g ρ M w r;let ⟨v,hv,hp⟩:=h ρ M w r;refine Bk.val (hv d pos ag g) ⟨Ext.refl _ _,[],L5,λk hk=>by simp at hk,?_⟩;exact e.sb hp λk _ hk=>hk.elim id λh=>by simp at h
theorem Va.int {F:P1} {M:Nat->Prop} {w:World} {v:Value} {x:Int} (h:(Va x).p F M w v):v=.int .i64 x:=by obtain ⟨_,cs,rfl,hr⟩:=h;have:cs=[.int .i64 x]:=hr;subst this;rfl
theorem Va.bool {F:P1} {M:Nat->Prop} {w:World} {v:Value} {x:Bool} (h:(Va x).p F M w v):v=.bool x:=by obtain ⟨_,cs,rfl,hr⟩:=h;have:cs=[.bool x]:=hr;subst this;rfl
theorem Va.str {F:P1} {M:Nat->Prop} {w:World} {v:Value} {x:P3} (h:(Va x).p F M w v):v=.string x:=by obtain ⟨_,cs,rfl,hr⟩:=h;have:cs=[.string x]:=hr;subst this;rfl
theorem Va.byte {F:P1} {M:Nat->Prop} {w:World} {v:Value} {x:UInt8} (h:(Va x).p F M w v):v=.int .u8 x.toNat:=by obtain ⟨_,cs,rfl,hr⟩:=h;have:cs=[.int .u8 x.toNat]:=hr;subst this;rfl
theorem Va.list {α:Type} [Rep α] {F:P1} {M:Nat->Prop} {w:World} {v:Value} {x:List α} (h:(Va x).p F M w v):Sl M w v x:=by obtain ⟨_,cs,rfl,v,rfl,hr⟩:=h;exact hr
theorem Va.mkInt {M:Nat->Prop} {w:World} {x:Int}:(Va x).p [] M w (.int .i64 x):=⟨rfl,[.int .i64 x],rfl,rfl⟩
theorem Va.mkBool {M:Nat->Prop} {w:World} {x:Bool}:(Va x).p [] M w (.bool x):=⟨rfl,[.bool x],rfl,rfl⟩
theorem Va.mkStr {M:Nat->Prop} {w:World} {x:P3}:(Va x).p [] M w (.string x):=⟨rfl,[.string x],rfl,rfl⟩
theorem Va.mkByte {M:Nat->Prop} {w:World} {x:UInt8}:(Va x).p [] M w (.int .u8 x.toNat):=⟨rfl,[.int .u8 x.toNat],rfl,rfl⟩
theorem Va.mkList {α:Type} [Rep α] {M:Nat->Prop} {w:World} {v:Value} {x:List α} (h:Sl M w v x):(Va x).p [] M w v:=⟨rfl,[v],rfl,v,rfl,h⟩
theorem mv {x:Operand} {α:Type} [Rep α] {y:α} (h:Od Γ x (Va y)):OR P (.move x) ty Γ (Va y):=
 OR.val λρ M w r=>let ⟨_,hF⟩:=h ρ M w r;⟨ρ x,λ_ _ _ _=>rfl,rfl,hF.2⟩
theorem sa {x:Operand} {α:Type} [Rep α] {y:α} (h:Od Γ x (Va y)):OR P (.assign x) ty Γ (Va y):=
 OR.val λρ M w r=>let ⟨_,hF⟩:=h ρ M w r;⟨ρ x,λ_ _ _ _=>rfl,rfl,hF.2⟩
theorem mp {x:Operand} {α:Type} [Rep α] {y:α} (h:Od Γ x (Pt y)):OR P (.move x) ty Γ (Pt y):=
 OR.val λρ M w r=>let ⟨_,hF⟩:=h ρ M w r;⟨ρ x,λ_ _ _ _=>rfl,rfl,hF.2⟩
theorem nk {x:Operand} {α:Type} [Rep α] {y:α} (h:Od Γ x (Pt y)):OR P (.nilCheck x) ty Γ (Pt y):=
 OR.val λρ M w r=>by
  let ⟨_,_,b,o,hv,hp⟩:=h ρ M w r;exact ⟨ρ x,λ_ _ _ _=>by simp [execOp,hv,Sem.run,pure],rfl,b,o,hv,hp⟩
def wr (x:Int):Int:=IntKind.i64.wrap x
theorem dW {op:BinOp} {x y:Operand} {T T':TypeId} {m n:Int} {e:Ent} (hx:Od Γ x (Va m)) (hy:Od Γ y (Va n))
  (h:∀ w,∃ v,(binOp op T (.int .i64 m) (.int .i64 n)).run P w=.ok v w/\∀ M,e.p [] M w v):OR P (.binOp op T x y T') ty Γ e:=by (refine OR.val λρ M w r=>?_;let ⟨_,h1⟩:=hx ρ M w r;let ⟨_,h2⟩:=hy ρ M w r;let ⟨v,hv,hp⟩:=h w;refine ⟨v,λ_ _ _ _=>?_,hp M⟩;simp only [execOp,Va.int h1,Va.int h2];have:∀ o,(eqGuard o T x y (.int .i64 m) (.int .i64 n)).run P w=.ok () w:=by intro o; unfold eqGuard; cases o <;> rfl);simp only [KJ,this,KE,hv];rfl
theorem lt {x y:Operand} {T T':TypeId} {m n:Int} (hx:Od Γ x (Va m)) (hy:Od Γ y (Va n)):OR P (.binOp .lss T x y T') ty Γ (Va (decide (m < n))):=
 dW hx hy λw=>⟨_,rfl,λ_=>Va.mkBool⟩
theorem le {x y:Operand} {T T':TypeId} {m n:Int} (hx:Od Γ x (Va m)) (hy:Od Γ y (Va n)):OR P (.binOp .leq T x y T') ty Γ (Va (decide (m<=n))):=
 dW hx hy λw=>⟨_,rfl,λ_=>Va.mkBool⟩
theorem gt {x y:Operand} {T T':TypeId} {m n:Int} (hx:Od Γ x (Va m)) (hy:Od Γ y (Va n)):OR P (.binOp .gtr T x y T') ty Γ (Va (decide (m > n))):=
 dW hx hy λw=>⟨_,rfl,λ_=>Va.mkBool⟩
theorem ge {x y:Operand} {T T':TypeId} {m n:Int} (hx:Od Γ x (Va m)) (hy:Od Γ y (Va n)):OR P (.binOp .geq T x y T') ty Γ (Va (decide (m>=n))):=
 dW hx hy λw=>⟨_,rfl,λ_=>Va.mkBool⟩
theorem eq {x y:Operand} {T T':TypeId} {m n:Int} (hx:Od Γ x (Va m)) (hy:Od Γ y (Va n)):OR P (.binOp .eql T x y T') ty Γ (Va (m == n)):=
 dW hx hy λw=>⟨_,rfl,λ_=>Va.mkBool⟩
theorem ne {x y:Operand} {T T':TypeId} {m n:Int} (hx:Od Γ x (Va m)) (hy:Od Γ y (Va n)):OR P (.binOp .neq T x y T') ty Γ (Va (m != n)):=
 dW hx hy λw=>⟨_,rfl,λ_=>Va.mkBool⟩
theorem ad {x y:Operand} {T T':TypeId} {m n:Int} (hx:Od Γ x (Va m)) (hy:Od Γ y (Va n)):OR P (.binOp .add T x y T') ty Γ (Va (wr (m + n))):=
 dW hx hy λw=>⟨_,rfl,λ_=>Va.mkInt⟩
theorem sb {x y:Operand} {T T':TypeId} {m n:Int} (hx:Od Γ x (Va m)) (hy:Od Γ y (Va n)):OR P (.binOp .sub T x y T') ty Γ (Va (wr (m - n))):=
 dW hx hy λw=>⟨_,rfl,λ_=>Va.mkInt⟩
theorem ml {x y:Operand} {T T':TypeId} {m n:Int} (hx:Od Γ x (Va m)) (hy:Od Γ y (Va n)):OR P (.binOp .mul T x y T') ty Γ (Va (wr (m * n))):=
 dW hx hy λw=>⟨_,rfl,λ_=>Va.mkInt⟩
theorem OR.run {op:Op} {e:Ent} (h:∀ ρ M w,Rd (Ao Γ) M w ρ->∃ v w',(∀ d pos ag g,(execOp ρ ⟨d,op,ty,pos,ag,g⟩).run P w=.ok (.value v) w')/\Ext No w w'/\∃ F,F.Nodup/\(∀ k∈F,w.heap.size<=k/\k < w'.heap.size)/\e.p F (λk=>M k\/k∈F) w' v):OR P op ty Γ e:=by intro d pos ag g ρ M w r;let ⟨v,w',hv,hx⟩:=h ρ M w r;exact Bk.val (hv d pos ag g) hx
theorem qu {x y:Operand} {T T':TypeId} {m n:Int} (hx:Od Γ x (Va m)) (hy:Od Γ y (Va n)) (h0:n≠0):OR P (.binOp .quo T x y T') ty Γ (Va (wr (m.tdiv n))):=
 dW hx hy λ_=>⟨_,by unfold binOp;simp [Op.intDiv,h0];rfl,λ_=>Va.mkInt⟩
theorem rm {x y:Operand} {T T':TypeId} {m n:Int} (hx:Od Γ x (Va m)) (hy:Od Γ y (Va n)) (h0:n≠0):OR P (.binOp .rem T x y T') ty Γ (Va (m.tmod n)):=
 dW hx hy λ_=>⟨_,by unfold binOp;simp [Op.intDiv,h0],λ_=>Va.mkInt⟩
theorem nt {x:Operand} {T:TypeId} {b:Bool} (hx:Od Γ x (Va b)):OR P (.unOp .not T x) ty Γ (Va (!b)):=
 OR.val λρ M w r=>let ⟨_,h⟩:=hx ρ M w r;⟨_,λ_ _ _ _=>by simp only [execOp,Va.bool h];rfl,Va.mkBool⟩
theorem pk {c x y:Operand} {b:Bool} {α:Type} [Rep α] {p q:α} (hc:Od Γ c (Va b)) (hx:Od Γ x (Va p)) (hy:Od Γ y (Va q)):OR P (.pick c x y) ty Γ (Va (bif b then p else q)):=by refine OR.val λρ M w r=>?_;let ⟨_,h⟩:=hc ρ M w r;let ⟨_,h1⟩:=hx ρ M w r;let ⟨_,h2⟩:=hy ρ M w r;refine ⟨if b then ρ x else ρ y,λ_ _ _ _=>by simp only [execOp,Va.bool h]; cases b <;> rfl,rfl,?_⟩;cases b;exact h2.2;exact h1.2
theorem pa {c:Operand} {n:Nat} {b p r:Bool} (hc:Od Γ c (Va b)) (hx:Ao Γ n=some (Gd b true (Va p))) (hr:b=true->p=r) (hr':b=false->r=false) :
  OR P (.pick c (.tmp n) (.const (.bool false))) ty Γ (Va r):=by refine OR.val λρ M w rd=>?_;let ⟨_,h⟩:=hc ρ M w rd;refine ⟨.bool r,λ_ _ _ _=>?_,Va.mkBool⟩;simp only [execOp,Va.bool h];cases b;obtain rfl:=hr' rfl;rw [rd.con];rfl;let ⟨F,hF⟩:=rd.tmp _ _ hx;rw [Va.bool (hF.1 rfl),hr rfl];rfl
theorem po {c:Operand} {n:Nat} {b p r:Bool} (hc:Od Γ c (Va b)) (hx:Ao Γ n=some (Gd b false (Va p))) (hr:b=false->p=r) (hr':b=true->r=true) :
  OR P (.pick c (.const (.bool true)) (.tmp n)) ty Γ (Va r):=by refine OR.val λρ M w rd=>?_;let ⟨_,h⟩:=hc ρ M w rd;refine ⟨.bool r,λ_ _ _ _=>?_,Va.mkBool⟩;simp only [execOp,Va.bool h];cases b;let ⟨F,hF⟩:=rd.tmp _ _ hx;rw [Va.bool (hF.1 rfl),hr rfl];rfl;obtain rfl:=hr' rfl;rw [rd.con];rfl
def Br:TypeDesc->Bool
 | .struct _ | .array _ _=>true
 | _=>false
class Ty (P:Program) (T:TypeId) (α:Type) [Rep α]:Prop where
 size:(P.info? T).map (·.size)=some (Rep.sz α)
 agg:(P.underlying T).map Br=some (Rep.agg α)
theorem Ty.run_size {T:TypeId} {α:Type} [Rep α] (h:(P.info? T).map (·.size)=some (Rep.sz α)) (w:World):(sizeOf T).run P w=.ok (Rep.sz α) w:=by
 cases hi:P.info? T with
 | none=>simp [hi] at h
 | some i=>simp [hi] at h;simp [sizeOf,typeInfo,hi,h]
theorem Ty.run_agg {T:TypeId} {b:Bool} (h:(P.underlying T).map Br=some b) (w:World):(isAgg T).run P w=.ok b w:=by
 cases hi:P.underlying T with
 | none=>simp [hi] at h
 | some d=>
  simp only [hi,Option.map_some,Option.some.injEq] at h;simp only [isAgg,KJ,run_underlying hi,KE];cases d <;> simp_all [Br]
theorem Bo (b o j:Nat):(⟨b,o,none⟩:Addr).add j=⟨b,o + j,none⟩:=by unfold Addr.add; split <;> simp_all
theorem Bu {T:TypeId} {α:Type} [Rep α] [ht:Ty P T α] {x:α} {M:Nat->Prop} {w:World} {b o:Nat} {cs:P2} (hc:∀ j v,cs[j]?=some v->w.cell? ⟨b,o + j,none⟩=some v) (hr:Rep.rep M w cs x) :
  (loadVar T ⟨b,o,none⟩).run P w=.ok (mk (Rep.agg α) cs) w:=by
 simp only [loadVar,KJ,Ty.run_agg ht.agg,KE];cases hg:Rep.agg α
 ·have h1:=Rep.flat hg;have hl:=Rep.len hr;obtain ⟨c,rfl⟩:∃ c,cs=[c]:=by
   match cs,hl with
   | [c],_=>exact ⟨c,rfl⟩
   | [],h=>simp [h1] at h
   | _ :: _ :: _,h=>simp [h1] at h
  have:=hc 0 c rfl;simp only [NS] at this;simp [this,mk]
 ·simp only [if_true,KJ,Ty.run_size ht.size,KE];rw [← Rep.len hr,run_loadCells_list w ⟨b,o,none⟩ cs (λj v hj=>by rw [Bo];exact hc j v hj)];rfl
theorem ld {T:TypeId} {x:Operand} {α:Type} [Rep α] [Ty P T α] {y:α} (h:Od Γ x (Pt y)):OR P (.load T x) ty Γ (Va y):=by refine OR.val λρ M w r=>?_;let ⟨_,_,b,o,hv,cs,hc,hr⟩:=h ρ M w r;refine ⟨mk (Rep.agg α) cs,λ_ _ _ _=>?_,rfl,cs,rfl,hr⟩;simp only [execOp,hv,Instr.loadAt,Instr.sureAddr,KJ,KQ,KE,Bu (λj v hj=>(hc j v hj).2) hr]
def Mb (P:Program) (S k:Nat):Option (Nat×Nat):=
 match P.underlying S with
 | some (.struct fs)=>(fs[k]?).bind λf=>(P.info? f.type).map λi=>(f.offset,i.size)
 | _=>none
class DF {α β:Type} [Rep α] [Rep β] (f:α->β) (off:outParam Nat):Prop where
 at_:∀ {M w cs x},Rep.rep M w cs x->∃ p m q,cs=p ++ (m ++ q)/\p.length=off/\Rep.rep M w m (f x)
class Fd (P:Program) (S k:Nat) {α β:Type} [Rep α] [Rep β] (f:outParam (α->β)):Prop where
 off:∃ off n,Mb P S k=some (off,n + 1)/\DF f off
theorem DF.pl {α β:Type} [Rep α] [Rep β] {f:α->β} {off:Nat} (h:DF f off) {M:Nat->Prop} {w:World} {b o:Nat} {x:α} (hp:Pl x M w b o):Pl (f x) M w b (o + off):=by let ⟨cs,hc,hr⟩:=hp;obtain ⟨p,m,q,rfl,hl,hm⟩:=h.at_ hr;exact ⟨m,by rw [← hl];exact hc.append.2.append.1,hm⟩
theorem Gv {S k b o off n:Nat} (h:Mb P S k=some (off,n + 1)) (w:World) :
  (Instr.fieldAt S (.pointer (some ⟨b,o,none⟩)) k).run P w=.ok (.pointer (some ⟨b,o + off,none⟩)) w:=by
 unfold Mb at h;cases hu:P.underlying S with
 | none=>simp [hu] at h
 | some d=>
  cases d with
  | struct fs=>
   simp only [hu] at h;cases hf:fs[k]? with
   | none=>simp [hf] at h
   | some f=>
    simp only [hf,NR] at h;cases hi:P.info? f.type with
    | none=>simp [hi] at h
    | some i=>
     simp only [hi,Option.map_some,Option.some.injEq,Prod.mk.injEq] at h;simp [Instr.fieldAt,run_underlying hu,hf,Instr.sureAddr,fieldPlace,sizeOf,typeInfo,hi,h.2,h.1,Bo]
  | _=>simp [hu] at h
theorem fa {S k:Nat} {x:Operand} {α β:Type} [Rep α] [Rep β] {f:α->β} [hf:Fd P S k f] {y:α} (h:Od Γ x (Pt y)):OR P (.fieldAddr S x k) ty Γ (Pt (f y)):=by refine OR.val λρ M w r=>?_;let ⟨_,_,b,o,hv,hp⟩:=h ρ M w r;let ⟨off,n,h1,h2⟩:=hf.off;refine ⟨.pointer (some ⟨b,o + off,none⟩),λ_ _ _ _=>?_,rfl,b,o + off,rfl,h2.pl hp⟩;simp only [execOp,hv,KJ,Gv h1,KE,KQ]
def idx {α:Type} (xs:List α) (i:Int):Option α:=if 0<=i then xs[i.toNat]? else none
theorem Au {α:Type} {xs:List α} {i:Int} {x:α} (h:idx xs i=some x):0<=i/\i < xs.length/\xs[i.toNat]?=some x:=by unfold idx at h;split at h;rename_i h0;have:=(KG.1 h).1;exact ⟨h0,by omega,h⟩;cases h
def Hn (P:Program) (T:Nat):Option Nat:=match P.underlying T with | some (.slice e)=>some e | _=>none
class Es (P:Program) (T:Nat) (α:Type) [Rep α]:Prop where
 el:∃ e,Hn P T=some e/\(P.info? e).map (·.size)=some (Rep.sz α)
theorem Vm {P:Program} {T e:Nat} (h:Hn P T=some e):P.underlying T=some (.slice e):=by unfold Hn at h;split at h;rename_i hu;rw [hu];simpa using h;cases h
theorem ix {T:TypeId} {x i:Operand} {α:Type} [Rep α] [he:Es P T α] {xs:List α} {n:Int} {y:α} (hx:Od Γ x (Va xs)) (hi:Od Γ i (Va n)) (h:idx xs n=some y):OR P (.indexAddr T x i) ty Γ (Pt y):=by (refine OR.val λρ M w r=>?_;let ⟨_,h1⟩:=hx ρ M w r;let ⟨_,h2⟩:=hi ρ M w r;let ⟨e,he1,he2⟩:=he.el;let ⟨h0,hl,hg⟩:=Au h;let ⟨a,cap,hv,hs⟩:=Va.list h1;obtain rfl | ⟨b,o,rfl,hrow⟩:=hs);simp at hg;refine ⟨.pointer (some ⟨b,o + n.toNat * Rep.sz α,none⟩),λ_ _ _ _=>?_,rfl,b,_,rfl,hrow.get hg⟩;simp only [execOp,hv,Va.int h2,Instr.indexAt,KJ,asIntOf,KQ,KE,run_underlying (Vm he1)];simp [h0,hl,Ty.run_size he2,Bo]
theorem ln {T:TypeId} {x:Operand} {α:Type} [Rep α] [he:Es P T α] {xs:List α} (hx:Od Γ x (Va xs)):OR P (.call { callee:=.builtin .len,args:=#[x],argTypes:=#[T] }) ty Γ (Va (xs.length:Int)):=by refine OR.val λρ M w r=>?_;let ⟨_,h1⟩:=hx ρ M w r;let ⟨e,he1,_⟩:=he.el;let ⟨a,cap,hv,_⟩:=Va.list h1;refine ⟨.int .i64 xs.length,λ_ _ _ _=>?_,Va.mkInt⟩;simp [execOp,resolve,hv,invoke,builtin,Builtin.len_,run_underlying (Vm he1),goInt]
theorem Dc {α:Type} [Rep α] {M:Nat->Prop} {w:World} {cs:P2} {x:α} (hr:Rep.rep M w cs x):(mk (Rep.agg α) cs).cells=cs.toArray:=by
 cases hg:Rep.agg α
 ·have h1:=Rep.flat hg;have hl:=Rep.len hr;have ho:=Rep.one hr
  match cs,hl,ho with
  | [c],_,ho=>
   have:=ho c ai;cases c <;> simp_all [mk,Value.cells,Value.oneCell']
  | [],h,_=>simp [h1] at h
  | _ :: _ :: _,h,_=>simp [h1] at h
 ·rfl
theorem gz {M:Nat->Prop} {w:World} {cs:P2} {T:TypeId} (hm:¬ M w.heap.size):Cls M (w.alloc (.cells cs.toArray T)) w.heap.size 0 cs:=by intro j v hj;refine ⟨hm,?_⟩;rw [World.cell?_alloc_at _ _ _ _ rfl];simpa using hj
theorem bx {T:TypeId} {x:Operand} {α:Type} [Rep α] {y:α} (h:Od Γ x (Va y)):OR P (.box T x) ty Γ (Pt y):=by refine OR.run λρ M w r=>?_;let ⟨_,_,cs,hv,hr⟩:=h ρ M w r;refine ⟨.pointer (some ⟨w.heap.size,0,none⟩),w.alloc (.cells cs.toArray T),λ_ _ _ _=>?_,Ext.alloc _ _ _,[],L5,λk hk=>by simp at hk,rfl,w.heap.size,0,rfl,cs,?_,?_⟩;simp only [execOp,hv,Instr.box,newVar,newRow,Dc hr,KJ,run_newObj,KE,KQ];rfl;refine gz ?_;rintro (hm | hm);exact absurd (r.bd _ hm) aa;simp at hm;exact Rep.sub (Rep.ext hr (Ext.alloc _ _ _)) λk _ hk=>hk.elim id λh=>by simp at h
end
end
section
variable {rr:Option Nat}
def Av (op:Op):P1:=op.operands.toList.filterMap λ| .tmp t=>some t | _=>none
def Bx (ks:P1):Cx->Cx
 | []=>[]
 | (s,e) :: Γ=>match ks.contains s with | true=>(s,e) :: Bx ks Γ | false=>Bx ks Γ
theorem Bp {ks:P1} {t:Nat} {e:Ent}:∀ {Γ:Cx},Ao (Bx ks Γ) t=some e->t∈ks/\Ao Γ t=some e
 | [],h=>by simp [Bx,Ao] at h
 | (s,e') :: Γ,h=>by
  unfold Bx at h;split at h
  ·rename_i hk;unfold Ao at h ⊢;split at h
   ·rename_i hb;have:=MX hb;subst this;refine ⟨by simpa using hk,?_⟩;simpa using h
   ·rename_i hb;have:=Bp h;simpa [hb] using this
  ·rename_i hk;let ⟨h1,h2⟩:=Bp h;refine ⟨h1,?_⟩;unfold Ao;split
   ·rename_i hb;have:=MX hb;subst this;simp at hk;exact absurd h1 hk
   ·exact h2
inductive Fl (P:Program) (ops:Array Oper) (Γ:Cx):Nat->Cx->Prop
 | nil:Fl P ops Γ 0 []
 | cons {i d:Nat} {Δ:Cx} {op:Op} {ty:TypeId} {pos:String} {ag:Array Edge} {e:Ent} (h:Fl P ops Γ i Δ)
   (ho:ops[i]?=some ⟨some d,op,ty,pos,ag,none⟩) (hr:OR P op ty (Bx (Av op) Δ ++ Γ) e):Fl P ops Γ (i + 1) ((d,e) :: Δ)
 | cong {i d j dj:Nat} {b want:Bool} {Δ:Cx} {op:Op} {ty:TypeId} {pos:String} {ag:Array Edge} {e:Ent} (h:Fl P ops Γ i Δ)
   (ho:ops[i]?=some ⟨some d,op,ty,pos,ag,some (j,want)⟩) (hj:(ops[j]?).bind (·.dst)=some dj) (hl:Ao Δ dj=some (Va b))
   (hr:b=want->OR P op ty (Bx (Av op) Δ ++ Γ) e):Fl P ops Γ (i + 1) ((d,Gd b want e) :: Δ)
 | cont {i d j dj:Nat} {b c b2 want:Bool} {Δ:Cx} {op:Op} {ty:TypeId} {pos:String} {ag:Array Edge} {e:Ent} (h:Fl P ops Γ i Δ)
   (ho:ops[i]?=some ⟨some d,op,ty,pos,ag,some (j,want)⟩) (hj:(ops[j]?).bind (·.dst)=some dj) (hl:Ao Δ dj=some (Gd b c (Va b2)))
   (hr:b=c->b2=want->OR P op ty (Bx (Av op) Δ ++ Γ) e):Fl P ops Γ (i + 1) ((d,Gd ((b == c) && (b2 == want)) true e) :: Δ)
def cI (o:Oper) (j:Nat):Bool:=o.after.any λe=>Region.binds .any e && e.on == j
def Eo (ops:Array Oper):Nat->Nat->Nat->Bool
 | 0,_,_=>false
 | f + 1,i,j=>match ops[i]? with
  | none=>false
  | some o=>cI o j || o.after.any λe=>Region.binds .any e && Eo ops f e.on j
def Az (ops:Array Oper) (o:Oper):P1:=Av o.op ++ (match o.guard with | some (j,_)=>((ops[j]?).bind (·.dst)).toList | none=>[])
def Jr (ops:Array Oper) (m:Nat):Bool:=
 decide (m<=ops.size) &&
 (List.range ops.size).all (λi=>match ops[i]? with
  | none=>false
  | some o=>
   o.after.all (λe=>!Region.binds .any e || decide (e.on < i)) &&
   (if i < m then
    o.dst.isSome && (match o.guard with | some (j,_)=>decide (j < i) | none=>true) &&
    (List.range m).all (λj=>match (ops[j]?).bind (·.dst) with
     | some d=>(!(Az ops o).contains d || (decide (j < i) && cI o j)) && (i == j || o.dst != some d)
     | none=>false)
   else (List.range i).all (λj=>Eo ops ops.size i j)))
section
variable {P:Program} {ops:Array Oper} {Γ:Cx} {m:Nat}
theorem Vk (h:Jr ops m=true) {i:Nat} {o:Oper} (ho:ops[i]?=some o) :
  (∀ e∈o.after,Region.binds .any e=true->e.on < i) /\
  (i < m->o.dst.isSome=true/\(∀ j want,o.guard=some (j,want)->j < i)/\∀ j,j < m->∃ d,(ops[j]?).bind (·.dst)=some d/\(d∈Az ops o->j < i/\cI o j=true)/\(i≠j->o.dst≠some d)) /\
  (m<=i->∀ j,j < i->Eo ops ops.size i j=true):=by have hi:i < ops.size:=(KS.1 ho).1;unfold Jr at h;simp only [KU,KW,KX,decide_eq_true_eq] at h;have h1:=h.2 i hi;simp only [ho,KU] at h1;refine ⟨λe he hb=>?_,λhm=>?_,λhm j hj=>?_⟩;have:=(ON.1 h1.1) e he;simp [hb] at this;exact this;have h2:=h1.2;rw [if_pos hm] at h2;simp only [KU,KW,KX] at h2;refine ⟨h2.1.1,λj want hg=>?_,λj hj=>?_⟩;have:=h2.1.2;simp [hg] at this;exact this;have h3:=h2.2 j hj;split at h3;rename_i d hd;simp only [KU,M9,LT,decide_eq_true_eq,bne_iff_ne,beq_iff_eq] at h3;refine ⟨d,hd,λhn=>?_,λhne hd'=>?_⟩;(rcases h3.1 with h | h);simp at h;exact absurd hn h;exact h;(rcases h3.2 with h | h);exact hne h;exact h hd';cases h3;have h2:=h1.2;rw [if_neg aa] at h2;simp only [KW,KX] at h2;exact h2 j hj
end
structure eR (ops:Array Oper) (m:Nat):Prop where
 le:m<=ops.size
 at_:∀ {i:Nat} {o:Oper},ops[i]?=some o->(∀ e∈o.after,Region.binds .any e=true->e.on < i) /\
  (i < m->o.dst.isSome=true/\(∀ j want,o.guard=some (j,want)->j < i)/\∀ j,j < m->∃ d,(ops[j]?).bind (·.dst)=some d/\(d∈Az ops o->j < i/\cI o j=true)/\(i≠j->o.dst≠some d)) /\
  (m<=i->∀ j,j < m->Eo ops ops.size i j=true)
theorem JU {ops:Array Oper} {m:Nat} (h:Jr ops m=true):eR ops m:=
 ⟨by unfold Jr at h;simp only [KU,decide_eq_true_eq] at h;exact h.1,λho=>let ⟨a,b,c⟩:=Vk h ho;⟨a,b,λhm j hj=>c hm j aa⟩⟩
def gl (Γ:Cx):Cx->Nat->Array Bool->Mp
 | [],_,_=>Ao Γ
 | (d,e) :: Δ,m,listed=>if listed.getD (m - 1) false then put d e (gl Γ Δ (m - 1) listed) else gl Γ Δ (m - 1) listed
def Be (ops:Array Oper) (i:Nat):Option Nat:=(ops[i]?).bind (·.dst)
section
variable {P:Program} {ops:Array Oper} {Γ:Cx}
theorem Fl.len:∀ {m:Nat} {Δ:Cx},Fl P ops Γ m Δ->Δ.length=m
 | _,_,.nil=>rfl
 | _,_,.cons h _ _=>by simp [h.len]
 | _,_,.cong h _ _ _ _=>by simp [h.len]
 | _,_,.cont h _ _ _ _=>by simp [h.len]
def Ds (ops:Array Oper):Cx->Nat->Prop
 | [],m=>m=0
 | (d,_) :: Δ,m=>∃ k,m=k + 1/\Be ops k=some d/\Ds ops Δ k
theorem Fl.ds:∀ {m:Nat} {Δ:Cx},Fl P ops Γ m Δ->Ds ops Δ m
 | _,_,.nil=>rfl
 | _,_,.cons h ho _=>⟨_,rfl,by simp [Be,ho],h.ds⟩
 | _,_,.cong h ho _ _ _=>⟨_,rfl,by simp [Be,ho],h.ds⟩
 | _,_,.cont h ho _ _ _=>⟨_,rfl,by simp [Be,ho],h.ds⟩
theorem Za:∀ {Δ:Cx} {m:Nat} {listed:Array Bool},Ds ops Δ m->(∀ i,i < m->listed.getD i false=false)->gl Γ Δ m listed=Ao Γ
 | [],_,_,_,_=>rfl
 | (d,e) :: Δ,m,listed,h,hl=>by
  obtain ⟨k,rfl,_,h2⟩:=h;unfold gl;rw [if_neg (by simp [hl k aa]),NE];exact Za h2 λi hi=>hl i aa
theorem A0 {t:Nat}:∀ {Δ:Cx} {m:Nat} {listed:Array Bool},Ds ops Δ m->(∀ i,i < m->Be ops i=some t->listed.getD i false=true)->gl Γ Δ m listed t=Ao (Δ ++ Γ) t
 | [],_,_,_,_=>rfl
 | (d,e) :: Δ,m,listed,h,hl=>by
  obtain ⟨k,rfl,h1,h2⟩:=h;have ih:=A0 (t:=t) h2 λi hi=>hl i aa;unfold gl;rw [NE,NU,Ak];unfold put;by_cases ht:t=d
  ·subst ht;rw [hl k aa h1];simp
  ·split
   ·simpa [ht] using ih
   ·simpa [ht] using ih
theorem ip:∀ {Δ:Cx} {m i:Nat} {listed:Array Bool},Ds ops Δ m->m<=i->gl Γ Δ m (listed.setIfInBounds i true)=gl Γ Δ m listed
 | [],_,_,_,_,_=>rfl
 | (d,e) :: Δ,m,i,listed,h,hi=>by
  obtain ⟨k,rfl,_,h2⟩:=h;unfold gl;have:(listed.setIfInBounds i true).getD k false=listed.getD k false:=by
   simp [KN,LE (show i≠k by omega)]
  rw [NE,this,ip h2 aa]
theorem G8 {d d':Nat} {e e':Ent} {g:Mp} (h:d≠d'):put d e (put d' e' g)=put d' e' (put d e g):=by funext t;unfold put;by_cases h1:t=d;subst h1;simp [h];by_cases h2:t=d';subst h2;simp [h1];simp [h1,h2]
theorem JT {i di:Nat} {ei:Ent}:∀ {Δ:Cx} {m:Nat} {listed:Array Bool},Ds ops Δ m->i < m->i < listed.size->listed.getD i false=false->Δ[m - 1 - i]?=some (di,ei) ->
  (∀ j,j < m->j≠i->Be ops j≠some di)->gl Γ Δ m (listed.setIfInBounds i true)=put di ei (gl Γ Δ m listed)
 | [],_,_,h,hi,_,_,_,_=>by have:_=0:=h;omega
 | (d,e) :: Δ,m,listed,h,hi,hs,hl,hd,hne=>by
  obtain ⟨k,rfl,h1,h2⟩:=h;unfold gl;rw [NE];by_cases hik:i=k
  ·subst hik;have hd':(d,e)=(di,ei):=by simpa using hd
   obtain ⟨rfl,rfl⟩:=Prod.mk.inj hd';have:(listed.setIfInBounds i true).getD i false=true:=by simp [KN,hs]
   rw [this,hl,ip h2 (K9 _)];simp
  ·have hlt:i < k:=by omega
   have:(listed.setIfInBounds i true).getD k false=listed.getD k false:=by
    simp [KN,LE hik]
   have hd':Δ[k - 1 - i]?=some (di,ei):=by
    have:k + 1 - 1 - i=(k - 1 - i) + 1:=by omega
    rw [this] at hd;simpa using hd
   rw [this,JT h2 hlt hs hl hd' λj hj hji=>hne j aa hji];split
   ·exact G8 λhdd=>hne k aa (Ne.symm hik) (hdd ▸ h1)
   ·rfl
inductive RuleAt (P:Program) (ops:Array Oper) (Γ Δi:Cx) (o:Oper):Nat->Ent->Prop
 | plain {d:Nat} {op:Op} {ty:TypeId} {pos:String} {ag:Array Edge} {e:Ent} (ho:o=⟨some d,op,ty,pos,ag,none⟩) (hr:OR P op ty (Bx (Av op) Δi ++ Γ) e):RuleAt P ops Γ Δi o d e
 | guarded {d j dj:Nat} {b want:Bool} {op:Op} {ty:TypeId} {pos:String} {ag:Array Edge} {e:Ent} (ho:o=⟨some d,op,ty,pos,ag,some (j,want)⟩)
   (hj:(ops[j]?).bind (·.dst)=some dj) (hl:Ao Δi dj=some (Va b)) (hr:b=want->OR P op ty (Bx (Av op) Δi ++ Γ) e):RuleAt P ops Γ Δi o d (Gd b want e)
 | nested {d j dj:Nat} {b c b2 want:Bool} {op:Op} {ty:TypeId} {pos:String} {ag:Array Edge} {e:Ent} (ho:o=⟨some d,op,ty,pos,ag,some (j,want)⟩)
   (hj:(ops[j]?).bind (·.dst)=some dj) (hl:Ao Δi dj=some (Gd b c (Va b2))) (hr:b=c->b2=want->OR P op ty (Bx (Av op) Δi ++ Γ) e):RuleAt P ops Γ Δi o d (Gd ((b == c) && (b2 == want)) true e)
theorem Fl.at_:∀ {m:Nat} {Δ:Cx},Fl P ops Γ m Δ->∀ i,i < m->∃ Δi o d e Δ',Fl P ops Γ i Δi/\Δ=Δ' ++ Δi/\Δ[m - 1 - i]?=some (d,e)/\ops[i]?=some o/\RuleAt P ops Γ Δi o d e
 | _,_,.nil,i,hi=>by omega
 | m + 1,(d,e) :: Δ,.cons h ho hr,i,hi=>by
  by_cases hik:i=m
  ·subst hik;exact ⟨Δ,_,d,e,[(d,e)],h,rfl,by simp,ho,.plain rfl hr⟩
  ·let ⟨Δi,o,d',e',Δ',h1,h2,h3,h4,h5⟩:=h.at_ i aa;refine ⟨Δi,o,d',e',(d,e) :: Δ',h1,by rw [h2];rfl,?_,h4,h5⟩;rw [show m + 1 - 1 - i=(m - 1 - i) + 1 by omega];simpa using h3
 | m + 1,(d,_) :: Δ,.cong h ho hj hl hr,i,hi=>by
  by_cases hik:i=m
  ·subst hik;exact ⟨Δ,_,d,_,[(d,_)],h,rfl,by simp,ho,.guarded rfl hj hl hr⟩
  ·let ⟨Δi,o,d',e',Δ',h1,h2,h3,h4,h5⟩:=h.at_ i aa;refine ⟨Δi,o,d',e',(d,_) :: Δ',h1,by rw [h2];rfl,?_,h4,h5⟩;rw [show m + 1 - 1 - i=(m - 1 - i) + 1 by omega];simpa using h3
 | m + 1,(d,_) :: Δ,.cont h ho hj hl hr,i,hi=>by
  by_cases hik:i=m
  ·subst hik;exact ⟨Δ,_,d,_,[(d,_)],h,rfl,by simp,ho,.nested rfl hj hl hr⟩
  ·let ⟨Δi,o,d',e',Δ',h1,h2,h3,h4,h5⟩:=h.at_ i aa;refine ⟨Δi,o,d',e',(d,_) :: Δ',h1,by rw [h2];rfl,?_,h4,h5⟩;rw [show m + 1 - 1 - i=(m - 1 - i) + 1 by omega];simpa using h3
theorem Jp {t:Nat}:∀ {Δ' Δ:Cx},(∀ x∈Δ',x.1≠t)->Ao (Δ' ++ Δ) t=Ao Δ t
 | [],_,_=>rfl
 | (d,e) :: Δ',Δ,h=>by
  rw [NU,Ak];unfold put;rw [if_neg (Ne.symm (h (d,e) (LO ..)))];exact Jp λx hx=>h x (LK _ hx)
theorem Do {t:Nat} {e:Ent} {Δ:Cx}:∀ {Γ:Cx},Ao Γ t=some e->Ao (Γ ++ Δ) t=some e
 | [],h=>by simp [Ao] at h
 | (s,e') :: Γ,h=>by
  unfold Ao at h;rw [NU];unfold Ao;split at h
  ·exact h
  ·exact Do h
theorem Eh {t:Nat} {e:Ent} {Δ:Cx}:∀ {Γ:Cx},Ao (Γ ++ Δ) t=some e->Ao Γ t=some e\/Ao Δ t=some e
 | [],h=>.inr h
 | (s,e') :: Γ,h=>by
  rw [NU,Ak] at h;rw [Ak];unfold put at h ⊢;split at h
  ·rename_i hb;rw [if_pos hb];exact .inl h
  ·rename_i hb;rw [if_neg hb];exact Eh h
theorem Ds.len:∀ {Δ:Cx} {m:Nat},Ds ops Δ m->Δ.length=m
 | [],_,h=>h.symm
 | _ :: _,_,h=>by obtain ⟨k,rfl,_,h2⟩:=h;simp [Ds.len h2]
theorem Ds.pre:∀ {Δ' Δi:Cx} {m i:Nat},Ds ops (Δ' ++ Δi) m->Δi.length=i->∀ x∈Δ',∃ j,i<=j/\j < m/\Be ops j=some x.1
 | [],_,_,_,_,_,x,hx=>by simp at hx
 | (d,e) :: Δ',Δi,m,i,h,hi,x,hx=>by
  obtain ⟨k,rfl,h1,h2⟩:=h;have hk:(Δ' ++ Δi).length=k:=Ds.len h2;rcases K8.1 hx with rfl | hx
  ·exact ⟨k,by simp at hk;omega,by omega,h1⟩
  ·let ⟨j,h3,h4,h5⟩:=Ds.pre h2 hi x hx;exact ⟨j,h3,by omega,h5⟩
theorem Ca {listed:Array Bool} (hc:∀ i o,ops[i]?=some o->listed.getD i false=true->∀ e∈o.after,Region.binds .any e=true->listed.getD e.on false=true) :
  ∀ (f i j:Nat) (o:Oper),ops[i]?=some o->(∀ e∈o.after,Region.binds .any e=true->listed.getD e.on false=true)->Eo ops f i j=true->listed.getD j false=true
 | 0,_,_,_,_,_,h=>by simp [Eo] at h
 | f + 1,i,j,o,ho,hd,h=>by
  simp only [Eo,ho,M9,cI,OY,KU,beq_iff_eq] at h;rcases h with ⟨e,he,hb,rfl⟩ | ⟨e,he,hb,hr⟩
  ·exact hd e he hb
  ·have hl:=hd e he hb;cases ho':ops[e.on]? with
   | none=>cases f <;> simp [Eo,ho'] at hr
   | some o'=>exact Ca hc f e.on j o' ho' (λe' he' hb'=>hc _ _ ho' hl e' he' hb') hr
theorem Ba {listed:Array Bool} {i:Nat}:i∈Region.ready .any ops listed↔i < ops.size/\listed.getD i true=false/\∃ o,ops[i]?=some o/\∀ e∈o.after,Region.binds .any e=true->listed.getD e.on false=true:=by unfold Region.ready;simp only [MS,KX,KU,LT];refine and_congr_right λhi=>and_congr_right λ_=>?_;have:ops[i]?=some ops[i]:=L4 hi;simp only [this,Option.map_some,MO,Array.all_eq_true',Option.some.injEq,exists_eq_left'];refine forall_congr' λe=>forall_congr' λ_=>?_;cases Region.binds .any e <;> simp
theorem BQ {m:Nat} (hf:Jr ops m=true) {Q:Exit->Act->World->Prop}:∀ (r k fuel:Nat) (listed:Array Bool) (a:Act) (w:World),r=ops.size - k->k<=ops.size->m<=k->r<=fuel->listed.size=ops.size ->
  (∀ i,i < k->listed.getD i false=true)->(∀ i,k<=i->i < ops.size->listed.getD i true=false)->wpListIn (Fr rr) 0 P ops Q (ops.toList.drop k) a w->wpAnyIn (Fr rr) 0 P .any ops Q fuel listed a w
 | r,k,fuel,listed,a,w,hr,hk,hmk,hfu,hs,hl,hn,h=>by
  have hready:∀ i,i∈Region.ready .any ops listed->i=k:=by
   intro i hi;let ⟨h1,h2,o,ho,h3⟩:=Ba.1 hi;rcases OA i k with h' | h' | h'
   ·have:=hl i h';simp [KN,hs,h1] at this h2;rw [this] at h2;cases h2
   ·exact h'
   ·exfalso;have h4:=(Vk hf ho).2.2 aa k h';have:=Ca (listed:=listed) (λi' o' ho' hl' e he hb=>?_) ops.size i k o ho h3 h4
    ·have h5:=hn k (K9 _) aa;simp [KN,hs,show k < ops.size by omega] at this h5;rw [this] at h5;cases h5
    ·have hi':i' < ops.size:=(KS.1 ho').1;have hik:i' < k:=by
      rcases LV i' k with h6 | h6
      ·exact h6
      ·have:=hn i' h6 hi';simp [KN,hs,hi'] at this hl';rw [this] at hl';cases hl'
     exact hl _ (Nat.lt_trans ((Vk hf ho').1 e he hb) hik)
  rcases LV k ops.size with hlt | hge
  ·have ho:ops[k]?=some ops[k]:=L4 hlt;have hdrop:ops.toList.drop k=ops[k] :: ops.toList.drop (k + 1):=by
    rw [LB (by simpa using hlt)];simp
   have hin:k∈Region.ready .any ops listed:=Ba.2 ⟨hlt,hn k (K9 _) hlt,_,ho,λe he hb=>hl _ ((Vk hf ho).1 e he hb)⟩;cases fuel with
   | zero=>omega
   | succ fuel=>
    refine ⟨λhnil=>by rw [hnil] at hin;simp at hin,λi hi=>?_⟩;obtain rfl:=hready i hi;have ih:=λa' w'=>BQ hf (Q:=Q) (r - 1) (i + 1) fuel (listed.setIfInBounds i true) a' w' aa hlt aa aa (by simp [hs])
     (λj hj=>by
      by_cases hji:j=i
      ·subst hji;simp [KN,hs,hlt]
      ·have:=hl j aa;simpa [KN,LE (Ne.symm hji)] using this)
     (λj hj hj'=>by
      have:=hn j aa hj';simpa [KN,LE (show i≠j by omega)] using this)
    rw [hdrop] at h;unfold wpOpIn;simp only [ho];unfold wpListIn at h;split
    ·rename_i hw;rw [if_pos hw] at h;exact Oper.wpIn_mono (λa' w'=>ih a' w') h
    ·rename_i hw;rw [if_neg hw] at h;exact ⟨λ_ _=>trivial,ih _ _ h.2⟩
  ·have hnil:Region.ready .any ops listed=[]:=by
    cases hrd:Region.ready .any ops listed with
    | nil=>rfl
    | cons x xs=>
     have hx:x∈Region.ready .any ops listed:=by rw [hrd];exact LO ..
     have:=hready x hx;have:=(Ba.1 hx).1;omega
   have hQ:Q .normal a w:=by
    rw [LF (by simpa using hge)] at h;exact h
   cases fuel with
   | zero=>exact ⟨hnil,hQ⟩
   | succ fuel=>exact ⟨λ_=>hQ,λi hi=>by rw [hnil] at hi;simp at hi⟩
class Mx (P:Program):Prop where
 mixed:P.follows .mixedOrders=true
theorem Bn {a:Act} {j dj:Nat} {b:Bool} (hj:(ops[j]?).bind (·.dst)=some dj) (h:a.get dj=.bool b):yielded ops a.tmps j=some b:=by
 unfold yielded;rw [hj];have:a.tmps[dj]?=some (.bool b):=by
  unfold Act.get at h;rw [KN] at h;cases hg:a.tmps[dj]? with
  | none=>rw [hg] at h;simp [undef] at h
  | some v=>rw [hg] at h;simpa using h
 simp [this]
theorem Dt {a:Act} {j dj:Nat} (hj:(ops[j]?).bind (·.dst)=some dj) (h:a.get dj=undef):yielded ops a.tmps j=none:=by
 unfold yielded;rw [hj];unfold Act.get at h;rw [KN] at h;simp only [NR];cases hg:a.tmps[dj]? with
 | none=>rfl
 | some v=>
  rw [hg] at h;have:v=undef:=by simpa using h
  subst this;rfl
theorem BR {m n:Nat} {Δ:Cx} {M0:Fm} {w0:World} (hf:eR ops m) (hfl:Fl P ops Γ m Δ) (hdj:∀ x∈Δ,Ao Γ x.1=none) (hn:∀ x∈Δ,x.1 < n) {Q:Exit->Act->World->Prop}
  (K:∀ (fuel:Nat) (listed:Array Bool) (a:Act) (w:World),ops.size - m<=fuel->listed.size=ops.size->(∀ i,m<=i->i < ops.size->listed.getD i true=false)->(∀ i,i < m->listed.getD i false=true)->St M0 w0 n (Δ ++ Γ) a w->wpAnyIn (Fr rr) 0 P .any ops Q fuel listed a w) :
  ∀ (fuel:Nat) (listed:Array Bool) (a:Act) (w:World),(listed.toList.take m).count false + (ops.size - m)<=fuel->listed.size=ops.size ->
   (∀ i,m<=i->i < ops.size->listed.getD i true=false)->(∀ i o,ops[i]?=some o->listed.getD i false=true->∀ e∈o.after,Region.binds .any e=true->listed.getD e.on false=true)->StF M0 w0 n (gl Γ Δ m listed) a w->wpAnyIn (Fr rr) 0 P .any ops Q fuel listed a w:=by
 have hm:m<=ops.size:=hf.le;have hds:=hfl.ds;have hlen:=hfl.len
 -- when all that float are listed
 have fin:∀ (fuel:Nat) (listed:Array Bool) (a:Act) (w:World),ops.size - m<=fuel->listed.size=ops.size->(∀ i,m<=i->i < ops.size->listed.getD i true=false) ->
   (∀ i,i < m->listed.getD i false=true)->StF M0 w0 n (gl Γ Δ m listed) a w->wpAnyIn (Fr rr) 0 P .any ops Q fuel listed a w:=by
  intro fuel listed a w h1 h2 h3 h4 h5;refine K fuel listed a w h1 h2 h3 h4 ?_;exact h5.less λt e he=>by rw [A0 hds (λi hi _=>h4 i hi)];exact he
 intro fuel
 induction fuel with
 | zero=>
  intro listed a w h1 h2 h3 hcl h4;refine fin 0 listed a w aa h2 h3 (λi hi=>?_) h4;have hc:(listed.toList.take m).count false=0:=by omega
  have:=PX.1 hc;cases hb:listed.getD i false
  ·exfalso;refine this ?_;have hi':i < listed.size:=by omega
   have:listed[i]=false:=by simpa [KN,hi'] using hb
   rw [← this];exact List.mem_take_iff_getElem.2 ⟨i,by simp;omega,by simp⟩
  ·rfl
 | succ fuel ih=>
  intro listed a w h1 h2 h3 hcl h4;by_cases hall:∀ i,i < m->listed.getD i false=true
  ·exact fin _ listed a w aa h2 h3 hall h4
  ·-- some operation is ready;each that is ready floats
   have hex:∃ i,i < m/\listed.getD i false=false:=by
    refine Classical.byContradiction λhc=>hall λi hi=>?_;cases hb:listed.getD i false
    ·exact absurd ⟨i,hi,hb⟩ hc
    ·rfl
   have hleast:∃ i,i < m/\listed.getD i false=false/\∀ j,j < i->listed.getD j false=true:=by
    let ⟨i,hi,hb⟩:=hex
    induction i using Nat.strongRecOn with
    | _ i ihi=>
     by_cases hj:∃ j,j < i/\listed.getD j false=false
     ·let ⟨j,hji,hjb⟩:=hj;exact ihi j hji aa hjb
     ·refine ⟨i,hi,hb,λj hji=>?_⟩;cases hb':listed.getD j false
      ·exact absurd ⟨j,hji,hb'⟩ hj
      ·rfl
   refine ⟨λhnil=>?_,λi hi=>?_⟩
   ·exfalso;let ⟨i,hi,hb,hj⟩:=hleast;have hio:i < ops.size:=by omega
    have ho:ops[i]?=some ops[i]:=L4 hio;have hin:i∈Region.ready .any ops listed:=Ba.2 ⟨hio,by simpa [KN,h2,hio] using hb,_,ho,λe he hb'=>hj _ ((hf.at_ ho).1 e he hb')⟩;rw [hnil] at hin;simp at hin
   ·let ⟨hio,hil,o,ho,hdeps⟩:=Ba.1 hi;have hfa:=hf.at_ ho;have him:i < m:=by
     rcases LV i m with h | h
     ·exact h
     ·exfalso;let ⟨j,hj,hjb⟩:=hex;have:=Ca hcl ops.size i j o ho hdeps (hfa.2.2 h j aa);rw [hjb] at this;cases this
    have hil':listed.getD i false=false:=by simpa [KN,h2,hio] using hil
    have his:i < listed.size:=by omega
    let ⟨Δi,o',d,e,Δ',hFi,hΔ,hget,ho',hrule⟩:=hfl.at_ i him;obtain rfl:o=o':=by rw [ho] at ho';exact Option.some.inj ho'
    let ⟨hd1,hd2,hd3⟩:=hfa.2.1 him;have hdi:Be ops i=some d:=by
     have:o.dst=some d:=by cases hrule with | plain ho' _=>rw [ho'] | guarded ho' _ _ _=>rw [ho'] | nested ho' _ _ _=>rw [ho']
     simp [Be,ho,this]
    have hodst:o.dst=some d:=by simpa [Be,ho] using hdi
    have hne:∀ j,j < m->j≠i->Be ops j≠some d:=by
     intro j hj hji hjd;let ⟨d',h5,_,h6⟩:=hd3 j hj;rw [show Be ops j=some d' from h5] at hjd;exact h6 (Ne.symm hji) (by rw [hodst,← hjd])
    have hdn:d < n:=hn (d,e) (K0 hget)
    -- what its operands know
    have hop:∀ t,t∈Az ops o->gl Γ Δ m listed t=Ao (Δi ++ Γ) t:=by
     intro t ht;have hw:∀ j,j < m->Be ops j=some t->j < i/\listed.getD j false=true:=by
      intro j hj hjt;let ⟨d',h5,h6,_⟩:=hd3 j hj;rw [show Be ops j=some d' from h5] at hjt;obtain rfl:=Option.some.inj hjt;let ⟨h7,h8⟩:=h6 ht;refine ⟨h7,?_⟩;unfold cI at h8;simp only [OY,KU,beq_iff_eq] at h8;obtain ⟨ed,h9,h10,rfl⟩:=h8;exact hdeps ed h9 h10
     rw [A0 hds λj hj hjt=>(hw j hj hjt).2,hΔ,K3];refine Jp λx hx hxt=>?_;let ⟨j,h5,h6,h7⟩:=Ds.pre (hΔ ▸ hds) hFi.len x hx;have:=(hw j h6 (hxt ▸ h7)).1;omega
    have next:∀ a' w',StF M0 w0 n (put d e (gl Γ Δ m listed)) a' w'->wpAnyIn (Fr rr) 0 P .any ops Q fuel (listed.setIfInBounds i true) a' w':=by
     intro a' w' hs';refine ih _ a' w' ?_ (by simp [h2]) (λj hj hj'=>?_) (λj oj hoj hlj ed he hb=>?_) ?_
     ·have hgi0:listed[i]=false:=by simpa [KN,his] using hil'
      have hcount:((listed.setIfInBounds i true).toList.take m).count false + 1=(listed.toList.take m).count false:=by
       rw [OZ,List.take_set];have hlt:i < (listed.toList.take m).length:=by simp;omega
       have hgi:(listed.toList.take m)[i]=false:=by
        simpa using hgi0
       have hpos:0 < (listed.toList.take m).count false:=O1.2 (by rw [← hgi];exact KV _);rw [List.count_set hlt];simp [hgi];omega
      omega
     ·have:=h3 j hj hj';simpa [KN,LE (show i≠j by omega)] using this
     ·have keep:listed.getD ed.on false=true->(listed.setIfInBounds i true).getD ed.on false=true:=by
       intro h;by_cases hk:ed.on=i
       ·simp [KN,hk,his]
       ·simpa [KN,LE (Ne.symm hk)] using h
      by_cases hji:j=i
      ·subst hji;rw [ho] at hoj;obtain rfl:=Option.some.inj hoj;exact keep (hdeps ed he hb)
      ·refine keep (hcl j oj hoj ?_ ed he hb);simpa [KN,LE (Ne.symm hji)] using hlj
     ·rw [JT hds him his hil' hget hne];exact hs'
    let ⟨M,φ,hst⟩:=h4;have rd:∀ op,(∀ t,t∈Av op->t∈Az ops o)->Rd (Ao (Bx (Av op) Δi ++ Γ)) M w a.eval:=by
     intro op hsub;refine ⟨λt x hx=>?_,hst.rd.con,hst.rd.fn,hst.rd.bd,hst.rd.glo⟩;refine hst.rd.tmp t x ?_;rcases Eh hx with h5 | h5
     ·let ⟨h6,h7⟩:=Bp h5;rw [hop t (hsub t h6)];exact Do h7
     ·have hnk:∀ y∈Δ,y.1≠t:=λy hy hyt=>by
       have:=hdj y hy;rw [hyt,h5] at this;cases this
      rw [A0 hds (λj hj hjt=>?_),Jp hnk]
      ·exact h5
      ·exfalso;let ⟨Δj,oj,dj,ej,_,_,_,hgj,hoj,hrj⟩:=hfl.at_ j hj;have hdj':Be ops j=some dj:=by
        have:oj.dst=some dj:=by cases hrj with | plain ho' _=>rw [ho'] | guarded ho' _ _ _=>rw [ho'] | nested ho' _ _ _=>rw [ho']
        simp [Be,hoj,this]
       rw [hdj'] at hjt;exact hnk _ (K0 hgj) (Option.some.inj hjt)
    unfold wpOpIn;simp only [ho];cases hrule with
    | plain ho' hr=>
     subst ho';simp only [Region.wanted,if_true];refine (Bk.upon ((hr _ _ _ _ a.eval M w (rd _ λt ht=>LD _ ht)).mono λv w' hg=>?_));exact next _ _ (hst.gives hg hdn)
    | guarded ho' hj hl hr=>
     rename_i j dj b want op ty pos ag e';subst ho';have hdj:dj∈Az ops ⟨some d,op,ty,pos,ag,some (j,want)⟩:=by
      refine LC _ ?_;simp only [hj];simp
     have hlj:Ao (Δi ++ Γ) dj=some (Va b):=by
      exact Do hl
     have hyb:=Bn hj (Va.bool (hst.holds dj _ (by rw [hop dj hdj];exact hlj)));by_cases hbw:b=want
     ·rw [if_pos (by simp [Region.wanted,hyb,hbw])];refine (Bk.upon ((hr hbw _ _ _ _ a.eval M w (rd _ λt ht=>LD _ ht)).mono λv w' hg=>?_));refine next _ _ (hst.gives ⟨hg.1,?_⟩ hdn);let ⟨F,hF1,hF2,hF3⟩:=hg.2;exact ⟨F,hF1,hF2,λ_=>hF3,λhne=>absurd hbw hne⟩
     ·rw [if_neg (by simp [Region.wanted,hyb,hbw])];refine ⟨λ_ _=>trivial,?_⟩;exact next _ _ (hst.gives ⟨Ext.refl _ _,[],L5,λk hk=>by simp at hk,λh=>absurd h hbw,λ_=>⟨rfl,rfl⟩⟩ hdn)
    | nested ho' hj hl hr=>
     rename_i j dj b c b2 want op ty pos ag e';subst ho';have hdj:dj∈Az ops ⟨some d,op,ty,pos,ag,some (j,want)⟩:=by
      refine LC _ ?_;simp only [hj];simp
     have hlj:Ao (Δi ++ Γ) dj=some (Gd b c (Va b2)):=by
      exact Do hl
     have hgd:=hst.holds dj _ (by rw [hop dj hdj];exact hlj);by_cases hbc:b=c
     ·have hyb:=Bn hj (Va.bool (hgd.1 hbc));by_cases hbw:b2=want
      ·rw [if_pos (by simp [Region.wanted,hyb,hbw])];refine (Bk.upon ((hr hbc hbw _ _ _ _ a.eval M w (rd _ λt ht=>LD _ ht)).mono λv w' hg=>?_));refine next _ _ (hst.gives ⟨hg.1,?_⟩ hdn);let ⟨F,hF1,hF2,hF3⟩:=hg.2;exact ⟨F,hF1,hF2,λ_=>hF3,λhne=>absurd (by simp [hbc,hbw]) hne⟩
      ·rw [if_neg (by simp [Region.wanted,hyb,hbw])];refine ⟨λ_ _=>trivial,?_⟩;exact next _ _ (hst.gives ⟨Ext.refl _ _,[],L5,λk hk=>by simp at hk,λh=>absurd (by simpa using h) (λh':b=c/\b2=want=>hbw h'.2),λ_=>⟨rfl,rfl⟩⟩ hdn)
     ·have hyb:=Dt hj (hgd.2 hbc).2;rw [if_neg (by simp [Region.wanted,hyb])];refine ⟨λ_ _=>trivial,?_⟩;exact next _ _ (hst.gives ⟨Ext.refl _ _,[],L5,λk hk=>by simp at hk,λh=>absurd (by simpa using h) (λh':b=c/\b2=want=>hbc h'.1),λ_=>⟨rfl,rfl⟩⟩ hdn)
theorem Qy {m n id:Nat} {Δ:Cx} {M0:Fm} {w0:World} [hmx:Mx P] {Q:Exit->Act->World->Prop} {a:Act} {w:World} (hs:St M0 w0 n Γ a w) (hfl:Fl P ops Γ m Δ) (hf:Jr ops m=true)
  (hdj:Δ.all (λx=>(Ao Γ x.1).isNone)=true) (hn:Δ.all (λx=>Nat.blt x.1 n)=true)
  (K:∀ a' w',St M0 w0 n (Δ ++ Γ) a' w'->wpListIn (Fr rr) 0 P ops Q (ops.toList.drop m) a' w'):(Code.region id ops true).wpIn (Fr rr) 0 P Q a w:=by refine wpIn_region_any hmx.mixed (BR (JU hf) hfl (λx hx=>by simpa using KW.1 hdj x hx) (λx hx=>?_) (λfuel listed a w h1 h2 h3 h4 h5=>BQ hf _ m fuel listed a w rfl (JU hf).le (K9 _) h1 h2 h4 h3 (K a w h5)) ops.size _ a _ ?_ ai (λi _ hi=>by simp [KN,hi]) (λi o ho hl=>?_) ?_);have:=KW.1 hn x hx;exact KY this;(have:((Array.replicate ops.size false).toList.take m).count false<=m:=by refine LW OT ?_;simp;omega);(have hm:m<=ops.size:=by unfold Jr at hf;simp only [KU,decide_eq_true_eq] at hf;exact hf.1);omega;have hi:i < ops.size:=(KS.1 ho).1;simp [KN,hi] at hl;(have hmle:m<=ops.size:=by unfold Jr at hf;simp only [KU,decide_eq_true_eq] at hf;exact hf.1);rw [Za hfl.ds λi hi=>by simp [KN,show i < ops.size by omega]];let ⟨M,φ,h⟩:=hs;refine ⟨M,φ,λt e he=>Ent.st _ (h.holds t e he) (Ext.drawn _ _ _ (NV _ _)),h.own,h.apart,h.sub,h.bd,h.fr.trans (Ext.drawn _ _ _ (NV _ _)),h.sz,h.df⟩
end
end
section
variable {rr:Option Nat}
section
variable {P:Program} {M0:Fm} {w0:World} {n:Nat} {Γ:Cx} {Q:Exit->Act->World->Prop} {a:Act} {w:World}
theorem rg {id:Nat} {ops:Array Oper} (h:wpListIn (Fr rr) 0 P ops Q ops.toList a w):(Code.region id ops false).wpIn (Fr rr) 0 P Q a w:=wpIn_region_list h
theorem nl {ops:Array Oper} (h:Q .normal a w):wpListIn (Fr rr) 0 P ops Q [] a w:=h
theorem sg {ops:Array Oper} {rest:List Oper} {d j dj:Nat} {b want:Bool} {op:Op} {ty:TypeId} {pos:String} {ag:Array Edge} {e:Ent}
  (hs:St M0 w0 n Γ a w) (hj:(ops[j]?).bind (·.dst)=some dj) (hl:Ao Γ dj=some (Va b)) (ho:b=want->OR P op ty Γ e) (hn:Nat.blt d n=true)
  (k:∀ a' w',St M0 w0 n ((d,Gd b want e) :: Γ) a' w'->wpListIn (Fr rr) 0 P ops Q rest a' w'):wpListIn (Fr rr) 0 P ops Q (⟨some d,op,ty,pos,ag,some (j,want)⟩ :: rest) a w:=by let ⟨M,φ,h⟩:=hs;have hyb:=Bn hj (Va.bool (h.holds dj _ hl));refine wpListIn_step λK hK=>?_;by_cases hbw:b=want;rw [if_pos (by simp [Region.wanted,hyb,hbw])];refine Bk.upon ((ho hbw (some d) pos ag _ a.eval M w h.rd).mono λv w' hg=>?_);let ⟨F,hF1,hF2,hF3⟩:=hg.2;refine hK _ _ (k _ _ (by unfold St;rw [Ak];exact h.gives ⟨hg.1,F,hF1,hF2,λ_=>hF3,λhne=>absurd hbw hne⟩ (KY hn)));rw [if_neg (by simp [Region.wanted,hyb,hbw])];refine ⟨λ_ _=>trivial,hK _ _ (k _ _ (by unfold St;rw [Ak];exact h.gives ⟨Ext.refl _ _,[],L5,λk hk=>by simp at hk,λh=>absurd h hbw,λ_=>⟨rfl,rfl⟩⟩ (KY hn)))⟩
theorem sn {ops:Array Oper} {rest:List Oper} {d j dj:Nat} {b c b2 want:Bool} {op:Op} {ty:TypeId} {pos:String} {ag:Array Edge} {e:Ent}
  (hs:St M0 w0 n Γ a w) (hj:(ops[j]?).bind (·.dst)=some dj) (hl:Ao Γ dj=some (Gd b c (Va b2))) (ho:b=c->b2=want->OR P op ty Γ e) (hn:Nat.blt d n=true)
  (k:∀ a' w',St M0 w0 n ((d,Gd ((b == c) && (b2 == want)) true e) :: Γ) a' w'->wpListIn (Fr rr) 0 P ops Q rest a' w'):wpListIn (Fr rr) 0 P ops Q (⟨some d,op,ty,pos,ag,some (j,want)⟩ :: rest) a w:=by
 let ⟨M,φ,h⟩:=hs;have hgd:=h.holds dj _ hl;have no:¬ (b=c/\b2=want)->∀ K:Act->World->Prop,(∀ a w,wpListIn (Fr rr) 0 P ops Q rest a w->K a w)->K (a.put (some d) undef) w:=λhno K hK=>
  hK _ _ (k _ _ (by unfold St;rw [Ak];exact h.gives ⟨Ext.refl _ _,[],L5,λk hk=>by simp at hk,λh=>absurd (by simpa using h) hno,λ_=>⟨rfl,rfl⟩⟩ (KY hn)))
 refine wpListIn_step λK hK=>?_;by_cases hbc:b=c
 ·have hyb:=Bn hj (Va.bool (hgd.1 hbc));by_cases hbw:b2=want
  ·rw [if_pos (by simp [Region.wanted,hyb,hbw])];refine Bk.upon ((ho hbc hbw (some d) pos ag _ a.eval M w h.rd).mono λv w' hg=>?_);let ⟨F,hF1,hF2,hF3⟩:=hg.2;refine hK _ _ (k _ _ (by unfold St;rw [Ak];exact h.gives ⟨hg.1,F,hF1,hF2,λ_=>hF3,λhne=>absurd (by simp [hbc,hbw]) hne⟩ (KY hn)))
  ·rw [if_neg (by simp [Region.wanted,hyb,hbw])];exact ⟨λ_ _=>trivial,no (λh=>hbw h.2) K hK⟩
 ·have hyb:=Dt hj (hgd.2 hbc).2;rw [if_neg (by simp [Region.wanted,hyb])];exact ⟨λ_ _=>trivial,no (λh=>hbc h.1) K hK⟩
theorem se {c d:Code} (h:c.wpIn (Fr rr) 0 P (Exit.then (d.wpIn (Fr rr) 0 P Q) Q) a w):(Code.seq c d).wpIn (Fr rr) 0 P Q a w:=wpIn_seq h
theorem cd {t:Nat} {b:Bool} {c d:Code} (hs:St M0 w0 n Γ a w) (hl:Ao Γ t=some (Va b)) (ht:b=true->c.wpIn (Fr rr) 0 P Q a w) (hf:b=false->d.wpIn (Fr rr) 0 P Q a w):(Code.cond (.tmp t) c d).wpIn (Fr rr) 0 P Q a w:=by let ⟨M,φ,h⟩:=hs;have hv:a.eval (.tmp t)=.bool b:=Va.bool (h.holds t _ hl);exact wpIn_cond_split hv ht hf
theorem lp {c:Code} {S:Type} (I:S->Act->World->Prop) (μ:S->Nat) (s:S) (h0:I s a w)
  (h:∀ s a w,I s a w->c.wpIn (Fr rr) 0 P (Exit.then (λa' w'=>∃ s',I s' a' w'/\μ s' < μ s) Q) a w):(Code.loop c).wpIn (Fr rr) 0 P Q a w:=by
 refine wpIn_loop (P:=P) (Q:=Q) (λa w=>∃ s,I s a w) (λa w=>Classical.epsilon λm=>(∃ s,I s a w/\μ s=m)/\∀ s,I s a w->m<=μ s) ⟨s,h0⟩ ?_;have least:∀ a w,(∃ s,I s a w)->∃ m,(∃ s,I s a w/\μ s=m)/\∀ s,I s a w->m<=μ s:=by
  intro a w ⟨s,hs⟩;have:∀ k,∀ s,I s a w->μ s=k->∃ m,(∃ s,I s a w/\μ s=m)/\∀ s,I s a w->m<=μ s:=by
   intro k
   induction k using Nat.strongRecOn with
   | _ k ih=>
    intro s hs hk;by_cases hc:∃ s',I s' a w/\μ s' < k
    ·let ⟨s',h1,h2⟩:=hc;exact ih _ h2 s' h1 rfl
    ·refine ⟨k,⟨s,hs,hk⟩,λs' hs'=>?_⟩;rcases LV (μ s') k with h | h
     ·exact absurd ⟨s',hs',h⟩ hc
     ·exact h
  exact this _ s hs rfl
 intro a w hI;have hm:=Classical.epsilon_spec (least a w hI);let ⟨⟨s,hs,hμ⟩,_⟩:=hm;refine wpIn_mono (h s a w hs) ?_;intro e a' w' hq;cases e <;> try exact hq
 let ⟨s',h1,h2⟩:=hq;refine ⟨⟨s',h1⟩,?_⟩;have hm':=Classical.epsilon_spec (least a' w' ⟨s',h1⟩);have:=hm'.2 s' h1;show Classical.epsilon _ < Classical.epsilon _;rw [← hμ];omega
def da (P : Program) (f : FuncId) : Bool := match P.funcs[f]? with | some fn => fn.body.isSome && !(fn.name == "runtime.NumGoroutine") | none => false
def Ct (P:Program) (f:FuncId) (args:Array Value) (M:Nat->Prop) (w:World) (e:Ent):Prop:=
 da P f=true/\Calls P f args w λen w'=>∃ v,en=.returned v/\eQ e M w v w'
def cC (K:Fm) (w0:World) (R:Ent):Ending->World->Prop:=λen w'=>∃ v F,en=.returned v/\Ext K.b w0 w'/\F.Nodup /\
 (∀ k∈F,K.b k\/(w0.heap.size<=k/\k < w'.heap.size))/\R.p F (λk=>K.k k\/k∈F) w' v
abbrev eH (P:Program) (fn:Func) (R:Ending->World->Prop):Exit->Act->World->Prop:=bodyPostM (Fr none) 0 P fn R
def fS (D:Nat):Deferred:={ target:=.collected D,args:=#[] }
abbrev mf (D:Nat) (K:Fm):Fm:=⟨K.k,K.b,fS D :: K.ds⟩
def Bd (K:Fm) (w:World):Prop:=(∀ k,K.k k->k < w.heap.size)/\∀ k,K.b k->¬ K.k k
class Zf (e:Ent):Prop where
 z:∀ {F M w v},e.p F M w v->F=[]
class Gh (e:Ent):Prop where
 g:∀ {F M w v},e.p F M w v->∀ u,e.p F M w u
def Ui (M:Nat->Prop) (w:World):List Ent->P2->Prop
 | [],[]=>True
 | e :: es,v :: vs=>e.p [] M w v/\Ui M w es vs
 | _,_=>False
def Ho (M:Nat->Prop) (w:World):List Ent->P1->Prop
 | [],Ft=>Ft=[]
 | e :: G,Ft=>∃ F F',Ft=F ++ F'/\(∀ u,e.p F M w u)/\Ho M w G F'
theorem Ho.st {M:Nat->Prop} {w w':World}:∀ {G:List Ent} {Ft:P1},Ho M w G Ft->Ext (λk=>M k/\k ∉ Ft) w w'->Ho M w' G Ft
 | [],_,h,_=>h
 | e :: G,_,⟨F,F',rfl,h1,h2⟩,x=>⟨F,F',rfl,λu=>e.st (h1 u) (x.mono λk _ hk=>⟨hk.1,λhm=>hk.2 (LD _ hm)⟩),
   Ho.st h2 (x.mono λk _ hk=>⟨hk.1,λhm=>hk.2 (LC _ hm)⟩)⟩
theorem Ho.sb {M M':Nat->Prop} {w:World}:∀ {G:List Ent} {Ft:P1},Ho M w G Ft->(∀ k,k < w.heap.size->M' k->M k)->Ho M' w G Ft
 | [],_,h,_=>h
 | e :: G,_,⟨F,F',hF,h1,h2⟩,s=>⟨F,F',hF,λu=>e.sb (h1 u) s,Ho.sb h2 s⟩
def Cg (P:Program) (f:FuncId) (ps G:List Ent) (R:Ent):Prop:=
 da P f=true/\∀ (vs:P2) (M:Nat->Prop) (w:World) (Ft:P1),(∀ k,M k->k < w.heap.size)->Ui M w ps vs->Ho M w G Ft->Ft.Nodup->(∀ k∈Ft,M k) ->
  Calls P f vs.toArray w (cC ⟨λk=>M k/\k ∉ Ft,λk=>k∈Ft,[]⟩ w R)
def Sp (P:Program) (f:FuncId) (ps:List Ent) (R:Ent):Prop:=∀ (vs:P2) (M:Nat->Prop) (w:World),(∀ k,M k->k < w.heap.size)->Ui M w ps vs->Ct P f vs.toArray M w R
@[reducible] def num:Nat->List Ent->Cx->Cx
 | _,[],Γ=>Γ
 | k,e :: es,Γ=>(k,e) :: num (k + 1) es Γ
theorem Jn:∀ {es:List Ent} {k t:Nat} {e:Ent} {Γ:Cx},Ao (num k es Γ) t=some e->(k<=t/\t < k + es.length/\es[t - k]?=some e)\/Ao Γ t=some e
 | [],_,_,_,_,h=>.inr h
 | e0 :: es,k,t,e,Γ,h=>by
  unfold num at h;rw [Ak] at h;unfold put at h;split at h
  ·rename_i ht;subst ht;left;simpa using h
  ·rename_i ht;rcases Jn h with ⟨h1,h2,h3⟩ | h1
   ·left;refine ⟨by omega,by simp;omega,?_⟩;rw [show t - k=(t - (k + 1)) + 1 by omega];simpa using h3
   ·exact .inr h1
theorem Ui.len {M:Nat->Prop} {w:World}:∀ {es:List Ent} {vs:P2},Ui M w es vs->vs.length=es.length
 | [],[],_=>rfl
 | _ :: _,_ :: _,⟨_,h⟩=>by simp [Ui.len h]
theorem Ui.get {M:Nat->Prop} {w:World}:∀ {es:List Ent} {vs:P2},Ui M w es vs->∀ (i:Nat) (e:Ent),es[i]?=some e->e.p [] M w (vs.getD i undef)
 | [],[],_,i,e,h=>by simp at h
 | _ :: _,_ :: _,⟨h1,_⟩,0,e,h=>by
  simp only [LM,Nat.zero_lt_succ,L9,List.getElem_cons_zero,Option.some.injEq] at h;subst h;simpa using h1
 | _ :: _,_ :: _,⟨_,h2⟩,i + 1,e,h=>by
  have:=Ui.get h2 i e (by simpa using h);simpa using this
theorem Ho.cut {M:Nat->Prop} {w:World}:∀ {G:List Ent} {Ft:P1},Ho M w G Ft->∃ ψ:Nat->P1,(∀ (i:Nat) (e:Ent),G[i]?=some e->∀ u,e.p (ψ i) M w u)/\(∀ i,i < G.length->∀ k∈ψ i,k∈Ft) /\
  (Ft.Nodup->(∀ i,i < G.length->(ψ i).Nodup)/\∀ i j,i < G.length->j < G.length->i≠j->∀ k∈ψ i,k ∉ ψ j)
 | [],_,_=>⟨λ_=>[],λi e h=>by simp at h,λi h=>by simp at h,λ_=>⟨λi h=>by simp at h,λi j h=>by simp at h⟩⟩
 | e :: G,_,⟨F,F',rfl,h1,h2⟩=>by
  let ⟨ψ,p1,p2,p3⟩:=Ho.cut h2;refine ⟨λi=>if i=0 then F else ψ (i - 1),λi e' he=>?_,λi hi k hk=>?_,λhn=>⟨λi hi=>?_,λi j hi hj hne k hk=>?_⟩⟩
  ·cases i with
   | zero=>simp at he;subst he;simpa using h1
   | succ i=>simpa using p1 i e' (by simpa using he)
  ·cases i with
   | zero=>exact LD _ (by simpa using hk)
   | succ i=>exact LC _ (p2 i (by simpa using hi) k (by simpa using hk))
  ·let ⟨n1,n2,n3⟩:=N0.1 hn;cases i with
   | zero=>simpa using n1
   | succ i=>simpa using (p3 n2).1 i (by simpa using hi)
  ·let ⟨n1,n2,n3⟩:=N0.1 hn;cases i with
   | zero=>
    cases j with
    | zero=>exact absurd rfl hne
    | succ j=>
     simp only [if_true,Nat.succ_ne_zero,if_false,NE] at hk ⊢;exact λhm=>n3 k hk k (p2 j (by simpa using hj) k hm) rfl
   | succ i=>
    simp only [Nat.succ_ne_zero,if_false,NE] at hk;cases j with
    | zero=>simp only [if_true];exact λhm=>n3 k hm k (p2 i (by simpa using hi) k hk) rfl
    | succ j=>
     simp only [Nat.succ_ne_zero,if_false,NE];exact (p3 n2).2 i j (by simpa using hi) (by simpa using hj) aa k hk
theorem kH {vs:P2} {m t:Nat} (h:t < vs.length):Act.get { tmps:=vs.toArray ++ Array.replicate m undef,defers:=[] } t=vs.getD t undef:=by unfold Act.get;rw [KN,O0 (by simpa using h)];simp [h]
theorem aL {f:FuncId} {fn:Func} {c:Code} {ps G:List Ent} {R:Ent} (hf:P.funcs[f]?=some fn) (hc:da P f=true) (hb:fn.body=some c) (hn:fn.ntmps=n) (hsz:Nat.ble ps.length n=true) (h1000:Nat.ble n 300=true)
  (h:∀ K w a,Bd K w->K.ds=[]->St K w n (num 0 ps (num 300 G [])) a w->c.wpIn (Fr none) 0 P (eH P fn (cC K w R)) a w):Cg P f ps G R:=by (refine ⟨hc,λvs M w Ft hM hv ho hnd hFM=>GA.1 (callsIn_of_wp_marks (F:=Fr none) (n:=0) hf hb trivial ?_)⟩;have hsz':=KY hsz;have h1000':=KY h1000;let ⟨ψ,p1,p2,p3⟩:=ho.cut;let ⟨p4,p5⟩:=p3 hnd;have hl:=hv.len;have key:∀ t,(Ao (num 0 ps (num 300 G [])) t).isSome=true->t < 300\/(300<=t/\t - 300 < G.length):=λt ht=>by (let ⟨e,he⟩:=M6.1 ht;rcases Jn he with ⟨h1,h2,h3⟩ | h1);left;omega;(rcases Jn h1 with ⟨h1,h2,h3⟩ | h1);right;omega;simp [Ao] at h1);refine h _ _ _ ⟨λk hk=>hM k hk.1,λk hk hk'=>hk'.2 hk⟩ rfl ⟨M,λt=>if t < 300 then [] else ψ (t - 300),?_,λt ht=>?_,λt s hne ht hs k hk=>?_,λk hk=>hk.1,hM,Ext.refl _ _,?_,rfl⟩;(intro t e he;rcases Jn he with ⟨h1,h2,h3⟩ | h1);rw [kH aa];simp only [show t < 300 by omega,if_true];exact hv.get t e h3;(rcases Jn h1 with ⟨h1,h2,h3⟩ | h1);rw [if_neg aa];have h4:=p1 (t - 300) e h3;generalize Act.get _ t=u;exact h4 u;simp [Ao] at h1;(rcases key t ht with h1 | ⟨h1,h2⟩);simp [h1];simp only [show ¬ t < 300 by omega,if_false];exact ⟨p4 _ h2,λk hk=>⟨hFM k (p2 _ h2 k hk),.inr (p2 _ h2 k hk)⟩⟩;(rcases key t ht with h1 | ⟨h1,h2⟩);simp [h1] at hk;(rcases key s hs with h3 | ⟨h3,h4⟩);simp [h3];simp only [show ¬ t < 300 by omega,if_false] at hk;simp only [show ¬ s < 300 by omega,if_false];exact p5 _ _ h2 h4 aa k hk;simp only [O2,NF,Array.size_replicate,hn];omega
theorem Cg.sp {f:FuncId} {ps:List Ent} {R:Ent} (h:Cg P f ps [] R):Sp P f ps R:=λvs M w hM hv=>by
 refine ⟨h.1,Calls.mono (h.2 vs M w [] hM hv rfl L5 (λk hk=>by simp at hk)) ?_⟩;rintro en w' ⟨v,F,he,hx,hn,hF,hp⟩;refine ⟨v,he,hx.mono (λk _ hk=>by simp at hk),F,hn,λk hk=>(hF k hk).resolve_left ai,?_⟩;exact R.sb hp λk _ hk=>hk.imp (λh=>⟨h,by simp⟩) id
theorem aq {f:FuncId} {fn:Func} {c:Code} {ps:List Ent} {R:Ent} (hf:P.funcs[f]?=some fn) (hc:da P f=true) (hb:fn.body=some c) (hn:fn.ntmps=n) (hsz:Nat.ble ps.length n=true) (h1000:Nat.ble n 300=true)
  (h:∀ K w a,Bd K w->K.ds=[]->St K w n (num 0 ps []) a w->c.wpIn (Fr none) 0 P (eH P fn (cC K w R)) a w):Sp P f ps R:=(aL (G:=[]) hf hc hb hn hsz h1000 h).sp
theorem H5 {f:FuncId} {args:Array Operand} {argTypes:Array TypeId} {ty:TypeId} {e:Ent}
  (h:∀ ρ M w,Rd (Ao Γ) M w ρ->Ct P f (args.map ρ) M w e):OR P (.call { callee:=.value (.func f),args:=args,argTypes:=argTypes }) ty Γ e:=by
 intro d pos ag gd ρ M w rd;unfold Bk;have:(execOp ρ ⟨d,.call { callee:=.value (.func f),args:=args,argTypes:=argTypes },ty,pos,ag,gd⟩).run P w=(invoke (.fn (.func f) #[]) (args.map ρ)).run P w:=by
  simp [execOp,resolve,Deferred.ofValue,rd.fn]
 rw [this];let ⟨hb,hc⟩:=h ρ M w rd;cases hf:P.funcs[f]? with
 | none=>simp [da,hf] at hb
 | some fn=>
  simp only [da,hf,KU,LT] at hb;have:(invoke (.fn (.func f) #[]) (args.map ρ)).run P w=.ok (.enter f (args.map ρ)) w:=by
   simp only [invoke,callFunc,KJ,run_program,KE,hf,hb.2,Array.append_empty];have:fn.body.isNone=false:=by simpa using hb.1
   rw [this];rfl
  rw [this];exact hc
end
end
section
open Go.ChangeShapes Go.WideShapes Go.ChangeAt Go.WideMaps Go.WideElems
class Rdt (P:Program) (t:TypeId) (α:Type) [Rep α]:Prop where
 rd:∀ {H:Type} {enc:TypeId×Value->H} {w:World} {base:Nat} {sp:Nat->Bool} {held:Bool} {n:Nat} {cs:P2} {x:DataW H×List MemPlace},
  DataW.trod enc P w base sp held n t cs=some x->∃ a:α,Rep.rep No w cs a
section
variable {P:Program} {t e:TypeId}
theorem pE (h:P.underlying t=some (.int .i64)):Rdt P t Int:=⟨λhd=>let ⟨n,hc,_⟩:=DataW.trod_int h hd;⟨n,hc⟩⟩
theorem rdb (h:P.underlying t=some .bool):Rdt P t Bool:=⟨λhd=>let ⟨n,hc,_⟩:=DataW.trod_bool h hd;⟨n,hc⟩⟩
theorem Uc {w:World} {base b o:Nat} {sp:Option Nat} {n:Nat} {cs:P2} (h:w.cells? base ⟨b,o,sp⟩ n=some cs) (h0:0 < n):sp=none/\cs.length=n/\∀ j v,cs[j]?=some v->w.cell? ⟨b,o + j,none⟩=some v:=by
 unfold World.cells? at h;split at h
 case isFalse=>cases h
 have key:∀ (l:P1) (cs:P2),l.mapM (λi=>w.cell? ((⟨b,o,sp⟩:Addr).add i))=some cs->cs.length=l.length/\∀ (j:Nat) v,cs[j]?=some v->∃ i,l[j]?=some i/\w.cell? ((⟨b,o,sp⟩:Addr).add i)=some v:=by
  intro l
  induction l with
  | nil=>intro cs h;simp at h;subst h;exact ⟨rfl,λj v hj=>by simp at hj⟩
  | cons i l ih=>
   intro cs h;simp only [List.mapM_cons,Option.bind_eq_bind,MH] at h;let ⟨v,hv,r,hr,h⟩:=h;obtain rfl:=Option.some.inj h;let ⟨h1,h2⟩:=ih r hr;refine ⟨by simp [h1],λj u hj=>?_⟩;cases j with
   | zero=>simp at hj;subst hj;exact ⟨i,rfl,hv⟩
   | succ j=>simpa using h2 j u (by simpa using hj)
 let ⟨h1,h2⟩:=key _ _ h;rw [L7] at h1;have hsp:sp=none:=by
  let ⟨i,hi,hv⟩:=h2 0 (cs[0]'aa) (L9 aa);rw [K6 h0] at hi;obtain rfl:=Option.some.inj hi;cases sp with
  | none=>rfl
  | some q=>
   exfalso;unfold World.cell? at hv;simp only [Addr.add,if_true] at hv;split at hv
   ·simp at hv
   ·cases hv
 subst hsp;refine ⟨rfl,h1,λj v hj=>?_⟩;let ⟨i,hi,hv⟩:=h2 j v hj;have hjl:j < n:=by
  rcases LV j n with h | h
  ·exact h
  ·rw [LG aa] at hj;cases hj
 rw [K6 hjl] at hi;obtain rfl:=Option.some.inj hi
 rwa [Bo] at hv
theorem pD {α:Type} [Rep α] (h:P.underlying t=some (.slice e)) (hc:P.cellsOf e=Rep.sz α) (hp:0 < Rep.sz α) (r:Rdt P e α):Rdt P t (List α):=⟨λ{H enc w base sp held n cs x} hd=>by
 rcases DataW.trod_slice h hd with ⟨rfl,_⟩ | ⟨a,len,cap,elems,rest,m,q1,rfl,q2,q3,q4,q5,hel,hat,q6⟩
 ·exact ⟨[],_,rfl,none,0,rfl,.inl rfl⟩
 ·by_cases h0:len=0
  ·subst h0;exact ⟨[],_,rfl,some a,cap,rfl,.inl rfl⟩
  ·let ⟨b,o,spot⟩:=a;have h1:spot=none:=by
    have h1:=hat 0 aa;rw [L9 aa,Nat.zero_mul,hc] at h1;let ⟨cs,hcs,_⟩:=MH.1 h1;exact (Uc (b:=b) (o:=o) hcs hp).1
   subst h1;have get:∀ i,i < len->∃ x:α,Pl x No w b (o + i * Rep.sz α):=by
    intro i hi;have h1:=hat i hi;rw [L9 aa] at h1;let ⟨cs,hcs,htr⟩:=MH.1 h1;let ⟨x,hx⟩:=r.rd htr;rw [hc,Bo] at hcs;let ⟨h2,h3,h4⟩:=Uc (b:=b) (o:=o + i * Rep.sz α) hcs hp;exact ⟨x,cs,λj v hj=>⟨id,h4 j v hj⟩,hx⟩
   have pick:∀ k,k<=len->∃ xs:List α,xs.length=k/\∀ i x,xs[i]?=some x->Pl x No w b (o + i * Rep.sz α):=by
    intro k
    induction k with
    | zero=>intro _;exact ⟨[],rfl,λi x hx=>by simp at hx⟩
    | succ k ih=>
     intro hk;let ⟨xs,hl,hx⟩:=ih aa;let ⟨y,hy⟩:=get k aa;refine ⟨xs ++ [y],by simp [hl],λi x hi=>?_⟩;by_cases hik:i < k
     ·rw [KR aa] at hi;exact hx i x hi
     ·rw [KO aa] at hi;have:i - xs.length=0:=by
       rcases NY (i - xs.length) with h | h
       ·exact h
       ·rw [LG (by simp;omega)] at hi;cases hi
      rw [this] at hi;obtain rfl:y=x:=by simpa using hi
      rw [show i=k by omega];exact hy
   let ⟨xs,hl,hx⟩:=pick len (K9 _);subst hl;exact ⟨xs,_,rfl,some ⟨b,o,none⟩,cap - xs.length,by rw [OL aa],.inr ⟨b,o,rfl,Row.of_get hx⟩⟩⟩
structure gV (P:Program) (fs:List Field) (o:Nat) (β:Type) [Rep β]:Prop where
 go:∀ {H:Type} {enc:TypeId×Value->H} {w:World} {base:Nat} {sp:Nat->Bool} {held:Bool} {n:Nat} {cs:P2},
  o + Rep.sz β<=cs.length->(∀ f∈fs,∃ x,DataW.trod enc P w base sp held n f.type ((cs.drop f.offset).take (P.cellsOf f.type))=some x)->∃ b:β,Rep.rep No w ((cs.drop o).take (Rep.sz β)) b
theorem FU {α:Type} [Rep α] {f:Field} {o:Nat} (ho:f.offset=o) (hc:P.cellsOf f.type=Rep.sz α) (r:Rdt P f.type α):gV P [f] o α:=.mk λ_ h=>by
 let ⟨x,hx⟩:=h f ai;rw [ho,hc] at hx;exact r.rd hx
theorem Zg {α β:Type} [Rep α] [Rep β] {f:Field} {fs:List Field} {o:Nat} (ho:f.offset=o) (hc:P.cellsOf f.type=Rep.sz α) (r:Rdt P f.type α) (k:gV P fs (o + Rep.sz α) β):gV P (f :: fs) o (α×β):=.mk λ{H enc w base sp held n cs} hl h=>by
 have hl:o + (Rep.sz α + Rep.sz β)<=cs.length:=hl;let ⟨x,hx⟩:=h f ai;rw [ho,hc] at hx;let ⟨a,ha⟩:=r.rd hx;let ⟨b,hb⟩:=k.go (cs:=cs) aa λg hg=>h g (by simp [hg]);refine ⟨(a,b),_,_,?_,ha,hb⟩;show (cs.drop o).take (Rep.sz α + Rep.sz β)=_;rw [List.take_add,PK]
theorem je {α β:Type} [Rep β] {l:List Field} {f:α->β} {g:β->α} (hfg:∀ b,f (g b)=b) (ht:P.underlying t=some (.struct l.toArray)) (hc:P.cellsOf t=Rep.sz β) (k:gV P l 0 β):@Rdt P t α (Rep.via f):=
 @Rdt.mk P t α (Rep.via f) λ{H enc w base sp held n cs x} hd=>by
  obtain ⟨xs,m,rfl,_,hl,hxl,hf⟩:=DataW.trod_struct ht hd;obtain ⟨b,hb⟩:=k.go (cs:=cs) aa (λf hm=>by
   obtain ⟨i,hi,rfl⟩:=List.mem_iff_getElem.1 hm;have:=hf i l[i] (by simp [hi]);rw [L9 (by simp at hxl;omega)] at this;exact ⟨_,this⟩)
  refine ⟨g b,?_⟩;show Rep.rep No w cs (f (g b));rw [hfg];rw [LX,MF aa] at hb;exact hb
theorem CO {α:Type} [Rep α] {fs:Array Field} {H:Type} {enc:TypeId×Value->H} {w:World} {rch:Reach} {b0 base:Nat} {sp:Nat->Bool} {held:Bool} {v:Value} {d:DataW H} {ps:List MemPlace} (ht:P.underlying t=some (.struct fs)) (ha:Rep.agg α=true) (r:Rdt P t α)
  (hval:Value.okWide P w rch b0 t v) (hd:DataW.Trod enc P w base sp held t v d ps):∃ x:α,(Va x).p [] No w v:=by let ⟨n,hn⟩:=hd;let ⟨x,hx⟩:=r.rd hn;simp only [Value.okWide,ht] at hval;obtain ⟨cs,rfl,_⟩:=hval;exact ⟨x,rfl,cs.toList,by simp [mk,ha],hx⟩
theorem GW {α:Type} [Rep α] {H:Type} {enc:TypeId×Value->H} {w:World} {rch:Reach} {b0 base:Nat} {sp:Nat->Bool} {held:Bool} {v:Value} {d:DataW H} {ps:List MemPlace} (ht:P.underlying t=some (.slice e)) (r:Rdt P t (List α))
  (hval:Value.okWide P w rch b0 t v) (hd:DataW.Trod enc P w base sp held t v d ps):∃ x:List α,(Va x).p [] No w v:=by
 let ⟨n,hn⟩:=hd;let ⟨x,u,hu,hx⟩:=r.rd hn;refine ⟨x,rfl,[u],?_,u,rfl,hx⟩;show v=u;cases v with
 | agg cs=>simp [Value.okWide,ht,Cell.okWide,Cell.ok] at hval
 | _=>exact (List.cons.inj hu).1
theorem Hq {H:Type} {enc:TypeId×Value->H} {W W':World} {sp':Nat->Bool} (hl:laidOutB P=true) (hB:Below W.heap.size W W'):∀ {ts:List TypeId} {vs:P2} {ds:List (DataW H)} {ps:List MemPlace},
  (∀ t∈ts,P.readableRec t=true/\t < P.types.size)->DataW.TrodAll enc P W 0 (λ_=>true) true ts vs ds ps->(∀ p∈ps,p.block < W.heap.size)->(∀ p∈ps,sp' p.block=true)->DataW.TrodAll enc P W' 0 sp' true ts vs ds ps
 | [],[],[],_,_,h,_,_=>h
 | t :: ts,v :: vs,d :: ds,_,hr,⟨p,q,h1,h2,rfl⟩,hb,hs=>by
  have h0:=hr t ai;exact ⟨p,q,Trod_stays hl h0.1 h0.2 h1 (λx hx=>hB.same (hb x (by simp [hx]))) (λx hx=>hs x (by simp [hx])),Hq hl hB (λt ht=>hr t (by simp [ht])) h2 (λx hx=>hb x (by simp [hx])) (λx hx=>hs x (by simp [hx])),rfl⟩
 | [],_ :: _,_,_,_,h,_,_=>h.elim
 | [],[],_ :: _,_,_,h,_,_=>h.elim
 | _ :: _,[],_,_,_,h,_,_=>h.elim
 | _ :: _,_ :: _,[],_,_,h,_,_=>h.elim
theorem DA {H:Type} {enc:TypeId×Value->H} {f:Func} {s:ChangeSpec} {apart fresh handsOn again:Bool} {W W':World} {args:Array Value} {ds gs:List (DataW H)} {before:List MemPlace} {tb:TypeId}
  (hl:laidOutB P=true) (hps:∀ t∈f.params.toList,P.readableRec t=true/\t < P.types.size) (hrt:f.resultTypes=#[tb]) (hb:P.underlying tb=some .bool) (hv:s.vars=[])
  (hfn:(s.fn H ds).results=[.lit (.bool true)]/\(s.fn H ds).args=ds/\(s.fn H ds).vars=[])
  (hW:DataW.Whole enc P f.params.toList s.vars apart W args.toList ds gs before) (hB:Below W.heap.size W W'):s.post enc P f apart fresh handsOn again W args (.bool true) W':=by
 have hlt:=hW.lt;have hW0:=hW;obtain ⟨pa,pv,hA,hV,rfl,hz,hn⟩:=hW;rw [hv] at hV;obtain ⟨rfl,rfl⟩:=ChangeShapes.trodVars_none hV;rw [LP] at hlt hz hn;have hres:∀ (b:Nat) (sp:Nat->Bool) (hd:Bool),DataW.TrodAll enc P W' b sp hd f.resultTypes.toList ((Value.bool true).resultList f.resultTypes.size) (s.fn H (ds ++ [])).results []:=by
  intro b sp hd;rw [LP,hfn.1,hrt];exact ChangeShapes.trodAll_mk1 (shut_bool hb _)
 have hargs:∀ sp:Nat->Bool,(∀ p∈pa,sp p.block=true)->DataW.TrodAll enc P W' 0 sp true f.params.toList args.toList (s.fn H (ds ++ [])).args pa:=by
  intro sp hsp;rw [LP,hfn.2.1];exact Hq hl hB hps hA hlt hsp
 have hvars:∀ sp:Nat->Bool,DataW.TrodVars enc P W' sp s.vars (s.fn H (ds ++ [])).vars []:=by
  intro sp;rw [LP,hfn.2.2,hv];exact rfl
 have hold:∀ p∈pa,(λb=>decide (b < W.heap.size)) p.block=true:=λp hp=>by simpa using hlt p hp
 refine ⟨ds,[],pa ++ [],[],pa,[],hW0,hres _ _ _,hargs _ hold,hvars _,hB.frame _,λ_=>?_⟩;refine ⟨?_,_,_,([] ++ pa) ++ [],⟨[] ++ pa,[],trodAll_append (hargs _ (λ_ _=>rfl)) (hres _ _ _),hvars _,rfl,?_,?_⟩,?_⟩
 ·intro j t r h1 h2;rw [hrt] at h1 h2
  match j,h1,h2 with
  | 0,h1,h2=>
   obtain rfl:tb=t:=by simpa using h1
   obtain rfl:Value.bool true=r:=by simpa [Value.resultList] using h2
   exact okWide_bool_mk hb _
 ·intro b off hp;have hp':MemPlace.cell b off∈pa:=by simpa using hp
  rw [hB.frozen (p:=⟨b,off,none⟩) (hlt _ hp')];exact hz b off hp'
 ·intro ha;simpa using hn ha
 ·intro p hp _;simpa using hp
end
end
section
open Go.ChangeShapes Go.WideShapes Go.ChangeAt Go.WideMaps Go.WideElems
section
variable {P:Program} {t e:TypeId}
theorem pF (h:P.underlying t=some (.int .u8)):Rdt P t UInt8:=⟨λhd=>by
 let ⟨n,hc,_,hr⟩:=DataW.trod_int h hd;have hr:(decide ((0:Int)<=n) && decide (n<=(255:Int)))=true:=hr;rw [KU,decide_eq_true_iff,decide_eq_true_iff] at hr;have e:((UInt8.ofNat n.toNat).toNat:Int)=n:=by
  rw [UInt8.toNat_ofNat'];omega
 refine ⟨UInt8.ofNat n.toNat,?_⟩;show _=[Value.int .u8 ((UInt8.ofNat n.toNat).toNat:Int)];rw [e];exact hc⟩
end
end
section
variable {rr:Option Nat}
def Qv (c:Value):Ent where
 p F _ _ v:=F=[]/\v=c
 st h _:=h
 sb h _:=h
def Dd:Ent where
 p F _ _ _:=F=[]
 st h _:=h
 sb h _:=h
instance {α:Type} [Rep α] {x:α}:Zf (Va x):=⟨λh=>h.1⟩
instance {α:Type} [Rep α] {x:α}:Zf (Pt x):=⟨λh=>h.1⟩
instance {c:Value}:Zf (Qv c):=⟨λh=>h.1⟩
@[reducible] def pb (b off:Nat):Value:=.pointer (some ⟨b,off,none⟩)
def Mg {α:Type} [Rep α] (b:Nat) (x:α):Ent where
 p F M w _:=F=[b]/\∃ cs T,w.heap[b]?=some (.cells cs T (0,0))/\Rep.rep M w cs.toList x
 st h e:=by
  obtain ⟨rfl,cs,T,hc,hr⟩:=h;have hb:b < _:=(KS.1 hc).1;exact ⟨rfl,cs,T,by rw [e.block b hb ai];exact hc,Rep.ext hr (e.mono λ_ _ hk=>hk.1)⟩
 sb h s:=let ⟨hF,cs,T,hc,hr⟩:=h;⟨hF,cs,T,hc,Rep.sub hr s⟩
instance {α:Type} [Rep α] {b:Nat} {x:α}:Gh (Mg b x):=⟨λh _=>h⟩
def MB {α:Type} [Rep α] (x:α):Ent where
 p F M w v:=∃ b,v=pb b 0/\(Mg b x).p F M w v
 st h e:=let ⟨b,hv,h⟩:=h;⟨b,hv,(Mg b x).st h e⟩
 sb h s:=let ⟨b,hv,h⟩:=h;⟨b,hv,(Mg b x).sb h s⟩
def At (c:Value) (e:Ent):Ent where
 p F M w _:=e.p F M w c
 st h x:=e.st h x
 sb h s:=e.sb h s
instance {c:Value} {e:Ent}:Gh (At c e):=⟨λh _=>h⟩
class Zr (P:Program) (T:TypeId) {α:Type} [Rep α] (z:outParam α):Prop where
 zero:∃ cs,(P.info? T).map (·.zero)=some (some (mk (Rep.agg α) cs))/\∀ M w,Rep.rep M w cs z
theorem Rep.fresh {α:Type} [Rep α] {M:Nat->Prop} {w w':World} {cs:P2} {x:α} {F:P1} (h:Rep.rep M w cs x) (e:Ext No w w') (hF:∀ k∈F,w.heap.size<=k):Rep.rep (λk=>M k\/k∈F) w' cs x:=by (refine Rep.ext (Rep.sub h λk hk hk'=>?_) e.no;rcases hk' with h | h);exact h;exact absurd (hF k h) aa
section
variable {P:Program} {M0:Fm} {w0:World} {n:Nat} {Γ:Cx} {Q:Exit->Act->World->Prop} {a:Act} {w:World} {ty:TypeId}
theorem Ch (w:World) (o:Obj):(w.alloc o).heap[w.heap.size]?=some o:=by show (w.heap.push o)[w.heap.size]?=_;simp
theorem al {T:TypeId} {α:Type} [Rep α] {z:α} [hz:Zr P T z]:OR P (.alloc T) ty Γ (MB z):=by
 let ⟨cs,hz1,hz2⟩:=hz.zero;refine OR.run λρ M w r=>?_;have hr:=hz2 M w;refine ⟨.pointer (some ⟨w.heap.size,0,none⟩),w.alloc (.cells cs.toArray T),λ_ _ _ _=>?_,Ext.alloc _ _ _,[w.heap.size],by simp,λk hk=>?_,w.heap.size,rfl,rfl,cs.toArray,T,Ch _ _,?_⟩
 ·cases hi:P.info? T with
  | none=>simp [hi] at hz1
  | some i=>
   simp only [hi,Option.map_some,Option.some.injEq] at hz1;simp only [execOp,Instr.alloc,zeroValue,typeInfo,KJ,run_program,KE,hi,KQ,hz1,newVar,newRow,Dc hr,run_newObj];rfl
 ·simp at hk;subst hk;exact ⟨Nat.le_refl _,by simp⟩
 ·exact hz2 _ _
theorem lR {T:TypeId} {x:Operand} {α:Type} [Rep α] {y:α} (h:Od Γ x (Va y)):OR P (.box T x) ty Γ (MB y):=by refine OR.run λρ M w r=>?_;let ⟨_,_,cs,hv,hr⟩:=h ρ M w r;refine ⟨.pointer (some ⟨w.heap.size,0,none⟩),w.alloc (.cells cs.toArray T),λ_ _ _ _=>?_,Ext.alloc _ _ _,[w.heap.size],by simp,λk hk=>?_,w.heap.size,rfl,rfl,cs.toArray,T,Ch _ _,?_⟩;simp only [execOp,hv,Instr.box,newVar,newRow,Dc hr,KJ,run_newObj,KE,KQ];rfl;simp at hk;subst hk;exact ⟨Nat.le_refl _,by simp⟩;exact Rep.fresh hr (Ext.alloc _ _ _) λk hk=>by simp at hk;omega
theorem StM.split {g:Mp} {M:Nat->Prop} {φ:Nat->P1} {d k:Nat} {e1 e2:Ent} (h:StM M0 w0 n g a w M φ) (hd:(g d).isSome=true) (hne:d≠k)
  (h1:e1.p [] M w (a.get d)) (h2:e2.p (φ d) M w (a.get k)):StF M0 w0 n (put d e1 (put k e2 g)) a w:=by refine ⟨M,λt=>if t=d then [] else if t=k then φ d else φ t,λt e he=>?_,λt ht=>?_,λt s hts ht hs=>?_,h.sub,h.bd,h.fr,h.sz,h.df⟩;simp only [put] at he;by_cases h3:t=d;subst h3;simp only [if_true,Option.some.injEq] at he ⊢;subst he;exact h1;by_cases h4:t=k;subst h4;simp only [if_neg h3,if_true,Option.some.injEq] at he ⊢;subst he;exact h2;simp only [if_neg h3,if_neg h4] at he ⊢;exact h.holds t e he;by_cases h3:t=d;subst h3;simp;by_cases h4:t=k;subst h4;simp only [if_neg h3,if_true];exact h.own d hd;simp only [put,if_neg h3,if_neg h4] at ht ⊢;exact h.own t ht;by_cases h3:t=d;simp [h3];by_cases h5:s=d;simp [h5];simp only [put,if_neg h3,if_neg h5] at ht hs ⊢;by_cases h4:t=k;subst h4;simp only [if_true,if_neg (Ne.symm hts)] at hs ⊢;exact h.apart d s (Ne.symm h5) hd hs;by_cases h6:s=k;subst h6;simp only [if_neg h4,if_true] at ht ⊢;exact h.apart t d h3 ht hd;simp only [if_neg h4,if_neg h6] at ht hs ⊢;exact h.apart t s hts ht hs
theorem Fp (d k:Nat) (e1 e2:Ent) (Γ:Cx):Ao ((d,e1) :: (k,e2) :: Γ)=put d e1 (put k e2 (Ao Γ)):=by rw [Ak,Ak]
theorem St.openB {d:Nat} {α:Type} [Rep α] {x:α} (h:St M0 w0 n Γ a w) (k:Nat) (hd:Ao Γ d=some (MB x)) (hne:Nat.beq d k=false):∃ b,St M0 w0 n ((d,Qv (pb b 0)) :: (k,Mg b x) :: Γ) a w:=by let ⟨M,φ,h⟩:=h;let ⟨b,hv,hb⟩:=h.holds d _ hd;refine ⟨b,?_⟩;unfold St;rw [Fp];exact h.split (by rw [hd];rfl) (LU hne) ⟨rfl,hv⟩ hb
theorem St.name {d:Nat} {e:Ent} (h:St M0 w0 n Γ a w) (k:Nat) (hd:Ao Γ d=some e) (hne:Nat.beq d k=false):∃ c,St M0 w0 n ((d,Qv c) :: (k,At c e) :: Γ) a w:=by let ⟨M,φ,h⟩:=h;refine ⟨a.get d,?_⟩;unfold St;rw [Fp];exact h.split (by rw [hd];rfl) (LU hne) ⟨rfl,rfl⟩ (h.holds d _ hd)
theorem bR {d:Nat} {e:Ent} {R:Prop} (k:Nat) (h:St M0 w0 n Γ a w) (hd:Ao Γ d=some e) (hne:Nat.beq d k=false) (r:∀ c,St M0 w0 n ((d,Qv c) :: (k,At c e) :: Γ) a w->R):R:=
 let ⟨c,s⟩:=h.name k hd hne;r c s
theorem ta {x:Operand} {k:Nat} {c:Value} {e:Ent} (hx:Od Γ x (Qv c)) (hk:Ao Γ k=some (At c e)):Od Γ x e:=λρ M w r=>by
 let ⟨_,_,hv⟩:=hx ρ M w r;let ⟨F,h⟩:=r.tmp _ _ hk;exact ⟨F,by rw [hv];exact h⟩
theorem aY {ops:Array Oper} {rest:List Oper} {d:Nat} {op:Op} {pos:String} {ag:Array Edge} {α:Type} [Rep α] {x:α} (K:Nat)
  (hs:St M0 w0 n Γ a w) (ho:OR P op ty Γ (MB x)) (hn:Nat.blt d n=true) (hdk:Nat.beq d K=false)
  (k:∀ b a' w',St M0 w0 n ((d,Qv (pb b 0)) :: (K,Mg b x) :: (d,MB x) :: Γ) a' w'->wpListIn (Fr rr) 0 P ops Q rest a' w'):wpListIn (Fr rr) 0 P ops Q (⟨some d,op,ty,pos,ag,none⟩ :: rest) a w:=
 sq hs ho hn λa' w' s=>let ⟨b,s⟩:=s.openB K (by simp [Ao]) hdk;k b a' w' s
theorem cq {v:Value}:Od Γ (.const v) (Qv v):=λρ _ _ r=>⟨[],rfl,r.con _⟩
theorem av {x:Operand} {c:Value} (h:Od Γ x (Qv c)):OR P (.move x) ty Γ (Qv c):=
 OR.val λρ M w r=>let ⟨_,hF⟩:=h ρ M w r;⟨ρ x,λ_ _ _ _=>rfl,rfl,hF.2⟩
theorem aV {x:Operand} {c:Value} (h:Od Γ x (Qv c)):OR P (.assign x) ty Γ (Qv c):=
 OR.val λρ M w r=>let ⟨_,hF⟩:=h ρ M w r;⟨ρ x,λ_ _ _ _=>rfl,rfl,hF.2⟩
theorem aN {x:Operand} {b o:Nat} (h:Od Γ x (Qv (pb b o))):OR P (.nilCheck x) ty Γ (Qv (pb b o)):=
 OR.val λρ M w r=>by
  let ⟨_,_,hv⟩:=h ρ M w r;exact ⟨ρ x,λ_ _ _ _=>by simp [execOp,hv,Sem.run,pure],rfl,hv⟩
theorem qi {x:Operand} {m:Int} (h:Od Γ x (Qv (.int .i64 m))):Od Γ x (Va m):=λρ M w r=>let ⟨_,_,hv⟩:=h ρ M w r;⟨[],by rw [hv];exact Va.mkInt⟩
theorem iq {x:Operand} {m:Int} (h:Od Γ x (Va m)):Od Γ x (Qv (.int .i64 m)):=λρ M w r=>let ⟨_,hv⟩:=h ρ M w r;⟨[],rfl,Va.int hv⟩
theorem bq {x:Operand} {m:Bool} (h:Od Γ x (Va m)):Od Γ x (Qv (.bool m)):=λρ M w r=>let ⟨_,hv⟩:=h ρ M w r;⟨[],rfl,Va.bool hv⟩
theorem ax {S k:Nat} {x:Operand} {b o off m q:Nat} (h:Od Γ x (Qv (pb b o))) (ho:Mb P S k=some (off,m + 1)) (hq:o + off=q):OR P (.fieldAddr S x k) ty Γ (Qv (pb b q)):=by subst hq;refine OR.val λρ M w r=>?_;let ⟨_,_,hv⟩:=h ρ M w r;refine ⟨pb b (o + off),λ_ _ _ _=>?_,rfl,rfl⟩;simp only [execOp,hv,KJ,Gv ho,KE,KQ]
theorem lm {T K:TypeId} {x:Operand} {α:Type} [Rep α] [Ty P T α] {b:Nat} {y:α} (h:Od Γ x (Qv (pb b 0))) (hk:Ao Γ K=some (Mg b y)):OR P (.load T x) ty Γ (Va y):=by refine OR.val λρ M w r=>?_;let ⟨_,_,hv⟩:=h ρ M w r;let ⟨_,_,cs,T',hc,hr⟩:=r.tmp _ _ hk;refine ⟨mk (Rep.agg α) cs.toList,λ_ _ _ _=>?_,rfl,cs.toList,rfl,hr⟩;simp only [execOp,hv,Instr.loadAt,Instr.sureAddr,KJ,KQ,KE];rw [Bu (λj v hj=>?_) hr];rfl;simp [World.cell?,hc];simpa using hj
theorem lf {T K:Nat} {x:Operand} {α β:Type} [Rep α] [Rep β] [Ty P T β] {b:Nat} {y:α} {f:α->β} {off:Nat} [hd:DF f off] (h:Od Γ x (Qv (pb b off))) (hk:Ao Γ K=some (Mg b y)):OR P (.load T x) ty Γ (Va (f y)):=by refine OR.val λρ M w r=>?_;let ⟨_,_,hv⟩:=h ρ M w r;let ⟨_,_,cs,T',hc,hr⟩:=r.tmp _ _ hk;let ⟨q,m,z,hcs,hl,hm⟩:=hd.at_ hr;refine ⟨mk (Rep.agg β) m,λ_ _ _ _=>?_,rfl,m,rfl,hm⟩;simp only [execOp,hv,Instr.loadAt,Instr.sureAddr,KJ,KQ,KE];rw [Bu (λj v hj=>?_) hm];rfl;(have:cs.toList[off + j]?=some v:=by rw [hcs,← hl,KO aa,PB];rw [KR];exact hj;(rcases LV j m.length with h1 | h1);exact h1;simp [LG h1] at hj);simp [World.cell?,hc];simpa using this
theorem StM.write {g:Mp} {M:Nat->Prop} {φ:Nat->P1} {p b:Nat} {w':World} {e':Ent} (h:StM M0 w0 n g a w M φ) (hp:(g p).isSome=true) (hb:b∈φ p) (hx:Ext (λk=>k=b) w w')
  (he:e'.p (φ p) M w' (a.get p)):StF M0 w0 n (put p e' g) a w':=by
 have hsome:∀ t,((put p e' g) t).isSome=true->(g t).isSome=true:=by
  intro t ht;unfold put at ht;split at ht
  ·rename_i hh;rw [hh];exact hp
  ·exact ht
 refine ⟨M,φ,λt e ht=>?_,λt ht=>h.own t (hsome t ht),λt s hne ht hs=>h.apart t s hne (hsome t ht) (hsome s hs),h.sub,λk hk=>LR (h.bd k hk) hx.size,?_,h.sz,h.df⟩
 ·unfold put at ht;split at ht
  ·rename_i hh;subst hh;cases ht;exact he
  ·rename_i hh;refine Ent.st _ (h.holds t e ht) (hx.mono λk _ hk=>?_);subst hk;exact ⟨((h.own p hp).2 _ hb).1,λhm=>h.apart t p hh (by rw [ht];rfl) hp _ hm hb⟩
 ·have hlt:=((h.own p hp).2 b hb).2;exact ⟨hx.os.trans h.fr.os,hx.tape.trans h.fr.tape,hx.output.trans h.fr.output,LW h.fr.size hx.size,λk hk hnb=>
   (hx.block k (LR hk h.fr.size) (λe=>by subst e;exact hlt.elim (λh=>absurd hk aa) hnb)).trans (h.fr.block k hk hnb),LW h.fr.dr hx.dr⟩
theorem Ext.setRow (w:World) (b:Nat) (cs:Array Value):Ext (λk=>k=b) w (w.setRow b cs):=
 ⟨rfl,rfl,rfl,by simp,λk _ hne=>setRow_other w b k cs hne,K9 _⟩
class DU {α β γ:Type} [Rep α] [Rep β] [Rep γ] (off:Nat) (u:outParam (α->β->γ)):Prop where
 upd:∀ {M w cs m x y},Rep.rep M w cs x->Rep.rep M w m y->∃ p q m0,cs=p ++ (m0 ++ q)/\p.length=off/\m0.length=m.length/\Rep.rep M w (p ++ (m ++ q)) (u x y)
theorem Cz {T:TypeId} {β:Type} [Rep β] [ht:Ty P T β] {y:β} {M:Nat->Prop} {w:World} {b off:Nat} {cs:Array Value} {T':TypeId} {m p q m0:P2} (hc:w.heap[b]?=some (.cells cs T' (0,0))) (hy:Rep.rep M w m y)
  (hcs:cs.toList=p ++ (m0 ++ q)) (hl:p.length=off) (hm:m0.length=m.length):(storeVar T ⟨b,off,none⟩ (mk (Rep.agg β) m)).run P w=.ok () (w.setRow b (p ++ (m ++ q)).toArray):=by
 have hlen:=Rep.len hy;have hsz:cs.size=p.length + (m0.length + q.length):=by rw [← PP,hcs];simp
 simp only [storeVar,KJ,Dc hy,Ty.run_size ht.size,KE,NF,hlen];have:=run_storeCells_at (P:=P) b off T' m 0 cs w hc aa (Rep.one hy);simp only [ne_eq,not_true,if_false,this,NS,Sem.run_ite];congr 3;rw [hcs,← hl];simp only [List.take_left',K3];congr 2;rw [List.drop_append,LF aa,← hm];simp
theorem sf {ops:Array Oper} {rest:List Oper} {T K:Nat} {x y:Operand} {ty:TypeId} {pos:String} {ag:Array Edge} {α β γ:Type} [Rep α] [Rep β] [Rep γ] [Ty P T β] {b off:Nat} {z:α} {v:β} {u:α->β->γ} [hu:DU off u]
  (hs:St M0 w0 n Γ a w) (hx:Od Γ x (Qv (pb b off))) (hp:Ao Γ K=some (Mg b z)) (hy:Od Γ y (Va v))
  (k:∀ w',St M0 w0 n ((K,Mg b (u z v)) :: Γ) a w'->wpListIn (Fr rr) 0 P ops Q rest a w'):wpListIn (Fr rr) 0 P ops Q (⟨none,.store T x y,ty,pos,ag,none⟩ :: rest) a w:=by refine wpListIn_plain rfl λKc hK=>?_;let ⟨M,φ,h⟩:=hs;let ⟨_,_,hv⟩:=hx _ _ _ h.rd;let ⟨hF,cs,T',hc,hr⟩:=h.holds K _ hp;let ⟨_,_,m,hm,hmr⟩:=hy _ _ _ h.rd;let ⟨l,q,m0,hcs,hl,hml,hnew⟩:=hu.upd hr hmr;refine Bk.upon (Bk.skip (w':=w.setRow b (l ++ (m ++ q)).toArray) ?_ ?_);simp only [execOp,hv,hm,Instr.storeAt,Instr.sureAddr,KJ,KQ,KE,Cz hc hmr hcs hl hml];refine hK _ _ (k _ ?_);unfold St;rw [Ak];refine h.write (by rw [hp];rfl) (by rw [hF];simp) (Ext.setRow w b _) ⟨hF,_,T',setRow_heap w b cs _ T' _ hc,?_⟩;refine Rep.ext hnew ((Ext.setRow w b _).mono λk _ hk=>?_);subst hk;exact ((h.own K (by rw [hp];rfl)).2 _ (by rw [hF];simp)).1
theorem sw {ops:Array Oper} {rest:List Oper} {T K:Nat} {x y:Operand} {ty:TypeId} {pos:String} {ag:Array Edge} {α β:Type} [Rep α] [Rep β] [Ty P T β] {b:Nat} {z:α} {v:β}
  (hs:St M0 w0 n Γ a w) (hx:Od Γ x (Qv (pb b 0))) (hp:Ao Γ K=some (Mg b z)) (hy:Od Γ y (Va v)) (hz:Rep.sz α=Rep.sz β)
  (k:∀ w',St M0 w0 n ((K,Mg b v) :: Γ) a w'->wpListIn (Fr rr) 0 P ops Q rest a w'):wpListIn (Fr rr) 0 P ops Q (⟨none,.store T x y,ty,pos,ag,none⟩ :: rest) a w:=by
 refine wpListIn_plain rfl λKc hK=>?_;let ⟨M,φ,h⟩:=hs;let ⟨_,_,hpv⟩:=hx _ _ _ h.rd;let ⟨hF,cs,T',hc,hr⟩:=h.holds K _ hp;let ⟨_,_,m,hm,hmr⟩:=hy _ _ _ h.rd;refine Bk.upon (Bk.skip (w':=w.setRow b ([] ++ (m ++ [])).toArray) ?_ ?_)
 ·have hst:(storeVar T ⟨b,0,none⟩ (mk (Rep.agg β) m)).run P w=.ok () (w.setRow b ([] ++ (m ++ [])).toArray):=
   Cz (m0:=cs.toList) (p:=[]) (q:=[]) hc hmr ai rfl (by rw [Rep.len hr,Rep.len hmr,hz])
  simp only [execOp,hpv,hm,Instr.storeAt,Instr.sureAddr,KJ,KQ,KE,hst]
 ·refine hK _ _ (k _ ?_);unfold St;rw [Ak];refine h.write (by rw [hp];rfl) (by rw [hF];simp) (Ext.setRow w b _) ⟨hF,_,T',setRow_heap w b cs _ T' _ hc,?_⟩;simp only [MQ,LP];refine Rep.ext hmr ((Ext.setRow w b _).mono λk _ hk=>?_);subst hk;exact ((h.own K (by rw [hp];rfl)).2 _ (by rw [hF];simp)).1
theorem x20 {x:Operand} {e1 e2:Ent} [z:Zf e1] (h:Od Γ x (T2 e1 e2)):OR P (.extract x 0) ty Γ e1:=
 OR.val λρ M w r=>by
  let ⟨_,v1,v2,F1,F2,hv,_,h1,h2⟩:=h ρ M w r;exact ⟨v1,λ_ _ _ _=>by simp only [execOp,hv];rfl,by have:=z.z h1;subst this;exact h1⟩
theorem x21 {x:Operand} {e1 e2:Ent} [z:Zf e2] (h:Od Γ x (T2 e1 e2)):OR P (.extract x 1) ty Γ e2:=
 OR.val λρ M w r=>by
  let ⟨_,v1,v2,F1,F2,hv,_,h1,h2⟩:=h ρ M w r;exact ⟨v2,λ_ _ _ _=>by simp only [execOp,hv];rfl,by have:=z.z h2;subst this;exact h2⟩
theorem x30 {x:Operand} {e1 e2 e3:Ent} [z:Zf e1] (h:Od Γ x (T3 e1 e2 e3)):OR P (.extract x 0) ty Γ e1:=
 OR.val λρ M w r=>by
  let ⟨_,v1,v2,v3,F1,F2,F3,hv,_,h1,h2,h3⟩:=h ρ M w r;exact ⟨v1,λ_ _ _ _=>by simp only [execOp,hv];rfl,by have:=z.z h1;subst this;exact h1⟩
theorem x31 {x:Operand} {e1 e2 e3:Ent} [z:Zf e2] (h:Od Γ x (T3 e1 e2 e3)):OR P (.extract x 1) ty Γ e2:=
 OR.val λρ M w r=>by
  let ⟨_,v1,v2,v3,F1,F2,F3,hv,_,h1,h2,h3⟩:=h ρ M w r;exact ⟨v2,λ_ _ _ _=>by simp only [execOp,hv];rfl,by have:=z.z h2;subst this;exact h2⟩
theorem x32 {x:Operand} {e1 e2 e3:Ent} [z:Zf e3] (h:Od Γ x (T3 e1 e2 e3)):OR P (.extract x 2) ty Γ e3:=
 OR.val λρ M w r=>by
  let ⟨_,v1,v2,v3,F1,F2,F3,hv,_,h1,h2,h3⟩:=h ρ M w r;exact ⟨v3,λ_ _ _ _=>by simp only [execOp,hv];rfl,by have:=z.z h3;subst this;exact h3⟩
instance {e1 e2:Ent} [z1:Zf e1] [z2:Zf e2]:Zf (T2 e1 e2):=⟨λ⟨_,_,_,_,_,hF,h1,h2⟩=>by rw [hF,z1.z h1,z2.z h2];rfl⟩
instance {e1 e2 e3:Ent} [z1:Zf e1] [z2:Zf e2] [z3:Zf e3]:Zf (T3 e1 e2 e3):=⟨λ⟨_,_,_,_,_,_,_,hF,h1,h2,h3⟩=>by rw [hF,z1.z h1,z2.z h2,z3.z h3];rfl⟩
def mm (tmps:Array Value):ResultVar->Sem Value
 | .tmp t=>pure (tmps.getD t undef)
 | .cell x T=>do loadVar T (← asAddr (tmps.getD x undef))
theorem Fy (fn:Func) (tmps:Array Value):results fn tmps=(do
 let vs ← fn.results.mapM (mm tmps)
 pure (if h:vs.size=1 then vs[0] else .tuple vs)):=by unfold results;congr 1
def RS (P:Program) (Γ:Cx) (r:ResultVar) (e:Ent):Prop:=
 ∀ M0 w0 n a w M φ,StM M0 w0 n (Ao Γ) a w M φ->∃ v,(mm a.tmps r).run P w=.ok v w/\e.p [] M w v
theorem rt {t:Nat} {e:Ent} [z:Zf e] (h:Ao Γ t=some e):RS P Γ (.tmp t) e:=λ_ _ _ a w M φ hs=>⟨a.get t,rfl,by have h1:=hs.holds t _ h;have h2:=z.z h1;rw [h2] at h1;exact h1⟩
theorem ro {t:Nat} {e:Ent} [z:Zf e] (h:Od Γ (.tmp t) e):RS P Γ (.tmp t) e:=λ_ _ _ a w M φ hs=>by
 let ⟨F,h1⟩:=h _ _ _ hs.rd;obtain rfl:=z.z h1;exact ⟨a.get t,rfl,h1⟩
theorem rc {t T K b:Nat} {α:Type} [Rep α] [Ty P T α] {x:α} (h:Ao Γ t=some (Qv (pb b 0))) (hk:Ao Γ K=some (Mg b x)):RS P Γ (.cell t T) (Va x):=λ_ _ _ a w M φ hs=>by
 let ⟨_,hv⟩:=hs.holds t _ h;let ⟨_,cs,T',hc,hr⟩:=hs.holds K _ hk;have hv':a.tmps.getD t undef=.pointer (some ⟨b,0,none⟩):=hv;refine ⟨mk (Rep.agg α) cs.toList,?_,rfl,cs.toList,rfl,hr⟩;simp only [mm,hv',asAddr,KJ,KQ,KE];exact Bu (λj v hj=>by simp [World.cell?,hc];simpa using hj) hr
def RV (P:Program) (Γ:Cx) (rs:Array ResultVar) (e:Ent):Prop:=
 ∀ M0 w0 n a w M φ fn,fn.results=rs->StM M0 w0 n (Ao Γ) a w M φ->∃ v,(results fn a.tmps).run P w=.ok v w/\e.p [] M w v
theorem rv0:RV P Γ #[] Dd:=λ_ _ _ a w M φ fn hr hs=>⟨.tuple #[],by rw [Fy,hr];simp,rfl⟩
theorem rv1 {r:ResultVar} {e:Ent} (h:RS P Γ r e):RV P Γ #[r] e:=λ_ _ _ a w M φ fn hr hs=>by
 let ⟨v,hv,hp⟩:=h _ _ _ a w M φ hs;exact ⟨v,by rw [Fy,hr];simp [hv],hp⟩
theorem rv2 {r1 r2:ResultVar} {e1 e2:Ent} (h1:RS P Γ r1 e1) (h2:RS P Γ r2 e2):RV P Γ #[r1,r2] (T2 e1 e2):=λ_ _ _ a w M φ fn hr hs=>by
 let ⟨v1,hv1,hp1⟩:=h1 _ _ _ a w M φ hs;let ⟨v2,hv2,hp2⟩:=h2 _ _ _ a w M φ hs;exact ⟨.tuple #[v1,v2],by rw [Fy,hr];simp [hv1,hv2],v1,v2,[],[],rfl,rfl,hp1,hp2⟩
theorem rv3 {r1 r2 r3:ResultVar} {e1 e2 e3:Ent} (h1:RS P Γ r1 e1) (h2:RS P Γ r2 e2) (h3:RS P Γ r3 e3):RV P Γ #[r1,r2,r3] (T3 e1 e2 e3):=λ_ _ _ a w M φ fn hr hs=>by
 let ⟨v1,hv1,hp1⟩:=h1 _ _ _ a w M φ hs;let ⟨v2,hv2,hp2⟩:=h2 _ _ _ a w M φ hs;let ⟨v3,hv3,hp3⟩:=h3 _ _ _ a w M φ hs;exact ⟨.tuple #[v1,v2,v3],by rw [Fy,hr];simp [hv1,hv2,hv3],v1,v2,v3,[],[],[],rfl,rfl,hp1,hp2,hp3⟩
theorem Yy {fn:Func} {tmps:Array Value} {R:Ending->World->Prop} {ds:List Deferred} {w:World} {v:Value} (hd:ds=[]) (hv:(results fn tmps).run P w=.ok v w) (hR:R (.returned v) w):LeavesInM (Fr none) 0 P fn tmps R ds .returning w:=by subst hd;exact ⟨v,hv,hR⟩
theorem rn {fn:Func} {rs:Array ResultVar} {e:Ent} (hD:M0.ds=[]) (hs:St M0 w0 n Γ a w) (hr:fn.results=rs) (h:RV P Γ rs e):eH P fn (cC M0 w0 e) .ret a w:=by let ⟨M,φ,h0⟩:=hs;let ⟨v,hv,hp⟩:=h _ _ _ a w M φ fn hr h0;refine Yy (h0.df.trans hD) hv ⟨v,[],rfl,h0.fr,L5,λk hk=>by simp at hk,Ent.sb _ hp λk _ hk=>hk.elim (h0.sub k) λh=>by simp at h⟩
def Rz {X:Type} (eo:X->Ent) (G:X->List Ent):Ent where
 p F M w v:=∃ x,(eo x).p [] M w v/\Ho M w (G x) F
 st h x:=let ⟨y,h1,h2⟩:=h;⟨y,(eo y).st h1 (x.mono λk _ hk=>⟨hk.1,by simp⟩),h2.st x⟩
 sb h s:=let ⟨y,h1,h2⟩:=h;⟨y,(eo y).sb h1 s,h2.sb s⟩
def Kg (g:Mp):P1->List Ent->Prop
 | [],[]=>True
 | k :: ks,e :: es=>(g k=some e/\Gh e)/\Kg g ks es
 | _,_=>False
theorem kn {g:Mp}:Kg g [] []:=trivial
theorem kc {k:Nat} {e:Ent} {ks:P1} {es:List Ent} {g:Mp} [hg:Gh e] (h:g k=some e) (r:Kg g ks es):Kg g (k :: ks) (e :: es):=⟨⟨h,hg⟩,r⟩
def aW:P1->Bool
 | []=>true
 | k :: ks=>!(ks.any (Nat.beq k ·)) && aW ks
theorem Ay {k:Nat} {ks:P1} (h:aW (k :: ks)=true):(∀ j∈ks,j≠k)/\aW ks=true:=by simp only [aW,KU,LT,MA] at h;refine ⟨λj hj e=>?_,h.2⟩;subst e;exact h.1 j hj (Nat.beq_refl j)
theorem Kg.owns {g:Mp} {M:Nat->Prop} {φ:Nat->P1}:∀ {ks:P1} {G:List Ent},StM M0 w0 n g a w M φ->Kg g ks G->aW ks=true ->
  Ho M w G (ks.map φ).flatten/\(ks.map φ).flatten.Nodup/\(∀ k∈(ks.map φ).flatten,M k/\(w0.heap.size<=k\/M0.b k))/\∀ t,(g t).isSome=true->t ∉ ks->∀ q∈φ t,q ∉ (ks.map φ).flatten
 | [],[],_,_,_=>⟨rfl,L5,λk hk=>by simp at hk,λt _ _ q _ h=>by simp at h⟩
 | k :: ks,e :: es,h,⟨⟨h1,h2⟩,h3⟩,hd=>by
  let ⟨hd1,hd2⟩:=Ay hd;let ⟨i1,i2,i3,i4⟩:=Kg.owns h h3 hd2;have hs:(g k).isSome=true:=by rw [h1];rfl
  have hk:k ∉ ks:=λhm=>hd1 k hm rfl;simp only [K4,N1];refine ⟨⟨φ k,_,rfl,λu=>h2.g (h.holds k e h1) u,i1⟩,N0.2 ⟨(h.own k hs).1,i2,λx hx y hy e=>i4 k hs hk x hx (e ▸ hy)⟩,λq hq=>?_,λt ht hnt q hq hm=>?_⟩
  ·rcases LA.1 hq with hq | hq
   ·exact (h.own k hs).2 q hq
   ·exact i3 q hq
  ·rcases LA.1 hm with hm | hm
   ·exact h.apart t k (λe=>hnt (by rw [e];exact LO ..)) ht hs q hq hm
   ·exact i4 t ht (λhh=>hnt (LK _ hh)) q hq hm
theorem qA {fn:Func} {rs:Array ResultVar} {X:Type} {eo:X->Ent} {G:X->List Ent} (ks:P1) (x:X) (hM:Bd M0 w0) (hD:M0.ds=[]) (hs:St M0 w0 n Γ a w) (hr:fn.results=rs) (h:RV P Γ rs (eo x)) (hk:Kg (Ao Γ) ks (G x)) (hd:aW ks=true) :
  ∃ v,(results fn a.tmps).run P w=.ok v w/\a.defers=[]/\cC M0 w0 (Rz eo G) (.returned v) w:=by let ⟨M,φ,h0⟩:=hs;let ⟨v,hv,hp⟩:=h _ _ _ a w M φ fn hr h0;let ⟨i1,i2,i3,_⟩:=Kg.owns h0 hk hd;have hs:∀ k,k < w.heap.size->(M0.k k\/k∈(ks.map φ).flatten)->M k:=λk _ hk=>hk.elim (h0.sub k) λh=>(i3 k h).1;exact ⟨v,hv,h0.df.trans hD,v,_,rfl,h0.fr,i2,λk hk=>(i3 k hk).2.elim (λh=>.inr ⟨h,h0.bd k (i3 k hk).1⟩) .inl,x,Ent.sb _ hp hs,i1.sb hs⟩
theorem rz {fn:Func} {rs:Array ResultVar} {X:Type} {eo:X->Ent} {G:X->List Ent} (ks:P1) (x:X) (hM:Bd M0 w0) (hD:M0.ds=[]) (hs:St M0 w0 n Γ a w) (hr:fn.results=rs) (h:RV P Γ rs (eo x)) (hk:Kg (Ao Γ) ks (G x)) (hd:aW ks=true):eH P fn (cC M0 w0 (Rz eo G)) .ret a w:=
 let ⟨v,h1,h2,h3⟩:=qA ks x hM hD hs hr h hk hd;Yy h2 h1 h3
theorem qB {fn:Func} {rs:Array ResultVar} {X:Type} {eo:X->Ent} {G:X->List Ent} (ks:P1) (x:X) (hM:Bd M0 w0) (hD:M0.ds=[]) (hs:St M0 w0 n Γ a w) (hr:fn.results=rs) (h:RV P Γ rs (eo x)) (hk:Kg (Ao Γ) ks (G x)) (hd:aW ks=true):eH P fn (cC M0 w0 (Rz eo G)) .normal a w:=
 let ⟨v,h1,h2,h3⟩:=qA ks x hM hD hs hr h hk hd;Yy h2 h1 h3
inductive Lo (σ ρ:Type) where
 | brk (s:σ)
 | ret (r:ρ)
theorem bs {α β:Type} {o:Option α} {f:α->Option β} {r:β} (h:o.bind f=some r):∃ x,o=some x/\f x=some r:=MH.1 h
theorem cm {t:Nat} {b:Bool} {c d:Code} {ρ:Type} {x y:Option ρ} {r:ρ} (hs:St M0 w0 n Γ a w) (hl:Ao Γ t=some (Va b)) (hm:(bif b then x else y)=some r)
  (ht:b=true->x=some r->c.wpIn (Fr rr) 0 P Q a w) (hf:b=false->y=some r->d.wpIn (Fr rr) 0 P Q a w):(Code.cond (.tmp t) c d).wpIn (Fr rr) 0 P Q a w:=by refine cd hs hl (λh=>ht h ?_) (λh=>hf h ?_);rw [h] at hm;exact hm;rw [h] at hm;exact hm
theorem si {α:Type} {x r:α} (h:some x=some r):x=r:=Option.some.inj h
theorem qH {c:Operand} {m:Nat} {b p:Bool} (hc:Od Γ c (Va b)) (hx:Ao Γ m=some (Gd b true (Va p))):OR P (.pick c (.tmp m) (.const (.bool false))) ty Γ (Va (b && p)):=
 pa hc hx (λh=>by rw [h];rfl) (λh=>by rw [h];rfl)
theorem qE {c:Operand} {m:Nat} {b p:Bool} (hc:Od Γ c (Va b)) (hx:Ao Γ m=some (Gd b false (Va p))):OR P (.pick c (.const (.bool true)) (.tmp m)) ty Γ (Va (b || p)):=
 po hc hx (λh=>by rw [h];rfl) (λh=>by rw [h];rfl)
theorem beq {x y:Operand} {T T':TypeId} {b c:Bool} (hx:Od Γ x (Va b)) (hy:Od Γ y (Va c)) (hT:P.underlying T=some .bool):OR P (.binOp .eql T x y T') ty Γ (Va (b == c)):=
 OR.val λρ M w r=>by
  let ⟨_,h1⟩:=hx ρ M w r;let ⟨_,h2⟩:=hy ρ M w r;refine ⟨.bool (b == c),λ_ _ _ _=>?_,Va.mkBool⟩;have h3:(binOp .eql T (.bool b) (.bool c)).run P w=.ok (.bool (b == c)) w:=by
   show ((do pure (.bool (← Op.equal T (.bool b) (.bool c))):Sem Value)).run P w=_;simp only [KJ,run_equal_bool w T b c hT,KE,KQ]
  have h4:(eqGuard .eql T x y (.bool b) (.bool c)).run P w=.ok () w:=rfl;simp only [execOp,Va.bool h1,Va.bool h2,KJ,h3,h4,KE,KQ]
theorem bne {x y:Operand} {T T':TypeId} {b c:Bool} (hx:Od Γ x (Va b)) (hy:Od Γ y (Va c)) (hT:P.underlying T=some .bool):OR P (.binOp .neq T x y T') ty Γ (Va (b != c)):=
 OR.val λρ M w r=>by
  let ⟨_,h1⟩:=hx ρ M w r;let ⟨_,h2⟩:=hy ρ M w r;refine ⟨.bool (b != c),λ_ _ _ _=>?_,Va.mkBool⟩;have h3:(binOp .neq T (.bool b) (.bool c)).run P w=.ok (.bool (b != c)) w:=by
   show ((do pure (.bool (!(← Op.equal T (.bool b) (.bool c)))):Sem Value)).run P w=_;simp only [KJ,run_equal_bool w T b c hT,KE,KQ];rfl
  have h4:(eqGuard .neq T x y (.bool b) (.bool c)).run P w=.ok () w:=rfl;simp only [execOp,Va.bool h1,Va.bool h2,KJ,h3,h4,KE,KQ]
theorem seq {x y:Operand} {T T':TypeId} {b c:P3} (hx:Od Γ x (Va b)) (hy:Od Γ y (Va c)):OR P (.binOp .eql T x y T') ty Γ (Va (b.toList == c.toList)):=
 OR.val λρ M w r=>by
  let ⟨_,h1⟩:=hx ρ M w r;let ⟨_,h2⟩:=hy ρ M w r;exact ⟨.bool (b.toList == c.toList),λ_ _ _ _=>by simp only [execOp,Va.str h1,Va.str h2];rfl,Va.mkBool⟩
theorem lns {x:Operand} {T:TypeId} {b:P3} (hx:Od Γ x (Va b)) (hT:P.underlying T=some .string):OR P (.call { callee:=.builtin .len,args:=#[x],argTypes:=#[T] }) ty Γ (Va (b.size:Int)):=
 OR.val λρ M w r=>by
  let ⟨_,h1⟩:=hx ρ M w r;exact ⟨.int .i64 b.size,λ_ _ _ _=>by simp [execOp,resolve,Va.str h1,invoke,builtin,Builtin.len_,run_underlying hT,goInt],Va.mkInt⟩
def GZ (b:P3) (i:Int):Option UInt8:=if 0<=i then b[i.toNat]? else none
theorem sx {x i:Operand} {T:TypeId} {b:P3} {n:Int} {c:UInt8} (hx:Od Γ x (Va b)) (hi:Od Γ i (Va n)) (hT:P.underlying T=some .string) (h:GZ b n=some c):OR P (.index T x i) ty Γ (Va c):=
 OR.val λρ M w r=>by
  let ⟨_,h1⟩:=hx ρ M w r;let ⟨_,h2⟩:=hi ρ M w r;refine ⟨.int .u8 c.toNat,λ_ _ _ _=>?_,Va.mkByte⟩;unfold GZ at h;split at h
  ·rename_i h0;simp [execOp,Va.str h1,Va.int h2,Instr.index,asIntOf,run_underlying hT,h0,h]
  ·cases h
theorem eK {op:BinOp} {x y:Operand} {T T':TypeId} {m n:UInt8} {e:Ent} (hx:Od Γ x (Va m)) (hy:Od Γ y (Va n))
  (h:∀ w,∃ v,(binOp op T (.int .u8 m.toNat) (.int .u8 n.toNat)).run P w=.ok v w/\∀ M,e.p [] M w v):OR P (.binOp op T x y T') ty Γ e:=by (refine OR.val λρ M w r=>?_;let ⟨_,h1⟩:=hx ρ M w r;let ⟨_,h2⟩:=hy ρ M w r;let ⟨v,hv,hp⟩:=h w;refine ⟨v,λ_ _ _ _=>?_,hp M⟩;simp only [execOp,Va.byte h1,Va.byte h2];have:∀ o,(eqGuard o T x y (.int .u8 m.toNat) (.int .u8 n.toNat)).run P w=.ok () w:=by intro o; unfold eqGuard; cases o <;> rfl);simp only [KJ,this,KE,hv];rfl
theorem c8 {n:Nat} (h:n < 256):Od Γ (.const (.int .u8 n)) (Va (UInt8.ofNat n)):=λρ _ _ r=>⟨[],rfl,[.int .u8 (UInt8.ofNat n).toNat],by rw [r.con];simp [mk,OF h],rfl⟩
theorem lt8 {x y:Operand} {T T':TypeId} {m n:UInt8} (hx:Od Γ x (Va m)) (hy:Od Γ y (Va n)):OR P (.binOp .lss T x y T') ty Γ (Va (decide ((m.toNat:Int) < n.toNat))):=eK hx hy λ_=>⟨_,rfl,λ_=>Va.mkBool⟩
theorem le8 {x y:Operand} {T T':TypeId} {m n:UInt8} (hx:Od Γ x (Va m)) (hy:Od Γ y (Va n)):OR P (.binOp .leq T x y T') ty Γ (Va (decide ((m.toNat:Int)<=n.toNat))):=eK hx hy λ_=>⟨_,rfl,λ_=>Va.mkBool⟩
theorem gt8 {x y:Operand} {T T':TypeId} {m n:UInt8} (hx:Od Γ x (Va m)) (hy:Od Γ y (Va n)):OR P (.binOp .gtr T x y T') ty Γ (Va (decide ((m.toNat:Int) > n.toNat))):=eK hx hy λ_=>⟨_,rfl,λ_=>Va.mkBool⟩
theorem ge8 {x y:Operand} {T T':TypeId} {m n:UInt8} (hx:Od Γ x (Va m)) (hy:Od Γ y (Va n)):OR P (.binOp .geq T x y T') ty Γ (Va (decide ((m.toNat:Int)>=n.toNat))):=eK hx hy λ_=>⟨_,rfl,λ_=>Va.mkBool⟩
theorem eq8 {x y:Operand} {T T':TypeId} {m n:UInt8} (hx:Od Γ x (Va m)) (hy:Od Γ y (Va n)):OR P (.binOp .eql T x y T') ty Γ (Va ((m.toNat:Int) == n.toNat)):=eK hx hy λ_=>⟨_,rfl,λ_=>Va.mkBool⟩
theorem mx {x y:Operand} {T T':TypeId} {m n:Int} (hx:Od Γ x (Va m)) (hy:Od Γ y (Va n)):OR P (.call { callee:=.builtin .max,args:=#[x,y],argTypes:=#[T,T'] }) ty Γ (Va (if n > m then n else m)):=
 OR.val λρ M w r=>by
  let ⟨_,h1⟩:=hx ρ M w r;let ⟨_,h2⟩:=hy ρ M w r;refine ⟨.int .i64 (if n > m then n else m),λ_ _ _ _=>?_,Va.mkInt⟩
  simp [execOp,resolve,Va.int h1,Va.int h2,invoke,builtin,Builtin.max_,Builtin.max2]
theorem gT {ρ:Type} {B:Bool} {x y:Option ρ} {r:ρ} (h:(bif B then x else y)=some r):B=true->x=some r:=λhb=>by rw [hb] at h;exact h
theorem gF {ρ:Type} {B:Bool} {x y:Option ρ} {r:ρ} (h:(bif B then x else y)=some r):B=false->y=some r:=λhb=>by rw [hb] at h;exact h
theorem gx {α ρ:Type} [Inhabited α] {B c:Bool} {o:Option α} {k:α->Option ρ} {r:ρ} (h:B=c->o.bind k=some r):∃ x,(B=c->o=some x)/\(B=c->k x=some r):=by by_cases hb:B=c;let ⟨x,h1,h2⟩:=bs (h hb);exact ⟨x,λ_=>h1,λ_=>h2⟩;exact ⟨default,λh=>absurd h hb,λh=>absurd h hb⟩
theorem qT {ρ:Type} {B c B2:Bool} {x y:Option ρ} {r:ρ} (h:B=c->(bif B2 then x else y)=some r):((B == c) && (B2 == true))=true->x=some r:=λhb=>by
 have:B=c/\B2=true:=by simpa using hb
 have h:=h this.1;rw [this.2] at h;exact h
theorem g2 {B c b2 w:Bool} (h1:B=c) (h2:b2=w):((B == c) && (b2 == w))=true:=by simp [h1,h2]
theorem qU {ρ:Type} {B c B2:Bool} {x y:Option ρ} {r:ρ} (h:B=c->(bif B2 then x else y)=some r):B=c->B2=false->y=some r:=λh1 h2=>by have h:=h h1;rw [h2] at h;exact h
theorem pK {c:Operand} {m:Nat} {b g p r:Bool} (hc:Od Γ c (Va b)) (hx:Ao Γ m=some (Gd g true (Va p))) (hg:b=true->g=true) (hr:b=true->p=r) (hr':b=false->r=false) :
  OR P (.pick c (.tmp m) (.const (.bool false))) ty Γ (Va r):=by refine OR.val λρ M w rd=>?_;let ⟨_,h⟩:=hc ρ M w rd;refine ⟨.bool r,λ_ _ _ _=>?_,Va.mkBool⟩;simp only [execOp,Va.bool h];cases b;obtain rfl:=hr' rfl;rw [rd.con];rfl;let ⟨F,hF⟩:=rd.tmp _ _ hx;rw [Va.bool (hF.1 (hg rfl)),hr rfl];rfl
theorem pog {c:Operand} {m:Nat} {b g p r:Bool} (hc:Od Γ c (Va b)) (hx:Ao Γ m=some (Gd g true (Va p))) (hg:b=false->g=true) (hr:b=false->p=r) (hr':b=true->r=true) :
  OR P (.pick c (.const (.bool true)) (.tmp m)) ty Γ (Va r):=by refine OR.val λρ M w rd=>?_;let ⟨_,h⟩:=hc ρ M w rd;refine ⟨.bool r,λ_ _ _ _=>?_,Va.mkBool⟩;simp only [execOp,Va.bool h];cases b;let ⟨F,hF⟩:=rd.tmp _ _ hx;rw [Va.bool (hF.1 (hg rfl)),hr rfl];rfl;obtain rfl:=hr' rfl;rw [rd.con];rfl
theorem pJ {c:Operand} {m:Nat} {b g p:Bool} (hc:Od Γ c (Va b)) (hx:Ao Γ m=some (Gd g true (Va p))) (hg:b=true->g=true):OR P (.pick c (.tmp m) (.const (.bool false))) ty Γ (Va (b && p)):=
 pK hc hx hg (λh=>by rw [h];rfl) (λh=>by rw [h];rfl)
theorem pH {c:Operand} {m:Nat} {b g p:Bool} (hc:Od Γ c (Va b)) (hx:Ao Γ m=some (Gd g true (Va p))) (hg:b=false->g=true):OR P (.pick c (.const (.bool true)) (.tmp m)) ty Γ (Va (b || p)):=
 pog hc hx hg (λh=>by rw [h];rfl) (λh=>by rw [h];rfl)
def Odl (Γ:Cx):List Operand->List Ent->Prop
 | [],[]=>True
 | x :: xs,e :: es=>(Od Γ x e/\Zf e)/\Odl Γ xs es
 | _,_=>False
theorem on:Odl Γ [] []:=trivial
theorem oc {x:Operand} {e:Ent} {xs:List Operand} {es:List Ent} [z:Zf e] (h:Od Γ x e) (r:Odl Γ xs es):Odl Γ (x :: xs) (e :: es):=⟨⟨h,z⟩,r⟩
theorem Odl.fits {ρ:Operand->Value} {M:Nat->Prop} {w:World} (rd:Rd (Ao Γ) M w ρ):∀ {xs:List Operand} {es:List Ent},Odl Γ xs es->Ui M w es (xs.map ρ)
 | [],[],_=>trivial
 | _ :: _,_ :: _,⟨⟨h,z⟩,r⟩=>by
  let ⟨F,hF⟩:=h ρ M w rd;obtain rfl:=z.z hF;exact ⟨hF,r.fits rd⟩
theorem cc {f:FuncId} {A:Array TypeId} {args:Array Operand} {xs:List Operand} {ps:List Ent} {e:Ent} (ha:args.toList=xs) (h:Odl Γ xs ps) (c:Sp P f ps e):OR P (.call { callee:=.value (.func f),args:=args,argTypes:=A }) ty Γ e:=
 H5 λρ M w rd=>by
  have:=c _ M w rd.bd (h.fits rd);subst ha;have e:(List.map ρ args.toList).toArray=args.map ρ:=by rw [← NA]
  rwa [e] at this
end
end
theorem k2 {k k' : Nat} {e e' : Ent} {ks : P1} {es : List Ent} {g : Mp} [Gh e] [Gh e'] (h : g k = some e) (h' : g k' = some e') (r : Kg g ks es) : Kg g (k :: k' :: ks) (e :: e' :: es) := kc h (kc h' r)
theorem k4 {k k' l l' : Nat} {e e' d d' : Ent} {ks : P1} {es : List Ent} {g : Mp} [Gh e] [Gh e'] [Gh d] [Gh d'] (h : g k = some e) (h' : g k' = some e') (i : g l = some d) (i' : g l' = some d') (r : Kg g ks es) : Kg g (k :: k' :: l :: l' :: ks) (e :: e' :: d :: d' :: es) := k2 h h' (k2 i i' r)
def rpo {α:Type} [Rep α] (M:Nat->Prop) (w:World) (cs:P2):Option α->Prop
 | none=>cs=[.pointer none]
 | some x=>∃ b o,cs=[.pointer (some ⟨b,o,none⟩)]/\Pl x M w b o
instance {α:Type} [Rep α]:Rep (Option α) where
 sz:=1
 agg:=false
 rep:=rpo
 len {M w cs x} h:=by
  cases x with
  | none=>have h:cs=_:=h;rw [h];rfl
  | some x=>obtain ⟨b,o,rfl,_⟩:=h;rfl
 ext {M w w' cs x} h e:=by
  cases x with
  | none=>exact h
  | some x=>let ⟨b,o,hc,hp⟩:=h;exact ⟨b,o,hc,hp.ext e⟩
 sub {M M' w cs x} h s:=by
  cases x with
  | none=>exact h
  | some x=>let ⟨b,o,hc,hp⟩:=h;exact ⟨b,o,hc,hp.sub s⟩
 one {M w cs x} h:=by
  cases x with
  | none=>have h:cs=_:=h;rw [h];simp [Value.oneCell']
  | some x=>obtain ⟨b,o,rfl,_⟩:=h;simp [Value.oneCell']
 flat _:=rfl
structure Ar6 where
 l:P0
 deriving Inhabited
def Ar6.z:Ar6:=⟨List.replicate 6 false⟩
def Ar6.at_ (x:Ar6) (j:Nat):Bool:=x.l.getD j false
def Ar6.put (x:Ar6) (j:Nat) (v:Bool):Ar6:=⟨x.l.set j v⟩
def eqqA (x y:Ar6):Bool:=(List.range 6).all λj=>x.at_ j == y.at_ j
instance:Rep Ar6 where
 sz:=6
 agg:=true
 rep _ _ cs x:=cs=x.l.map Value.bool/\x.l.length=6
 len h:=by rw [h.1,K5,h.2]
 ext h _:=h
 sub h _:=h
 one h:=by
  rw [h.1];intro c hc;obtain ⟨b,_,rfl⟩:=K7.1 hc;simp [Value.oneCell']
 flat h:=by cases h
theorem Ar6.cut {l:P0} {j:Nat} (h:j < l.length):l=l.take j ++ (l.getD j false :: l.drop (j + 1)):=by rw [KM,L9 h,MO,← LB h,N8]
theorem Ar6.df {j:Nat} (hj:j < 6):DF (λx:Ar6=>x.at_ j) j:=⟨λ{M w cs x} h=>by
 obtain ⟨rfl,hl⟩:=h;refine ⟨(x.l.take j).map Value.bool,[.bool (x.at_ j)],(x.l.drop (j + 1)).map Value.bool,?_,by rw [K5,LJ];omega,rfl⟩;have:=congrArg (List.map Value.bool) (Ar6.cut (l:=x.l) (j:=j) aa);rw [MD,K4] at this;exact this⟩
theorem Ar6.du {j:Nat} (hj:j < 6):DU j (λ(x:Ar6) (v:Bool)=>x.put j v):=⟨λ{M w cs m x y} h g=>by
 obtain ⟨rfl,hl⟩:=h;have g:m=[.bool y]:=g;subst g;refine ⟨(x.l.take j).map Value.bool,(x.l.drop (j + 1)).map Value.bool,[.bool (x.at_ j)],?_,by rw [K5,LJ];omega,rfl,?_,?_⟩
 ·have:=congrArg (List.map Value.bool) (Ar6.cut (l:=x.l) (j:=j) aa);rw [MD,K4] at this;exact this
 ·show _=(x.l.set j y).map Value.bool;rw [List.set_eq_take_append_cons_drop,if_pos aa,MD,K4];rfl
 ·show (x.l.set j y).length=6;rw [MY];exact hl⟩
section
structure Ab where
 Actuator:Int
 Out:Bool
 deriving Inhabited
instance:Rep Ab:=Rep.via λx=>(x.Actuator,x.Out)
instance:DF Ab.Actuator 0:=⟨λh=>by
 obtain ⟨c0,d0,rfl,h0,h1⟩:=h;exact ⟨[],c0,d0,by simp,rfl,h0⟩⟩
instance:DF Ab.Out 1:=⟨λh=>by
 obtain ⟨c0,d0,rfl,h0,h1⟩:=h;exact ⟨c0,d0,[],by simp,by simp only [KH,Rep.len h0];rfl,h1⟩⟩
structure Step where
 Strokes:List Ab
 Wait:Int
 deriving Inhabited
instance:Rep Step:=Rep.via λx=>(x.Strokes,x.Wait)
instance:DF Step.Strokes 0:=⟨λh=>by
 obtain ⟨c0,d0,rfl,h0,h1⟩:=h;exact ⟨[],c0,d0,by simp,rfl,h0⟩⟩
instance:DF Step.Wait 1:=⟨λh=>by
 obtain ⟨c0,d0,rfl,h0,h1⟩:=h;exact ⟨c0,d0,[],by simp,by simp only [KH,Rep.len h0];rfl,h1⟩⟩
structure Ai where
 Actuators:Int
 Steps:List Step
 deriving Inhabited
instance:Rep Ai:=Rep.via λx=>(x.Actuators,x.Steps)
instance:DF Ai.Actuators 0:=⟨λh=>by
 obtain ⟨c0,d0,rfl,h0,h1⟩:=h;exact ⟨[],c0,d0,by simp,rfl,h0⟩⟩
instance:DF Ai.Steps 1:=⟨λh=>by
 obtain ⟨c0,d0,rfl,h0,h1⟩:=h;exact ⟨c0,d0,[],by simp,by simp only [KH,Rep.len h0];rfl,h1⟩⟩
structure Expr where
 Op:Int
 Index:Int
 Args:List Expr
 deriving Inhabited
mutual
def Ry (M:Nat->Prop) (w:World) (cs:P2):Expr->Prop
 | ⟨op,ix,args⟩=>∃ a cap,cs=[.int .i64 op,.int .i64 ix,.slice a args.length (cap + args.length)]/\(args=[]\/∃ b o,a=some ⟨b,o,none⟩/\Gf M w b o args)
def Gf (M:Nat->Prop) (w:World) (b o:Nat):List Expr->Prop
 | []=>True
 | x :: xs=>(∃ cs,Cls M w b o cs/\Ry M w cs x)/\Gf M w b (o + 3) xs
end
mutual
theorem Zy {M:Nat->Prop} {w w':World} (e:Ext M w w'):∀ (x:Expr) {cs:P2},Ry M w cs x->Ry M w' cs x
 | ⟨op,ix,args⟩,cs,h=>by
  unfold Ry at h ⊢;obtain ⟨a,cap,rfl,h⟩:=h;exact ⟨a,cap,rfl,h.imp id λ⟨b,o,ha,hr⟩=>⟨b,o,ha,Vy e args hr⟩⟩
theorem Vy {M:Nat->Prop} {w w':World} (e:Ext M w w'):∀ (xs:List Expr) {b o:Nat},Gf M w b o xs->Gf M w' b o xs
 | [],_,_,_=>by unfold Gf;trivial
 | x :: xs,b,o,h=>by
  unfold Gf at h ⊢;let ⟨⟨cs,hc,hr⟩,h2⟩:=h;exact ⟨⟨cs,hc.ext e,Zy e x hr⟩,Vy e xs h2⟩
end
mutual
theorem Zx {M M':Nat->Prop} {w:World} (s:∀ k,k < w.heap.size->M' k->M k):∀ (x:Expr) {cs:P2},Ry M w cs x->Ry M' w cs x
 | ⟨op,ix,args⟩,cs,h=>by
  unfold Ry at h ⊢;obtain ⟨a,cap,rfl,h⟩:=h;exact ⟨a,cap,rfl,h.imp id λ⟨b,o,ha,hr⟩=>⟨b,o,ha,Vx s args hr⟩⟩
theorem Vx {M M':Nat->Prop} {w:World} (s:∀ k,k < w.heap.size->M' k->M k):∀ (xs:List Expr) {b o:Nat},Gf M w b o xs->Gf M' w b o xs
 | [],_,_,_=>by unfold Gf;trivial
 | x :: xs,b,o,h=>by
  unfold Gf at h ⊢;let ⟨⟨cs,hc,hr⟩,h2⟩:=h;exact ⟨⟨cs,hc.sub s,Zx s x hr⟩,Vx s xs h2⟩
end
theorem Ki {M:Nat->Prop} {w:World} {cs:P2}:∀ {x:Expr},Ry M w cs x->∃ a cap,cs=[.int .i64 x.Op,.int .i64 x.Index,.slice a x.Args.length (cap + x.Args.length)]/\(x.Args=[]\/∃ b o,a=some ⟨b,o,none⟩/\Gf M w b o x.Args)
 | ⟨_,_,_⟩,h=>by unfold Ry at h;exact h
instance:Rep Expr where
 sz:=3
 agg:=true
 rep:=Ry
 len h:=by obtain ⟨a,cap,rfl,_⟩:=Ki h;rfl
 ext h e:=Zy e _ h
 sub h s:=Zx s _ h
 one h:=by obtain ⟨a,cap,rfl,_⟩:=Ki h;simp [Value.oneCell']
 flat h:=by cases h
theorem Mi {M:Nat->Prop} {w:World} {b:Nat}:∀ {xs:List Expr} {o:Nat},Gf M w b o xs->Row M w b o xs
 | [],_,_=>trivial
 | x :: xs,o,h=>by unfold Gf at h;exact ⟨h.1,Mi h.2⟩
theorem Mm {M:Nat->Prop} {w:World} {b:Nat}:∀ {xs:List Expr} {o:Nat},Row M w b o xs->Gf M w b o xs
 | [],_,_=>by unfold Gf;trivial
 | x :: xs,o,h=>by unfold Gf;exact ⟨h.1,Mm h.2⟩
theorem Hs {M:Nat->Prop} {w:World} {cs:P2} {x:Expr}:Rep.rep M w cs x↔Rep.rep M w cs (x.Op,x.Index,x.Args):=by constructor;intro h;let ⟨a,cap,e1,h1⟩:=Ki h;subst e1;exact ⟨[_],[_,_],rfl,rfl,[_],[_],rfl,rfl,_,rfl,a,cap,rfl,h1.imp id λ⟨b,o,ha,hr⟩=>⟨b,o,ha,Mi hr⟩⟩;(intro h;obtain ⟨c0,d0,rfl,h0,c1,d1,hd,h1,v,rfl,a,cap,rfl,hs⟩:=h;let ⟨op,ix,args⟩:=x;have e0:c0=[.int .i64 op]:=h0;have e1:c1=[.int .i64 ix]:=h1;subst e0;have hd':d0=[.int .i64 ix] ++ [.slice a args.length (cap + args.length)]:=by rw [← e1];exact hd);subst hd';show Ry M w _ _;unfold Ry;exact ⟨a,cap,rfl,hs.imp id λ⟨b,o,ha,hr⟩=>⟨b,o,ha,Mm hr⟩⟩
instance:DF Expr.Op 0:=⟨λh=>by
 obtain ⟨c0,d0,rfl,h0,c1,d1,rfl,h1,h2⟩:=Hs.1 h;exact ⟨[],c0,c1 ++ d1,by simp,rfl,h0⟩⟩
instance:DF Expr.Index 1:=⟨λh=>by
 obtain ⟨c0,d0,rfl,h0,c1,d1,rfl,h1,h2⟩:=Hs.1 h;exact ⟨c0,c1,d1,by simp,by simp only [KH,Rep.len h0];rfl,h1⟩⟩
instance:DF Expr.Args 2:=⟨λh=>by
 obtain ⟨c0,d0,rfl,h0,c1,d1,rfl,h1,h2⟩:=Hs.1 h;exact ⟨c0 ++ c1,d1,[],by simp,by simp only [KH,Rep.len h0,Rep.len h1];rfl,h2⟩⟩
structure Ae where
 Name:P3
 Kind:Int
 On:Expr
 Off:Expr
 Delay:Int
 Init:Bool
 deriving Inhabited
instance:Rep Ae:=Rep.via λx=>(x.Name,x.Kind,x.On,x.Off,x.Delay,x.Init)
instance:DF Ae.Name 0:=⟨λh=>by
 obtain ⟨c0,d0,rfl,h0,c1,d1,rfl,h1,c2,d2,rfl,h2,c3,d3,rfl,h3,c4,d4,rfl,h4,h5⟩:=h;exact ⟨[],c0,c1 ++ c2 ++ c3 ++ c4 ++ d4,by simp,rfl,h0⟩⟩
instance:DF Ae.Kind 1:=⟨λh=>by
 obtain ⟨c0,d0,rfl,h0,c1,d1,rfl,h1,c2,d2,rfl,h2,c3,d3,rfl,h3,c4,d4,rfl,h4,h5⟩:=h;exact ⟨c0,c1,c2 ++ c3 ++ c4 ++ d4,by simp,by simp only [KH,Rep.len h0];rfl,h1⟩⟩
instance:DF Ae.On 2:=⟨λh=>by
 obtain ⟨c0,d0,rfl,h0,c1,d1,rfl,h1,c2,d2,rfl,h2,c3,d3,rfl,h3,c4,d4,rfl,h4,h5⟩:=h;exact ⟨c0 ++ c1,c2,c3 ++ c4 ++ d4,by simp,by simp only [KH,Rep.len h0,Rep.len h1];rfl,h2⟩⟩
instance:DU (α:=Ae) 2 (λ(x:Ae) (y:Expr)=>{ x with On:=y }):=⟨λ{M w cs m x y} h g=>by
 obtain ⟨c0,d0,rfl,h0,c1,d1,rfl,h1,c2,d2,rfl,h2,c3,d3,rfl,h3,c4,d4,rfl,h4,h5⟩:=h;refine ⟨c0 ++ c1,c3 ++ c4 ++ d4,c2,by simp,by simp only [KH,Rep.len h0,Rep.len h1];rfl,by rw [Rep.len h2,Rep.len g],?_⟩;have:Rep.rep M w (c0 ++ (c1 ++ (m ++ (c3 ++ (c4 ++ (d4)))))) (x.Name,x.Kind,y,x.Off,x.Delay,x.Init):=⟨c0,_,rfl,h0,⟨c1,_,rfl,h1,⟨m,_,rfl,g,⟨c3,_,rfl,h3,⟨c4,_,rfl,h4,h5⟩⟩⟩⟩⟩;show Rep.rep M w _ (x.Name,x.Kind,y,x.Off,x.Delay,x.Init);simpa using this⟩
instance:DF Ae.Off 5:=⟨λh=>by
 obtain ⟨c0,d0,rfl,h0,c1,d1,rfl,h1,c2,d2,rfl,h2,c3,d3,rfl,h3,c4,d4,rfl,h4,h5⟩:=h;exact ⟨c0 ++ c1 ++ c2,c3,c4 ++ d4,by simp,by simp only [KH,Rep.len h0,Rep.len h1,Rep.len h2];rfl,h3⟩⟩
instance:DF Ae.Delay 8:=⟨λh=>by
 obtain ⟨c0,d0,rfl,h0,c1,d1,rfl,h1,c2,d2,rfl,h2,c3,d3,rfl,h3,c4,d4,rfl,h4,h5⟩:=h;exact ⟨c0 ++ c1 ++ c2 ++ c3,c4,d4,by simp,by simp only [KH,Rep.len h0,Rep.len h1,Rep.len h2,Rep.len h3];rfl,h4⟩⟩
instance:DF Ae.Init 9:=⟨λh=>by
 obtain ⟨c0,d0,rfl,h0,c1,d1,rfl,h1,c2,d2,rfl,h2,c3,d3,rfl,h3,c4,d4,rfl,h4,h5⟩:=h;exact ⟨c0 ++ c1 ++ c2 ++ c3 ++ c4,d4,[],by simp,by simp only [KH,Rep.len h0,Rep.len h1,Rep.len h2,Rep.len h3,Rep.len h4];rfl,h5⟩⟩
structure Aa where
 Actuators:Int
 Inputs:List P3
 Signals:List Ae
 Plus:PZ
 Minus:PZ
 deriving Inhabited
instance:Rep Aa:=Rep.via λx=>(x.Actuators,x.Inputs,x.Signals,x.Plus,x.Minus)
instance:DF Aa.Actuators 0:=⟨λh=>by
 obtain ⟨c0,d0,rfl,h0,c1,d1,rfl,h1,c2,d2,rfl,h2,c3,d3,rfl,h3,h4⟩:=h;exact ⟨[],c0,c1 ++ c2 ++ c3 ++ d3,by simp,rfl,h0⟩⟩
instance:DF Aa.Inputs 1:=⟨λh=>by
 obtain ⟨c0,d0,rfl,h0,c1,d1,rfl,h1,c2,d2,rfl,h2,c3,d3,rfl,h3,h4⟩:=h;exact ⟨c0,c1,c2 ++ c3 ++ d3,by simp,by simp only [KH,Rep.len h0];rfl,h1⟩⟩
instance:DF Aa.Signals 2:=⟨λh=>by
 obtain ⟨c0,d0,rfl,h0,c1,d1,rfl,h1,c2,d2,rfl,h2,c3,d3,rfl,h3,h4⟩:=h;exact ⟨c0 ++ c1,c2,c3 ++ d3,by simp,by simp only [KH,Rep.len h0,Rep.len h1];rfl,h2⟩⟩
instance:DF Aa.Plus 3:=⟨λh=>by
 obtain ⟨c0,d0,rfl,h0,c1,d1,rfl,h1,c2,d2,rfl,h2,c3,d3,rfl,h3,h4⟩:=h;exact ⟨c0 ++ c1 ++ c2,c3,d3,by simp,by simp only [KH,Rep.len h0,Rep.len h1,Rep.len h2];rfl,h3⟩⟩
instance:DF Aa.Minus 4:=⟨λh=>by
 obtain ⟨c0,d0,rfl,h0,c1,d1,rfl,h1,c2,d2,rfl,h2,c3,d3,rfl,h3,h4⟩:=h;exact ⟨c0 ++ c1 ++ c2 ++ c3,d3,[],by simp,by simp only [KH,Rep.len h0,Rep.len h1,Rep.len h2,Rep.len h3];rfl,h4⟩⟩
structure Accident where
 Path:PZ
 Conflicts:PZ
 deriving Inhabited
instance:Rep Accident:=Rep.via λx=>(x.Path,x.Conflicts)
structure Ad where
 Ends:PZ
 Valves:P0
 Inputs:P0
 Values:P0
 Timers:PZ
 deriving Inhabited
instance:Rep Ad:=Rep.via λx=>(x.Ends,x.Valves,x.Inputs,x.Values,x.Timers)
instance:DF Ad.Ends 0:=⟨λh=>by
 obtain ⟨c0,d0,rfl,h0,c1,d1,rfl,h1,c2,d2,rfl,h2,c3,d3,rfl,h3,h4⟩:=h;exact ⟨[],c0,c1 ++ c2 ++ c3 ++ d3,by simp,rfl,h0⟩⟩
instance:DF Ad.Valves 1:=⟨λh=>by
 obtain ⟨c0,d0,rfl,h0,c1,d1,rfl,h1,c2,d2,rfl,h2,c3,d3,rfl,h3,h4⟩:=h;exact ⟨c0,c1,c2 ++ c3 ++ d3,by simp,by simp only [KH,Rep.len h0];rfl,h1⟩⟩
instance:DF Ad.Inputs 2:=⟨λh=>by
 obtain ⟨c0,d0,rfl,h0,c1,d1,rfl,h1,c2,d2,rfl,h2,c3,d3,rfl,h3,h4⟩:=h;exact ⟨c0 ++ c1,c2,c3 ++ d3,by simp,by simp only [KH,Rep.len h0,Rep.len h1];rfl,h2⟩⟩
instance:DF Ad.Values 3:=⟨λh=>by
 obtain ⟨c0,d0,rfl,h0,c1,d1,rfl,h1,c2,d2,rfl,h2,c3,d3,rfl,h3,h4⟩:=h;exact ⟨c0 ++ c1 ++ c2,c3,d3,by simp,by simp only [KH,Rep.len h0,Rep.len h1,Rep.len h2];rfl,h3⟩⟩
instance:DF Ad.Timers 4:=⟨λh=>by
 obtain ⟨c0,d0,rfl,h0,c1,d1,rfl,h1,c2,d2,rfl,h2,c3,d3,rfl,h3,h4⟩:=h;exact ⟨c0 ++ c1 ++ c2 ++ c3,d3,[],by simp,by simp only [KH,Rep.len h0,Rep.len h1,Rep.len h2,Rep.len h3];rfl,h4⟩⟩
structure Af where
 Kind:Int
 Index:Int
 Value:Bool
 deriving Inhabited
instance:Rep Af:=Rep.via λx=>(x.Kind,x.Index,x.Value)
instance:DF Af.Kind 0:=⟨λh=>by
 obtain ⟨c0,d0,rfl,h0,c1,d1,rfl,h1,h2⟩:=h;exact ⟨[],c0,c1 ++ d1,by simp,rfl,h0⟩⟩
instance:DF Af.Index 1:=⟨λh=>by
 obtain ⟨c0,d0,rfl,h0,c1,d1,rfl,h1,h2⟩:=h;exact ⟨c0,c1,d1,by simp,by simp only [KH,Rep.len h0];rfl,h1⟩⟩
instance:DF Af.Value 2:=⟨λh=>by
 obtain ⟨c0,d0,rfl,h0,c1,d1,rfl,h1,h2⟩:=h;exact ⟨c0 ++ c1,d1,[],by simp,by simp only [KH,Rep.len h0,Rep.len h1];rfl,h2⟩⟩
structure Ah where
 States:List Ad
 Moves:List PZ
 deriving Inhabited
instance:Rep Ah:=Rep.via λx=>(x.States,x.Moves)
instance:DF Ah.States 0:=⟨λh=>by
 obtain ⟨c0,d0,rfl,h0,h1⟩:=h;exact ⟨[],c0,d0,by simp,rfl,h0⟩⟩
instance:DF Ah.Moves 1:=⟨λh=>by
 obtain ⟨c0,d0,rfl,h0,h1⟩:=h;exact ⟨c0,d0,[],by simp,by simp only [KH,Rep.len h0];rfl,h1⟩⟩
structure Step_overlap where
 state:Int
 event:Int
 conflicts:PZ
 deriving Inhabited
instance:Rep Step_overlap:=Rep.via λx=>(x.state,x.event,x.conflicts)
instance:DF Step_overlap.state 0:=⟨λh=>by
 obtain ⟨c0,d0,rfl,h0,c1,d1,rfl,h1,h2⟩:=h;exact ⟨[],c0,c1 ++ d1,by simp,rfl,h0⟩⟩
instance:DF Step_overlap.event 1:=⟨λh=>by
 obtain ⟨c0,d0,rfl,h0,c1,d1,rfl,h1,h2⟩:=h;exact ⟨c0,c1,d1,by simp,by simp only [KH,Rep.len h0];rfl,h1⟩⟩
instance:DF Step_overlap.conflicts 2:=⟨λh=>by
 obtain ⟨c0,d0,rfl,h0,c1,d1,rfl,h1,h2⟩:=h;exact ⟨c0 ++ c1,d1,[],by simp,by simp only [KH,Rep.len h0,Rep.len h1];rfl,h2⟩⟩
structure World_overlap where
 c:Aa
 space:Ah
 deriving Inhabited
instance:Rep World_overlap:=Rep.via λx=>(x.c,x.space)
instance:DF World_overlap.c 0:=⟨λh=>by
 obtain ⟨c0,d0,rfl,h0,h1⟩:=h;exact ⟨[],c0,d0,by simp,rfl,h0⟩⟩
instance:DF World_overlap.space 5:=⟨λh=>by
 obtain ⟨c0,d0,rfl,h0,h1⟩:=h;exact ⟨c0,d0,[],by simp,by simp only [KH,Rep.len h0];rfl,h1⟩⟩
structure Builder where
 s:Ai
 division:PZ
 groups:PZ
 timers:PZ
 steps:PZ
 c:Aa
 deriving Inhabited
instance:Rep Builder:=Rep.via λx=>(x.s,x.division,x.groups,x.timers,x.steps,x.c)
instance:DF Builder.s 0:=⟨λh=>by
 obtain ⟨c0,d0,rfl,h0,c1,d1,rfl,h1,c2,d2,rfl,h2,c3,d3,rfl,h3,c4,d4,rfl,h4,h5⟩:=h;exact ⟨[],c0,c1 ++ c2 ++ c3 ++ c4 ++ d4,by simp,rfl,h0⟩⟩
instance:DF Builder.division 2:=⟨λh=>by
 obtain ⟨c0,d0,rfl,h0,c1,d1,rfl,h1,c2,d2,rfl,h2,c3,d3,rfl,h3,c4,d4,rfl,h4,h5⟩:=h;exact ⟨c0,c1,c2 ++ c3 ++ c4 ++ d4,by simp,by simp only [KH,Rep.len h0];rfl,h1⟩⟩
structure Course where
 State:Ad
 Strokes:List (List Ab)
 Conflicts:PZ
 deriving Inhabited
instance:Rep Course:=Rep.via λx=>(x.State,x.Strokes,x.Conflicts)
instance:DF Course.Strokes 5:=⟨λh=>by
 obtain ⟨c0,d0,rfl,h0,c1,d1,rfl,h1,h2⟩:=h;exact ⟨c0,c1,d1,by simp,by simp only [KH,Rep.len h0];rfl,h1⟩⟩
structure Node where
 state:Ad
 by_:Int
 event:Af
 deriving Inhabited
instance:Rep Node:=Rep.via λx=>(x.state,x.by_,x.event)
instance:DF Node.state 0:=⟨λh=>by
 obtain ⟨c0,d0,rfl,h0,c1,d1,rfl,h1,h2⟩:=h;exact ⟨[],c0,c1 ++ d1,by simp,rfl,h0⟩⟩
instance:DF Node.by_ 5:=⟨λh=>by
 obtain ⟨c0,d0,rfl,h0,c1,d1,rfl,h1,h2⟩:=h;exact ⟨c0,c1,d1,by simp,by simp only [KH,Rep.len h0];rfl,h1⟩⟩
instance:DF Node.event 6:=⟨λh=>by
 obtain ⟨c0,d0,rfl,h0,c1,d1,rfl,h1,h2⟩:=h;exact ⟨c0 ++ c1,d1,[],by simp,by simp only [KH,Rep.len h0,Rep.len h1];rfl,h2⟩⟩
structure Key where
 ends:P3
 valves:P3
 inputs:P3
 values:P3
 timers:P3
 deriving Inhabited
instance:Rep Key:=Rep.via λx=>(x.ends,x.valves,x.inputs,x.values,x.timers)
structure Ag where
 value:Bool
 timer:Int
 conflict:Bool
 deriving Inhabited
instance:Rep Ag:=Rep.via λx=>(x.value,x.timer,x.conflict)
instance:DF Ag.value 0:=⟨λh=>by
 obtain ⟨c0,d0,rfl,h0,c1,d1,rfl,h1,h2⟩:=h;exact ⟨[],c0,c1 ++ d1,by simp,rfl,h0⟩⟩
instance:DU (α:=Ag) 0 (λ(x:Ag) (y:Bool)=>{ x with value:=y }):=⟨λ{M w cs m x y} h g=>by
 obtain ⟨c0,d0,rfl,h0,c1,d1,rfl,h1,h2⟩:=h;refine ⟨[],c1 ++ d1,c0,by simp,rfl,by rw [Rep.len h0,Rep.len g],?_⟩;have:Rep.rep M w (m ++ (c1 ++ (d1))) (y,x.timer,x.conflict):=⟨m,_,rfl,g,⟨c1,_,rfl,h1,h2⟩⟩;show Rep.rep M w _ (y,x.timer,x.conflict);simpa using this⟩
instance:DF Ag.timer 1:=⟨λh=>by
 obtain ⟨c0,d0,rfl,h0,c1,d1,rfl,h1,h2⟩:=h;exact ⟨c0,c1,d1,by simp,by simp only [KH,Rep.len h0];rfl,h1⟩⟩
instance:DU (α:=Ag) 1 (λ(x:Ag) (y:Int)=>{ x with timer:=y }):=⟨λ{M w cs m x y} h g=>by
 obtain ⟨c0,d0,rfl,h0,c1,d1,rfl,h1,h2⟩:=h;refine ⟨c0,d1,c1,by simp,by simp only [KH,Rep.len h0];rfl,by rw [Rep.len h1,Rep.len g],?_⟩;have:Rep.rep M w (c0 ++ (m ++ (d1))) (x.value,y,x.conflict):=⟨c0,_,rfl,h0,⟨m,_,rfl,g,h2⟩⟩;show Rep.rep M w _ (x.value,y,x.conflict);simpa using this⟩
instance:DF Ag.conflict 2:=⟨λh=>by
 obtain ⟨c0,d0,rfl,h0,c1,d1,rfl,h1,h2⟩:=h;exact ⟨c0 ++ c1,d1,[],by simp,by simp only [KH,Rep.len h0,Rep.len h1];rfl,h2⟩⟩
instance:DU (α:=Ag) 2 (λ(x:Ag) (y:Bool)=>{ x with conflict:=y }):=⟨λ{M w cs m x y} h g=>by
 obtain ⟨c0,d0,rfl,h0,c1,d1,rfl,h1,h2⟩:=h;refine ⟨c0 ++ c1,[],d1,by simp,by simp only [KH,Rep.len h0,Rep.len h1];rfl,by rw [Rep.len h2,Rep.len g],?_⟩;have:Rep.rep M w (c0 ++ (c1 ++ (m))) (x.value,x.timer,y):=⟨c0,_,rfl,h0,⟨c1,_,rfl,h1,g⟩⟩;show Rep.rep M w _ (x.value,x.timer,y);simpa using this⟩
end
section
open Go.Proofs
instance:Mx Tryz.prog:=⟨ae⟩
instance:Ty Tryz.prog 3 (Int):=⟨ae,ae⟩
instance:Zr Tryz.prog 3 (0:Int):=⟨[.int .i64 0],ae,λ_ _=>rfl⟩
instance:Ty Tryz.prog 4 (Bool):=⟨ae,ae⟩
instance:Zr Tryz.prog 4 false:=⟨[.bool false],ae,λ_ _=>rfl⟩
instance:Ty Tryz.prog 5 (UInt8):=⟨ae,ae⟩
instance:Ty Tryz.prog 9 P3:=⟨ae,ae⟩
instance:Ty Tryz.prog 22 (List Step):=⟨ae,ae⟩
instance:Es Tryz.prog 22 (Step):=⟨64,ae,ae⟩
instance:Ty Tryz.prog 24 (Ai):=⟨ae,ae⟩
instance:Fd Tryz.prog 24 0 Ai.Actuators:=⟨0,0,ae,inferInstance⟩
instance:Fd Tryz.prog 24 1 Ai.Steps:=⟨1,0,ae,inferInstance⟩
instance:Ty Tryz.prog 28 (List P3):=⟨ae,ae⟩
instance:Es Tryz.prog 28 P3:=⟨9,ae,ae⟩
instance:Ty Tryz.prog 29 (List Ae):=⟨ae,ae⟩
instance:Es Tryz.prog 29 (Ae):=⟨113,ae,ae⟩
instance:Ty Tryz.prog 30 PZ:=⟨ae,ae⟩
instance:Es Tryz.prog 30 (Int):=⟨3,ae,ae⟩
instance:Ty Tryz.prog 32 (Aa):=⟨ae,ae⟩
instance:Fd Tryz.prog 32 0 Aa.Actuators:=⟨0,0,ae,inferInstance⟩
instance:Fd Tryz.prog 32 1 Aa.Inputs:=⟨1,0,ae,inferInstance⟩
instance:Fd Tryz.prog 32 2 Aa.Signals:=⟨2,0,ae,inferInstance⟩
instance:Fd Tryz.prog 32 3 Aa.Plus:=⟨3,0,ae,inferInstance⟩
instance:Fd Tryz.prog 32 4 Aa.Minus:=⟨4,0,ae,inferInstance⟩
instance:Ty Tryz.prog 37 P0:=⟨ae,ae⟩
instance:Es Tryz.prog 37 (Bool):=⟨4,ae,ae⟩
instance:Ty Tryz.prog 39 (Int):=⟨ae,ae⟩
instance:Zr Tryz.prog 39 (0:Int):=⟨[.int .i64 0],ae,λ_ _=>rfl⟩
instance:Ty Tryz.prog 43 (Accident):=⟨ae,ae⟩
instance:Es Tryz.prog 46 (UInt8):=⟨5,ae,ae⟩
instance:Ty Tryz.prog 58 (Ad):=⟨ae,ae⟩
instance:Fd Tryz.prog 58 0 Ad.Ends:=⟨0,0,ae,inferInstance⟩
instance:Fd Tryz.prog 58 1 Ad.Valves:=⟨1,0,ae,inferInstance⟩
instance:Fd Tryz.prog 58 2 Ad.Inputs:=⟨2,0,ae,inferInstance⟩
instance:Fd Tryz.prog 58 3 Ad.Values:=⟨3,0,ae,inferInstance⟩
instance:Fd Tryz.prog 58 4 Ad.Timers:=⟨4,0,ae,inferInstance⟩
instance:Ty Tryz.prog 59 (List Ab):=⟨ae,ae⟩
instance:Es Tryz.prog 59 (Ab):=⟨69,ae,ae⟩
instance:Ty Tryz.prog 64 (Step):=⟨ae,ae⟩
instance:Fd Tryz.prog 64 0 Step.Strokes:=⟨0,0,ae,inferInstance⟩
instance:Fd Tryz.prog 64 1 Step.Wait:=⟨1,0,ae,inferInstance⟩
instance:Ty Tryz.prog 69 (Ab):=⟨ae,ae⟩
instance:Fd Tryz.prog 69 0 Ab.Actuator:=⟨0,0,ae,inferInstance⟩
instance:Fd Tryz.prog 69 1 Ab.Out:=⟨1,0,ae,inferInstance⟩
instance:Zr Tryz.prog 69 (⟨(0:Int),false⟩:Ab):=⟨[.int .i64 0,.bool false],ae,λ_ _=>⟨[.int .i64 0],[.bool false],rfl,rfl,rfl⟩⟩
instance:Ty Tryz.prog 86 (Af):=⟨ae,ae⟩
instance:Fd Tryz.prog 86 0 Af.Kind:=⟨0,0,ae,inferInstance⟩
instance:Fd Tryz.prog 86 1 Af.Index:=⟨1,0,ae,inferInstance⟩
instance:Fd Tryz.prog 86 2 Af.Value:=⟨2,0,ae,inferInstance⟩
instance:Zr Tryz.prog 86 (⟨(0:Int),(0:Int),false⟩:Af):=⟨[.int .i64 0,.int .i64 0,.bool false],ae,λ_ _=>⟨[.int .i64 0],[.int .i64 0,.bool false],rfl,rfl,⟨[.int .i64 0],[.bool false],rfl,rfl,rfl⟩⟩⟩
instance:Ty Tryz.prog 87 (List Af):=⟨ae,ae⟩
instance:Es Tryz.prog 87 (Af):=⟨86,ae,ae⟩
instance:Ty Tryz.prog 108 (List Expr):=⟨ae,ae⟩
instance:Es Tryz.prog 108 (Expr):=⟨110,ae,ae⟩
instance:Ty Tryz.prog 110 (Expr):=⟨ae,ae⟩
instance:Fd Tryz.prog 110 0 Expr.Op:=⟨0,0,ae,inferInstance⟩
instance:Fd Tryz.prog 110 1 Expr.Index:=⟨1,0,ae,inferInstance⟩
instance:Fd Tryz.prog 110 2 Expr.Args:=⟨2,0,ae,inferInstance⟩
instance:Ty Tryz.prog 113 (Ae):=⟨ae,ae⟩
instance:Fd Tryz.prog 113 0 Ae.Name:=⟨0,0,ae,inferInstance⟩
instance:Fd Tryz.prog 113 1 Ae.Kind:=⟨1,0,ae,inferInstance⟩
instance:Fd Tryz.prog 113 3 Ae.Off:=⟨5,2,ae,inferInstance⟩
instance:Fd Tryz.prog 113 4 Ae.Delay:=⟨8,0,ae,inferInstance⟩
instance:Ty Tryz.prog 117 (List Ad):=⟨ae,ae⟩
instance:Es Tryz.prog 117 (Ad):=⟨58,ae,ae⟩
instance:Ty Tryz.prog 118 (List PZ):=⟨ae,ae⟩
instance:Es Tryz.prog 118 PZ:=⟨30,ae,ae⟩
instance:Ty Tryz.prog 127 (Option World_overlap):=⟨ae,ae⟩
instance:Ty Tryz.prog 142 (Step_overlap):=⟨ae,ae⟩
instance:Ty Tryz.prog 144 (Ah):=⟨ae,ae⟩
instance:Fd Tryz.prog 144 0 Ah.States:=⟨0,0,ae,inferInstance⟩
instance:Fd Tryz.prog 144 1 Ah.Moves:=⟨1,0,ae,inferInstance⟩
instance:Fd Tryz.prog 146 0 World_overlap.c:=⟨0,4,ae,inferInstance⟩
instance:Fd Tryz.prog 146 1 World_overlap.space:=⟨5,1,ae,inferInstance⟩
instance:Fd Tryz.prog 154 0 Builder.s:=⟨0,1,ae,inferInstance⟩
instance:Fd Tryz.prog 154 1 Builder.division:=⟨2,0,ae,inferInstance⟩
instance:Ty Tryz.prog 164 (Ar6):=⟨ae,ae⟩
instance:Zr Tryz.prog 164 Ar6.z:=⟨[.bool false,.bool false,.bool false,.bool false,.bool false,.bool false],ae,λ_ _=>⟨rfl,rfl⟩⟩
instance:Ty Tryz.prog 186 (List (List Ab)):=⟨ae,ae⟩
instance:Es Tryz.prog 186 (List Ab):=⟨59,ae,ae⟩
instance:Ty Tryz.prog 188 (Course):=⟨ae,ae⟩
instance:Ty Tryz.prog 199 (List Node):=⟨ae,ae⟩
instance:Ty Tryz.prog 296 (Key):=⟨ae,ae⟩
instance:Zr Tryz.prog 296 (⟨ByteArray.empty,ByteArray.empty,ByteArray.empty,ByteArray.empty,ByteArray.empty⟩:Key):=⟨[.string ByteArray.empty,.string ByteArray.empty,.string ByteArray.empty,.string ByteArray.empty,.string ByteArray.empty],ae,λ_ _=>⟨[.string ByteArray.empty],[.string ByteArray.empty,.string ByteArray.empty,.string ByteArray.empty,.string ByteArray.empty],rfl,rfl,⟨[.string ByteArray.empty],[.string ByteArray.empty,.string ByteArray.empty,.string ByteArray.empty],rfl,rfl,⟨[.string ByteArray.empty],[.string ByteArray.empty,.string ByteArray.empty],rfl,rfl,⟨[.string ByteArray.empty],[.string ByteArray.empty],rfl,rfl,rfl⟩⟩⟩⟩⟩
instance:Es Tryz.prog 331 P0:=⟨37,ae,ae⟩
instance:Ty Tryz.prog 434 (Ag):=⟨ae,ae⟩
instance:Zr Tryz.prog 434 (⟨false,(0:Int),false⟩:Ag):=⟨[.bool false,.int .i64 0,.bool false],ae,λ_ _=>⟨[.bool false],[.int .i64 0,.bool false],rfl,rfl,⟨[.int .i64 0],[.bool false],rfl,rfl,rfl⟩⟩⟩
end
theorem Em {l:P2} (h:l.length=1):∃ a,l=[a]:=by match l,h with | [a],_=>exact ⟨a,rfl⟩
theorem pT {l:P2} (h:l.length=2):∃ a b,l=[a,b]:=by match l,h with | [a,b],_=>exact ⟨a,b,rfl⟩
theorem JR {l:P2} (h:l.length=3):∃ a b c,l=[a,b,c]:=by match l,h with | [a,b,c],_=>exact ⟨a,b,c,rfl⟩
theorem lH {l:P2} (h:l.length=5):∃ a b c d e,l=[a,b,c,d,e]:=by match l,h with | [a,b,c,d,e],_=>exact ⟨a,b,c,d,e,rfl⟩
def Se (pl:List (Nat×Nat)):P2->List (Nat×P2)->Option P2
 | cells,[]=>some cells
 | cells,(i,c) :: rest=>match pl[i]? with
  | none=>none
  | some (off,size)=>if c.length≠size || off + c.length > cells.length then none else Se pl (cells.take off ++ (c ++ cells.drop (off + c.length))) rest
def Rx:List (Nat×Value)->List (Nat×P2)->Prop
 | [],[]=>True
 | (i,v) :: l,(j,c) :: m=>i=j/\v.cells=c.toArray/\Rx l m
 | _,_=>False
theorem Xn (c:P2):∀ (off k:Nat) (cells:P2),off + k + c.length<=cells.length ->
  ((c.zipIdx k).foldl (λ(cs:Array Value) (x:Value×Nat)=>cs.setIfInBounds (off + x.2) x.1) cells.toArray)=(cells.take (off + k) ++ (c ++ cells.drop (off + k + c.length))).toArray:=by
 induction c with
 | nil=>intro off k cells h;simp
 | cons v c ih=>
  intro off k cells h;simp only [List.zipIdx_cons,OH,List.setIfInBounds_toArray];simp only [LM] at h;rw [ih off (k + 1) (cells.set (off + k) v) (by simp;omega)];congr 1;have e1:off + (k + 1) + c.length=off + k + (c.length + 1):=by omega
  have h3:List.take (off + (k + 1)) (cells.set (off + k) v)=List.take (off + k) cells ++ [v]:=by
   apply M7;intro j;by_cases h1:j < off + k
   ·rw [KR (by simp;omega),LN aa,LN h1,M4 aa]
   ·by_cases h2:j=off + k
    ·subst h2;have l2:(List.take (off + k) cells).length=off + k:=by simp;omega
     rw [KO aa,LN aa,MG aa,l2,OE];rfl
    ·rw [LG (by simp;omega),LG (by simp;omega)]
  have h4:List.drop (off + (k + 1) + c.length) (cells.set (off + k) v)=List.drop (off + k + (c.length + 1)) cells:=by
   rw [e1,List.drop_set_of_lt aa]
  rw [h3,h4];simp [K3]
theorem BB {pl:List (Nat×Nat)}:∀ {l:List (Nat×Value)} {m:List (Nat×P2)} {z res:P2},Rx l m->Se pl z m=some res->Instr.fill (pl[·]?) z.toArray l=some res.toArray
 | [],[],z,res,_,h=>by simp only [Se,Option.some.injEq] at h;subst h;rfl
 | [],_ :: _,_,_,h,_=>h.elim
 | _ :: _,[],_,_,h,_=>h.elim
 | (i,v) :: l,(j,c) :: m,z,res,h,hf=>by
  obtain ⟨rfl,hv,h⟩:=h;unfold Se at hf;unfold Instr.fill;split at hf
  ·cases hf
  ·rename_i off size hp;split at hf
   ·cases hf
   ·rename_i hne;simp only [hp,hv,NF];rw [if_neg (by simpa using hne)];simp only [M9,decide_eq_true_eq,not_or] at hne;have:=Xn c off 0 z aa;have hfold:(c.toArray.zipIdx.foldl (λ(cs:Array Value) (x:Value×Nat)=>cs.setIfInBounds (off + x.2) x.1) z.toArray)=(c.zipIdx 0).foldl (λ(cs:Array Value) (x:Value×Nat)=>cs.setIfInBounds (off + x.2) x.1) z.toArray:=by
     rw [← PU];congr 1;simp
    show Instr.fill _ (c.toArray.zipIdx.foldl (λ(cs:Array Value) (x:Value×Nat)=>cs.setIfInBounds (off + x.2) x.1) z.toArray) l=_;rw [hfold,this];exact BB h (by simpa using hf)
def Bv (P:Program) (fs:List Field):Option (List (Nat×Nat)):=fs.mapM λf=>(P.info? f.type).map λi=>(f.offset,i.size)
theorem Sq {P:Program} {w:World}:∀ {fs:List Field} {L:List (Nat×Nat)},Bv P fs=some L->(fs.mapM λf=>(do pure (f.offset,← sizeOf f.type):Sem (Nat×Nat))).run P w=.ok L w
 | [],L,h=>by simp only [Bv,List.mapM_nil,Option.pure_def,Option.some.injEq] at h;subst h;rfl
 | f :: fs,L,h=>by
  unfold Bv at h;rw [List.mapM_cons] at h;cases hi:P.info? f.type with
  | none=>rw [hi] at h;cases h
  | some i=>
   cases hr:Bv P fs with
   | none=>unfold Bv at hr;rw [hi,hr] at h;cases h
   | some L'=>
    unfold Bv at hr;rw [hi,hr] at h;have:L=(f.offset,i.size) :: L':=by cases h;rfl
    subst this;have ih:=Sq (w:=w) (show Bv P fs=some L' from hr);rw [List.mapM_cons];simp only [KJ,sizeOf,typeInfo,run_program,KE,hi,KQ] at ih ⊢;rw [ih];rfl
def fieldsOf (P:Program) (T:TypeId):Option (List Field):=match P.underlying T with | some (.struct fs)=>some fs.toList | _=>none
theorem GB {P:Program} {T:TypeId} {fs:List Field} {L:List (Nat×Nat)} {z res:P2} {l:List (Nat×Value)} {m:List (Nat×P2)} {w:World}
  (hu:fieldsOf P T=some fs) (hp:Bv P fs=some L) (hz:(P.info? T).map (·.zero)=some (some (.agg z.toArray))) (hc:Rx l m) (hf:Se L z m=some res) :
  (Instr.build T l.toArray).run P w=.ok (.agg res.toArray) w:=by
 unfold fieldsOf at hu;split at hu
 ·rename_i fs' hu';obtain rfl:=Option.some.inj hu;cases hi:P.info? T with
  | none=>simp [hi] at hz
  | some i=>
   simp only [hi,Option.map_some,Option.some.injEq] at hz;have h1:=BB (pl:=L) hc hf;have h2:(fs'.mapM λf=>(do pure (f.offset,← sizeOf f.type):Sem (Nat×Nat))).run P w=.ok L.toArray w:=by
    have:=Sq (w:=w) hp;rw [← PJ (xs:=fs'),List.mapM_toArray];simp only [Sem.run_map,this,KE]
   simp only [Instr.build,zeroValue,typeInfo,KJ,run_program,KE,hi,KQ,hz,run_underlying hu',h2,Value.cells];have h3:(λx:Nat=>L.toArray[x]?)=(λx:Nat=>L[x]?):=by funext x;simp
   rw [h3,h1];rfl
 ·cases hu
theorem Ar {P:Program} {T:TypeId} {L:List (Nat×Nat)} {z res:P2} {l:List (Nat×Value)} {m:List (Nat×P2)} {w:World}
  (hp:(fieldsOf P T).bind (Bv P)=some L) (hz:(P.info? T).map (·.zero)=some (some (.agg z.toArray))) (hc:Rx l m) (hf:Se L z m=some res) :
  (Instr.build T l.toArray).run P w=.ok (.agg res.toArray) w:=by
 cases hu:fieldsOf P T with
 | none=>rw [hu] at hp;cases hp
 | some fs=>rw [hu] at hp;exact GB hu hp hz hc hf
theorem Ap {α:Type} [Rep α] {M:Nat->Prop} {w:World} {cs:P2} {x:α} {v:Value} (hv:v=mk (Rep.agg α) cs) (hr:Rep.rep M w cs x):v.cells=cs.toArray:=by rw [hv,Dc hr]
section
def Chk {α:Type} [Rep α] (M:Nat->Prop) (w:World):P2->List α->Prop
 | cs,[]=>cs=[]
 | cs,x :: xs=>∃ c d,cs=c ++ d/\Rep.rep M w c x/\Chk M w d xs
section
variable {α:Type} [Rep α] {M M':Nat->Prop} {w w':World}
theorem Chk.ext (e:Ext M w w'):∀ {xs:List α} {cs:P2},Chk M w cs xs->Chk M w' cs xs
 | [],_,h=>h
 | _ :: _,_,⟨c,d,h1,h2,h3⟩=>⟨c,d,h1,Rep.ext h2 e,Chk.ext e h3⟩
theorem Chk.sub (s:∀ k,k < w.heap.size->M' k->M k):∀ {xs:List α} {cs:P2},Chk M w cs xs->Chk M' w cs xs
 | [],_,h=>h
 | _ :: _,_,⟨c,d,h1,h2,h3⟩=>⟨c,d,h1,Rep.sub h2 s,Chk.sub s h3⟩
theorem Chk.one:∀ {xs:List α} {cs:P2},Chk M w cs xs->∀ u∈cs,u.oneCell'=true
 | [],_,h,u,hu=>by subst h;simp at hu
 | _ :: _,_,⟨c,d,h1,h2,h3⟩,u,hu=>by
  subst h1;rcases LA.1 hu with h | h
  ·exact Rep.one h2 u h
  ·exact Chk.one h3 u h
theorem Chk.len:∀ {xs:List α} {cs:P2},Chk M w cs xs->cs.length=xs.length * Rep.sz α
 | [],_,h=>by subst h;simp
 | _ :: xs,_,⟨c,d,h1,h2,h3⟩=>by subst h1;rw [KH,Rep.len h2,Chk.len h3,LM,NC];omega
theorem Chk.append:∀ {xs ys:List α} {cs ds:P2},Chk M w cs xs->Chk M w ds ys->Chk M w (cs ++ ds) (xs ++ ys)
 | [],_,_,_,h,k=>by subst h;exact k
 | _ :: _,_,_,ds,⟨c,d,h1,h2,h3⟩,k=>⟨c,d ++ ds,by rw [h1,K3],h2,Chk.append h3 k⟩
theorem Row.chk {b:Nat}:∀ {xs:List α} {o:Nat},Row M w b o xs->∃ cs,Chk M w cs xs/\Cls M w b o cs
 | [],_,_=>⟨[],rfl,λj v hj=>by simp at hj⟩
 | x :: xs,o,⟨⟨c,hc,hr⟩,h2⟩=>by
  let ⟨d,hd,hd2⟩:=Row.chk h2;refine ⟨c ++ d,⟨c,d,rfl,hr,hd⟩,λj v hj=>?_⟩;rcases LV j c.length with h | h
  ·exact hc j v (by rwa [KR h] at hj)
  ·rw [KO h] at hj;have:=hd2 (j - c.length) v hj;rw [Rep.len hr] at this h
   rwa [show o + Rep.sz α + (j - Rep.sz α)=o + j by omega] at this
theorem Chk.row {b:Nat}:∀ {xs:List α} {o:Nat} {cs:P2},Chk M w cs xs->Cls M w b o cs->Row M w b o xs
 | [],_,_,_,_=>trivial
 | x :: xs,o,cs,⟨c,d,h1,h2,h3⟩,hc=>by
  subst h1;let ⟨h4,h5⟩:=Cls.append hc;rw [Rep.len h2] at h5;exact ⟨⟨c,h4,h2⟩,Chk.row h3 h5⟩
theorem Chk.get:∀ {xs:List α} {cs:P2} {i:Nat} {x:α},Chk M w cs xs->xs[i]?=some x->∃ p c q,cs=p ++ (c ++ q)/\p.length=i * Rep.sz α/\Rep.rep M w c x /\
  ∀ c' y,Rep.rep M w c' y->Chk M w (p ++ (c' ++ q)) (xs.set i y)
 | [],_,_,_,_,hx=>by simp at hx
 | y :: ys,cs,0,x,⟨c,d,h1,h2,h3⟩,hx=>by
  obtain rfl:y=x:=by simpa using hx
  exact ⟨[],c,d,h1,by simp,h2,λc' y hy=>⟨c',d,rfl,hy,h3⟩⟩
 | y :: ys,cs,i + 1,x,⟨c,d,h1,h2,h3⟩,hx=>by
  obtain ⟨p,c1,q,h4,h5,h6,h7⟩:=Chk.get (i:=i) h3 (by simpa using hx);refine ⟨c ++ p,c1,q,by rw [h1,h4,K3],by rw [KH,h5,Rep.len h2,NC];omega,h6,λc' z hz=>⟨c,p ++ (c' ++ q),by rw [K3],h2,?_⟩⟩;exact h7 c' z hz
end
theorem Wa {w w':World} {e size n:Nat} {c:Value} {cs:P2} (h:w.ownsRow 0 e size c n cs) (hk:∀ k,c.ownBlock=some k->w'.heap[k]?=w.heap[k]?):w'.ownsRow 0 e size c n cs:=by (refine ⟨h.1,?_⟩;rcases h.2 with hn | ⟨g,cap,cur,rfl,hb,hgg,rest⟩);exact .inl hn;refine .inr ⟨g,cap,cur,rfl,hb,?_,rest⟩;rw [hk g rfl];exact hgg
def Ow {α:Type} [Rep α] (e:TypeId) (c:Value) (xs:List α):Ent where
 p F M w _:=(F=c.ownBlock.toList/\∃ cs,w.ownsRow 0 e (Rep.sz α) c xs.length cs/\Chk M w cs xs)\/(F=[]/\xs=[]/\∃ g,c=.slice (some ⟨g,0,none⟩) 0 0)
 st h x:=by
  rcases h with ⟨hF,cs,ho,hc⟩ | h
  ·refine .inl ⟨hF,cs,Wa ho λk hk=>?_,hc.ext (x.mono λ_ _ hk=>hk.1)⟩;exact x.block k (ho.lt k hk).2 λhm=>hm.2 (by rw [hF,hk];simp)
  ·exact .inr h
 sb h s:=h.imp (λ⟨hF,cs,ho,hc⟩=>⟨hF,cs,ho,hc.sub s⟩) id
def Or {α:Type} [Rep α] (e:TypeId) (xs:List α):Ent where
 p F M w v:=(Ow e v xs).p F M w v
 st {_ _ _ _ v} h x:=(Ow e v xs).st h x
 sb {_ _ _ _ v} h s:=(Ow e v xs).sb h s
class Ea (P:Program) (T:Nat) (e:outParam Nat) (α:Type) [Rep α]:Prop where
 el:P.underlying T=some (.slice e)
 inf':((P.info? e).bind λi=>i.zero.map λz=>(i.size,Nat.ble i.bytes 65536,z.cells.size))=some (Rep.sz α,true,Rep.sz α)
 pos:Nat.blt 0 (Rep.sz α)=true
theorem Ea.inf {P:Program} {T e:Nat} {α:Type} [Rep α] (h:Ea P T e α):∃ i z,P.info? e=some i/\i.zero=some z/\i.size=Rep.sz α/\Nat.ble i.bytes 65536=true/\z.cells.size=Rep.sz α:=by
 have h:=h.inf';cases hi:P.info? e with
 | none=>rw [hi] at h;cases h
 | some i=>
  rw [hi] at h;cases hz:i.zero with
  | none=>simp [hz] at h
  | some z=>
   simp only [NR,hz,Option.map_some,Option.some.injEq,Prod.mk.injEq] at h;exact ⟨i,z,rfl,hz,h.1,h.2.1,h.2.2⟩
section
variable {P:Program} {M0:Fm} {w0:World} {n:Nat} {Γ:Cx} {Q:Exit->Act->World->Prop} {a:Act} {w:World} {ty:TypeId}
theorem St.openO {α:Type} [Rep α] {d e:Nat} {xs:List α} (h:St M0 w0 n Γ a w) (k:Nat) (hd:Ao Γ d=some (Or e xs)) (hne:Nat.beq d k=false):∃ c,St M0 w0 n ((d,Qv c) :: (k,Ow e c xs) :: Γ) a w:=by let ⟨M,φ,h⟩:=h;refine ⟨a.get d,?_⟩;unfold St;rw [Fp];exact h.split (by rw [hd];rfl) (LU hne) ⟨rfl,rfl⟩ (h.holds d _ hd)
theorem St.nilO {α:Type} [Rep α] (k e:Nat) (h:St M0 w0 n Γ a w):St M0 w0 n ((k,Ow e (.slice none 0 0) ([]:List α)) :: Γ) a w:=by let ⟨M,φ,h⟩:=h;unfold St;rw [Ak];refine ⟨M,λt=>if t=k then [] else φ t,λt e' he=>?_,λt ht=>?_,λt s hts ht hs=>?_,h.sub,h.bd,h.fr,h.sz,h.df⟩;simp only [put] at he;by_cases h3:t=k;subst h3;simp only [if_true,Option.some.injEq] at he ⊢;subst he;exact .inl ⟨rfl,[],World.ownsRow_nil w 0 e _,rfl⟩;simp only [if_neg h3] at he ⊢;exact h.holds t e' he;by_cases h3:t=k;simp [h3];simp only [put,if_neg h3] at ht ⊢;exact h.own t ht;by_cases h3:t=k;simp [h3];by_cases h4:s=k;simp [h4];simp only [put,if_neg h3,if_neg h4] at ht hs ⊢;exact h.apart t s hts ht hs
theorem Ow.sl {α:Type} [Rep α] {e:Nat} {c:Value} {xs:List α} {F:P1} {M:Nat->Prop} {v:Value} (h:(Ow e c xs).p F M w v) (hM:∀ k∈F,¬ M k):Sl M w c xs:=by
 obtain ⟨hF,cs,ho,hc⟩ | ⟨_,rfl,g,rfl⟩:=h
 case inr=>exact ⟨_,0,rfl,.inl rfl⟩
 rcases ho.2 with ⟨rfl,h0⟩ | ⟨g,cap,cur,rfl,hb,hg,q1,q2,q3,htake⟩
 ·exact ⟨none,0,by rw [h0],.inl (MN h0)⟩
 ·refine ⟨some ⟨g,0,none⟩,cap - xs.length,by rw [OL aa],.inr ⟨g,0,rfl,hc.row λj v hj=>⟨hM g (by rw [hF];simp [Value.ownBlock]),?_⟩⟩⟩;have:=ho.cells (g:=g) rfl j v hj
  rwa [Bo] at this
abbrev Fz {α:Type} [Rep α] (c:Value) (xs:List α):Ent:=At c (Va xs)
instance {α:Type} [Rep α] {e:TypeId} {c:Value} {xs:List α}:Gh (Ow e c xs):=⟨λh _=>h⟩
theorem fz {α:Type} [Rep α] {k e:Nat} {c:Value} {xs:List α} (hM:Bd M0 w0) (h:St M0 w0 n Γ a w) (hk:Ao Γ k=some (Ow e c xs)):St M0 w0 n ((k,Fz c xs) :: Γ) a w:=by (let ⟨M,φ,h⟩:=h;have hks:(Ao Γ k).isSome=true:=by rw [hk];rfl);have hMs:∀ q,q < w.heap.size->(M q/\q ∉ φ k)->M q:=λq _ hq=>hq.1;unfold St;rw [Ak];refine ⟨λq=>M q/\q ∉ φ k,λt=>if t=k then [] else φ t,λt e' he=>?_,λt ht=>?_,λt s hts ht hs=>?_,λq hq=>⟨h.sub q hq,λhm=>?_⟩,λq hq=>h.bd q hq.1,h.fr,h.sz,h.df⟩;simp only [put] at he;by_cases h4:t=k;subst h4;simp only [if_true,Option.some.injEq] at he ⊢;subst he;exact Va.mkList (Ow.sl (Ent.sb _ (h.holds t _ hk) hMs) λq hq hm=>hm.2 hq);simp only [if_neg h4] at he ⊢;exact Ent.sb _ (h.holds t e' he) hMs;by_cases h4:t=k;simp [h4];simp only [put,if_neg h4] at ht ⊢;have:=h.own t ht;exact ⟨this.1,λq hq=>⟨⟨(this.2 q hq).1,h.apart t k h4 ht hks q hq⟩,(this.2 q hq).2⟩⟩;by_cases h5:t=k;simp [h5];by_cases h6:s=k;simp [h6];simp only [put,if_neg h5,if_neg h6] at ht hs ⊢;exact h.apart t s hts ht hs;(rcases ((h.own k hks).2 q hm).2 with h1 | h1);have:=hM.1 q hq;omega;exact hM.2 q h1 hq
theorem aH {α:Type} [Rep α] {k e:Nat} {c:Value} {xs:List α} {R:Prop} (hM:Bd M0 w0) (h:St M0 w0 n Γ a w) (hk:Ao Γ k=some (Ow e c xs)) (r:St M0 w0 n ((k,Fz c xs) :: Γ) a w->R):R:=r (fz hM h hk)
end
end
theorem eL {P:Program} {w w':World} {v v':Value} {base:Nat} {t ty e:TypeId} {i:TypeInfo} {z:Value} {size bytes:Nat} (ht:P.underlying t=some (.slice e)) (hi:P.info? e=some i) (hz:i.zero=some z)
  (hsize:i.size=size) (hby:i.bytes=bytes) {n:Nat} {xs:P2} (hown:w.ownsRow base e size v n xs)
  {a:Addr} {m c:Nat} {news:P2} (hl:news.length=m * size) (hnews:∀ j u,news[j]?=some u->w.cell? (a.add j)=some u) (h1:∀ u∈news,u.oneCell'=true)
  (h63:n + m<=maxLen) (hbytes:(n + m) * bytes<=140737488355328) (hr:(Builtin.append_ #[t,t] ty #[v,.slice (some a) m c]).run P w=.ok v' w'):w.drawn<=w'.drawn:=by
 subst hsize;subst hby
 have hsm:n + m<=9223372036854775807:=by simp only [maxLen] at h63;omega
 have done:∀ {u:Value} {w2:World},(Builtin.append_ #[t,t] ty #[v,.slice (some a) m c]).run P w=.ok u w2->w.drawn<=w2.drawn->w.drawn<=w'.drawn:=λh hd=>by
  rw [h] at hr;cases hr
  exact hd
 rcases hown.2 with ⟨rfl,rfl⟩ | ⟨g,cap,cur,rfl,_,hg,hnc,_,hcs,htake⟩
 ·by_cases hm:m=0
  ·subst hm;refine done (u:=.slice none 0 0) (w2:=w) ?_ (K9 _);simp [Builtin.append_,run_underlying ht,sizeOf,typeInfo,hi,Builtin.lenOf,Builtin.firstCells,loadCells,loadCellsFrom]
  ·exact done (run_append_nil (P:=P) w t ty e i z ht hi hz a m c news hl hnews aa aa (by simp only [MJ] at hbytes;omega)) (PN _)
 ·by_cases hroom:n + m<=cap
  ·exact done (run_append_room (P:=P) w t ty e i ht hi g n cap cur hg a m c news hl hnews h1 hroom (by rw [hl,hcs,← NC];exact Nat.mul_le_mul_right _ hroom)) (K9 _)
  ·exact done (run_append_grow (P:=P) w t ty e i z ht hi hz ⟨g,0,none⟩ n cap xs hown.1 (hown.cells (g:=g) rfl) a m c news hl hnews aa aa (growslice_fits aa hbytes)) (PN _)
section
variable {rr:Option Nat}
def app {α:Type} (xs ys:List α):Option (List α):=if xs.length + ys.length<=1073741824 then some (xs ++ ys) else none
section
variable {P:Program} {M0:Fm} {w0:World} {n:Nat} {Γ:Cx} {Q:Exit->Act->World->Prop} {a:Act} {w:World} {ty:TypeId}
theorem fB {α:Type} [Rep α] {T e:Nat} [he:Ea P T e α] {M:Nat->Prop} {w:World} {c v:Value} {xs ys zs:List α} {cs:P2}
  (ho:w.ownsRow 0 e (Rep.sz α) c xs.length cs) (hc:Chk M w cs xs) (hy:Sl M w v ys) (ha:app xs ys=some zs) (ty:TypeId) :
  ∃ v' w' ds,(Builtin.append_ #[T,T] ty #[c,v]).run P w=.ok v' w'/\w'.ownsRow 0 e (Rep.sz α) v' zs.length (cs ++ ds)/\(w.grownBy w' c.ownBlock/\w.drawn<=w'.drawn)/\(v'.ownBlock=c.ownBlock\/v'.ownBlock=some w.heap.size)/\Chk M w (cs ++ ds) zs:=by
 unfold app at ha;split at ha
 case isFalse=>cases ha
 rename_i hlen;cases ha
 let ⟨i,z,hi,hz,hs,hb,hzs⟩:=he.inf;have hb':=KY hb;have hp:0 < Rep.sz α:=KY he.pos;obtain ⟨ad,cap,rfl,hy⟩:=hy;cases ad with
 | none=>
  have:ys=[]:=by
   rcases hy with h | ⟨b,o,h,_⟩
   ·exact h
   ·cases h
  subst this;refine ⟨c,w,[],?_,by simpa using ho,⟨⟨rfl,rfl,rfl,K9 _,λ_ _ _=>rfl⟩,K9 _⟩,.inl rfl,by simpa using hc⟩;rcases ho.2 with ⟨rfl,h00⟩ | ⟨g,cap,cur,rfl,_,_,hnc,_⟩
  ·obtain rfl:=MN h00;simp [Builtin.append_,run_underlying he.el,sizeOf,typeInfo,hi,Builtin.lenOf,Builtin.firstCells]
  ·simp [Builtin.append_,run_underlying he.el,sizeOf,typeInfo,hi,Builtin.lenOf,Builtin.firstCells,hnc,storeCells]
 | some ad=>
  have:∃ ds,Chk M w ds ys/\∀ j u,ds[j]?=some u->w.cell? (ad.add j)=some u:=by
   rcases hy with rfl | ⟨b,o,h,hr⟩
   ·exact ⟨[],rfl,λj u hj=>by simp at hj⟩
   ·cases h
    let ⟨ds,h1,h2⟩:=hr.chk;exact ⟨ds,h1,λj u hj=>by rw [Bo];exact (h2 j u hj).2⟩
  let ⟨ds,hd,hcell⟩:=this;let ⟨v',w',h1,h2,h3,_,h5⟩:=run_append_own_at (P:=P) w 0 T ty e i z (Rep.sz α) i.bytes he.el hi hz hs rfl hzs hp c xs.length cs ho ad ys.length cap ds hd.len hcell hd.one (by unfold maxLen;omega)
   (LW (OP hlen hb') (by decide)) (L0 _)
  exact ⟨v',w',ds,h1,by rw [KH];exact h2,⟨h3,eL (P:=P) he.el hi hz hs rfl ho hd.len hcell hd.one (by unfold maxLen;omega) (LW (OP hlen hb') (by decide)) h1⟩,h5,hc.append hd⟩
theorem StM.own2 {g:Mp} {M:Nat->Prop} {φ:Nat->P1} {d k:Nat} {e':Ent} {w':World} {v':Value} {F:P1} (h:StM M0 w0 n g a w M φ) (hk:(g k).isSome=true) (hd:d < n) (hne:d≠k)
  (hx:Ext (λq=>q∈φ k) w w') (hn:F.Nodup) (hF:∀ q∈F,q∈φ k\/(w.heap.size<=q/\q < w'.heap.size)) (he:∀ u,e'.p F (λq=>M q\/q∈F) w' u) :
  StF M0 w0 n (put d (Qv v') (put k e' g)) (a.put (some d) v') w':=by
 have hown:=h.own k hk;have hFM:∀ q∈F,∀ t,t≠k->(g t).isSome=true->q ∉ φ t:=λq hq t ht hs hm=>by
  rcases hF q hq with h1 | h1
  ·exact h.apart t k ht hs hk q hm h1
  ·have:=h.bd q ((h.own t hs).2 q hm).1;omega
 refine ⟨λq=>M q\/q∈F,λt=>if t=d then [] else if t=k then F else φ t,λt e he'=>?_,λt ht=>?_,λt s hts ht hs=>?_,λq hq=>.inl (h.sub q hq),λq hq=>?_,?_,by rw [Act.size_put];exact h.sz,by rw [Act.defers_put];exact h.df⟩
 ·simp only [put] at he';by_cases h3:t=d
  ·subst h3;simp only [if_true,Option.some.injEq] at he' ⊢;subst he';exact ⟨rfl,Act.get_put_eq (by rw [h.sz];exact hd)⟩
  ·rw [Act.get_put_ne (Ne.symm h3)];by_cases h4:t=k
   ·subst h4;simp only [if_neg h3,if_true,Option.some.injEq] at he' ⊢;subst he';exact he _
   ·simp only [if_neg h3,if_neg h4] at he' ⊢;have hs:(g t).isSome=true:=by rw [he'];rfl
    refine Ent.st _ (Ent.sb _ (h.holds t e he') (M':=λq=>M q\/q∈F) ?_) (hx.mono λq _ hq=>⟨.inl (hown.2 q hq).1,λhm=>h.apart t k h4 hs hk q hm hq⟩);rintro q hq (hm | hm)
    ·exact hm
    ·rcases hF q hm with h1 | h1
     ·exact (hown.2 q h1).1
     ·omega
 ·by_cases h3:t=d
  ·simp [h3]
  ·by_cases h4:t=k
   ·subst h4;simp only [if_neg h3,if_true];refine ⟨hn,λq hq=>⟨.inr hq,?_⟩⟩;rcases hF q hq with h1 | h1
    ·exact (hown.2 q h1).2
    ·exact .inl (LW h.fr.size h1.1)
   ·simp only [put,if_neg h3,if_neg h4] at ht ⊢;have:=h.own t ht;exact ⟨this.1,λq hq=>⟨.inl (this.2 q hq).1,(this.2 q hq).2⟩⟩
 ·by_cases h3:t=d
  ·simp [h3]
  ·by_cases h4:s=d
   ·simp [h4]
   ·simp only [put,if_neg h3,if_neg h4] at ht hs ⊢;by_cases h5:t=k
    ·subst h5;simp only [if_true,if_neg (Ne.symm hts)] at hs ⊢;exact λq hq=>hFM q hq s (Ne.symm hts) hs
    ·by_cases h6:s=k
     ·subst h6;simp only [if_neg h5,if_true] at ht ⊢;exact λq hq hm=>hFM q hm t h5 ht hq
     ·simp only [if_neg h5,if_neg h6] at ht hs ⊢;exact h.apart t s hts ht hs
 ·rcases hq with hq | hq
  ·exact LR (h.bd q hq) hx.size
  ·rcases hF q hq with h1 | h1
   ·exact LR (h.bd q (hown.2 q h1).1) hx.size
   ·exact h1.2
 ·exact ⟨hx.os.trans h.fr.os,hx.tape.trans h.fr.tape,hx.output.trans h.fr.output,LW h.fr.size hx.size,λq hq hnb=>
   (hx.block q (LR hq h.fr.size) (λhm=>(hown.2 q hm).2.elim (λh=>absurd hq aa) hnb)).trans (h.fr.block q hq hnb),LW h.fr.dr hx.dr⟩
theorem G4 {α:Type} [Rep α] {T e:Nat} [he:Ea P T e α] {M:Nat->Prop} {w:World} {g:Nat} {v:Value} {ys zs:List α} (hM:∀ k,M k->k < w.heap.size) (hyv:Sl M w v ys) (ha:app ([]:List α) ys=some zs) (ty:TypeId) :
  ∃ v' w' F,(Builtin.append_ #[T,T] ty #[.slice (some ⟨g,0,none⟩) 0 0,v]).run P w=.ok v' w'/\Ext No w w'/\F.Nodup/\(∀ k∈F,w.heap.size<=k/\k < w'.heap.size)/\∀ u,(Ow e v' zs).p F (λq=>M q\/q∈F) w' u:=by
 let ⟨ad,cap,hyv',hys⟩:=hyv;unfold app at ha;split at ha
 case isFalse=>cases ha
 rename_i hlen;cases ha
 let ⟨i,z,hi,hz,hs,hb,hzs⟩:=he.inf;have hb':=KY hb;have hp:0 < Rep.sz α:=KY he.pos;by_cases h0:ys=[]
 ·subst h0;refine ⟨.slice (some ⟨g,0,none⟩) 0 0,w,[],?_,Ext.refl _ _,L5,λk hk=>by simp at hk,λu=>.inr ⟨rfl,rfl,g,rfl⟩⟩;cases ad <;> simp [hyv',Builtin.append_,run_underlying he.el,sizeOf,typeInfo,hi,Builtin.lenOf,Builtin.firstCells,storeCells,loadCells,loadCellsFrom]
 ·obtain h | ⟨b,o,rfl,hr⟩:=hys
  ·exact absurd h h0
  ·let ⟨ds,hd,hdc⟩:=hr.chk;have hpos:0 < ys.length:=NB.2 h0;simp only [NH,MJ] at hlen;have hbytes:(0 + ys.length) * i.bytes<=140737488355328:=LW (OP aa hb') (by decide:1073741824 * 65536<=140737488355328);have hrun:=run_append_grow (P:=P) w T ty e i z he.el hi hz ⟨g,0,none⟩ 0 0 [] ai (λj u hj=>by simp at hj) ⟨b,o,none⟩ ys.length cap ds (by rw [hs];exact hd.len) (λj u hj=>by rw [Bo];exact (hdc j u hj).2) aa aa (growslice_fits aa hbytes);have hx:Ext No w (w.drew.alloc (.cells (([]:P2).toArray ++ ds.toArray ++ Builtin.zeroCells z.cells (grownCap w (0 + ys.length) 0 e - (0 + ys.length))) e)):=(Ext.drew _ w).trans (Ext.alloc _ _ _);refine ⟨.slice (some ⟨w.heap.size,0,none⟩) (0 + ys.length) (grownCap w (0 + ys.length) 0 e),_,[w.heap.size],by rw [hyv'];exact hrun,hx,by simp,λk hk=>?_,λu=>.inl ⟨rfl,ds,?_,?_⟩⟩
   ·simp at hk;subst hk;exact ⟨Nat.le_refl _,by rw [World.size_alloc];exact Nat.lt_succ_self _⟩
   ·have hn:=Ch w.drew (.cells (([]:P2).toArray ++ ds.toArray ++ Builtin.zeroCells z.cells (grownCap w (0 + ys.length) 0 e - (0 + ys.length))) e);rw [show (w.drew).heap.size=w.heap.size from rfl] at hn;have hge:=grownCap_ge w (0 + ys.length) 0 e;have hcm:grownCap w (0 + ys.length) 0 e<=maxLen:=grownCap_le_maxLen w (0 + ys.length) 0 e (by unfold maxLen;omega);refine ⟨by rw [hd.len];simp,.inr ⟨w.heap.size,_,_,by simp,L0 _,hn,by simpa using hge,hcm,?_,?_⟩⟩
    ·clear hn hx hrun;generalize grownCap w (0 + ys.length) 0 e=G at *;simp only [O2,NF,size_zeroCells,hzs,hd.len,NH,MJ,← NC] at hge ⊢;congr 1;omega
    ·simp only [Array.toList_append,MQ,← hd.len];exact List.take_left
   ·exact Chk.ext hx.no (Chk.sub (λk hk hm=>by
     rcases hm with hm | hm
     ·exact hm
     ·simp at hm;omega) hd)
theorem aU {ops:Array Oper} {rest:List Oper} {d T e:Nat} {pos:String} {ag:Array Edge} {x y:Operand} {α:Type} [Rep α] [he:Ea P T e α] {c:Value} {k:Nat} {xs ys zs:List α}
  (hs:St M0 w0 n Γ a w) (hx:Od Γ x (Qv c)) (hk:Ao Γ k=some (Ow e c xs)) (hy:Od Γ y (Va ys)) (ha:app xs ys=some zs) (hn:Nat.blt d n=true) (hdk:Nat.beq d k=false)
  (cont:∀ c' a' w',St M0 w0 n ((d,Qv c') :: (k,Ow e c' zs) :: Γ) a' w'->wpListIn (Fr rr) 0 P ops Q rest a' w') :
  wpListIn (Fr rr) 0 P ops Q (⟨some d,.call { callee:=.builtin .append,args:=#[x,y],argTypes:=#[T,T] },ty,pos,ag,none⟩ :: rest) a w:=by
 refine wpListIn_plain rfl λK hK=>?_;let ⟨M,φ,h⟩:=hs;let ⟨_,_,hv⟩:=hx _ _ _ h.rd;let ⟨_,hyv⟩:=hy _ _ _ h.rd;obtain ⟨hF,cs,ho,hc⟩ | ⟨hF,rfl,g,rfl⟩:=h.holds k _ hk
 case inr=>
  let ⟨v',w',F,h1,h2,h3,h4,h5⟩:=G4 (P:=P) (T:=T) (e:=e) (g:=g) h.bd (Va.list hyv) ha ty;refine Bk.upon (Bk.val (v:=v') (w':=w') ?_ ?_)
  ·simp only [execOp,resolve,invoke,builtin,KJ,KQ,KE,LH,K4,LQ,hv,h1]
  ·refine hK _ _ (cont v' _ _ ?_);unfold St;rw [Fp];exact h.own2 (F:=F) (by rw [hk];rfl) (KY hn) (LU hdk) h2.no h3 (λq hq=>.inr (h4 q hq)) h5
 let ⟨v',w',ds,h1,h2,h3,h4,h5⟩:=fB (P:=P) (T:=T) ho hc (Va.list hyv) ha ty;have hx:Ext (λq=>q∈φ k) w w':=⟨h3.1.os,h3.1.tape,h3.1.output,h3.1.size,λq hq hm=>h3.1.block q hq λhh=>hm (by rw [hF,← hh];simp),h3.2⟩;refine Bk.upon (Bk.val (v:=v') (w':=w') ?_ ?_)
 ·simp only [execOp,resolve,invoke,builtin,KJ,KQ,KE,LH,K4,LQ,hv,h1]
 ·refine hK _ _ (cont v' _ _ ?_);unfold St;rw [Fp];have hlt:∀ q,v'.ownBlock=some q->q < w'.heap.size:=λq hq=>(h2.lt q hq).2;refine h.own2 (F:=v'.ownBlock.toList) (by rw [hk]; rfl) (KY hn) (LU hdk) hx (by cases v'.ownBlock <;> simp) (λq hq=>?_) λu=>.inl ⟨rfl,_,h2,?_⟩
  ·rcases h4 with h4 | h4
   ·rw [h4] at hq;left;rw [hF];exact hq
   ·right;rw [h4] at hq;simp at hq;subst hq;exact ⟨Nat.le_refl _,hlt _ h4⟩
  ·refine Chk.ext (hx.mono λq _ hq=>.inl ((h.own k (by rw [hk];rfl)).2 q hq).1) (Chk.sub (λq hq hm=>?_) h5);rcases hm with hm | hm
   ·exact hm
   ·rcases h4 with h4 | h4
    ·rw [h4,← hF] at hm;exact ((h.own k (by rw [hk];rfl)).2 q hm).1
    ·rw [h4] at hm;simp at hm;omega
def Pe (c:Value) (off:Nat):Ent where
 p F _ _ v:=F=[]/\∃ g,c.ownBlock=some g/\v=.pointer (some ⟨g,off,none⟩)
 st h _:=h
 sb h _:=h
theorem Ow.val {α:Type} [Rep α] {e:Nat} {c:Value} {xs:List α} {F:P1} {M:Nat->Prop} {v:Value} (h:(Ow e c xs).p F M w v):∃ ad cap,c=.slice ad xs.length cap/\(xs=[]\/∃ g,ad=some ⟨g,0,none⟩):=by
 obtain ⟨hF,cs,ho,hc⟩ | ⟨_,rfl,g,rfl⟩:=h
 case inr=>exact ⟨_,0,rfl,.inl rfl⟩
 rcases ho.2 with ⟨rfl,h0⟩ | ⟨g,cap,cur,rfl,_⟩
 ·exact ⟨none,0,by rw [h0],.inl (MN h0)⟩
 ·exact ⟨_,cap,rfl,.inr ⟨g,rfl⟩⟩
theorem ig {T k e:Nat} {x:Operand} {α:Type} [Rep α] [he:Ea P T e α] {c:Value} {xs:List α} (hx:Od Γ x (Qv c)) (hk:Ao Γ k=some (Ow e c xs)):OR P (.call { callee:=.builtin .len,args:=#[x],argTypes:=#[T] }) ty Γ (Va (xs.length:Int)):=by refine OR.val λρ M w r=>?_;let ⟨_,_,hv⟩:=hx ρ M w r;let ⟨_,ho⟩:=r.tmp _ _ hk;obtain ⟨ad,cap,rfl,_⟩:=Ow.val ho;refine ⟨.int .i64 xs.length,λ_ _ _ _=>?_,Va.mkInt⟩;simp [execOp,resolve,hv,invoke,builtin,Builtin.len_,run_underlying he.el,goInt]
theorem bD {T k e:Nat} {x i:Operand} {α:Type} [Rep α] [he:Ea P T e α] {c:Value} {xs:List α} {m:Int} {y:α} (hx:Od Γ x (Qv c)) (hk:Ao Γ k=some (Ow e c xs)) (hi:Od Γ i (Va m)) (h:idx xs m=some y):OR P (.indexAddr T x i) ty Γ (Pe c (m.toNat * Rep.sz α)):=by (refine OR.val λρ M w r=>?_;let ⟨_,_,hv⟩:=hx ρ M w r;let ⟨_,h2⟩:=hi ρ M w r;let ⟨_,ho⟩:=r.tmp _ _ hk;let ⟨h0,hl,hg⟩:=Au h;obtain ⟨ad,cap,rfl,h3⟩:=Ow.val ho;let ⟨ii,z,hii,_,hs,_⟩:=he.inf;obtain rfl | ⟨g,rfl⟩:=h3);simp at hg;refine ⟨.pointer (some ⟨g,m.toNat * Rep.sz α,none⟩),λ_ _ _ _=>?_,rfl,g,rfl,rfl⟩;simp only [execOp,hv,Va.int h2,Instr.indexAt,KJ,asIntOf,KQ,KE,run_underlying he.el];simp [h0,hl,sizeOf,typeInfo,hii,hs,Bo]
theorem Ow.at_ {α:Type} [Rep α] {e:Nat} {c:Value} {xs:List α} {F:P1} {M:Nat->Prop} {v:Value} {i g:Nat} {y:α} (h:(Ow e c xs).p F M w v) (hg:c.ownBlock=some g) (hi:xs[i]?=some y) :
  ∃ m,Rep.rep M w m y/\∀ j u,m[j]?=some u->w.cell? ⟨g,i * Rep.sz α + j,none⟩=some u:=by
 obtain ⟨hF,cs,ho,hc⟩ | ⟨_,rfl,_⟩:=h
 case inr=>simp at hi
 let ⟨p,m,q,hcs,hl,hr,_⟩:=hc.get hi;refine ⟨m,hr,λj u hj=>?_⟩;have:=ho.cells hg (i * Rep.sz α + j) u (by
  rw [hcs,← hl,KO aa,PB,KR]
  ·exact hj
  ·rcases LV j m.length with h1 | h1
   ·exact h1
   ·simp [LG h1] at hj)
 rwa [Bo,MJ] at this
theorem lq {T k e i:Nat} {x:Operand} {α:Type} [Rep α] [Ty P T α] {c:Value} {xs:List α} {y:α} (hx:Od Γ x (Pe c (i * Rep.sz α))) (hk:Ao Γ k=some (Ow e c xs)) (h:xs[i]?=some y):OR P (.load T x) ty Γ (Va y):=by refine OR.val λρ M w r=>?_;let ⟨_,_,g,hg,hv⟩:=hx ρ M w r;let ⟨_,ho⟩:=r.tmp _ _ hk;let ⟨m,hr,hc⟩:=Ow.at_ ho hg h;refine ⟨mk (Rep.agg α) m,λ_ _ _ _=>?_,rfl,m,rfl,hr⟩;simp only [execOp,hv,Instr.loadAt,Instr.sureAddr,KJ,KQ,KE,Bu hc hr]
theorem Dl {α:Type} {xs:List α} {m:Int} {y:α} (h:idx xs m=some y):xs[m.toNat]?=some y:=(Au h).2.2
theorem lK {S k fo m off:Nat} {x:Operand} {c:Value} (h:Od Γ x (Pe c off)) (ho:Mb P S k=some (fo,m + 1)):OR P (.fieldAddr S x k) ty Γ (Pe c (off + fo)):=by refine OR.val λρ M w r=>?_;let ⟨_,_,g,hg,hv⟩:=h ρ M w r;refine ⟨.pointer (some ⟨g,off + fo,none⟩),λ_ _ _ _=>?_,rfl,g,hg,rfl⟩;simp only [execOp,hv,KJ,Gv ho,KE,KQ]
theorem mH {T k e i fo:Nat} {x:Operand} {α β:Type} [Rep α] [Rep β] [Ty P T β] {c:Value} {xs:List α} {y:α} {f:α->β} [hd:DF f fo] (hx:Od Γ x (Pe c (i * Rep.sz α + fo))) (hk:Ao Γ k=some (Ow e c xs)) (h:xs[i]?=some y):OR P (.load T x) ty Γ (Va (f y)):=by refine OR.val λρ M w r=>?_;let ⟨_,_,g,hg,hv⟩:=hx ρ M w r;let ⟨_,ho⟩:=r.tmp _ _ hk;let ⟨m,hr,hc⟩:=Ow.at_ ho hg h;let ⟨p,m1,q,hm,hl,hr1⟩:=hd.at_ hr;refine ⟨mk (Rep.agg β) m1,λ_ _ _ _=>?_,rfl,m1,rfl,hr1⟩;simp only [execOp,hv,Instr.loadAt,Instr.sureAddr,KJ,KQ,KE];rw [Bu (λj u hj=>?_) hr1];rfl;have:=hc (fo + j) u (by rw [hm,← hl,KO aa,PB,KR];exact hj;(rcases LV j m1.length with h1 | h1);exact h1;simp [LG h1] at hj);rwa [← PV] at this
def Ods (Γ:Cx) {α:Type} [Rep α]:List Operand->List α->Prop
 | [],[]=>True
 | x :: xs,y :: ys=>Od Γ x (Va y)/\Ods Γ xs ys
 | _,_=>False
theorem o0 {α:Type} [Rep α]:Ods Γ [] ([]:List α):=trivial
theorem o1 {α:Type} [Rep α] {x:Operand} {y:α} {xs:List Operand} {ys:List α} (h:Od Γ x (Va y)) (k:Ods Γ xs ys):Ods Γ (x :: xs) (y :: ys):=⟨h,k⟩
def bA {β:Type}:Nat->List β->List (Nat×β)
 | _,[]=>[]
 | k,v :: vs=>(k,v) :: bA (k + 1) vs
def eO (sz:Nat):P2->List P2->Prop
 | [],[]=>True
 | v :: vs,c :: cs=>v.cells=c.toArray/\c.length=sz/\eO sz vs cs
 | _,_=>False
theorem Jt {sz:Nat}:∀ {vs:P2} {cs:List P2} {z:P2} {k:Nat},eO sz vs cs->(k + vs.length) * sz<=z.length ->
  Instr.fill (λi=>some (i * sz,sz)) z.toArray (bA k vs)=some (z.take (k * sz) ++ (cs.flatten ++ z.drop ((k + vs.length) * sz))).toArray
 | [],[],z,k,_,_=>by simp [bA,Instr.fill]
 | [],_ :: _,_,_,h,_=>h.elim
 | _ :: _,[],_,_,h,_=>h.elim
 | v :: vs,c :: cs,z,k,⟨h1,h2,h3⟩,hl=>by
  unfold bA Instr.fill;have hkl:(k + (v :: vs).length) * sz=k * sz + sz + vs.length * sz:=by simp only [LM,NC];omega
  rw [hkl] at hl;have e1:k * sz + c.length<=z.length:=by omega
  simp only [h1,NF];rw [if_neg (by simp [h2];omega)];have hf:=Xn c (k * sz) 0 z aa;have hfold:(c.toArray.zipIdx.foldl (λ(cs:Array Value) (x:Value×Nat)=>cs.setIfInBounds (k * sz + x.2) x.1) z.toArray)=(c.zipIdx 0).foldl (λ(cs:Array Value) (x:Value×Nat)=>cs.setIfInBounds (k * sz + x.2) x.1) z.toArray:=by
   rw [← PU];congr 1;simp
  show Instr.fill _ (c.toArray.zipIdx.foldl (λ(cs:Array Value) (x:Value×Nat)=>cs.setIfInBounds (k * sz + x.2) x.1) z.toArray) (bA (k + 1) vs)=_;rw [hfold,hf];have hlen:(List.take (k * sz + 0) z ++ (c ++ List.drop (k * sz + 0 + c.length) z)).length=z.length:=by simp;omega
  rw [Jt (k:=k + 1) h3 (by rw [hlen,NC,NC];omega)];congr 2;have e2:(k + 1) * sz=k * sz + c.length:=by rw [NC,h2];omega
  have e3:(k + 1 + vs.length) * sz=(k * sz + c.length) + vs.length * sz:=by rw [NC,e2]
  have e4:(k + (v :: vs).length) * sz=(k * sz + c.length) + vs.length * sz:=by rw [hkl,h2]
  rw [e2,e3,e4];simp only [NS];have ht:(List.take (k * sz) z).length=k * sz:=by simp;omega
  rw [← K3 (List.take (k * sz) z) c];have hl2:(List.take (k * sz) z ++ c).length=k * sz + c.length:=by rw [KH,ht]
  rw [OU aa,MF aa,List.drop_append,hl2,LF aa];simp [K3,PV]
theorem Ods.vals {α:Type} [Rep α] {ρ:Operand->Value} {M:Nat->Prop} {w:World} (r:Rd (Ao Γ) M w ρ):∀ {xs:List Operand} {ys:List α},Ods Γ xs ys->∃ cs,eO (Rep.sz α) (xs.map ρ) cs/\Chk M w cs.flatten ys/\cs.flatten.length=ys.length * Rep.sz α/\xs.length=ys.length
 | [],[],_=>⟨[],trivial,rfl,by simp,rfl⟩
 | [],_ :: _,h=>h.elim
 | _ :: _,[],h=>h.elim
 | x :: xs,y :: ys,⟨h,k⟩=>by
  let ⟨cs,h1,h2,h3,h4⟩:=Ods.vals r k;let ⟨_,_,c,hv,hr⟩:=h ρ M w r;refine ⟨c :: cs,⟨by rw [hv,Dc hr],Rep.len hr,h1⟩,⟨c,cs.flatten,rfl,hr,h2⟩,?_,by simp [h4]⟩;rw [N1,KH,Rep.len hr,h3,LM,NC];omega
theorem CY {α:Type} [Rep α] {T e:Nat} [he:Ea P T e α] {ρ:Operand->Value} {M:Nat->Prop} {w:World} (r:Rd (Ao Γ) M w ρ) {xs:List Operand} {ys:List α} {parts:Array (Nat×Operand)} {len:Nat}
  (h:Ods Γ xs ys) (hp:parts.toList=bA 0 xs) (hl:ys.length=len) (hs:Nat.ble (len * Rep.sz α) 16777216=true) :
  ∃ cs,(Instr.buildSlice T len (parts.map λ(i,x)=>(i,ρ x))).run P w=.ok (.slice (some ⟨w.heap.size,0,none⟩) len len) (w.alloc (.cells cs.toArray e))/\Chk M w cs ys/\cs.length=len * Rep.sz α:=by
 let ⟨cs,h1,h2,h3,h4⟩:=Ods.vals r h;let ⟨i,z,hi,hz,hsz,hb,hzs⟩:=he.inf;have hs':=KY hs;refine ⟨cs.flatten,?_,h2,by rw [h3,hl]⟩;have hpm:(parts.map λ(i,x)=>(i,ρ x)).toList=bA 0 (xs.map ρ):=by
  rw [NA,hp];have:∀ (l:List Operand) (k:Nat),List.map (λ(x:Nat×Operand)=>(x.1,ρ x.2)) (bA k l)=bA k (l.map ρ):=by
   intro l
   induction l with
   | nil=>intro k;rfl
   | cons x l ih=>intro k;simp [bA,ih]
  exact this xs 0
 have hfl:∀ zz:P2,zz.length=len * Rep.sz α->Instr.fill (λi=>some (i * Rep.sz α,Rep.sz α)) zz.toArray (bA 0 (xs.map ρ))=some cs.flatten.toArray:=by
  intro zz hzz;rw [Jt h1 (by rw [hzz,K5,h4,hl,MJ];exact K9 _)];simp [h4,hl,hzz]
 have hnot:¬ (len * Rep.sz α > 2 ^ 24):=by omega
 simp only [Instr.buildSlice,KJ,run_underlying he.el,KE,sizeOf,typeInfo,run_program,hi,KQ,hsz];rw [if_neg hnot];simp only [hpm];by_cases h0:len * Rep.sz α=0
 ·have hz0:(Array.map (λx=>(#[]:Array Value)[x % (#[]:Array Value).size]!) (Array.range (len * Rep.sz α)))=([]:P2).toArray:=by rw [h0];simp
  rw [if_pos h0];simp only [KJ,KQ,KE,hz0];rw [hfl [] (by rw [h0];rfl)];rfl
 ·have hz1:(Array.map (λx=>z.cells[x % z.cells.size]!) (Array.range (len * Rep.sz α)))=((Array.map (λx=>z.cells[x % z.cells.size]!) (Array.range (len * Rep.sz α))).toList).toArray:=PJ.symm;rw [if_neg h0];simp only [zeroValue,KJ,typeInfo,run_program,hi,hz,KQ,KE];rw [hz1,hfl _ ai];rfl
theorem f5 {α:Type} [Rep α] {M:Nat->Prop} {w:World} {e len:Nat} {cs:P2} {ys:List α} (hc:Chk M w cs ys):Cls (λk=>M k/\k≠w.heap.size) (w.alloc (.cells cs.toArray e)) w.heap.size 0 cs:=by intro j v hj;refine ⟨λh=>h.2 rfl,?_⟩;have:(w.alloc (.cells cs.toArray e)).heap[w.heap.size]?=some (.cells cs.toArray e):=heap_alloc_new w _;unfold World.cell?;rw [this];simpa using hj
theorem eG {α:Type} [Rep α] {T e:Nat} [he:Ea P T e α] {xs:List Operand} {ys:List α} {parts:Array (Nat×Operand)} {len:Nat}
  (h:Ods Γ xs ys) (hp:parts.toList=bA 0 xs) (hl:ys.length=len) (hs:Nat.ble (len * Rep.sz α) 16777216=true):OR P (.buildSlice T len parts) ty Γ (Va ys):=by refine OR.run λρ M w r=>?_;let ⟨cs,h1,h2,h3⟩:=CY (P:=P) (T:=T) (e:=e) r h hp hl hs;refine ⟨.slice (some ⟨w.heap.size,0,none⟩) len len,w.alloc (.cells cs.toArray e),λ_ _ _ _=>by simp only [execOp,KJ,Sem.run_map,h1,KE,KQ],Ext.alloc _ _ _,[],L5,λk hk=>by simp at hk,?_⟩;refine Va.mkList ⟨_,0,by rw [hl,MJ],.inr ⟨w.heap.size,0,rfl,?_⟩⟩;refine Chk.row (Chk.ext (Ext.alloc _ _ _) (Chk.sub (λk _ hk=>?_) h2)) λj v hj=>⟨λhm=>?_,((f5 (e:=e) (len:=len) h2) j v hj).2⟩;(rcases hk with hk | hk);exact hk;simp at hk;(rcases hm with hm | hm);exact absurd (r.bd _ hm) aa;simp at hm
theorem db {α:Type} [Rep α] {T e:Nat} [he:Ea P T e α] {xs:List Operand} {ys:List α} {parts:Array (Nat×Operand)} {len:Nat}
  (h:Ods Γ xs ys) (hp:parts.toList=bA 0 xs) (hl:ys.length=len) (hs:Nat.ble (len * Rep.sz α) 16777216=true):OR P (.buildSlice T len parts) ty Γ (Or e ys):=by refine OR.run λρ M w r=>?_;let ⟨cs,h1,h2,h3⟩:=CY (P:=P) (T:=T) (e:=e) r h hp hl hs;refine ⟨.slice (some ⟨w.heap.size,0,none⟩) len len,w.alloc (.cells cs.toArray e),λ_ _ _ _=>by simp only [execOp,KJ,Sem.run_map,h1,KE,KQ],Ext.alloc _ _ _,[w.heap.size],by simp,λk hk=>?_,.inl ⟨rfl,cs,?_,?_⟩⟩;simp at hk;subst hk;exact ⟨Nat.le_refl _,by simp⟩;rw [hl];have hp0:0 < Rep.sz α:=KY he.pos;have hs':=KY hs;refine World.ownsRow_lit (base:=0) (e:=e) (size:=Rep.sz α) w cs.toArray len (L0 _) ?_ (by simpa using h3);have:len<=len * Rep.sz α:=Nat.le_mul_of_pos_right _ hp0;unfold maxLen;omega;(refine Chk.ext (Ext.alloc _ _ _) (Chk.sub (λk hk' hk=>?_) h2);rcases hk with hk | hk);exact hk;simp at hk;omega
end
end
section
variable {rr:Option Nat}
section
variable {P:Program} {M0:Fm} {w0:World} {n:Nat} {Γ:Cx} {Q:Exit->Act->World->Prop} {a:Act} {w:World} {ty:TypeId}
theorem Ow.put {α:Type} [Rep α] {e:Nat} {c:Value} {xs:List α} {F:P1} {M:Nat->Prop} {u:Value} {i g:Nat} {y0:α} (h:(Ow e c xs).p F M w u) (hg:c.ownBlock=some g) (hi:xs[i]?=some y0) :
  ∃ (cur:Array Value) (p m q:P2),w.heap[g]?=some (.cells cur e (0,0))/\cur.toList=p ++ (m ++ q)/\p.length=i * Rep.sz α/\Rep.rep M w m y0 /\
   ∀ (m':P2) (y:α),Rep.rep M w m' y->M g->(Ow e c (xs.set i y)).p F M (w.setRow g (p ++ (m' ++ q)).toArray) u:=by
 obtain ⟨hF,cs,ho,hc⟩ | ⟨_,rfl,_⟩:=h
 case inr=>simp at hi
 let ⟨p,m,q,hcs,hl,hr,hset⟩:=hc.get hi;rcases ho.2 with ⟨rfl,_⟩ | ⟨g',cap,cur,rfl,hb,hgg,hnc,hcm,hcz,htake⟩
 ·simp [Value.ownBlock] at hg
 ·simp only [Value.ownBlock,Option.some.injEq] at hg;subst hg;obtain ⟨tl,hcur⟩:∃ tl,cur.toList=cs ++ tl:=⟨cur.toList.drop (xs.length * Rep.sz α),by rw [← htake,N8]⟩;refine ⟨cur,p,m,q ++ tl,hgg,by rw [hcur,hcs];simp [K3],hl,hr,λm' y hy hM=>?_⟩;have hlm:m'.length=m.length:=by rw [Rep.len hy,Rep.len hr]
  have hx:=Ext.setRow w g' (p ++ (m' ++ (q ++ tl))).toArray;have hlen:(p ++ (m' ++ q)).length=xs.length * Rep.sz α:=by
   have:=ho.1;rw [hcs] at this;simp only [KH] at this ⊢;omega
  refine .inl ⟨hF,p ++ (m' ++ q),⟨by rw [MY];exact hlen,.inr ⟨g',cap,_,by rw [MY],hb,setRow_heap w g' cur _ e _ hgg,by rw [MY];exact hnc,hcm,?_,?_⟩⟩,?_⟩
  ·have h1:cur.size=(p ++ (m ++ q)).length + tl.length:=by
    rw [← hcs,← KH,← hcur];simp
   rw [← hcz,h1];simp only [NF,KH];omega
  ·rw [MY,← hlen];have:(p ++ (m' ++ (q ++ tl)))=(p ++ (m' ++ q)) ++ tl:=by simp [K3]
   simp only [this];exact List.take_left
  ·exact Chk.ext (hx.mono λk _ hk=>by subst hk;exact hM) (hset m' y hy)
theorem ce {ops:Array Oper} {rest:List Oper} {T k e i:Nat} {x y:Operand} {pos:String} {ag:Array Edge} {α:Type} [Rep α] [Ty P T α] {c:Value} {xs:List α} {y0 v:α}
  (hs:St M0 w0 n Γ a w) (hx:Od Γ x (Pe c (i * Rep.sz α))) (hk:Ao Γ k=some (Ow e c xs)) (hi:xs[i]?=some y0) (hy:Od Γ y (Va v))
  (cont:∀ w',St M0 w0 n ((k,Ow e c (xs.set i v)) :: Γ) a w'->wpListIn (Fr rr) 0 P ops Q rest a w'):wpListIn (Fr rr) 0 P ops Q (⟨none,.store T x y,ty,pos,ag,none⟩ :: rest) a w:=by (refine wpListIn_plain rfl λK hK=>?_;let ⟨M,φ,h⟩:=hs;let ⟨_,_,g,hg,hv⟩:=hx _ _ _ h.rd;let ⟨_,_,m,hm,hmr⟩:=hy _ _ _ h.rd;have ho:=h.holds k _ hk;let ⟨cur,p,m0,q,hh,hcur,hl,hr,hput⟩:=Ow.put ho hg hi;have hgk:g∈φ k:=by (rcases ho with ho | ⟨_,h0,_⟩);rw [ho.1,hg];simp;rw [h0] at hi;simp at hi);refine Bk.upon (Bk.skip (w':=w.setRow g (p ++ (m ++ q)).toArray) ?_ ?_);simp only [execOp,hv,hm,Instr.storeAt,Instr.sureAddr,KJ,KQ,KE,Cz hh hmr hcur hl (by rw [Rep.len hr,Rep.len hmr])];refine hK _ _ (cont _ ?_);unfold St;rw [Ak];exact h.write (by rw [hk];rfl) hgk (Ext.setRow w g _) (hput m v hmr ((h.own k (by rw [hk];rfl)).2 _ hgk).1)
theorem mS {ops:Array Oper} {rest:List Oper} {T k e i off:Nat} {x y:Operand} {pos:String} {ag:Array Edge} {α β:Type} [Rep α] [Rep β] [Ty P T β] {u:α->β->α} [hu:DU off u] {c:Value} {xs:List α} {y0:α} {v:β}
  (hs:St M0 w0 n Γ a w) (hx:Od Γ x (Pe c (i * Rep.sz α + off))) (hk:Ao Γ k=some (Ow e c xs)) (hi:xs[i]?=some y0) (hy:Od Γ y (Va v))
  (cont:∀ w',St M0 w0 n ((k,Ow e c (xs.set i (u y0 v))) :: Γ) a w'->wpListIn (Fr rr) 0 P ops Q rest a w'):wpListIn (Fr rr) 0 P ops Q (⟨none,.store T x y,ty,pos,ag,none⟩ :: rest) a w:=by (refine wpListIn_plain rfl λK hK=>?_;let ⟨M,φ,h⟩:=hs;let ⟨_,_,g,hg,hv⟩:=hx _ _ _ h.rd;let ⟨_,_,m,hm,hmr⟩:=hy _ _ _ h.rd;have ho:=h.holds k _ hk;let ⟨cur,p,m0,q,hh,hcur,hl,hr,hput⟩:=Ow.put ho hg hi;let ⟨p1,q1,m1,h1,h2,h3,h4⟩:=hu.upd hr hmr;have hgk:g∈φ k:=by (rcases ho with ho | ⟨_,h0,_⟩);rw [ho.1,hg];simp;rw [h0] at hi;simp at hi);(have e1:p ++ (m0 ++ q)=(p ++ p1) ++ (m1 ++ (q1 ++ q)):=by rw [h1];simp [K3]);(have e2:(p ++ p1) ++ (m ++ (q1 ++ q))=p ++ ((p1 ++ (m ++ q1)) ++ q):=by simp [K3]);refine Bk.upon (Bk.skip (w':=w.setRow g ((p ++ p1) ++ (m ++ (q1 ++ q))).toArray) ?_ ?_);have hst:=Cz (P:=P) (T:=T) (off:=i * Rep.sz α + off) hh hmr (hcur.trans e1) (by rw [KH,hl,h2]) h3;simp only [execOp,hv,hm,Instr.storeAt,Instr.sureAddr,KJ,KQ,KE,hst];refine hK _ _ (cont _ ?_);unfold St;rw [Ak];refine h.write (by rw [hk];rfl) hgk (Ext.setRow w g _) ?_;rw [e2];exact hput _ _ h4 ((h.own k (by rw [hk];rfl)).2 _ hgk).1
class Flat (α:Type) [Rep α]:Prop where
 at_:∀ {M w M' w' cs x},Rep.rep (α:=α) M w cs x->Rep.rep M' w' cs x
instance:Flat Bool:=⟨λh=>h⟩
instance:Flat Int:=⟨λh=>h⟩
def dO (e:Ent):Prop:=∀ {F M M' w v},e.p F M w v->e.p F M' w v
theorem fl1 {α:Type} [Rep α] [Flat α] {x:α}:dO (Va x):=λ⟨h,cs,hv,hr⟩=>⟨h,cs,hv,Flat.at_ hr⟩
theorem fl2 {e1 e2:Ent} (h1:dO e1) (h2:dO e2):dO (T2 e1 e2):=λ⟨v1,v2,F1,F2,hv,hF,k1,k2⟩=>⟨v1,v2,F1,F2,hv,hF,h1 k1,h2 k2⟩
theorem kw {c:Code} (I:Act->World->Prop) (h:c.wpIn (Fr rr) 0 P (Exit.then I Q) a w) (h':∀ a w,I a w->Q .normal a w):c.wpIn (Fr rr) 0 P Q a w:=by refine wpIn_mono h λe a w hq=>?_;cases e <;> first | exact h' _ _ hq | exact hq
theorem lI {c:Code} {σ ρ:Type} (o:Lo σ ρ) (I:σ->Act->World->Prop) (h:c.wpIn (Fr rr) 0 P (Exit.then (λa w=>∃ z,o=.brk z/\I z a w) Q) a w) (h':∀ z a w,o=.brk z->I z a w->Q .normal a w):c.wpIn (Fr rr) 0 P Q a w:=by refine wpIn_mono h λe a w hq=>?_;cases e <;> first | exact (let ⟨z,h1,h2⟩:=hq; h' z _ _ h1 h2) | exact hq
theorem ib {c:Code} {S ρ:Type} (m:Nat->S->Option ρ) (out:ρ) (I:S->Act->World->Prop) (f:Nat) (s:S) (h0:I s a w) (hm:m f s=some out) (hz:∀ s,m 0 s=none)
  (h:∀ f s a w,m (f + 1) s=some out->I s a w->c.wpIn (Fr rr) 0 P (Exit.then (λa' w'=>∃ s',m f s'=some out/\I s' a' w') Q) a w):(Code.loop c).wpIn (Fr rr) 0 P Q a w:=by
 refine lp (λ(x:Nat×S) a w=>m x.1 x.2=some out/\I x.2 a w) (λx=>x.1) (f,s) ⟨hm,h0⟩ λx a w hI=>?_;let ⟨f,s⟩:=x;let ⟨hm,hs⟩:=hI;cases f with
 | zero=>rw [hz] at hm;cases hm
 | succ f=>
  refine wpIn_mono (h f s a w hm hs) λe a w hq=>?_;cases e <;> try exact hq
  let ⟨s',h1,h2⟩:=hq;exact ⟨(f,s'),⟨h1,h2⟩,Nat.lt_succ_self f⟩
theorem cJ {ops:Array Oper} {rest:List Oper} {d e:Nat} {op:Op} {pos:String} {ag:Array Edge} {α:Type} [Rep α] {xs:List α} (k:Nat)
  (hs:St M0 w0 n Γ a w) (ho:OR P op ty Γ (Or e xs)) (hn:Nat.blt d n=true) (hdk:Nat.beq d k=false)
  (cont:∀ c a' w',St M0 w0 n ((d,Qv c) :: (k,Ow e c xs) :: (d,Or e xs) :: Γ) a' w'->wpListIn (Fr rr) 0 P ops Q rest a' w'):wpListIn (Fr rr) 0 P ops Q (⟨some d,op,ty,pos,ag,none⟩ :: rest) a w:=
 sq hs ho hn λa' w' s=>let ⟨c,s⟩:=s.openO k (by simp [Ao]) hdk;cont c a' w' s
end
end
section
def dm (s:P3) (l h:Int):Option P3:=if 0<=l/\l<=h/\h<=s.size then some (s.extract l.toNat h.toNat) else none
def cr (x y:P3):Option P3:=if x.size + y.size<=1073741824 then some (x ++ y) else none
def rem (x y:Int):Option Int:=if y=0 then none else some (x.tmod y)
def wr8 (x:Int):UInt8:=UInt8.ofNat (x % 256).toNat
section
variable {P:Program} {Γ:Cx} {ty:TypeId}
theorem mW {T:TypeId} {x lo hi:Operand} {s r:P3} {l h:Int} (hx:Od Γ x (Va s)) (hl:Od Γ lo (Va l)) (hh:Od Γ hi (Va h)) (hT:P.underlying T=some .string) (hm:dm s l h=some r):OR P (.slice T x (some lo) (some hi) none) ty Γ (Va r):=by
 unfold dm at hm;split at hm
 case isFalse=>cases hm
 rename_i hc;cases hm
 refine OR.val λρ M w rd=>?_;let ⟨_,h1⟩:=hx ρ M w rd;let ⟨_,h2⟩:=hl ρ M w rd;let ⟨_,h3⟩:=hh ρ M w rd;refine ⟨.string (s.extract l.toNat h.toNat),λ_ _ _ _=>?_,Va.mkStr⟩;have e1:0<=h:=by omega
 have e2:l<=(h.toNat:Int):=by omega
 simp [execOp,Instr.sliceAt,Instr.slice,Instr.sliceBounds,Va.str h1,Va.int h2,Va.int h3,run_underlying hT,Instr.sliceBound,asIntOf,hc.1,hc.2.2,e1,e2];intro hmax;omega
theorem qw {T:TypeId} {x hi:Operand} {s r:P3} {h:Int} (hx:Od Γ x (Va s)) (hh:Od Γ hi (Va h)) (hT:P.underlying T=some .string) (hm:dm s 0 h=some r):OR P (.slice T x none (some hi) none) ty Γ (Va r):=by
 unfold dm at hm;split at hm
 case isFalse=>cases hm
 rename_i hc;cases hm
 refine OR.val λρ M w rd=>?_;let ⟨_,h1⟩:=hx ρ M w rd;let ⟨_,h3⟩:=hh ρ M w rd;refine ⟨.string (s.extract 0 h.toNat),λ_ _ _ _=>?_,Va.mkStr⟩;simp [execOp,Instr.sliceAt,Instr.slice,Instr.sliceBounds,Va.str h1,Va.int h3,run_underlying hT,Instr.sliceBound,asIntOf,hc.2.1,hc.2.2]
theorem ct {x y:Operand} {T T':TypeId} {b c r:P3} (hx:Od Γ x (Va b)) (hy:Od Γ y (Va c)) (h:cr b c=some r):OR P (.binOp .add T x y T') ty Γ (Va r):=by
 unfold cr at h;split at h
 case isFalse=>cases h
 rename_i hc;cases h
 refine OR.val λρ M w rd=>?_;let ⟨_,h1⟩:=hx ρ M w rd;let ⟨_,h2⟩:=hy ρ M w rd;refine ⟨.string (b ++ c),λ_ _ _ _=>?_,Va.mkStr⟩;have h3:(binOp .add T (.string b) (.string c)).run P w=.ok (.string (b ++ c)) w:=by
  show (Op.stringOp .add b c).run P w=_;have:¬ (((b.size + c.size:Nat):Int) > IntKind.i64.max):=by simp [IntKind.max,IntKind.bits,IntKind.signed];omega
  unfold Op.stringOp;simp only [this,if_false];rfl
 have h4:(eqGuard .add T x y (.string b) (.string c)).run P w=.ok () w:=rfl;simp only [execOp,Va.str h1,Va.str h2,KJ,h3,h4,KE,KQ]
theorem kW {x y:Operand} {T T':TypeId} {m n r:Int} (hx:Od Γ x (Va m)) (hy:Od Γ y (Va n)) (h:rem m n=some r):OR P (.binOp .rem T x y T') ty Γ (Va r):=
 dW hx hy λ_=>by
  unfold rem at h;split at h
  ·cases h
  ·rename_i h0;cases h
   exact ⟨_,by unfold binOp;simp [Op.intDiv,h0],λ_=>Va.mkInt⟩
class iH (P:Program) (T:Nat) {α:Type} [Rep α] (f:outParam (α->α->Bool)):Prop where
 run:∀ {M M' w w' cs ds} {x y:α},Rep.rep M w cs x->Rep.rep M' w' ds y->∀ w1,(Op.equalIn 10000 T (.agg cs.toArray) (.agg ds.toArray)).run P w1=.ok (f x y) w1
 agg:Rep.agg α=true
 guard:P.eqGuardType P.depth T=false
theorem mX {x y:Operand} {T T':TypeId} {α:Type} [Rep α] {f:α->α->Bool} [he:iH P T f] {b c:α} (hx:Od Γ x (Va b)) (hy:Od Γ y (Va c)):OR P (.binOp .eql T x y T') ty Γ (Va (f b c)):=by refine OR.val λρ M w rd=>?_;let ⟨_,_,cs,h1,r1⟩:=hx ρ M w rd;let ⟨_,_,ds,h2,r2⟩:=hy ρ M w rd;refine ⟨.bool (f b c),λ_ _ _ _=>?_,Va.mkBool⟩;have h3:=he.run r1 r2 w;simp only [mk,he.agg,if_true] at h1 h2;simp only [execOp,h1,h2,KJ,run_eqGuard_agg w .eql T x y _ _ he.guard,run_eql_struct,h3,KE,KQ]
theorem mV {x y:Operand} {T T':TypeId} {α:Type} [Rep α] {f:α->α->Bool} [he:iH P T f] {b c:α} (hx:Od Γ x (Va b)) (hy:Od Γ y (Va c)):OR P (.binOp .neq T x y T') ty Γ (Va (!(f b c))):=by refine OR.val λρ M w rd=>?_;let ⟨_,_,cs,h1,r1⟩:=hx ρ M w rd;let ⟨_,_,ds,h2,r2⟩:=hy ρ M w rd;refine ⟨.bool (!(f b c)),λ_ _ _ _=>?_,Va.mkBool⟩;have h3:=he.run r1 r2 w;simp only [mk,he.agg,if_true] at h1 h2;simp only [execOp,h1,h2,KJ,run_eqGuard_agg w .neq T x y _ _ he.guard,run_neq_struct,h3,KE,KQ]
theorem Bh {T:TypeId} {xs:Array Value} {o:Nat} {v:Value} {w:World} (h:(P.underlying T).map Br=some false) (hv:xs[o]?=some v):(part T xs o).run P w=.ok v w:=by simp only [part,KJ,Ty.run_agg h,KE];simp [hv]
def Xq (f : Field) : Bool × Nat × Nat := (f.name == "_", f.type, f.offset)
theorem dx {l : List Field} {n : Bool} {T o : Nat} {asx : List (Bool × Nat × Nat)} (h : l.map Xq = (n, T, o) :: asx) : ∃ f fs, l = f :: fs /\ (f.name == "_") = n /\ f.type = T /\ f.offset = o /\ fs.map Xq = asx := by
 cases l with
 | nil=>cases h
 | cons f fs=>
  simp only [K4,List.cons.injEq,Xq,Prod.mk.injEq] at h;exact ⟨f,fs,rfl,h.1.1,h.1.2.1,h.1.2.2,h.2⟩
theorem gj {l:List Field} (h:l.map Xq=[]):l=[]:=OV.1 h
theorem lN {d:Nat} {xs ys:Array Value} {w:World}:(Op.eqFields d xs ys []).run P w=.ok true w:=rfl
theorem qe {d : Nat} {xs ys : Array Value} {f : Field} {fs : List Field} {w : World} {k : IntKind} {a b : Int} {r : Bool} (hn : (f.name == "_") = false) (hu : P.underlying f.type = some (.int k)) (h1 : xs[f.offset]? = some (.int k a)) (h2 : ys[f.offset]? = some (.int k b))
  (h:(Op.eqFields (d + 1) xs ys fs).run P w=.ok r w):(Op.eqFields (d + 1) xs ys (f :: fs)).run P w=.ok ((a == b) && r) w:=by
 have hn' : f.name ≠ "_" := by intro h; rw [h] at hn; simp at hn
 have ha:(P.underlying f.type).map Br=some false:=by rw [hu];rfl
 simp only [Op.eqFields,if_pos hn',KJ,Bh ha h1,Bh ha h2,KE,run_equalIn_int w d f.type k k a b hu];cases hab:(a == b) <;> simp [h]
theorem qg {d : Nat} {xs ys : Array Value} {f : Field} {fs : List Field} {w : World} {a b r:Bool} (hn : (f.name == "_") = false) (hu : P.underlying f.type = some .bool) (h1 : xs[f.offset]? = some (.bool a)) (h2 : ys[f.offset]? = some (.bool b))
  (h:(Op.eqFields (d + 1) xs ys fs).run P w=.ok r w):(Op.eqFields (d + 1) xs ys (f :: fs)).run P w=.ok ((a == b) && r) w:=by
 have hn' : f.name ≠ "_" := by intro h; rw [h] at hn; simp at hn
 have ha:(P.underlying f.type).map Br=some false:=by rw [hu];rfl
 simp only [Op.eqFields,if_pos hn',KJ,Bh ha h1,Bh ha h2,KE,run_equalIn_bool' w d f.type a b hu];cases hab:(a == b) <;> simp [h]
end
end
section
variable {rr:Option Nat}
def Qa (cs:P2):Ent where
 p F _ _ v:=F=[]/\v=.agg cs.toArray/\∀ c∈cs,c.oneCell'=true
 st h _:=h
 sb h _:=h
def Mr (b:Nat) (cs:P2):Ent where
 p F M w _:=F=[b]/\(∃ T,w.heap[b]?=some (.cells cs.toArray T (0,0)))/\∀ c∈cs,c.oneCell'=true
 st h e:=by
  obtain ⟨rfl,⟨T,hc⟩,h1⟩:=h;have hb:b < _:=(KS.1 hc).1;exact ⟨rfl,⟨T,by rw [e.block b hb ai];exact hc⟩,h1⟩
 sb h _:=h
instance {b:Nat} {cs:P2}:Gh (Mr b cs):=⟨λh _=>h⟩
section
variable {P:Program} {M0:Fm} {w0:World} {n:Nat} {Γ:Cx} {Q:Exit->Act->World->Prop} {a:Act} {w:World} {ty:TypeId}
def Oc (Γ:Cx) (c:Value):Prop:=∀ ρ M w,Rd (Ao Γ) M w ρ->c.oneCell'=true
theorem aS {c:Value} (h:c.oneCell'=true):Oc Γ c:=λ_ _ _ _=>h
theorem aM {α:Type} [Rep α] {k e:Nat} {c:Value} {xs:List α} (h:Ao Γ k=some (Ow e c xs)):Oc Γ c:=λρ M w r=>by
 let ⟨F,hF⟩:=r.tmp _ _ h;obtain ⟨ad,cap,rfl,_⟩:=Ow.val hF;rfl
theorem qK {α:Type} [Rep α] {k:Nat} {c:Value} {xs:List α} (h:Ao Γ k=some (At c (Va xs))):Oc Γ c:=λρ M w r=>by
 let ⟨F,hF⟩:=r.tmp _ _ h;let ⟨ad,cap,hv,_⟩:=Va.list hF;rw [hv];rfl
theorem Ou {T:TypeId} {α:Type} [Rep α] [ht:Ty P T α] {w:World} {b o:Nat} {cs:P2} (hc:∀ j v,cs[j]?=some v->w.cell? ⟨b,o + j,none⟩=some v) (hl:cs.length=Rep.sz α) :
  (loadVar T ⟨b,o,none⟩).run P w=.ok (mk (Rep.agg α) cs) w:=by
 simp only [loadVar,KJ,Ty.run_agg ht.agg,KE];cases hg:Rep.agg α
 ·have h1:=Rep.flat hg;obtain ⟨c,rfl⟩:∃ c,cs=[c]:=by
   match cs,hl with
   | [c],_=>exact ⟨c,rfl⟩
   | [],h=>simp [h1] at h
   | _ :: _ :: _,h=>simp [h1] at h
  have:=hc 0 c rfl;simp only [NS] at this;simp [this,mk]
 ·simp only [if_true,KJ,Ty.run_size ht.size,KE];rw [← hl,run_loadCells_list w ⟨b,o,none⟩ cs (λj v hj=>by rw [Bo];exact hc j v hj)];rfl
theorem Mr.cell {b:Nat} {cs:P2} {F:P1} {M:Nat->Prop} {v:Value} (h:(Mr b cs).p F M w v) (o:Nat):∀ u,cs[o]?=some u->w.cell? ⟨b,o,none⟩=some u:=by let ⟨_,⟨T,hc⟩,_⟩:=h;intro u hu;unfold World.cell?;rw [hc];simpa using hu
theorem cp {T K:TypeId} (α:Type) [Rep α] [Ty P T α] {x:Operand} {b off:Nat} {cs ds:P2} (h:Od Γ x (Qv (pb b off))) (hk:Ao Γ K=some (Mr b cs)) (hd:(cs.drop off).take ds.length=ds) (hl:Nat.beq ds.length (Rep.sz α)=true) (hg:Rep.agg α=true):OR P (.load T x) ty Γ (Qa ds):=by (refine OR.val λρ M w r=>?_;let ⟨_,_,hv⟩:=h ρ M w r;let ⟨_,hh⟩:=r.tmp _ _ hk;have hcell:∀ j u,ds[j]?=some u->cs[off + j]?=some u:=λj u hj=>by (have hjl:j < ds.length:=by (rcases LV j ds.length with h1 | h1);exact h1;simp [LG h1] at hj);(have:((cs.drop off).take ds.length)[j]?=some u:=by rw [hd];exact hj);rw [LN hjl,N5] at this;exact this);refine ⟨.agg ds.toArray,λ_ _ _ _=>?_,rfl,rfl,λc hc=>?_⟩;simp only [execOp,hv,Instr.loadAt,Instr.sureAddr,KJ,KQ,KE];rw [Ou (α:=α) (λj u hj=>Mr.cell hh _ u (hcell j u hj)) (MX hl),hg];rfl;let ⟨j,hj⟩:=MW.1 hc;exact hh.2.2 c (MW.2 ⟨_,hcell j c hj⟩)
theorem bw {T K:Nat} (β:Type) [Rep β] [Ty P T β] {x:Operand} {b off:Nat} {cs:P2} {c:Value} (h:Od Γ x (Qv (pb b off))) (hk:Ao Γ K=some (Mr b cs)) (hc:cs[off]?=some c) (hl:Rep.sz β=1) (hg:Rep.agg β=false):OR P (.load T x) ty Γ (Qv c):=by
 refine OR.val λρ M w r=>?_;let ⟨_,_,hv⟩:=h ρ M w r;let ⟨_,hh⟩:=r.tmp _ _ hk;refine ⟨c,λ_ _ _ _=>?_,rfl,rfl⟩;simp only [execOp,hv,Instr.loadAt,Instr.sureAddr,KJ,KQ,KE];rw [Ou (α:=β) (cs:=[c]) (λj u hj=>?_) (by rw [hl];rfl),hg]
 ·rfl
 ·match j,hj with
  | 0,hj=>cases hj;exact Mr.cell hh off _ hc
theorem bJ {T K:Nat} {x:Operand} {b off:Nat} {cs:P2} {c:Value} (h:Od Γ x (Qv (pb b off))) (hk:Ao Γ K=some (Mr b cs)) (hc:cs[off]?=some c) (ha:(P.underlying T).map Br=some false):OR P (.load T x) ty Γ (Qv c):=by refine OR.val λρ M w r=>?_;let ⟨_,_,hv⟩:=h ρ M w r;let ⟨_,hh⟩:=r.tmp _ _ hk;refine ⟨c,λ_ _ _ _=>?_,rfl,rfl⟩;have:=Mr.cell hh off _ hc;simp only [execOp,hv,Instr.loadAt,Instr.sureAddr,KJ,KQ,KE,loadVar,Ty.run_agg ha];simp [this]
theorem Et {T:TypeId} {sz:Nat} (hs:(P.info? T).map (·.size)=some sz) {M:Nat->Prop} {w:World} {b off:Nat} {cs:Array Value} {T':TypeId} {m:P2} {v:Value} (hv:v.cells=m.toArray) (hc:w.heap[b]?=some (.cells cs T' (0,0))) (hm:m.length=sz) (h1:∀ c∈m,c.oneCell'=true)
  (hsz:off + m.length<=cs.size):(storeVar T ⟨b,off,none⟩ v).run P w=.ok () (w.setRow b (cs.toList.take off ++ (m ++ cs.toList.drop (off + m.length))).toArray):=by
 have hr:(sizeOf T).run P w=.ok sz w:=by
  cases hi:P.info? T with
  | none=>simp [hi] at hs
  | some i=>simp [hi] at hs;simp [sizeOf,typeInfo,hi,hs]
 simp only [storeVar,KJ,hv,hr,KE,NF,hm];have:=run_storeCells_at (P:=P) b off T' m 0 cs w hc hsz h1;simp only [ne_eq,not_true,if_false,this,NS,Sem.run_ite,K3,hm]
theorem qs {ops:Array Oper} {rest:List Oper} {T K sz:Nat} {x y:Operand} {pos:String} {ag:Array Edge} {b off:Nat} {cs cs' m:P2} {e:Ent}
  (hs:St M0 w0 n Γ a w) (hx:Od Γ x (Qv (pb b off))) (hk:Ao Γ K=some (Mr b cs)) (hT:(P.info? T).map (·.size)=some sz) (hy:Od Γ y e) (hm:m.length=sz) (ho:Nat.ble (off + m.length) cs.length=true)
  (he:∀ ρ M w F v,Rd (Ao Γ) M w ρ->e.p F M w v->v.cells=m.toArray/\∀ c∈m,c.oneCell'=true) (hcs:cs.take off ++ (m ++ cs.drop (off + m.length))=cs')
  (k:∀ w',St M0 w0 n ((K,Mr b cs') :: Γ) a w'->wpListIn (Fr rr) 0 P ops Q rest a w'):wpListIn (Fr rr) 0 P ops Q (⟨none,.store T x y,ty,pos,ag,none⟩ :: rest) a w:=by refine wpListIn_plain rfl λKc hK=>?_;let ⟨M,φ,h⟩:=hs;let ⟨_,_,hv⟩:=hx _ _ _ h.rd;let ⟨hF,⟨T',hc⟩,h1⟩:=h.holds K _ hk;let ⟨F',hy'⟩:=hy _ _ _ h.rd;let ⟨hmv,hm1⟩:=he _ _ _ _ _ h.rd hy';have ho':=KY ho;refine Bk.upon (Bk.skip (w':=w.setRow b cs'.toArray) ?_ ?_);have:=Et (P:=P) (M:=M) hT hmv hc hm hm1 (by simpa using ho');simp only [List.toList_toArray] at this;rw [hcs] at this;simp only [execOp,hv,Instr.storeAt,Instr.sureAddr,KJ,KQ,KE,this];(refine hK _ _ (k _ ?_);unfold St;rw [Ak];refine h.write (by rw [hk];rfl) (by rw [hF];simp) (Ext.setRow w b _) ⟨hF,⟨T',setRow_heap w b _ _ T' _ hc⟩,λc hc'=>?_⟩;rw [← hcs] at hc';rcases LA.1 hc' with h2 | h2);exact h1 c (NO h2);(rcases LA.1 h2 with h2 | h2);exact hm1 c h2;exact h1 c (OS h2)
theorem bE {ops:Array Oper} {rest:List Oper} {T K:Nat} {x y:Operand} {pos:String} {ag:Array Edge} {b off:Nat} {cs cs':P2} {c:Value}
  (hs:St M0 w0 n Γ a w) (hx:Od Γ x (Qv (pb b off))) (hk:Ao Γ K=some (Mr b cs)) (hy:Od Γ y (Qv c)) (hT:(P.info? T).map (·.size)=some 1) (hc:Oc Γ c) (ho:Nat.ble (off + 1) cs.length=true)
  (hcs:cs.take off ++ ([c] ++ cs.drop (off + 1))=cs')
  (k:∀ w',St M0 w0 n ((K,Mr b cs') :: Γ) a w'->wpListIn (Fr rr) 0 P ops Q rest a w'):wpListIn (Fr rr) 0 P ops Q (⟨none,.store T x y,ty,pos,ag,none⟩ :: rest) a w:=
 qs hs hx hk hT hy (m:=[c]) rfl ho (λρ M w F v r hp=>by
  have h1:=hc ρ M w r;refine ⟨?_,λd hd=>by simp at hd;rw [hd];exact h1⟩;rw [hp.2];cases c <;> first | rfl | simp [Value.oneCell'] at h1) hcs k
theorem bf {ops:Array Oper} {rest:List Oper} {T K sz:Nat} {x y:Operand} {pos:String} {ag:Array Edge} {b off:Nat} {cs cs' m:P2}
  (hs:St M0 w0 n Γ a w) (hx:Od Γ x (Qv (pb b off))) (hk:Ao Γ K=some (Mr b cs)) (hy:Od Γ y (Qa m)) (hT:(P.info? T).map (·.size)=some sz) (hm:m.length=sz) (ho:Nat.ble (off + m.length) cs.length=true)
  (hcs:cs.take off ++ (m ++ cs.drop (off + m.length))=cs')
  (k:∀ w',St M0 w0 n ((K,Mr b cs') :: Γ) a w'->wpListIn (Fr rr) 0 P ops Q rest a w'):wpListIn (Fr rr) 0 P ops Q (⟨none,.store T x y,ty,pos,ag,none⟩ :: rest) a w:=
 qs hs hx hk hT hy hm ho (λρ M w F v r hp=>⟨by rw [hp.2.1];rfl,hp.2.2⟩) hcs k
theorem swr {ops:Array Oper} {rest:List Oper} {T K:Nat} {x y:Operand} {pos:String} {ag:Array Edge} {α:Type} [Rep α] [ht:Ty P T α] {b:Nat} {z:α} {cs:P2}
  (hs:St M0 w0 n Γ a w) (hx:Od Γ x (Qv (pb b 0))) (hk:Ao Γ K=some (Mg b z)) (hy:Od Γ y (Qa cs)) (hl:cs.length=Rep.sz α)
  (k:∀ w',St M0 w0 n ((K,Mr b cs) :: Γ) a w'->wpListIn (Fr rr) 0 P ops Q rest a w'):wpListIn (Fr rr) 0 P ops Q (⟨none,.store T x y,ty,pos,ag,none⟩ :: rest) a w:=by (refine wpListIn_plain rfl λKc hK=>?_;let ⟨M,φ,h⟩:=hs;let ⟨_,_,hpv⟩:=hx _ _ _ h.rd;let ⟨hF,cs0,T',hc,hr⟩:=h.holds K _ hk;let ⟨_,_,hv,h1⟩:=hy _ _ _ h.rd;have hlen:cs0.size=cs.length:=by rw [hl,← Rep.len hr];simp);refine Bk.upon (Bk.skip (w':=w.setRow b cs.toArray) ?_ ?_);(have hst:(storeVar T ⟨b,0,none⟩ (.agg cs.toArray)).run P w=.ok () (w.setRow b cs.toArray):=by have:=Et (P:=P) (M:=M) (v:=.agg cs.toArray) (m:=cs) (off:=0) ht.size rfl hc hl h1 aa;rw [this];congr 3;simp only [MJ,OB,MQ];rw [LF (by simp;omega),LP]);simp only [execOp,hpv,hv,Instr.storeAt,Instr.sureAddr,KJ,KQ,KE,hst];refine hK _ _ (k _ ?_);unfold St;rw [Ak];exact h.write (by rw [hk];rfl) (by rw [hF];simp) (Ext.setRow w b _) ⟨hF,⟨T',setRow_heap w b cs0 _ T' _ hc⟩,h1⟩
def Rp (Γ:Cx) {α:Type} [Rep α] (cs:P2) (x:α):Prop:=∀ ρ M w,Rd (Ao Γ) M w ρ->Rep.rep M w cs x
theorem cF {m:Int}:Rp Γ [.int .i64 m] m:=λ_ _ _ _=>rfl
theorem an {α:Type} [Rep α] {k:Nat} {c:Value} {xs:List α} (h:Ao Γ k=some (At c (Va xs))):Rp Γ [c] xs:=λρ M w r=>by
 let ⟨F,hF⟩:=r.tmp _ _ h;exact ⟨c,rfl,Va.list hF⟩
theorem cy {α β:Type} [Rep α] [Rep β] {c d:P2} {x:α} {y:β} (h1:Rp Γ c x) (h2:Rp Γ d y):Rp Γ (c ++ d) (x,y):=λρ M w r=>⟨c,d,rfl,h1 ρ M w r,h2 ρ M w r⟩
theorem dB {α:Type} [Rep α] {x:Operand} {cs:P2} {y:α} (hx:Od Γ x (Qa cs)) (h:Rp Γ cs y) (hg:Rep.agg α=true):Od Γ x (Va y):=λρ M w r=>by
 let ⟨_,_,hv,_⟩:=hx ρ M w r;exact ⟨[],rfl,cs,by rw [hv,hg];rfl,h ρ M w r⟩
theorem St.turn1 {k:Nat} {e e':Ent} (h:St M0 w0 n Γ a w) (hk:Ao Γ k=some e) (tn:∀ F M v,Rd (Ao Γ) M w a.eval->e.p F M w v->e'.p F M w v):St M0 w0 n ((k,e') :: Γ) a w:=by (let ⟨M,φ,h⟩:=h;have hs:(Ao Γ k).isSome=true:=by rw [hk];rfl);(have hsome:∀ t,((put k e' (Ao Γ)) t).isSome=true->((Ao Γ) t).isSome=true:=by intro t ht;unfold put at ht;split at ht;rename_i hh;rw [hh];exact hs;exact ht);unfold St;rw [Ak];refine ⟨M,φ,λt e ht=>?_,λt ht=>h.own t (hsome t ht),λt s hne ht hs=>h.apart t s hne (hsome t ht) (hsome s hs),h.sub,h.bd,h.fr,h.sz,h.df⟩;unfold put at ht;split at ht;rename_i hh;subst hh;cases ht;exact tn _ _ _ h.rd (h.holds _ _ hk);exact h.holds t e ht
theorem Np {α:Type} [Rep α] {k b:Nat} {cs:P2} {x:α} {R:Prop} (h:St M0 w0 n Γ a w) (hk:Ao Γ k=some (Mr b cs)) (hr:Rp Γ cs x) (r:St M0 w0 n ((k,Mg b x) :: Γ) a w->R):R:=
 r (h.turn1 hk λF M v rd hp=>⟨hp.1,cs.toArray,let ⟨T,hT⟩:=hp.2.1;⟨T,hT,by simpa using hr _ M w rd⟩⟩)
@[reducible] def Jz:P1->List Ent->Cx->Cx
 | k :: ks,e :: es,Γ=>(k,e) :: Jz ks es Γ
 | _,_,Γ=>Γ
theorem Qr:∀ {ks:P1} {es:List Ent} {t:Nat} {e:Ent},ks.length=es.length->Ao (Jz ks es Γ) t=some e->(∃ i:Nat,ks[i]?=some t/\es[i]?=some e)\/(t ∉ ks/\Ao Γ t=some e)
 | [],[],t,e,_,h=>.inr ⟨by simp,h⟩
 | k :: ks,e0 :: es,t,e,hl,h=>by
  unfold Jz at h;rw [Ak] at h;unfold put at h;split at h
  ·rename_i hh;cases h;exact .inl ⟨0,by simp [hh],rfl⟩
  ·rename_i hh;rcases Qr (by simpa using hl) h with ⟨i,h1,h2⟩ | ⟨h1,h2⟩
   ·exact .inl ⟨i + 1,by simpa using h1,by simpa using h2⟩
   ·exact .inr ⟨by simp [hh,h1],h2⟩
theorem StM.called (hM:Bd M0 w0) {M:Nat->Prop} {φ:Nat->P1} {ks js:P1} {G G':List Ent} {eo:Ent} {d:Nat} {w':World} {v:Value} {Fr:P1} (h:StM M0 w0 n (Ao Γ) a w M φ) (hk:Kg (Ao Γ) ks G) (hd:aW ks=true) (hdn:d < n)
  (hx:Ext (λk=>k∈(ks.map φ).flatten) w w') (hn:Fr.Nodup) (hF:∀ k∈Fr,k∈(ks.map φ).flatten\/(w.heap.size<=k/\k < w'.heap.size))
  (hp:eo.p [] (λk=>(M k/\k ∉ (ks.map φ).flatten)\/k∈Fr) w' v) (ho:Ho (λk=>(M k/\k ∉ (ks.map φ).flatten)\/k∈Fr) w' G' Fr) (hl:js.length=G'.length) (hjs:aW (d :: js)=true) (hkj:∀ k∈ks,k∈js) :
  St M0 w0 n ((d,eo) :: Jz js G' Γ) (a.put (some d) v) w':=by
 let ⟨o1,o2,o3,o4⟩:=Kg.owns h hk hd;let ⟨ψ,p1,p2,p3⟩:=ho.cut;let ⟨p4,p5⟩:=p3 hn;let ⟨hd1,hd2⟩:=Ay hjs;have hfst:∀ {js:P1},aW js=true->∀ (i j t:Nat),js[i]?=some t->js[j]?=some t->i=j:=by
  intro js
  induction js with
  | nil=>intro _ i j t h1;simp at h1
  | cons k ks ih=>
   intro hd i j t h1 h2;let ⟨q1,q2⟩:=Ay hd;cases i with
   | zero=>
    cases j with
    | zero=>rfl
    | succ j=>simp at h1 h2;exact absurd h1.symm (q1 t (MW.2 ⟨j,h2⟩))
   | succ i=>
    cases j with
    | zero=>simp at h1 h2;exact absurd h2.symm (q1 t (MW.2 ⟨i,h1⟩))
    | succ j=>simp at h1 h2;rw [ih q2 i j t h1 h2]
 let ix:Nat->Nat:=λt=>js.findIdx (· == t)
 have hix:∀ (i t:Nat),js[i]?=some t->ix t=i:=λi t hi=>by
  have hm:t∈js:=MW.2 ⟨i,hi⟩;have hlt:ix t < js.length:=List.findIdx_lt_length_of_exists ⟨t,hm,by simp⟩;have hg:js[ix t]?=some t:=by
   rw [L9 hlt];have:=List.findIdx_getElem (w:=hlt);simp at this;rw [this]
  exact hfst hd2 _ _ t hg hi
 have hold:∀ t,t ∉ js->t≠d->∀ e,Ao Γ t=some e->(∀ q∈φ t,q ∉ (ks.map φ).flatten):=λt ht _ e he=>o4 t (by rw [he];rfl) λhm=>ht (hkj t hm);have cases3:∀ t e,Ao ((d,eo) :: Jz js G' Γ) t=some e->(t=d/\e=eo)\/(t≠d/\∃ i:Nat,js[i]?=some t/\G'[i]?=some e)\/(t≠d/\t ∉ js/\Ao Γ t=some e):=by
  intro t e he;rw [Ak] at he;unfold put at he;split at he
  ·rename_i hh;cases he;exact .inl ⟨hh,rfl⟩
  ·rename_i hh;rcases Qr hl he with ⟨i,h1,h2⟩ | ⟨h1,h2⟩
   ·exact .inr (.inl ⟨hh,i,h1,h2⟩)
   ·exact .inr (.inr ⟨hh,h1,h2⟩)
 have ilt:∀ {i:Nat} {e:Ent},G'[i]?=some e->i < G'.length:=λh=>(KG.1 h).1
 -- the footprint of a key
 refine ⟨λk=>(M k/\k ∉ (ks.map φ).flatten)\/k∈Fr,λt=>if t=d then [] else if t∈js then ψ (ix t) else φ t,λt e he=>?_,λt ht=>?_,λt s hts ht hs=>?_,λk hk=>?_,λk hk=>?_,?_,by rw [Act.size_put];exact h.sz,by rw [Act.defers_put];exact h.df⟩
 ·rcases cases3 t e he with ⟨rfl,rfl⟩ | ⟨h1,i,h2,h3⟩ | ⟨h1,h2,h3⟩
  ·simp only [if_true];rw [Act.get_put_eq (by rw [h.sz];exact hdn)];exact hp
  ·have hm:t∈js:=MW.2 ⟨i,h2⟩;simp only [if_neg h1,if_pos hm,hix i t h2];exact p1 i e h3 _
  ·simp only [if_neg h1,if_neg h2];rw [Act.get_put_ne (Ne.symm h1)];have e1:e.p (φ t) (λk=>M k\/(w.heap.size<=k)) w (a.get t):=Ent.sb _ (h.holds t e h3) λk hk hm=>hm.elim id λh=>by omega
   have e2:e.p (φ t) (λk=>M k\/(w.heap.size<=k)) w' (a.get t):=Ent.st _ e1 (hx.mono λk _ hk=>⟨.inl (o3 k hk).1,λhm=>hold t h2 h1 e h3 k hm hk⟩);refine Ent.sb _ e2 λk hk hm=>?_;rcases hm with hm | hm
   ·exact .inl hm.1
   ·rcases hF k hm with h5 | h5
    ·exact .inl (o3 k h5).1
    ·exact .inr h5.1
 ·let ⟨e,he⟩:=M6.1 ht;rcases cases3 t e he with ⟨rfl,rfl⟩ | ⟨h1,i,h2,h3⟩ | ⟨h1,h2,h3⟩
  ·simp
  ·have hm:t∈js:=MW.2 ⟨i,h2⟩;simp only [if_neg h1,if_pos hm,hix i t h2];refine ⟨p4 i (ilt h3),λk hk=>⟨.inr (p2 i (ilt h3) k hk),?_⟩⟩;rcases hF k (p2 i (ilt h3) k hk) with h5 | h5
   ·exact (o3 k h5).2
   ·by_cases hb:M0.b k
    ·exact .inr hb
    ·exact .inl (LW h.fr.size h5.1)
  ·simp only [if_neg h1,if_neg h2];have:=h.own t (by rw [h3];rfl);exact ⟨this.1,λk hk=>⟨.inl ⟨(this.2 k hk).1,hold t h2 h1 e h3 k hk⟩,(this.2 k hk).2⟩⟩
 ·let ⟨e,he⟩:=M6.1 ht;let ⟨f,hf⟩:=M6.1 hs;have oldnew:∀ t e,t ∉ js->t≠d->Ao Γ t=some e->∀ q∈φ t,q ∉ Fr:=λt e h1 h2 he q hq hm=>by
   rcases hF q hm with h5 | h5
   ·exact hold t h1 h2 e he q hq h5
   ·have:=h.bd q ((h.own t (by rw [he];rfl)).2 q hq).1;omega
  rcases cases3 t e he with ⟨rfl,rfl⟩ | ⟨h1,i,h2,h3⟩ | ⟨h1,h2,h3⟩
  ·simp
  ·have hm:t∈js:=MW.2 ⟨i,h2⟩;simp only [if_neg h1,if_pos hm,hix i t h2];rcases cases3 s f hf with ⟨rfl,rfl⟩ | ⟨g1,j,g2,g3⟩ | ⟨g1,g2,g3⟩
   ·simp
   ·have hm':s∈js:=MW.2 ⟨j,g2⟩;simp only [if_neg g1,if_pos hm',hix j s g2];refine p5 i j (ilt h3) (ilt g3) λe=>?_;subst e;rw [h2] at g2;exact hts (Option.some.inj g2)
   ·simp only [if_neg g1,if_neg g2];exact λq hq hm2=>oldnew s f g2 g1 g3 q hm2 (p2 i (ilt h3) q hq)
  ·simp only [if_neg h1,if_neg h2];rcases cases3 s f hf with ⟨rfl,rfl⟩ | ⟨g1,j,g2,g3⟩ | ⟨g1,g2,g3⟩
   ·simp
   ·have hm':s∈js:=MW.2 ⟨j,g2⟩;simp only [if_neg g1,if_pos hm',hix j s g2];exact λq hq hm2=>oldnew t e h2 h1 h3 q hq (p2 j (ilt g3) q hm2)
   ·simp only [if_neg g1,if_neg g2];exact h.apart t s hts (by rw [h3];rfl) (by rw [g3];rfl)
 ·refine .inl ⟨h.sub k hk,λhm=>?_⟩;rcases (o3 k hm).2 with h5 | h5
  ·have:=hM.1 k hk;omega
  ·exact hM.2 k h5 hk
 ·rcases hk with hk | hk
  ·exact LR (h.bd k hk.1) hx.size
  ·rcases hF k hk with h5 | h5
   ·exact LR (h.bd k (o3 k h5).1) hx.size
   ·exact h5.2
 ·exact ⟨hx.os.trans h.fr.os,hx.tape.trans h.fr.tape,hx.output.trans h.fr.output,LW h.fr.size hx.size,λk hk hb=>
   (hx.block k (LR hk h.fr.size) λhm=>(o3 k hm).2.elim (λh5=>by omega) hb).trans (h.fr.block k hk hb),LW h.fr.dr hx.dr⟩
end
end
section
variable {rr:Option Nat}
@[reducible] def fv (f:Nat) (fs cs:P2):Value:=.func (.func f) fs.toArray cs.toArray
def MR (cs:P2):Ent where
 p F M w v:=∃ b,v=pb b 0/\(Mr b cs).p F M w v
 st h e:=let ⟨b,hv,h⟩:=h;⟨b,hv,(Mr b cs).st h e⟩
 sb h s:=let ⟨b,hv,h⟩:=h;⟨b,hv,(Mr b cs).sb h s⟩
section
variable {P:Program} {M0:Fm} {w0:World} {n:Nat} {Γ:Cx} {Q:Exit->Act->World->Prop} {a:Act} {w:World} {ty:TypeId}
theorem St.openR {d:Nat} {cs:P2} (h:St M0 w0 n Γ a w) (k:Nat) (hd:Ao Γ d=some (MR cs)) (hne:Nat.beq d k=false):∃ b,St M0 w0 n ((d,Qv (pb b 0)) :: (k,Mr b cs) :: Γ) a w:=by let ⟨M,φ,h⟩:=h;let ⟨b,hv,hb⟩:=h.holds d _ hd;refine ⟨b,?_⟩;unfold St;rw [Fp];exact h.split (by rw [hd];rfl) (LU hne) ⟨rfl,hv⟩ hb
theorem bt {ops:Array Oper} {rest:List Oper} {d:Nat} {op:Op} {pos:String} {ag:Array Edge} {cs:P2} (K:Nat)
  (hs:St M0 w0 n Γ a w) (ho:OR P op ty Γ (MR cs)) (hn:Nat.blt d n=true) (hdk:Nat.beq d K=false)
  (k:∀ b a' w',St M0 w0 n ((d,Qv (pb b 0)) :: (K,Mr b cs) :: (d,MR cs) :: Γ) a' w'->wpListIn (Fr rr) 0 P ops Q rest a' w'):wpListIn (Fr rr) 0 P ops Q (⟨some d,op,ty,pos,ag,none⟩ :: rest) a w:=
 sq hs ho hn λa' w' s=>let ⟨b,s⟩:=s.openR K (by simp [Ao]) hdk;k b a' w' s
theorem aX {T:TypeId} {cs:P2} {z:Value} (hz:(P.info? T).map (·.zero)=some (some z)) (hc:z.cells=cs.toArray) (h1:cs.all (·.oneCell')=true):OR P (.alloc T) ty Γ (MR cs):=by
 refine OR.run λρ M w r=>?_;refine ⟨pb w.heap.size 0,w.alloc (.cells cs.toArray T),λ_ _ _ _=>?_,Ext.alloc _ _ _,[w.heap.size],by simp,λk hk=>?_,w.heap.size,rfl,rfl,⟨T,Ch _ _⟩,by simpa using h1⟩
 ·cases hi:P.info? T with
  | none=>simp [hi] at hz
  | some i=>
   simp only [hi,Option.map_some,Option.some.injEq] at hz;simp only [execOp,Instr.alloc,zeroValue,typeInfo,KJ,run_program,KE,hi,KQ,hz,newVar,newRow,hc,run_newObj];rfl
 ·simp at hk;subst hk;exact ⟨Nat.le_refl _,by simp⟩
theorem kx {T:TypeId} {x:Operand} {c:Value} (h:Od Γ x (Qv c)) (h1:Oc Γ c):OR P (.box T x) ty Γ (MR [c]):=by (refine OR.run λρ M w r=>?_;let ⟨_,_,hv⟩:=h ρ M w r;have h2:=h1 ρ M w r;have hc:c.cells=#[c]:=by cases c <;> first | rfl | simp [Value.oneCell'] at h2);refine ⟨pb w.heap.size 0,w.alloc (.cells #[c] T),λ_ _ _ _=>?_,Ext.alloc _ _ _,[w.heap.size],by simp,λk hk=>?_,w.heap.size,rfl,rfl,⟨T,Ch _ _⟩,λd hd=>by simp at hd;rw [hd];exact h2⟩;simp only [execOp,hv,Instr.box,newVar,newRow,hc,KJ,run_newObj,KE,KQ];rfl;simp at hk;subst hk;exact ⟨Nat.le_refl _,by simp⟩
theorem lS {T:TypeId} {x:Operand} {cs:P2} (h:Od Γ x (Qa cs)):OR P (.box T x) ty Γ (MR cs):=by refine OR.run λρ M w r=>?_;let ⟨_,_,hv,h2⟩:=h ρ M w r;refine ⟨pb w.heap.size 0,w.alloc (.cells cs.toArray T),λ_ _ _ _=>?_,Ext.alloc _ _ _,[w.heap.size],by simp,λk hk=>?_,w.heap.size,rfl,rfl,⟨T,Ch _ _⟩,h2⟩;simp only [execOp,hv,Instr.box,newVar,newRow,Value.cells,KJ,run_newObj,KE,KQ];rfl;simp at hk;subst hk;exact ⟨Nat.le_refl _,by simp⟩
theorem qf {f:Nat}:Od Γ (.func f) (Qv (fv f [] [])):=λρ _ _ r=>⟨[],rfl,r.fn f⟩
def Qdl (Γ:Cx):List Operand->P2->Prop
 | [],[]=>True
 | x :: xs,c :: cs=>Od Γ x (Qv c)/\Qdl Γ xs cs
 | _,_=>False
theorem qn:Qdl Γ [] []:=trivial
theorem qc {x:Operand} {c:Value} {xs:List Operand} {cs:P2} (h:Od Γ x (Qv c)) (r:Qdl Γ xs cs):Qdl Γ (x :: xs) (c :: cs):=⟨h,r⟩
theorem Qdl.map {ρ:Operand->Value} {M:Nat->Prop} {w:World} (rd:Rd (Ao Γ) M w ρ):∀ {xs:List Operand} {cs:P2},Qdl Γ xs cs->xs.map ρ=cs
 | [],[],_=>rfl
 | _ :: _,_ :: _,⟨h,r⟩=>by
  let ⟨_,_,hv⟩:=h ρ M w rd;rw [K4,hv,r.map rd]
theorem bv {f:Nat} {x1 x2:Array Operand} {l1 l2:List Operand} {fs cs:P2} (h1:x1.toList=l1) (h2:x2.toList=l2) (hf:Qdl Γ l1 fs) (hc:Qdl Γ l2 cs):OR P (.makeFunc (.func f) x1 x2) ty Γ (Qv (fv f fs cs)):=
 OR.val λρ M w r=>by
  refine ⟨fv f fs cs,λ_ _ _ _=>?_,rfl,rfl⟩;have e1:x1.map ρ=fs.toArray:=by rw [← hf.map r,← h1,← NA]
  have e2:x2.map ρ=cs.toArray:=by rw [← hc.map r,← h2,← NA]
  simp only [execOp,Instr.makeFunc,e1,e2,KJ,KQ,KE]
def dM (Γ:Cx) (cs:P2) (es:List Ent):Prop:=∀ ρ M w,Rd (Ao Γ) M w ρ->Ui M w es cs
theorem vn:dM Γ [] []:=λ_ _ _ _=>trivial
theorem vq {c:Value} {cs:P2} {es:List Ent} (r:dM Γ cs es):dM Γ (c :: cs) (Qv c :: es):=λρ M w rd=>⟨⟨rfl,rfl⟩,r ρ M w rd⟩
theorem va {c:Value} {k:Nat} {e:Ent} {cs:P2} {es:List Ent} [z:Zf e] (h:Ao Γ k=some (At c e)) (r:dM Γ cs es):dM Γ (c :: cs) (e :: es):=λρ M w rd=>by
 let ⟨F,hF⟩:=rd.tmp _ _ h;obtain rfl:=z.z (show e.p F M w c from hF);exact ⟨hF,r ρ M w rd⟩
theorem Ui.app {M:Nat->Prop} {w:World}:∀ {es fs:List Ent} {vs us:P2},Ui M w es vs->Ui M w fs us->Ui M w (es ++ fs) (vs ++ us)
 | [],_,[],_,_,k=>k
 | _ :: _,_,_ :: _,_,⟨h1,h2⟩,k=>⟨h1,h2.app k⟩
theorem Rh {x:Operand} {f:FuncId} {fs cs:P2} {args:Array Operand} {argTypes:Array TypeId} {ρ:Operand->Value} {w:World} {d:Option Tmp} {pos:String} {ag:Array Edge} {gd:Option (Nat×Bool)} (hx:ρ x=fv f fs cs) (hb:da P f=true) :
  (execOp ρ ⟨d,.call { callee:=.value x,args:=args,argTypes:=argTypes },ty,pos,ag,gd⟩).run P w=.ok (.enter f (fs ++ (args.toList.map ρ ++ cs)).toArray) w:=by
 have h1:(execOp ρ ⟨d,.call { callee:=.value x,args:=args,argTypes:=argTypes },ty,pos,ag,gd⟩).run P w=(invoke (.fn (.func f) cs.toArray) (fs.toArray ++ args.map ρ)).run P w:=by
  simp [execOp,resolve,Deferred.ofValue,hx]
 rw [h1];cases hf:P.funcs[f]? with
 | none=>simp [da,hf] at hb
 | some fn=>
  simp only [da,hf,KU,LT] at hb;simp only [invoke,callFunc,KJ,run_program,KE,hf,hb.2];have h2:fn.body.isNone=false:=by simpa using hb.1
  have h3:fs.toArray ++ args.map ρ ++ cs.toArray=(fs ++ (args.toList.map ρ ++ cs)).toArray:=by
   apply Array.ext';simp
  rw [h2,h3];rfl
theorem cK {x:Operand} {f:FuncId} {fs cs:P2} {A:Array TypeId} {args:Array Operand} {xs:List Operand} {p1 ps p2:List Ent} {e:Ent} (hx:Od Γ x (Qv (fv f fs cs))) (ha:args.toList=xs) (h:Odl Γ xs ps) (h1:dM Γ fs p1) (h2:dM Γ cs p2)
  (c:Sp P f (p1 ++ (ps ++ p2)) e):OR P (.call { callee:=.value x,args:=args,argTypes:=A }) ty Γ e:=by intro d pos ag gd ρ M w rd;subst ha;let ⟨_,_,hv⟩:=hx ρ M w rd;have hc:=c _ M w rd.bd ((h1 ρ M w rd).app ((h.fits rd).app (h2 ρ M w rd)));unfold Bk;rw [Rh hv hc.1];exact hc.2
theorem aD {ops:Array Oper} {rest:List Oper} {x:Operand} {f:FuncId} {fs cs:P2} {A:Array TypeId} {args:Array Operand} {xs:List Operand} {p1 ps p2 G:List Ent} {X:Type} {eo:X->Ent} {G':X->List Ent} {d:Nat} {pos:String} {ag:Array Edge} (ks js:P1)
  (hM:Bd M0 w0) (hs:St M0 w0 n Γ a w) (hx:Od Γ x (Qv (fv f fs cs))) (ha:args.toList=xs) (h:Odl Γ xs ps) (h1:dM Γ fs p1) (h2:dM Γ cs p2) (c:Cg P f (p1 ++ (ps ++ p2)) G (Rz eo G')) (hk:Kg (Ao Γ) ks G) (hd:aW ks=true) (hl:∀ x,js.length=(G' x).length) (hjs:aW (d :: js)=true) (hkj:(ks.all λk=>js.any (Nat.beq k))=true) (hn:Nat.blt d n=true)
  (k:∀ x a' w',St M0 w0 n ((d,eo x) :: Jz js (G' x) Γ) a' w'->wpListIn (Fr rr) 0 P ops Q rest a' w'):wpListIn (Fr rr) 0 P ops Q (⟨some d,.call { callee:=.value x,args:=args,argTypes:=A },ty,pos,ag,none⟩ :: rest) a w:=by refine wpListIn_plain rfl λKc hK=>?_;subst ha;let ⟨M,φ,hs⟩:=hs;let ⟨_,_,hv⟩:=hx _ _ _ hs.rd;let ⟨o1,o2,o3,o4⟩:=Kg.owns hs hk hd;have hcall:=c.2 _ M w _ hs.bd ((h1 _ M w hs.rd).app ((h.fits hs.rd).app (h2 _ M w hs.rd))) o1 o2 (λk hk=>(o3 k hk).1);refine Bk.upon ?_;unfold Bk;rw [Rh hv c.1];refine Calls.mono hcall ?_;rintro en w' ⟨v,Fr,rfl,hx,hnd,hF,x,hp,ho⟩;refine ⟨v,rfl,hK _ _ (k x _ _ ?_)⟩;exact hs.called hM hk hd (KY hn) hx hnd hF hp ho (hl x) hjs λk hk'=>by have:=KW.1 hkj k hk';let ⟨j,hj,hb⟩:=K1.1 this;rw [MX hb];exact hj
theorem St.turnV {k:Nat} {e e':Ent} {M:Nat->Prop} {φ:Nat->P1} (h:∃ M' φ',(M'=M/\φ'=φ)/\StM M0 w0 n (Ao Γ) a w M' φ') (hk:Ao Γ k=some e) (hp:e'.p (φ k) M w (a.get k)):St M0 w0 n ((k,e') :: Γ) a w:=by (obtain ⟨_,_,⟨rfl,rfl⟩,h⟩:=h;have hs:(Ao Γ k).isSome=true:=by rw [hk];rfl);(have hsome:∀ t,((put k e' (Ao Γ)) t).isSome=true->((Ao Γ) t).isSome=true:=by intro t ht;unfold put at ht;split at ht;rename_i hh;rw [hh];exact hs;exact ht);unfold St;rw [Ak];refine ⟨_,_,λt e ht=>?_,λt ht=>h.own t (hsome t ht),λt s hne ht hs=>h.apart t s hne (hsome t ht) (hsome s hs),h.sub,h.bd,h.fr,h.sz,h.df⟩;unfold put at ht;split at ht;rename_i hh;subst hh;cases ht;exact hp;exact h.holds t e ht
theorem StM.split2 {g:Mp} {M:Nat->Prop} {φ:Nat->P1} {d k:Nat} {e1 e2:Ent} {F1 F2:P1} (h:StM M0 w0 n g a w M φ) (hd:(g d).isSome=true) (hne:d≠k) (hF:φ d=F2 ++ F1)
  (h1:e1.p F1 M w (a.get d)) (h2:e2.p F2 M w (a.get k)):StF M0 w0 n (put d e1 (put k e2 g)) a w:=by (let ⟨o1,o2⟩:=h.own d hd;rw [hF] at o1 o2;let ⟨n1,n2,n3⟩:=N0.1 o1;have s1:∀ q∈F1,q∈φ d:=λq hq=>by rw [hF];exact LC _ hq);(have s2:∀ q∈F2,q∈φ d:=λq hq=>by rw [hF];exact LD _ hq);refine ⟨M,λt=>if t=d then F1 else if t=k then F2 else φ t,λt e he=>?_,λt ht=>?_,λt s hts ht hs=>?_,h.sub,h.bd,h.fr,h.sz,h.df⟩;simp only [put] at he;by_cases h3:t=d;subst h3;simp only [if_true,Option.some.injEq] at he ⊢;subst he;exact h1;by_cases h4:t=k;subst h4;simp only [if_neg h3,if_true,Option.some.injEq] at he ⊢;subst he;exact h2;simp only [if_neg h3,if_neg h4] at he ⊢;exact h.holds t e he;by_cases h3:t=d;subst h3;simp only [if_true];exact ⟨n2,λq hq=>o2 q (LC _ hq)⟩;by_cases h4:t=k;subst h4;simp only [if_neg h3,if_true];exact ⟨n1,λq hq=>o2 q (LD _ hq)⟩;simp only [put,if_neg h3,if_neg h4] at ht ⊢;exact h.own t ht;(have ap:∀ u,u≠d->u≠k->((put d e1 (put k e2 g)) u).isSome=true->∀ q∈φ u,q ∉ φ d:=λu hu hk hs q hq=>by simp only [put,if_neg hu,if_neg hk] at hs;exact h.apart u d hu hs hd q hq);by_cases h3:t=d;subst h3;simp only [if_true,if_neg (Ne.symm hts)];by_cases h6:s=k;subst h6;simp only [if_true];exact λq hq hm=>n3 q hm q hq rfl;simp only [if_neg h6];exact λq hq hm=>ap s (Ne.symm hts) h6 hs q hm (s1 q hq);by_cases h4:t=k;subst h4;simp only [if_neg h3,if_true];by_cases h5:s=d;subst h5;simp only [if_true];exact λq hq hm=>n3 q hq q hm rfl;simp only [if_neg h5,if_neg (Ne.symm hts)];exact λq hq hm=>ap s h5 (Ne.symm hts) hs q hm (s2 q hq);simp only [if_neg h3,if_neg h4];by_cases h5:s=d;subst h5;simp only [if_true];exact λq hq hm=>ap t h3 h4 ht q hq (s1 q hm);by_cases h6:s=k;subst h6;simp only [if_neg h5,if_true];exact λq hq hm=>ap t h3 h4 ht q hq (s2 q hm);simp only [if_neg h5,if_neg h6];simp only [put,if_neg h3,if_neg h4] at ht;simp only [put,if_neg h5,if_neg h6] at hs;exact h.apart t s hts ht hs
def Zz (eo:Ent) (G:List Ent):Ent where
 p F M w v:=eo.p [] M w v/\Ho M w G F
 st h x:=⟨eo.st h.1 (x.mono λk _ hk=>⟨hk.1,by simp⟩),h.2.st x⟩
 sb h s:=⟨eo.sb h.1 s,h.2.sb s⟩
theorem St.openZ {d:Nat} {X:Type} {eo:X->Ent} {G:X->List Ent} (h:St M0 w0 n Γ a w) (hd:Ao Γ d=some (Rz eo G)):∃ x,St M0 w0 n ((d,Zz (eo x) (G x)) :: Γ) a w:=by let ⟨M,φ,h⟩:=h;let ⟨x,hp⟩:=h.holds d _ hd;exact ⟨x,St.turnV ⟨M,φ,⟨rfl,rfl⟩,h⟩ hd hp⟩
theorem St.nextZ {d:Nat} {eo e:Ent} {G:List Ent} (k:Nat) (h:St M0 w0 n ((d,Zz eo (e :: G)) :: Γ) a w) (hne:Nat.beq d k=false):St M0 w0 n ((d,Zz eo G) :: (k,e) :: Γ) a w:=by let ⟨M,φ,h⟩:=h;let ⟨hp,F,F',hF,h1,h2⟩:=h.holds d (Zz eo (e :: G)) (by simp [Ao]);have:=h.split2 (d:=d) (k:=k) (e1:=Zz eo G) (e2:=e) (F1:=F') (F2:=F) (by simp [Ao]) (LU hne) hF ⟨hp,h2⟩ (h1 _);refine this.less λt e' he=>?_;rw [Fp] at he;rw [Ak];simp only [put] at he ⊢;split;rename_i h3;rw [if_pos h3] at he;exact he;rename_i h3;rw [if_neg h3] at he;exact he
theorem St.endZ {d:Nat} {eo:Ent} (h:St M0 w0 n ((d,Zz eo []) :: Γ) a w):St M0 w0 n ((d,eo) :: Γ) a w:=by (let ⟨M,φ,h0⟩:=h;have:=St.turn1 (Γ:=(d,Zz eo []) :: Γ) (k:=d) (e:=Zz eo []) (e':=eo) ⟨M,φ,h0⟩ (by simp [Ao]) λF M v rd h=>by have:F=[]:=h.2;subst this;exact h.1);refine StF.less this λt e he=>?_;rw [Ak] at he ⊢;simp only [put] at he ⊢;split;rename_i h3;rw [if_pos h3] at he;exact he;rename_i h3;rw [if_neg h3] at he;rw [Ak];simp only [put,if_neg h3];exact he
theorem aQ {ops:Array Oper} {rest:List Oper} {d:Nat} {op:Op} {pos:String} {ag:Array Edge} {X:Type} {eo:X->Ent} {G':X->List Ent} (js:P1)
  (hM:Bd M0 w0) (hs:St M0 w0 n Γ a w) (ho:OR P op ty Γ (Rz eo G')) (hl:∀ x,js.length=(G' x).length) (hjs:aW (d :: js)=true) (hn:Nat.blt d n=true)
  (k:∀ x a' w',St M0 w0 n ((d,eo x) :: Jz js (G' x) Γ) a' w'->wpListIn (Fr rr) 0 P ops Q rest a' w'):wpListIn (Fr rr) 0 P ops Q (⟨some d,op,ty,pos,ag,none⟩ :: rest) a w:=by refine wpListIn_plain rfl λKc hK=>?_;let ⟨M,φ,hs⟩:=hs;refine Bk.upon ((ho (some d) pos ag none a.eval M w hs.rd).mono ?_);rintro v w' ⟨hx,F,hnd,hF,x,hp,ho⟩;refine hK _ _ (k x _ _ ?_);have hs':∀ k,k < w'.heap.size->((M k/\k ∉ (([]:P1).map φ).flatten)\/k∈F)->(M k\/k∈F):=λk _ h=>h.imp (λh=>h.1) id;exact hs.called (ks:=[]) (G:=[]) hM kn rfl (KY hn) hx.no hnd (λk hk=>.inr (hF k hk)) (Ent.sb _ hp hs') (ho.sb hs') (hl x) hjs ai
end
end
section
section
variable {P:Program} {M0:Fm} {w0:World} {n:Nat} {Γ:Cx} {Q:Exit->Act->World->Prop} {a:Act} {w:World} {ty:TypeId}
inductive Rk (Γ:Cx):List (Nat×Nat)->Cx->Prop
 | nil:Rk Γ [] []
 | same {t:Nat} {e:Ent} {l:List (Nat×Nat)} {Δ:Cx} (h:Ao Γ t=some e) (r:Rk Γ l Δ):Rk Γ ((t,t) :: l) ((t,e) :: Δ)
 | key {t u:Nat} {e:Ent} {l:List (Nat×Nat)} {Δ:Cx} [Gh e] (h:Ao Γ t=some e) (r:Rk Γ l Δ):Rk Γ ((t,u) :: l) ((u,e) :: Δ)
theorem Rk.find {l:List (Nat×Nat)} {Δ:Cx} (h:Rk Γ l Δ):∀ {u:Nat} {e:Ent},Ao Δ u=some e->∃ t,(t,u)∈l/\Ao Γ t=some e/\(t=u\/Gh e):=by
 induction h with
 | nil=>intro u e h;simp [Ao] at h
 | same h r ih=>
  intro u e hu;rw [Ak] at hu;unfold put at hu;split at hu
  ·rename_i hh;subst hh;cases hu;exact ⟨_,LO ..,h,.inl rfl⟩
  ·let ⟨t,h1,h2,h3⟩:=ih hu;exact ⟨t,LK _ h1,h2,h3⟩
 | key h r ih=>
  rename_i hg;intro u e hu;rw [Ak] at hu;unfold put at hu;split at hu
  ·rename_i hh;subst hh;cases hu;exact ⟨_,LO ..,h,.inr hg⟩
  ·let ⟨t,h1,h2,h3⟩:=ih hu;exact ⟨t,LK _ h1,h2,h3⟩
theorem F5:∀ {l:List (Nat×Nat)},aW (l.map (·.2))=true->∀ {t t' u:Nat},(t,u)∈l->(t',u)∈l->t=t'
 | [],_,_,_,_,h,_=>by simp at h
 | (x,y) :: l,hd,t,t',u,h,h'=>by
  let ⟨d1,d2⟩:=Ay hd;rcases K8.1 h with h | h
  ·rcases K8.1 h' with h' | h'
   ·cases h;cases h';rfl
   ·cases h;exact absurd rfl (d1 _ (K7.2 ⟨_,h',rfl⟩))
  ·rcases K8.1 h' with h' | h'
   ·cases h';exact absurd rfl (d1 _ (K7.2 ⟨_,h,rfl⟩))
   ·exact F5 d2 h h'
theorem BF:∀ {l:List (Nat×Nat)},aW (l.map (·.1))=true->∀ {t u u':Nat},(t,u)∈l->(t,u')∈l->u=u'
 | [],_,_,_,_,h,_=>by simp at h
 | (x,y) :: l,hd,t,u,u',h,h'=>by
  let ⟨d1,d2⟩:=Ay hd;rcases K8.1 h with h | h
  ·rcases K8.1 h' with h' | h'
   ·cases h;cases h';rfl
   ·cases h;exact absurd rfl (d1 _ (K7.2 ⟨_,h',rfl⟩))
  ·rcases K8.1 h' with h' | h'
   ·cases h';exact absurd rfl (d1 _ (K7.2 ⟨_,h,rfl⟩))
   ·exact BF d2 h h'
theorem St.rekey {l:List (Nat×Nat)} {Δ:Cx} (h:St M0 w0 n Γ a w) (r:Rk Γ l Δ) (h1:aW (l.map (·.1))=true) (h2:aW (l.map (·.2))=true):St M0 w0 n Δ a w:=by
 let ⟨M,φ,h⟩:=h
 let src:Nat->Nat:=λu=>((l.find? λp=>p.2 == u).map (·.1)).getD 0
 have hsrc:∀ t u,(t,u)∈l->src u=t:=by
  intro t u hm;have:∃ p,l.find? (λp=>p.2 == u)=some p:=by
   cases hf:l.find? λp=>p.2 == u with
   | none=>simp at hf;exact absurd rfl (hf t u hm)
   | some p=>exact ⟨p,rfl⟩
  let ⟨⟨p1,p2⟩,hp⟩:=this;have hpm:=O4 hp;have hpe:=List.find?_some hp;have hpe':p2=u:=by simpa using hpe
  subst hpe';show ((l.find? λp=>p.2 == p2).map (·.1)).getD 0=t;rw [hp];exact F5 h2 hpm hm
 refine ⟨M,λu=>φ (src u),λu e he=>?_,λu hu=>?_,λu s hne hu hs=>?_,h.sub,h.bd,h.fr,h.sz,h.df⟩
 ·let ⟨t,q1,q2,q3⟩:=r.find he;rw [hsrc t u q1];rcases q3 with rfl | hg
  ·exact h.holds _ _ q2
  ·exact hg.g (h.holds _ _ q2) _
 ·let ⟨e,he⟩:=M6.1 hu;let ⟨t,q1,q2,q3⟩:=r.find he;rw [hsrc t u q1];exact h.own t (by rw [q2];rfl)
 ·let ⟨e,he⟩:=M6.1 hu;let ⟨t,q1,q2,q3⟩:=r.find he;let ⟨e',he'⟩:=M6.1 hs;let ⟨t',q1',q2',q3'⟩:=r.find he';rw [hsrc t u q1,hsrc t' s q1'];exact h.apart t t' (λe=>hne (BF h1 q1 (e ▸ q1'))) (by rw [q2];rfl) (by rw [q2'];rfl)
theorem aE {op:Op} {k e:Nat} {c:Value} {α:Type} [Rep α] {xs:List α} {e':Ent} (hf:dO e') (hk:Ao Γ k=some (Ow e c xs)) (h:OR P op ty ((k,At c (Va xs)) :: Γ) e'):OR P op ty Γ e':=by intro dd pos ag g ρ M w r;let ⟨F,hF⟩:=r.tmp _ _ hk;have hs:∀ q,q < w.heap.size->(M q/\q ∉ F)->M q:=λq _ hq=>hq.1;refine (h dd pos ag g ρ (λq=>M q/\q ∉ F) w ⟨λt e1 he=>?_,r.con,r.fn,λq hq=>r.bd q hq.1,r.glo⟩).mono ?_;rw [Ak] at he;unfold Pn.put at he;split at he;rename_i ht;subst ht;cases he;exact ⟨[],Va.mkList (Ow.sl (Ent.sb _ hF hs) λq hq hm=>hm.2 hq)⟩;let ⟨F1,h1⟩:=r.tmp _ _ he;exact ⟨F1,Ent.sb _ h1 hs⟩;rintro v w' ⟨hx,F1,h1,h2,h3⟩;exact ⟨hx,F1,h1,h2,hf h3⟩
theorem dJ {c:Value}:dO (Qv c):=λh=>h
theorem eX {cs:P2}:dO (Qa cs):=λh=>h
theorem aI {α:Type} [Rep α] [Flat α] {e:Nat} {c:Value} {xs:List α}:dO (Ow e c xs):=by
 rintro F M M' w v (⟨hF,cs,ho,hc⟩ | h)
 case inr=>exact .inr h
 refine .inl ⟨hF,cs,ho,?_⟩;clear ho hF
 induction xs generalizing cs with
 | nil=>exact hc
 | cons x xs ih=>
  let ⟨c,d,h1,h2,h3⟩:=hc;exact ⟨c,d,h1,Flat.at_ h2,ih d h3⟩
def FlL:List Ent->Prop
 | []=>True
 | e :: es=>dO e/\FlL es
theorem bY:FlL []:=trivial
theorem aJ {e:Ent} {es:List Ent} (h:dO e) (r:FlL es):FlL (e :: es):=⟨h,r⟩
theorem FlL.owns {M M':Nat->Prop} {w:World}:∀ {G:List Ent} {F:P1},FlL G->Ho M w G F->Ho M' w G F
 | [],_,_,h=>h
 | _ :: _,_,⟨h1,h2⟩,⟨F,F',hF,k1,k2⟩=>⟨F,F',hF,λu=>h1 (k1 u),h2.owns k2⟩
theorem bX {X:Type} {eo:X->Ent} {G:X->List Ent} (h1:∀ x,dO (eo x)) (h2:∀ x,FlL (G x)):dO (Rz eo G):=λ⟨x,k1,k2⟩=>⟨x,h1 x k1,(h2 x).owns k2⟩
theorem fzb {α:Type} [Rep α] {k b:Nat} {x:α} {R:Prop} (hM:Bd M0 w0) (h:St M0 w0 n Γ a w) (hk:Ao Γ k=some (Mg b x)) (r:St M0 w0 n ((k,At (pb b 0) (Pt x)) :: Γ) a w->R):R:=by (refine r ?_;let ⟨M,φ,h⟩:=h;have hks:(Ao Γ k).isSome=true:=by rw [hk];rfl);have hMs:∀ q,q < w.heap.size->(M q/\q ∉ φ k)->M q:=λq _ hq=>hq.1;unfold St;rw [Ak];refine ⟨λq=>M q/\q ∉ φ k,λt=>if t=k then [] else φ t,λt e' he=>?_,λt ht=>?_,λt s hts ht hs=>?_,λq hq=>⟨h.sub q hq,λhm=>?_⟩,λq hq=>h.bd q hq.1,h.fr,h.sz,h.df⟩;simp only [put] at he;by_cases h4:t=k;subst h4;simp only [if_true,Option.some.injEq] at he ⊢;subst he;let ⟨hF,cs,T,hc,hr⟩:=(Mg b x).sb (h.holds t _ hk) hMs;refine ⟨rfl,b,0,rfl,cs.toList,λj v hj=>⟨λhm=>hm.2 (by rw [hF];simp),?_⟩,hr⟩;simp [World.cell?,hc];simpa using hj;simp only [if_neg h4] at he ⊢;exact Ent.sb _ (h.holds t e' he) hMs;by_cases h4:t=k;simp [h4];simp only [put,if_neg h4] at ht ⊢;have:=h.own t ht;exact ⟨this.1,λq hq=>⟨⟨(this.2 q hq).1,h.apart t k h4 ht hks q hq⟩,(this.2 q hq).2⟩⟩;by_cases h5:t=k;simp [h5];by_cases h6:s=k;simp [h6];simp only [put,if_neg h5,if_neg h6] at ht hs ⊢;exact h.apart t s hts ht hs;(rcases ((h.own k hks).2 q hm).2 with h1 | h1);have:=hM.1 q hq;omega;exact hM.2 q h1 hq
end
end
section
section
variable {P:Program} {M0:Fm} {w0:World} {n:Nat} {Γ:Cx} {Q:Exit->Act->World->Prop} {a:Act} {w:World} {ty:TypeId}
theorem Gn:∀ {js:P1} {es:List Ent} {Γ Γ':Cx} {t:Nat},(Ao Γ t=Ao Γ' t)->Ao (Jz js es Γ) t=Ao (Jz js es Γ') t
 | k :: js,e :: es,Γ,Γ',t,h=>by
  unfold Jz;rw [Ak,Ak];simp only [put];split
  ·rfl
  ·exact Gn h
 | [],_,_,_,_,h=>h
 | _ :: _,[],_,_,_,h=>h
theorem Jm:∀ {js:P1} {es:List Ent} {Γ:Cx} {t:Nat},t ∉ js->Ao (Jz js es Γ) t=Ao Γ t
 | k :: js,e :: es,Γ,t,h=>by
  unfold Jz;rw [Ak];simp only [put];rw [if_neg (λe=>h (by rw [e];exact LO ..))];exact Jm λhm=>h (LK _ hm)
 | [],_,_,_,h=>rfl
 | _ :: _,[],_,_,h=>rfl
theorem St.allZ {d:Nat} {eo:Ent}:∀ {js:P1} {es:List Ent} {Γ:Cx},js.length=es.length->aW (d :: js)=true->St M0 w0 n ((d,Zz eo es) :: Γ) a w->St M0 w0 n ((d,eo) :: Jz js es Γ) a w
 | [],[],Γ,_,_,h=>h.endZ
 | k :: js,e :: es,Γ,hl,hd,h=>by
  let ⟨d1,d2⟩:=Ay hd;let ⟨d3,d4⟩:=Ay d2;have hne:Nat.beq d k=false:=by
   cases hb:Nat.beq d k
   ·rfl
   ·exact absurd (MX hb).symm (d1 k (LO ..))
  have hd':aW (d :: js)=true:=by
   simp only [aW,KU,LT,MA] at hd ⊢;exact ⟨λj hj=>hd.1 j (LK _ hj),d4⟩
  have ih:=St.allZ (Γ:=(k,e) :: Γ) (by simpa using hl) hd' (h.nextZ k hne);refine StF.less ih λt e' he=>?_;rw [Ak] at he ⊢;simp only [put] at he ⊢;split
  ·rename_i ht;rw [if_pos ht] at he;exact he
  ·rename_i ht;rw [if_neg ht] at he;unfold Jz at he;rw [Ak] at he;simp only [put] at he;split at he
   ·rename_i hk;subst hk;rw [Jm (λhm=>d3 _ hm rfl),Ak];simp only [put,if_true];exact he
   ·rename_i hk;rw [Gn (Γ':=Γ) (by rw [Ak];simp only [put,if_neg hk])];exact he
theorem bM {d:Nat} {X:Type} {eo:X->Ent} {G:X->List Ent} {R:Prop} (js:P1) (h:St M0 w0 n Γ a w) (hd:Ao Γ d=some (Rz eo G)) (hl:∀ x,js.length=(G x).length) (hjs:aW (d :: js)=true)
  (r:∀ x,St M0 w0 n ((d,eo x) :: Jz js (G x) Γ) a w->R):R:=
 let ⟨x,s⟩:=h.openZ hd;r x (s.allZ (hl x) hjs)
theorem kp {α:Type} [Rep α] {d e:Nat} {xs:List α} {R:Prop} (k:Nat) (h:St M0 w0 n Γ a w) (hd:Ao Γ d=some (Or e xs)) (hne:Nat.beq d k=false) (r:∀ c,St M0 w0 n ((d,Qv c) :: (k,Ow e c xs) :: Γ) a w->R):R:=
 let ⟨x,s⟩:=h.openO k hd hne;r x s
theorem qJ {α:Type} [Rep α] {d:Nat} {x:α} {R:Prop} (k:Nat) (h:St M0 w0 n Γ a w) (hd:Ao Γ d=some (MB x)) (hne:Nat.beq d k=false) (r:∀ b,St M0 w0 n ((d,Qv (pb b 0)) :: (k,Mg b x) :: Γ) a w->R):R:=
 let ⟨x,s⟩:=h.openB k hd hne;r x s
theorem hY {d:Nat} {cs:P2} {R:Prop} (k:Nat) (h:St M0 w0 n Γ a w) (hd:Ao Γ d=some (MR cs)) (hne:Nat.beq d k=false) (r:∀ b,St M0 w0 n ((d,Qv (pb b 0)) :: (k,Mr b cs) :: Γ) a w->R):R:=
 let ⟨x,s⟩:=h.openR k hd hne;r x s
theorem hO {α:Type} [Rep α] {x:Operand} {m:Nat} (h:Od Γ x (Qv (.slice none 0 m))):Od Γ x (Va ([]:List α)):=λρ M w r=>let ⟨_,_,hv⟩:=h ρ M w r;⟨[],by rw [hv];exact Va.mkList ⟨none,m,rfl,.inl rfl⟩⟩
theorem aG {α:Type} [Rep α] {m:Nat}:Rp Γ [.slice none 0 m] ([]:List α):=λ_ _ _ _=>⟨_,rfl,none,m,rfl,.inl rfl⟩
def Pd (Γ:Cx):List (Nat×Operand)->List (Nat×P2)->Prop
 | [],[]=>True
 | (i,x) :: l,(j,c) :: m=>(i=j/\∀ ρ M w,Rd (Ao Γ) M w ρ->(ρ x).cells=c.toArray/\∀ u∈c,u.oneCell'=true)/\Pd Γ l m
 | _,_=>False
theorem bm:Pd Γ [] []:=trivial
theorem aO {i:Nat} {x:Operand} {c:Value} {l:List (Nat×Operand)} {m:List (Nat×P2)} (h:Od Γ x (Qv c)) (h1:Oc Γ c) (r:Pd Γ l m):Pd Γ ((i,x) :: l) ((i,[c]) :: m):=
 ⟨⟨rfl,λρ M w rd=>by
  let ⟨_,_,hv⟩:=h ρ M w rd;have h2:=h1 ρ M w rd;refine ⟨?_,λu hu=>by simp at hu;rw [hu];exact h2⟩;rw [hv];cases c <;> first | rfl | simp [Value.oneCell'] at h2⟩,r⟩
theorem fH {i:Nat} {x:Operand} {cs:P2} {l:List (Nat×Operand)} {m:List (Nat×P2)} (h:Od Γ x (Qa cs)) (r:Pd Γ l m):Pd Γ ((i,x) :: l) ((i,cs) :: m):=
 ⟨⟨rfl,λρ M w rd=>by
  let ⟨_,_,hv,h2⟩:=h ρ M w rd;exact ⟨by rw [hv];rfl,h2⟩⟩,r⟩
theorem Pd.cells {ρ:Operand->Value} {M:Nat->Prop} {w:World} (rd:Rd (Ao Γ) M w ρ):∀ {l:List (Nat×Operand)} {m:List (Nat×P2)},Pd Γ l m->Rx (l.map λp=>(p.1,ρ p.2)) m/\∀ p∈m,∀ u∈p.2,u.oneCell'=true
 | [],[],_=>⟨trivial,λp hp=>by simp at hp⟩
 | (i,x) :: l,(j,c) :: m,⟨⟨h1,h2⟩,r⟩=>by
  let ⟨h3,h4⟩:=h2 ρ M w rd;let ⟨k1,k2⟩:=r.cells rd;refine ⟨⟨h1,h3,k1⟩,λp hp=>?_⟩;rcases K8.1 hp with rfl | hp
  ·exact h4
  ·exact k2 p hp
theorem Xp {L:List (Nat×Nat)}:∀ {m:List (Nat×P2)} {z res:P2},Se L z m=some res->(∀ u∈z,u.oneCell'=true)->(∀ p∈m,∀ u∈p.2,u.oneCell'=true)->∀ u∈res,u.oneCell'=true
 | [],z,res,h,hz,_,u,hu=>by simp only [Se,Option.some.injEq] at h;subst h;exact hz u hu
 | (i,c) :: m,z,res,h,hz,hm,u,hu=>by
  unfold Se at h;split at h
  ·cases h
  ·split at h
   ·cases h
   ·refine Xp h (λv hv=>?_) (λp hp=>hm p (LK _ hp)) u hu;rcases LA.1 hv with h1 | h1
    ·exact hz v (NO h1)
    ·rcases LA.1 h1 with h1 | h1
     ·exact hm _ (LO ..) v h1
     ·exact hz v (OS h1)
theorem bp {T:TypeId} {parts:Array (Nat×Operand)} {l:List (Nat×Operand)} {m:List (Nat×P2)} {L:List (Nat×Nat)} {z res:P2} (hl:parts.toList=l) (hp:(fieldsOf P T).bind (Bv P)=some L) (hz:(P.info? T).map (·.zero)=some (some (.agg z.toArray))) (h:Pd Γ l m) (hf:Se L z m=some res) (h1:z.all (·.oneCell')=true) :
  OR P (.build T parts) ty Γ (Qa res):=by (refine OR.val λρ M w r=>?_;let ⟨c1,c2⟩:=h.cells r;have hb:=Ar (P:=P) (w:=w) hp hz c1 hf;refine ⟨.agg res.toArray,λ_ _ _ _=>?_,rfl,rfl,Xp hf (by simpa using h1) c2⟩;have e1:parts.map (λp=>(p.1,ρ p.2))=(l.map λp=>(p.1,ρ p.2)).toArray:=by subst hl;rw [← NA]);have e2:(λ(x:Nat×Operand)=>match x with | (i,x)=>(i,ρ x))=λp=>(p.1,ρ p.2):=rfl;simp only [execOp,e1,KJ,hb,KE,KQ]
end
end
section
variable {rr:Option Nat}
def cT {α:Type} (z:α) (n:Int):Option (List α):=if 0<=n/\n<=1073741824 then some (List.replicate n.toNat z) else none
def fZ {α:Type} (xs:List α) (l h:Int):Option (List α):=if 0<=l/\l<=h/\h<=xs.length then some ((xs.drop l.toNat).take (h.toNat - l.toNat)) else none
section
variable {P:Program} {M0:Fm} {w0:World} {n:Nat} {Γ:Cx} {Q:Exit->Act->World->Prop} {a:Act} {w:World} {ty:TypeId}
theorem cH {x:Operand} {e:Ent} [z:Zf e] (h:Od Γ x e):OR P (.move x) ty Γ e:=
 OR.val λρ M w r=>let ⟨F,hF⟩:=h ρ M w r;⟨ρ x,λ_ _ _ _=>rfl,by have h1:=z.z hF;subst h1;exact hF⟩
theorem tv {d:Nat} {e:Ent} [z:Zf e] (h:St M0 w0 n Γ a w) (ho:Od Γ (.tmp d) e):St M0 w0 n ((d,e) :: Γ) a w:=by let ⟨M,φ,h⟩:=h;let ⟨F,hF⟩:=ho a.eval M w h.rd;obtain rfl:=z.z hF;unfold St;rw [Ak];refine ⟨M,λt=>if t=d then [] else φ t,λt' e' he=>?_,λt ht=>?_,λt s hts ht hs=>?_,h.sub,h.bd,h.fr,h.sz,h.df⟩;simp only [put] at he;by_cases h3:t'=d;subst h3;simp only [if_true,Option.some.injEq] at he ⊢;subst he;exact hF;simp only [if_neg h3] at he ⊢;exact h.holds t' e' he;by_cases h3:t=d;simp [h3];simp only [put,if_neg h3] at ht ⊢;exact h.own t ht;by_cases h3:t=d;simp [h3];by_cases h4:s=d;simp [h4];simp only [put,if_neg h3,if_neg h4] at ht hs ⊢;exact h.apart t s hts ht hs
theorem Gi {α:Type} [Rep α] {R:Prop} {d:Nat} (k e:Nat) (h:St M0 w0 n Γ a w) (hd:Ao Γ d=some (Qv (.slice none 0 0))) (hne:Nat.beq d k=false) (r:∀ c,St M0 w0 n ((d,Qv c) :: (k,Ow e c ([]:List α)) :: Γ) a w->R):R:=by refine r (.slice none 0 0) ?_;have h1:=h.nilO (α:=α) k e;refine StF.less h1 λt e' he=>?_;rw [Ak] at he;simp only [put] at he;split at he;rename_i ht;subst ht;cases he;rw [Ak];simp only [put];rw [if_neg (LU hne)];exact hd;exact he
theorem Wb {α:Type} [Rep α] {R:Prop} {k b:Nat} {cs:P2} {cs':Value->P2} (j e:Nat) (h:St M0 w0 n Γ a w) (hk:Ao Γ k=some (Mr b cs)) (hc:∀ _:Unit,cs' (.slice none 0 0)=cs) (hne:Nat.beq k j=false) (r:∀ c,St M0 w0 n ((k,Mr b (cs' c)) :: (j,Ow e c ([]:List α)) :: Γ) a w->R):R:=by refine r (.slice none 0 0) ?_;rw [hc ()];have h1:=h.nilO (α:=α) j e;refine StF.less h1 λt e' he=>?_;rw [Ak] at he;simp only [put] at he;split at he;rename_i ht;subst ht;cases he;rw [Ak];simp only [put];rw [if_neg (LU hne)];exact hk;exact he
theorem kX {t T K b:Nat} {cs:P2} (h:Ao Γ t=some (Qv (pb b 0))) (hk:Ao Γ K=some (Mr b cs)) (ha:(P.underlying T).map Br=some true) (hl:cs.length=cs.length) (hs:(P.info? T).map (·.size)=some cs.length):RS P Γ (.cell t T) (Qa cs):=λ_ _ _ a w M φ st=>by
 let ⟨_,hv⟩:=st.holds t _ h;have hh:=st.holds K _ hk;have hv':a.tmps.getD t undef=.pointer (some ⟨b,0,none⟩):=hv;refine ⟨.agg cs.toArray,?_,rfl,rfl,hh.2.2⟩;have hr:(sizeOf T).run P w=.ok cs.length w:=by
  cases hi:P.info? T with
  | none=>simp [hi] at hs
  | some i=>simp [hi] at hs;simp [sizeOf,typeInfo,hi,hs]
 simp only [mm,hv',asAddr,KJ,KQ,KE,loadVar,Ty.run_agg ha,if_true,hr];rw [run_loadCells_list w ⟨b,0,none⟩ cs (λj v hj=>by rw [Bo,MJ];exact Mr.cell hh j v hj)];rfl
theorem cD {ops:Array Oper} {rest:List Oper} {T K:Nat} {x y:Operand} {pos:String} {ag:Array Edge} {α:Type} [Rep α] [ht:Ty P T α] {b:Nat} {v:α} {cs:P2}
  (hs:St M0 w0 n Γ a w) (hx:Od Γ x (Qv (pb b 0))) (hk:Ao Γ K=some (Mr b cs)) (hy:Od Γ y (Va v)) (hl:cs.length=Rep.sz α)
  (k:∀ w',St M0 w0 n ((K,Mg b v) :: Γ) a w'->wpListIn (Fr rr) 0 P ops Q rest a w'):wpListIn (Fr rr) 0 P ops Q (⟨none,.store T x y,ty,pos,ag,none⟩ :: rest) a w:=by refine wpListIn_plain rfl λKc hK=>?_;let ⟨M,φ,h⟩:=hs;let ⟨_,_,hpv⟩:=hx _ _ _ h.rd;let ⟨hF,⟨T',hc⟩,h1⟩:=h.holds K _ hk;let ⟨_,_,m,hm,hmr⟩:=hy _ _ _ h.rd;refine Bk.upon (Bk.skip (w':=w.setRow b m.toArray) ?_ ?_);(have hst:(storeVar T ⟨b,0,none⟩ (mk (Rep.agg α) m)).run P w=.ok () (w.setRow b m.toArray):=by have:=Et (P:=P) (M:=M) (v:=mk (Rep.agg α) m) (m:=m) (off:=0) ht.size (Dc hmr) hc (Rep.len hmr) (Rep.one hmr) (by rw [Rep.len hmr,← hl];simp);rw [this];congr 3;simp only [MJ,OB,MQ];rw [LF (by rw [Rep.len hmr,← hl];simp),LP]);simp only [execOp,hpv,hm,Instr.storeAt,Instr.sureAddr,KJ,KQ,KE,hst];refine hK _ _ (k _ ?_);unfold St;rw [Ak];refine h.write (by rw [hk];rfl) (by rw [hF];simp) (Ext.setRow w b _) ⟨hF,m.toArray,T',setRow_heap w b _ _ T' _ hc,?_⟩;refine Rep.ext (by simpa using hmr) ((Ext.setRow w b _).mono λk _ hk'=>?_);subst hk';exact ((h.own K (by rw [hk];rfl)).2 _ (by rw [hF];simp)).1
theorem GV {α:Type} [Rep α] {T:TypeId} {z:α} [hz:Zr P T z] {i:TypeInfo} {v:Value} (hi:P.info? T=some i) (hv:i.zero=some v) (M:Nat->Prop) (w:World):∃ cs,v.cells=cs.toArray/\Rep.rep M w cs z:=by let ⟨cs,h1,h2⟩:=hz.zero;rw [hi,Option.map_some,hv] at h1;simp only [Option.some.injEq] at h1;exact ⟨cs,by rw [h1];exact Dc (h2 M w),h2 M w⟩
theorem BJ {α:Type} [Rep α] {M:Nat->Prop} {w:World} {z:α} {cs:P2} (h:Rep.rep M w cs z) (hp:0 < Rep.sz α):∀ m:Nat,Chk M w (madeCells cs.toArray (m * Rep.sz α)).toList (List.replicate m z)
 | 0=>by
  show _=[];simp [madeCells]
 | m + 1=>by
  rw [PR];refine ⟨cs,(madeCells cs.toArray (m * Rep.sz α)).toList,?_,h,BJ h hp m⟩;have hl:=Rep.len h;apply M7;intro j;have hsz:cs.toArray.size=Rep.sz α:=by simpa using hl
  rcases LV j cs.length with h1 | h1
  ·rw [KR h1];have hj:j < (m + 1) * Rep.sz α:=by rw [NC];omega
   simp only [madeCells,NA,Array.toList_range,KZ,K6 hj,Option.map_some,hsz];rw [OF aa];rw [L9 h1];simp [h1]
  ·rw [KO h1];by_cases hj:j < (m + 1) * Rep.sz α
   ·have hj2:j - cs.length < m * Rep.sz α:=by rw [NC] at hj;omega
    simp only [madeCells,NA,Array.toList_range,KZ,K6 hj,K6 hj2,Option.map_some,hsz];congr 2;rw [hl,← Nat.mod_eq_sub_mod aa]
   ·have hj2:¬ j - cs.length < m * Rep.sz α:=by rw [NC] at hj;omega
    rw [LG (by simp [madeCells];omega),LG (by simp [madeCells];omega)]
theorem ju {α:Type} [Rep α] {T e:Nat} [he:Ea P T e α] {z:α} [hz:Zr P e z] {x y:Operand} {m:Int} {xs:List α} (hx:Od Γ x (Va m)) (hy:Od Γ y (Va m)) (h:cT z m=some xs):OR P (.makeSlice T x y) ty Γ (Or e xs):=by
 unfold cT at h;split at h
 case isFalse=>cases h
 rename_i hc;cases h
 refine OR.run λρ M w r=>?_;let ⟨_,h1⟩:=hx ρ M w r;let ⟨_,h2⟩:=hy ρ M w r;let ⟨i,zv,hi,hzv,hs,hb,hzs⟩:=he.inf;have hb':=KY hb;have hp:0 < Rep.sz α:=KY he.pos;obtain ⟨k,rfl⟩:∃ k:Nat,m=k:=⟨m.toNat,by omega⟩;have hk:k<=1073741824:=by omega
 have hr:=run_make (P:=P) w T e i zv he.el hi hzv .i64 .i64 (k:Int) (k:Int) aa (PO _) (by
  have:i.bytes * k<=65536 * 1073741824:=OP hb' hk;have h3:((i.bytes * k:Nat):Int)<=281474976710656:=by omega
  rwa [PG] at h3) aa
 simp only [L8,hs] at hr;let ⟨cs,hcs,hrep⟩:=GV (P:=P) (z:=z) hi hzv M w;refine ⟨.slice (some ⟨w.heap.size,0,none⟩) k k,w.alloc (.cells (madeCells zv.cells (k * Rep.sz α)) e),λ_ _ _ _=>by simp only [execOp,Va.int h1,Va.int h2,KJ,hr,KE,KQ],Ext.alloc _ _ _,[w.heap.size],by simp,λq hq=>?_,.inl ⟨rfl,(madeCells cs.toArray (k * Rep.sz α)).toList,?_,?_⟩⟩
 ·simp at hq;subst hq;exact ⟨Nat.le_refl _,by simp⟩
 ·rw [hcs,L8,List.length_replicate];exact World.ownsRow_lit (base:=0) (e:=e) (size:=Rep.sz α) w (madeCells cs.toArray (k * Rep.sz α)) k (L0 _) (by unfold maxLen;omega) (by simp [madeCells])
 ·rw [L8];refine Chk.ext (Ext.alloc _ _ _) (Chk.sub (λq hq' hq=>?_) (BJ hrep hp k));rcases hq with hq | hq
  ·exact hq
  ·simp at hq;omega
end
end
section
section
variable {P:Program} {M0:Fm} {w0:World} {n:Nat} {Γ:Cx} {a:Act} {w:World}
theorem StM.more1 {M:Nat->Prop} {φ:Nat->P1} (h:StM M0 w0 n (Ao Γ) a w M φ) (k:Nat) {e:Ent} (tn:∀ v,e.p [] M w v):StM M0 w0 n (Ao ((k,e) :: Γ)) a w M (λt=>if t=k then [] else φ t):=by rw [Ak];refine ⟨λt' e' he=>?_,λt ht=>?_,λt s hts ht hs=>?_,h.sub,h.bd,h.fr,h.sz,h.df⟩;simp only [put] at he;by_cases h3:t'=k;subst h3;simp only [if_true,Option.some.injEq] at he ⊢;subst he;exact tn _;simp only [if_neg h3] at he ⊢;exact h.holds t' e' he;by_cases h3:t=k;simp [h3];simp only [put,if_neg h3] at ht ⊢;exact h.own t ht;by_cases h3:t=k;simp [h3];by_cases h4:s=k;simp [h4];simp only [put,if_neg h3,if_neg h4] at ht hs ⊢;exact h.apart t s hts ht hs
theorem St.turnT {M:Nat->Prop} {φ:Nat->P1} {d:Nat} {e e':Ent} [z:Zf e] (h:StM M0 w0 n (Ao Γ) a w M φ) (hd:Ao Γ d=some e) (hp:e'.p [] M w (a.get d)):St M0 w0 n ((d,e') :: Γ) a w:=by refine St.turnV ⟨M,φ,⟨rfl,rfl⟩,h⟩ hd ?_;have:=z.z (h.holds d _ hd);rw [this];exact hp
theorem Bl {d k:Nat} {ks:P1} (h:aW (d :: k :: ks)=true):¬ d=k/\aW (d :: ks)=true:=by let ⟨h1,h2⟩:=Ay h;let ⟨h3,h4⟩:=Ay h2;refine ⟨λe=>h1 k (LO ..) e.symm,?_⟩;simp only [aW,KU,LT,MA] at h ⊢;exact ⟨λj hj=>h.1 j (LK _ hj),h4⟩
end
end
section
variable {rr:Option Nat}
class Pf (G:Cx) (Φ:outParam Cx) (Ψ:Cx):Prop where
 eq:G=Φ ++ Ψ
instance {Ψ:Cx}:Pf Ψ [] Ψ:=⟨rfl⟩
instance {x:Nat×Ent} {G Φ Ψ:Cx} [h:Pf G Φ Ψ]:Pf (x :: G) (x :: Φ) Ψ:=⟨by rw [h.eq];rfl⟩
instance {L G Φ Ψ:Cx} [h:Pf G Φ Ψ]:Pf (L ++ G) (L ++ Φ) Ψ:=⟨by rw [h.eq,K3]⟩
inductive Fg (P:Program) (ops:Array Oper) (Γ Γf:Cx) (ts es:P1):Nat->Cx->Prop
 | nil:Fg P ops Γ Γf ts es 0 []
 | skip {i:Nat} {Δ:Cx} (h:Fg P ops Γ Γf ts es i Δ) (hi:ts.contains i=true):Fg P ops Γ Γf ts es (i + 1) Δ
 | cons {i d:Nat} {Δ:Cx} {op:Op} {ty:TypeId} {pos:String} {ag:Array Edge} {e:Ent} (h:Fg P ops Γ Γf ts es i Δ) (hi:(es.contains i && !ts.contains i)=true)
   (ho:ops[i]?=some ⟨some d,op,ty,pos,ag,none⟩) (hr:OR P op ty (Bx (Av op) Δ ++ Γ) e):Fg P ops Γ Γf ts es (i + 1) ((d,e) :: Δ)
 | cong {i d j dj:Nat} {b want:Bool} {Δ:Cx} {op:Op} {ty:TypeId} {pos:String} {ag:Array Edge} {e:Ent} (h:Fg P ops Γ Γf ts es i Δ) (hi:(es.contains i && !ts.contains i)=true)
   (ho:ops[i]?=some ⟨some d,op,ty,pos,ag,some (j,want)⟩) (hj:(ops[j]?).bind (·.dst)=some dj) (hl:Ao Δ dj=some (Va b))
   (hr:b=want->OR P op ty (Bx (Av op) Δ ++ Γ) e):Fg P ops Γ Γf ts es (i + 1) ((d,Gd b want e) :: Δ)
 | cont {i d j dj:Nat} {b c b2 want:Bool} {Δ:Cx} {op:Op} {ty:TypeId} {pos:String} {ag:Array Edge} {e:Ent} (h:Fg P ops Γ Γf ts es i Δ) (hi:(es.contains i && !ts.contains i)=true)
   (ho:ops[i]?=some ⟨some d,op,ty,pos,ag,some (j,want)⟩) (hj:(ops[j]?).bind (·.dst)=some dj) (hl:Ao Δ dj=some (Gd b c (Va b2)))
   (hr:b=c->b2=want->OR P op ty (Bx (Av op) Δ ++ Γ) e):Fg P ops Γ Γf ts es (i + 1) ((d,Gd ((b == c) && (b2 == want)) true e) :: Δ)
 | late {i d:Nat} {Δ:Cx} {op:Op} {ty:TypeId} {pos:String} {ag:Array Edge} {e:Ent} (h:Fg P ops Γ Γf ts es i Δ) (hi:(!es.contains i && !ts.contains i)=true)
   (ho:ops[i]?=some ⟨some d,op,ty,pos,ag,none⟩) (hr:OR P op ty (Bx (Av op) Δ ++ Γf) e):Fg P ops Γ Γf ts es (i + 1) ((d,e) :: Δ)
 | lcong {i d j dj:Nat} {b want:Bool} {Δ:Cx} {op:Op} {ty:TypeId} {pos:String} {ag:Array Edge} {e:Ent} (h:Fg P ops Γ Γf ts es i Δ) (hi:(!es.contains i && !ts.contains i)=true)
   (ho:ops[i]?=some ⟨some d,op,ty,pos,ag,some (j,want)⟩) (hj:(ops[j]?).bind (·.dst)=some dj) (hl:Ao Δ dj=some (Va b))
   (hr:b=want->OR P op ty (Bx (Av op) Δ ++ Γf) e):Fg P ops Γ Γf ts es (i + 1) ((d,Gd b want e) :: Δ)
def gc (ops:Array Oper) (ts es:P1):Bool:=
 (List.range ops.size).all λi=>match ops[i]? with
  | none=>false
  | some o=>
   o.after.all (λe=>!Region.binds .any e || decide (e.on < i)) &&
   (if ts.contains i then
    o.guard.isNone && !es.contains i && ts.all (λj=>!decide (j < i) || Eo ops ops.size i j) && es.all (λj=>Eo ops ops.size i j && decide (j < ops.size))
   else
    o.dst.isSome && (match o.guard with | some (j,_)=>decide (j < i) | none=>true) &&
    (List.range ops.size).all (λj=>match ops[j]? with
     | none=>false
     | some oj=>if ts.contains j then (match oj.dst with | none=>true | some d=>o.dst != some d)
      else match oj.dst with
       | some d=>(!(Az ops o).contains d || (decide (j < i) && cI o j)) && (i == j || o.dst != some d)
       | none=>false))
section
variable {P:Program} {M0:Fm} {w0:World} {n:Nat} {Γ Γf:Cx} {ops:Array Oper} {ts es:P1} {Q:Exit->Act->World->Prop}
theorem H0 (h:gc ops ts es=true) {i:Nat} {o:Oper} (ho:ops[i]?=some o) :
  (∀ e∈o.after,Region.binds .any e=true->e.on < i) /\
  (ts.contains i=true->o.guard=none/\es.contains i=false/\(∀ j∈ts,j < i->Eo ops ops.size i j=true)/\∀ j∈es,Eo ops ops.size i j=true/\j < ops.size) /\
  (ts.contains i=false->o.dst.isSome=true/\(∀ j want,o.guard=some (j,want)->j < i) /\
   (∀ j oj,ops[j]?=some oj->ts.contains j=true->∀ d,oj.dst=some d->o.dst≠some d) /\
   ∀ j oj,ops[j]?=some oj->ts.contains j=false->∃ d,oj.dst=some d/\(d∈Az ops o->j < i/\cI o j=true)/\(i≠j->o.dst≠some d)):=by have hi:i < ops.size:=(KS.1 ho).1;unfold gc at h;have h1:=KW.1 h i (KX.2 hi);simp only [ho,KU] at h1;refine ⟨λe he hb=>?_,λht=>?_,λht=>?_⟩;have:=(ON.1 h1.1) e he;simp [hb] at this;exact this;(have h2:=h1.2;rw [if_pos ht] at h2;simp only [KU,KW,M9,LT,decide_eq_true_eq,Option.isNone_iff_eq_none] at h2;refine ⟨h2.1.1.1,h2.1.1.2,λj hj hji=>?_,λj hj=>h2.2 j hj⟩;rcases h2.1.2 j hj with h3 | h3);simp at h3;omega;exact h3;have h2:=h1.2;rw [if_neg (by rw [ht];simp)] at h2;simp only [KU] at h2;have hall:∀ j oj,ops[j]?=some oj->_:=λj oj hj=>KW.1 h2.2 j (KX.2 (KS.1 hj).1);refine ⟨h2.1.1,λj want hg=>?_,λj oj hj htj d hd=>?_,λj oj hj htj=>?_⟩;have:=h2.1.2;simp [hg] at this;exact this;have h3:=hall j oj hj;simp only [hj] at h3;rw [if_pos htj] at h3;simp only [hd,bne_iff_ne] at h3;exact h3;have h3:=hall j oj hj;simp only [hj] at h3;rw [if_neg (by rw [htj];simp)] at h3;split at h3;rename_i d hd;simp only [KU,M9,LT,decide_eq_true_eq,bne_iff_ne,beq_iff_eq] at h3;refine ⟨d,hd,λhn=>?_,λhne hd'=>?_⟩;(rcases h3.1 with h4 | h4);simp at h4;exact absurd hn h4;exact h4;(rcases h3.2 with h4 | h4);exact hne h4;exact h4 hd';cases h3
def DK (ops:Array Oper) (i d:Nat):Prop:=∃ o,ops[i]?=some o/\o.dst=some d
inductive RuleG (P:Program) (ops:Array Oper) (Γ Γf:Cx) (es:P1) (Δi:Cx) (i:Nat) (o:Oper):Nat->Ent->Prop
 | early {d:Nat} {e:Ent} (hi:es.contains i=true) (h:RuleAt P ops Γ Δi o d e):RuleG P ops Γ Γf es Δi i o d e
 | late {d:Nat} {e:Ent} (hi:es.contains i=false) (h:RuleAt P ops Γf Δi o d e):RuleG P ops Γ Γf es Δi i o d e
theorem RuleAt.dst {P:Program} {Γ Δi:Cx} {o:Oper} {d:Nat} {e:Ent} (h:RuleAt P ops Γ Δi o d e):o.dst=some d:=by cases h with | plain ho _=>rw [ho] | guarded ho _ _ _=>rw [ho] | nested ho _ _ _=>rw [ho]
theorem RuleG.dst {Δi:Cx} {i:Nat} {o:Oper} {d:Nat} {e:Ent} (h:RuleG P ops Γ Γf es Δi i o d e):o.dst=some d:=by cases h with | early _ h=>exact h.dst | late _ h=>exact h.dst
theorem Fg.at_:∀ {m:Nat} {Δ:Cx},Fg P ops Γ Γf ts es m Δ->∀ i,i < m->ts.contains i=false->∃ Δi o d e Δ',(∀ x∈Δ',∃ j,i < j/\ts.contains j=false/\DK ops j x.1)/\Δ=Δ' ++ (d,e) :: Δi/\ops[i]?=some o/\RuleG P ops Γ Γf es Δi i o d e/\Fg P ops Γ Γf ts es i Δi
 | _,_,.nil,i,hi,_=>by omega
 | m + 1,Δ,.skip h hs,i,hi,ht=>by
  by_cases hik:i=m
  ·subst hik;rw [hs] at ht;cases ht
  ·exact h.at_ i aa ht
 | m + 1,(d,e) :: Δ,.cons h hs ho hr,i,hi,ht=>by
  by_cases hik:i=m
  ·subst hik;simp only [KU] at hs;exact ⟨Δ,_,d,e,[],(λx hx=>by simp at hx),rfl,ho,.early hs.1 (.plain rfl hr),h⟩
  ·let ⟨Δi,o,d',e',Δ',h1,h2,h3,h4,h5⟩:=h.at_ i aa ht;refine ⟨Δi,o,d',e',(d,_) :: Δ',λx hx=>?_,by rw [h2];rfl,h3,h4,h5⟩;rcases K8.1 hx with rfl | hx
   ·exact ⟨m,by omega,by simp at hs;simpa using hs.2,_,ho,rfl⟩
   ·exact h1 x hx
 | m + 1,(d,_) :: Δ,.cong h hs ho hj hl hr,i,hi,ht=>by
  by_cases hik:i=m
  ·subst hik;simp only [KU] at hs;exact ⟨Δ,_,d,_,[],(λx hx=>by simp at hx),rfl,ho,.early hs.1 (.guarded rfl hj hl hr),h⟩
  ·let ⟨Δi,o,d',e',Δ',h1,h2,h3,h4,h5⟩:=h.at_ i aa ht;refine ⟨Δi,o,d',e',(d,_) :: Δ',λx hx=>?_,by rw [h2];rfl,h3,h4,h5⟩;rcases K8.1 hx with rfl | hx
   ·exact ⟨m,by omega,by simp at hs;simpa using hs.2,_,ho,rfl⟩
   ·exact h1 x hx
 | m + 1,(d,_) :: Δ,.cont h hs ho hj hl hr,i,hi,ht=>by
  by_cases hik:i=m
  ·subst hik;simp only [KU] at hs;exact ⟨Δ,_,d,_,[],(λx hx=>by simp at hx),rfl,ho,.early hs.1 (.nested rfl hj hl hr),h⟩
  ·let ⟨Δi,o,d',e',Δ',h1,h2,h3,h4,h5⟩:=h.at_ i aa ht;refine ⟨Δi,o,d',e',(d,_) :: Δ',λx hx=>?_,by rw [h2];rfl,h3,h4,h5⟩;rcases K8.1 hx with rfl | hx
   ·exact ⟨m,by omega,by simp at hs;simpa using hs.2,_,ho,rfl⟩
   ·exact h1 x hx
 | m + 1,(d,e) :: Δ,.late h hs ho hr,i,hi,ht=>by
  by_cases hik:i=m
  ·subst hik;simp only [KU,LT] at hs;exact ⟨Δ,_,d,e,[],(λx hx=>by simp at hx),rfl,ho,.late hs.1 (.plain rfl hr),h⟩
  ·let ⟨Δi,o,d',e',Δ',h1,h2,h3,h4,h5⟩:=h.at_ i aa ht;refine ⟨Δi,o,d',e',(d,_) :: Δ',λx hx=>?_,by rw [h2];rfl,h3,h4,h5⟩;rcases K8.1 hx with rfl | hx
   ·exact ⟨m,by omega,by simp at hs;simpa using hs.2,_,ho,rfl⟩
   ·exact h1 x hx
 | m + 1,(d,_) :: Δ,.lcong h hs ho hj hl hr,i,hi,ht=>by
  by_cases hik:i=m
  ·subst hik;simp only [KU,LT] at hs;exact ⟨Δ,_,d,_,[],(λx hx=>by simp at hx),rfl,ho,.late hs.1 (.guarded rfl hj hl hr),h⟩
  ·let ⟨Δi,o,d',e',Δ',h1,h2,h3,h4,h5⟩:=h.at_ i aa ht;refine ⟨Δi,o,d',e',(d,_) :: Δ',λx hx=>?_,by rw [h2];rfl,h3,h4,h5⟩;rcases K8.1 hx with rfl | hx
   ·exact ⟨m,by omega,by simp at hs;simpa using hs.2,_,ho,rfl⟩
   ·exact h1 x hx
theorem Fg.ent:∀ {m:Nat} {Δ:Cx},Fg P ops Γ Γf ts es m Δ->∀ x∈Δ,∃ i,i < m/\ts.contains i=false/\DK ops i x.1
 | _,_,.nil,x,hx=>by simp at hx
 | _,_,.skip h hi,x,hx=>let ⟨i,h1,h2⟩:=h.ent x hx;⟨i,by omega,h2⟩
 | m + 1,_,.cons h hi ho hr,x,hx=>by
  rcases K8.1 hx with rfl | hx
  ·simp only [KU,LT] at hi;exact ⟨m,by omega,hi.2,_,ho,rfl⟩
  ·let ⟨i,h1,h2⟩:=h.ent x hx;exact ⟨i,by omega,h2⟩
 | m + 1,_,.cong h hi ho _ _ hr,x,hx=>by
  rcases K8.1 hx with rfl | hx
  ·simp only [KU,LT] at hi;exact ⟨m,by omega,hi.2,_,ho,rfl⟩
  ·let ⟨i,h1,h2⟩:=h.ent x hx;exact ⟨i,by omega,h2⟩
 | m + 1,_,.cont h hi ho _ _ hr,x,hx=>by
  rcases K8.1 hx with rfl | hx
  ·simp only [KU,LT] at hi;exact ⟨m,by omega,hi.2,_,ho,rfl⟩
  ·let ⟨i,h1,h2⟩:=h.ent x hx;exact ⟨i,by omega,h2⟩
 | m + 1,_,.late h hi ho hr,x,hx=>by
  rcases K8.1 hx with rfl | hx
  ·simp only [KU,LT] at hi;exact ⟨m,by omega,hi.2,_,ho,rfl⟩
  ·let ⟨i,h1,h2⟩:=h.ent x hx;exact ⟨i,by omega,h2⟩
 | m + 1,_,.lcong h hi ho _ _ hr,x,hx=>by
  rcases K8.1 hx with rfl | hx
  ·simp only [KU,LT] at hi;exact ⟨m,by omega,hi.2,_,ho,rfl⟩
  ·let ⟨i,h1,h2⟩:=h.ent x hx;exact ⟨i,by omega,h2⟩
theorem Eg {t:Nat} {e:Ent}:∀ {Γ:Cx},Ao Γ t=some e->(t,e)∈Γ
 | [],h=>by simp [Ao] at h
 | (s,e') :: Γ,h=>by
  rw [Ak] at h;simp only [put] at h;split at h
  ·rename_i hh;subst hh;cases h;exact LO ..
  ·exact LK _ (Eg h)
theorem Cc {t:Nat} {e:Ent} {Δ:Cx}:∀ {Γ:Cx},Ao Γ t=some e->Ao (Γ ++ Δ) t=some e:=Do
theorem Bm {t:Nat} {Δ:Cx}:∀ {Γ:Cx},Ao Γ t=none->Ao (Γ ++ Δ) t=Ao Δ t
 | [],_=>rfl
 | (s,e') :: Γ,h=>by
  rw [NU,Ak];rw [Ak] at h;simp only [put] at h ⊢;split
  ·rename_i hh;rw [if_pos hh] at h;cases h
  ·rename_i hh;rw [if_neg hh] at h;exact Bm h
theorem Qs {t:Nat} {p:Nat->Bool}:∀ {Γ:Cx},Ao (Γ.filter λx=>p x.1) t=if p t then Ao Γ t else none
 | []=>by simp [Ao]
 | (s,e') :: Γ=>by
  have ih:=Qs (t:=t) (p:=p) (Γ:=Γ);by_cases hs:p s=true
  ·rw [List.filter_cons_of_pos (by simpa using hs),Ak,Ak];simp only [put];by_cases ht:t=s
   ·subst ht;simp [hs]
   ·simp only [if_neg ht];exact ih
  ·rw [List.filter_cons_of_neg (by simpa using hs),ih,Ak];simp only [put];by_cases ht:t=s
   ·subst ht;simp [hs]
   ·simp only [if_neg ht]
theorem Gb {ks:P1} {t:Nat}:∀ {Γ:Cx},t∈ks->Ao (Bx ks Γ) t=Ao Γ t
 | [],_=>rfl
 | (s,e) :: Γ,h=>by
  unfold Bx;split
  ·rw [Ak,Ak];simp only [put];split
   ·rfl
   ·exact Gb h
  ·rename_i hk;rw [Ak];simp only [put];rw [if_neg (λe=>by subst e;simp at hk;exact hk h)];exact Gb h
def Sb (g:Mp):Cx->Prop
 | []=>True
 | (t,e) :: l=>g t=some e/\Sb g l
def Sn (g:Mp):Cx->Prop
 | []=>True
 | (t,e) :: l=>(g t=none\/g t=some e)/\Sn g l
theorem sb0 {g:Mp}:Sb g []:=trivial
theorem sb1 {g:Mp} {t:Nat} {e:Ent} {l:Cx} (h:g t=some e) (r:Sb g l):Sb g ((t,e) :: l):=⟨h,r⟩
theorem sn0 {g:Mp}:Sn g []:=trivial
theorem sn1 {g:Mp} {t:Nat} {e:Ent} {l:Cx} (h:g t=some e) (r:Sn g l):Sn g ((t,e) :: l):=⟨.inr h,r⟩
theorem sn2 {g:Mp} {t:Nat} {e:Ent} {l:Cx} (h:g t=none) (r:Sn g l):Sn g ((t,e) :: l):=⟨.inl h,r⟩
theorem Sb.get {g:Mp} {t:Nat} {e:Ent}:∀ {l:Cx},Sb g l->Ao l t=some e->g t=some e
 | [],_,h=>by simp [Ao] at h
 | (s,e') :: l,⟨h1,h2⟩,h=>by
  rw [Ak] at h;simp only [put] at h;split at h
  ·rename_i hh;subst hh;cases h;exact h1
  ·exact h2.get h
theorem Sn.get {g:Mp} {t:Nat} {e:Ent}:∀ {l:Cx},Sn g l->Ao l t=some e->g t=none\/g t=some e
 | [],_,h=>by simp [Ao] at h
 | (s,e') :: l,⟨h1,h2⟩,h=>by
  rw [Ak] at h;simp only [put] at h;split at h
  ·rename_i hh;subst hh;cases h;exact h1
  ·exact h2.get h
def Rdc (b off:Nat) (v:Value):Ent where
 p F _ w _:=F=[b]/\(∃ cs T,w.heap[b]?=some (.cells cs T (0,0)))/\w.cell? ⟨b,off,none⟩=some v
 st h e:=by
  obtain ⟨rfl,⟨cs,T,hc⟩,h1⟩:=h;have hb:b < _:=(KS.1 hc).1;have he:=e.block b hb ai;refine ⟨rfl,⟨cs,T,by rw [he];exact hc⟩,?_⟩;unfold World.cell? at *;rw [he];exact h1
 sb h _:=h
theorem Rdc.of {b off:Nat} {v u:Value} {cs:P2} {F:P1} {M:Nat->Prop} {w:World} {v':Value} (h:(Mr b cs).p F M w u) (hv:cs[off]?=some v):(Rdc b off v).p F M w v':=by obtain ⟨rfl,⟨T,hc⟩,_⟩:=h;refine ⟨rfl,⟨_,_,hc⟩,?_⟩;unfold World.cell?;rw [hc];simpa using hv
theorem eW {P:Program} {Γ:Cx} {ty:TypeId} {T K b off:Nat} {x:Operand} {v:Value} (h:Od Γ x (Qv (pb b off))) (hk:Ao Γ K=some (Rdc b off v)) (ha:(P.underlying T).map Br=some false):OR P (.load T x) ty Γ (Qv v):=by refine OR.val λρ M w r=>?_;let ⟨_,_,hv⟩:=h ρ M w r;let ⟨_,_,_,hc⟩:=r.tmp _ _ hk;refine ⟨v,λ_ _ _ _=>?_,rfl,rfl⟩;simp only [execOp,hv,Instr.loadAt,Instr.sureAddr,KJ,KQ,KE,loadVar,Ty.run_agg ha];simp [hc]
def Sw (g:Mp):Cx->Prop
 | []=>True
 | (t,e) :: l=>(g t=some e\/∃ K b cs off v,e=Rdc b off v/\g K=some (Mr b cs)/\cs[off]?=some v)/\Sw g l
theorem be {g:Mp}:Sw g []:=trivial
theorem aK {g:Mp} {t:Nat} {e:Ent} {l:Cx} (h:g t=some e) (r:Sw g l):Sw g ((t,e) :: l):=⟨.inl h,r⟩
theorem bU {g:Mp} {t K b off:Nat} {cs:P2} {v:Value} {l:Cx} (h:g K=some (Mr b cs)) (hc:cs[off]?=some v) (r:Sw g l):Sw g ((t,Rdc b off v) :: l):=⟨.inr ⟨K,b,cs,off,v,rfl,h,hc⟩,r⟩
theorem Sw.rd {g0 g:Mp} {a:Act} {w:World} {M:Nat->Prop} {φ:Nat->P1} {t:Nat} {e:Ent} (hst:StM M0 w0 n g a w M φ) (hg:∀ t e,g0 t=some e->g t=some e):∀ {l:Cx},Sw g0 l->Ao l t=some e->∃ F,e.p F M w (a.eval (.tmp t))
 | [],_,h=>by simp [Ao] at h
 | (s,e') :: l,⟨h1,h2⟩,h=>by
  rw [Ak] at h;simp only [put] at h;split at h
  ·rename_i hh;subst hh;cases h
   rcases h1 with h1 | ⟨K,b,cs,off,v,rfl,hK,hc⟩
   ·exact hst.rd.tmp _ _ (hg _ _ h1)
   ·let ⟨F,hF⟩:=hst.rd.tmp _ _ (hg _ _ hK);exact ⟨F,Rdc.of hF hc⟩
  ·exact Sw.rd hst hg h2 h
def dN (Γf Δ:Cx) (ue ul ld:P1) (Θ:Cx->Cx) (dn:P1):Prop:=
 (∀ Ψ,Θ Ψ=Θ [] ++ Ψ)/\(ld.all λd=>dn.contains d || (Ao (Θ []) d).isNone)=true/\((ld.all λd=>dn.contains d)=true\/(Sw (Ao (Θ [])) Γf/\Sb (Ao (Θ [])) (Bx ue Δ)/\Sn (Ao (Θ [])) (Bx ul Δ)))
def TP (P:Program) (M0:Fm) (w0:World) (n:Nat) (ops:Array Oper) (Q:Exit->Act->World->Prop) (Γf Δ:Cx) (ts ue ul ld:P1):List (Nat×P1)->P1->(Cx->Cx)->Prop
 | [],dn,Θ=>dN Γf Δ ue ul ld Θ dn/\∀ a w,St M0 w0 n (Θ (Bx ld Δ)) a w->Q .normal a w
 | (i,gs) :: is,dn,Θ=>dN Γf Δ ue ul ld Θ dn /\
   (gs.all λd=>ld.contains d && ((List.range ops.size).any λj=>!ts.contains j && ((ops[j]?).bind (·.dst) == some d)) && (List.range ops.size).all λj=>ts.contains j || !((ops[j]?).bind (·.dst) == some d) || Eo ops ops.size i j)=true /\
   ∃ o,ops[i]?=some o/\∀ Ψ a w,St M0 w0 n (Θ (Bx gs Δ ++ Ψ)) a w ->
    wpListIn (Fr rr) 0 P ops (Exit.then (λa' w'=>∃ Θ',TP P M0 w0 n ops Q Γf Δ ts ue ul ld is (gs ++ dn) Θ'/\St M0 w0 n (Θ' Ψ) a' w') Q) [o] a w
theorem CP {o:Oper} {a:Act} {K K':Act->World->Prop} {r:Result Next}:o.uponIn (Fr rr) 0 P a K (Exit.then K' Q) r=o.uponIn (Fr rr) 0 P a K Q r:=by
 cases r with
 | ok nx w=>cases nx <;> rfl
 | halt h w=>cases h <;> rfl
def gX (ops:Array Oper) (ts es ue ul ld:P1):Bool:=
 (List.range ops.size).all λi=>match ops[i]? with
  | none=>false
  | some o=>ts.contains i || ((es.contains i || (match o.dst with | some d=>ld.contains d | none=>false)) && (!es.contains i || (match o.dst with | some d=>!ld.contains d | none=>true)) && (es.contains i || (Az ops o).all λt=>(List.range ops.size).all λj=>ts.contains j || !((ops[j]?).bind (·.dst) == some t) || (if es.contains j then ue.contains t else ul.contains t)))
structure Rg (P:Program) (ops:Array Oper) (Γ Γf Δ:Cx) (ts es ue ul ld:P1) (n:Nat):Prop where
 ok:gc ops ts es=true
 use:gX ops ts es ue ul ld=true
 fg:Fg P ops Γ Γf ts es ops.size Δ
 dj:∀ x∈Δ,Ao Γ x.1=none
 lt:∀ x∈Δ,x.1 < n
 sb:Sw (Ao Γ) Γf
 rng:∀ i∈ts,i < ops.size
 srt:ts.Pairwise (· < ·)
def Ls (ops:Array Oper) (ts:P1) (listed:Array Bool) (t:Nat):Prop:=∃ i,ts.contains i=false/\listed.getD i false=true/\DK ops i t
def Ll (ops:Array Oper) (ts es:P1) (listed:Array Bool) (t:Nat):Prop:=∃ i,ts.contains i=false/\es.contains i=false/\listed.getD i false=true/\DK ops i t
open Classical in
noncomputable def gA (ops:Array Oper) (Γ Δ:Cx) (ts:P1) (listed:Array Bool):Mp:=λt=>if Ls ops ts listed t then Ao Δ t else Ao Γ t
open Classical in
noncomputable def gB (ops:Array Oper) (Δ:Cx) (ts es:P1) (Θ0:Cx) (listed:Array Bool):Mp:=λt=>match Ao Θ0 t with
 | some e=>some e
 | none=>if Ll ops ts es listed t then Ao Δ t else none
variable {Δ:Cx} {ue ul ld:P1}
theorem Rg.flt (h:Rg P ops Γ Γf Δ ts es ue ul ld n) {i:Nat} (hi:i < ops.size) (ht:ts.contains i=false):∃ Δi o d e,ops[i]?=some o/\o.dst=some d/\Ao Δ d=some e/\d < n/\RuleG P ops Γ Γf es Δi i o d e /\
  (∀ t∈Az ops o,Ao Δi t=Ao Δ t)/\∀ t∈Az ops o,∀ e',Ao Δ t=some e'->∃ j,j < i/\ts.contains j=false/\DK ops j t/\cI o j=true:=by (let ⟨Δi,o,d,e,Δ',h1,h2,h3,h4,h5⟩:=h.fg.at_ i hi ht;have hd:=h4.dst;let ⟨_,_,hf⟩:=H0 h.ok h3;let ⟨f1,f2,f3,f4⟩:=hf ht;have hkey:∀ x∈Δ',x.1≠d:=λx hx e=>by let ⟨j,hj,hjt,oj,hoj,hdj⟩:=h1 x hx;let ⟨d',hd',_,h6⟩:=f4 j oj hoj hjt;rw [hdj] at hd';have:=Option.some.inj hd';exact h6 aa (by rw [hd,← this,e]));(have hlook:Ao Δ d=some e:=by rw [h2,Jp hkey,Ak];simp [put]);(have hnm:∀ t∈Az ops o,Ao Δi t=Ao Δ t:=λt ht'=>by (have hno:∀ x∈Δ',x.1≠t:=λx hx e=>by let ⟨j,hj,hjt,oj,hoj,hdj⟩:=h1 x hx;let ⟨d',hd',h6,_⟩:=f4 j oj hoj hjt;rw [hdj] at hd';have:=Option.some.inj hd';have:=(h6 (by rw [← this,e];exact ht')).1;omega);(have hdt:¬ t=d:=λe=>by let ⟨d',hd',h6,_⟩:=f4 i o h3 ht;rw [hd] at hd';have:=Option.some.inj hd';have:=(h6 (by rw [← this,← e];exact ht')).1;omega);rw [h2,Jp hno,Ak];simp only [put,if_neg hdt]);refine ⟨Δi,o,d,e,h3,hd,hlook,h.lt _ (Eg hlook),h4,hnm,λt ht' e' he'=>?_⟩;let ⟨j,hj,hjt,oj,hoj,hdj⟩:=h.fg.ent _ (Eg he');let ⟨d',hd',h6,_⟩:=f4 j oj hoj hjt;rw [hdj] at hd';have:=Option.some.inj hd';let ⟨q1,q2⟩:=h6 (by rw [← this];exact ht');exact ⟨j,q1,hjt,⟨oj,hoj,hdj⟩,q2⟩
theorem Rg.uniq (h:Rg P ops Γ Γf Δ ts es ue ul ld n) {i j d:Nat} (hi:ts.contains i=false) (hj:ts.contains j=false) (h1:DK ops i d) (h2:DK ops j d):i=j:=by let ⟨o,ho,hd⟩:=h1;let ⟨oj,hoj,hdj⟩:=h2;let ⟨_,_,hf⟩:=H0 h.ok ho;let ⟨_,_,_,f4⟩:=hf hi;let ⟨d',hd',_,h6⟩:=f4 j oj hoj hj;rw [hdj] at hd';have:=Option.some.inj hd';refine Classical.byContradiction λhne=>h6 hne (by rw [hd,← this])
theorem HY {listed:Array Bool} {i j:Nat} (hi:i < listed.size):(listed.setIfInBounds i true).getD j false=if j=i then true else listed.getD j false:=by by_cases h:j=i;subst h;simp [KN,hi];simp [KN,LE (Ne.symm h),h]
theorem RuleG.run {Δi:Cx} {i d:Nat} {o:Oper} {e:Ent} {g:Mp} {a:Act} {w:World} {M:Nat->Prop} {φ:Nat->P1} {K:Act->World->Prop} (h:RuleG P ops Γ Γf es Δi i o d e) (ho:ops[i]?=some o) (hdn:d < n) (hst:StM M0 w0 n g a w M φ)
  (hnm:∀ t∈Az ops o,∀ e',Ao Δi t=some e'->g t=some e')
  (hE:es.contains i=true->∀ t e',(∀ op:Op,Ao (Bx (Av op) Δi) t=none\/True)->Ao Γ t=some e'->g t=some e')
  (hL:es.contains i=false->∀ t e',Ao Γf t=some e'->∃ F,e'.p F M w (a.eval (.tmp t)))
  (next:∀ a' w',StF M0 w0 n (put d e g) a' w'->K a' w'):wpOpIn (Fr rr) 0 P ops Q i K a w:=by
 have rd:∀ op Γx,(∀ t,t∈Av op->t∈Az ops o)->(∀ t e',Ao Γx t=some e'->∃ F,e'.p F M w (a.eval (.tmp t)))->Rd (Ao (Bx (Av op) Δi ++ Γx)) M w a.eval:=by
  intro op Γx hsub hx;refine ⟨λt x hx'=>?_,hst.rd.con,hst.rd.fn,hst.rd.bd,hst.rd.glo⟩;rcases Eh hx' with h5 | h5
  ·let ⟨h6,h7⟩:=Bp h5;exact hst.rd.tmp t x (hnm t (hsub t h6) x h7)
  ·exact hx t x h5
 unfold wpOpIn;simp only [ho];obtain ⟨Γx,hE',h⟩:∃ Γx:Cx,(∀ t e',Ao Γx t=some e'->∃ F,e'.p F M w (a.eval (.tmp t)))/\RuleAt P ops Γx Δi o d e:=by
  cases h with
  | late hi h=>exact ⟨Γf,hL hi,h⟩
  | early hi h=>exact ⟨Γ,λt e' he=>hst.rd.tmp t e' (hE hi t e' (λ_=>.inr trivial) he),h⟩
 ·clear hE hL;cases h with
  | plain ho' hr=>
   subst ho';simp only [Region.wanted,if_true];refine (Bk.upon ((hr _ _ _ _ a.eval M w (rd _ _ (λt ht=>LD _ ht) hE')).mono λv w' hg=>?_));exact next _ _ (hst.gives hg hdn)
  | guarded ho' hj hl hr=>
   rename_i j dj b want op ty pos ag e';subst ho';have hdj:dj∈Az ops ⟨some d,op,ty,pos,ag,some (j,want)⟩:=by
    refine LC _ ?_;simp only [hj];simp
   have hyb:=Bn hj (Va.bool (hst.holds dj _ (hnm dj hdj _ hl)));by_cases hbw:b=want
   ·rw [if_pos (by simp [Region.wanted,hyb,hbw])];refine (Bk.upon ((hr hbw _ _ _ _ a.eval M w (rd _ _ (λt ht=>LD _ ht) hE')).mono λv w' hg=>?_));refine next _ _ (hst.gives ⟨hg.1,?_⟩ hdn);let ⟨F,hF1,hF2,hF3⟩:=hg.2;exact ⟨F,hF1,hF2,λ_=>hF3,λhne=>absurd hbw hne⟩
   ·rw [if_neg (by simp [Region.wanted,hyb,hbw])];refine ⟨λ_ _=>trivial,?_⟩;exact next _ _ (hst.gives ⟨Ext.refl _ _,[],L5,λk hk=>by simp at hk,λh=>absurd h hbw,λ_=>⟨rfl,rfl⟩⟩ hdn)
  | nested ho' hj hl hr=>
   rename_i j dj b c b2 want op ty pos ag e';subst ho';have hdj:dj∈Az ops ⟨some d,op,ty,pos,ag,some (j,want)⟩:=by
    refine LC _ ?_;simp only [hj];simp
   have hgd:=hst.holds dj _ (hnm dj hdj _ hl);by_cases hbc:b=c
   ·have hyb:=Bn hj (Va.bool (hgd.1 hbc));by_cases hbw:b2=want
    ·rw [if_pos (by simp [Region.wanted,hyb,hbw])];refine (Bk.upon ((hr hbc hbw _ _ _ _ a.eval M w (rd _ _ (λt ht=>LD _ ht) hE')).mono λv w' hg=>?_));refine next _ _ (hst.gives ⟨hg.1,?_⟩ hdn);let ⟨F,hF1,hF2,hF3⟩:=hg.2;exact ⟨F,hF1,hF2,λ_=>hF3,λhne=>absurd (by simp [hbc,hbw]) hne⟩
    ·rw [if_neg (by simp [Region.wanted,hyb,hbw])];refine ⟨λ_ _=>trivial,?_⟩;exact next _ _ (hst.gives ⟨Ext.refl _ _,[],L5,λk hk=>by simp at hk,λh=>absurd (by simpa using h) (λh':b=c/\b2=want=>hbw h'.2),λ_=>⟨rfl,rfl⟩⟩ hdn)
   ·have hyb:=Dt hj (hgd.2 hbc).2;rw [if_neg (by simp [Region.wanted,hyb])];refine ⟨λ_ _=>trivial,?_⟩;exact next _ _ (hst.gives ⟨Ext.refl _ _,[],L5,λk hk=>by simp at hk,λh=>absurd (by simpa using h) (λh':b=c/\b2=want=>hbc h'.1),λ_=>⟨rfl,rfl⟩⟩ hdn)
def qa (ops:Array Oper) (es:P1):P1:=es.filterMap λi=>(ops[i]?).bind (·.dst)
def Ig (P:Program) (M0:Fm) (w0:World) (n:Nat) (ops:Array Oper) (Q:Exit->Act->World->Prop) (Γ Γf Δ:Cx) (ts es ue ul ld:P1) (tl:List (Nat×P1)) (listed:Array Bool) (a:Act) (w:World):Prop:=
 ((∀ i∈ts,listed.getD i false=false)/\StF M0 w0 n (gA ops Γ Δ ts listed) a w/\TP (rr:=rr) P M0 w0 n ops Q Γf Δ ts ue ul ld tl [] (λΨ=>Bx (qa ops es) Δ ++ (Γ ++ Ψ))) \/
 ∃ is dn Θ pre,ts=pre ++ is.map (·.1)/\(∀ i∈is.map (·.1),listed.getD i false=false)/\(∀ i∈pre,listed.getD i false=true)/\(∀ i∈es,listed.getD i false=true)/\(∀ d∈dn,Ll ops ts es listed d)/\StF M0 w0 n (gB ops Δ ts es (Θ []) listed) a w/\TP (rr:=rr) P M0 w0 n ops Q Γf Δ ts ue ul ld is dn Θ
theorem Rg.toB (h:Rg P ops Γ Γf Δ ts es ue ul ld n) {tl:List (Nat×P1)} (htl:tl.map (·.1)=ts) {listed:Array Bool} {a:Act} {w:World} (hes:∀ i∈es,listed.getD i false=true/\ts.contains i=false)
  (hi:Ig (rr:=rr) P M0 w0 n ops Q Γ Γf Δ ts es ue ul ld tl listed a w):∃ is dn Θ pre,ts=pre ++ is.map (·.1)/\(∀ i∈is.map (·.1),listed.getD i false=false)/\(∀ i∈pre,listed.getD i false=true)/\(∀ i∈es,listed.getD i false=true)/\(∀ d∈dn,Ll ops ts es listed d)/\StF M0 w0 n (gB ops Δ ts es (Θ []) listed) a w/\TP (rr:=rr) P M0 w0 n ops Q Γf Δ ts ue ul ld is dn Θ:=by
 rcases hi with ⟨h1,h2,h3⟩ | h1
 ·refine ⟨tl,[],_,[],by simp [htl],by rw [htl];exact h1,λi hi=>by simp at hi,λi hi=>(hes i hi).1,λd hd=>by simp at hd,h2.less λt e he=>?_,h3⟩;unfold gB at he;unfold gA;split at he
  ·rename_i e' he';cases he
   rcases Eh he' with h5 | h5
   ·let ⟨h6,h7⟩:=Bp h5;unfold qa at h6;let ⟨j,hj,hjd⟩:=NW.1 h6;cases hoj:ops[j]? with
    | none=>simp [hoj] at hjd
    | some oj=>
     simp only [hoj,NR] at hjd;rw [if_pos ⟨j,(hes j hj).2,(hes j hj).1,oj,hoj,hjd⟩];exact h7
   ·rw [LP] at h5;rw [if_neg]
    ·exact h5
    ·rintro ⟨j,hjt,hjl,oj,hoj,hjd⟩;have hjs:j < ops.size:=(KS.1 hoj).1;let ⟨_,o',d',e'',ho',hd',hl',_⟩:=h.flt hjs hjt;rw [hoj] at ho';cases ho'
     rw [hjd] at hd';cases hd'
     have:=h.dj _ (Eg hl');rw [this] at h5;cases h5
  ·split at he
   ·rename_i hl;let ⟨j,q1,_,q2,q3⟩:=hl;rw [if_pos ⟨j,q1,q2,q3⟩];exact he
   ·cases he
 ·exact h1
theorem ka (h:Rg P ops Γ Γf Δ ts es ue ul ld n) {tl:List (Nat×P1)} (htl:tl.map (·.1)=ts) (hest:∀ i∈es,i < ops.size/\ts.contains i=false) :
  ∀ (fuel:Nat) (listed:Array Bool) (a:Act) (w:World),listed.toList.count false<=fuel->listed.size=ops.size ->
   (∀ i o,ops[i]?=some o->listed.getD i false=true->∀ e∈o.after,Region.binds .any e=true->listed.getD e.on false=true)->Ig (rr:=rr) P M0 w0 n ops Q Γ Γf Δ ts es ue ul ld tl listed a w->wpAnyIn (Fr rr) 0 P .any ops Q fuel listed a w:=by
 -- when all are listed
 have fin:∀ (listed:Array Bool) (a:Act) (w:World),(∀ i,i < ops.size->listed.getD i false=true)->Ig (rr:=rr) P M0 w0 n ops Q Γ Γf Δ ts es ue ul ld tl listed a w->Q .normal a w:=by
  intro listed a w hall hI;let ⟨is,dn,Θ,pre,q1,q2,q3,q4,q5,q6,q7⟩:=h.toB htl (λi hi=>⟨hall i (hest i hi).1,(hest i hi).2⟩) hI;cases is with
  | cons p is=>
   exfalso;have h1:=q2 p.1 ai;have h2:=h.rng p.1 (by rw [q1];simp);rw [hall _ h2] at h1;cases h1
  | nil=>
   let ⟨hs,hq⟩:=q7;refine hq a w (q6.less λt e he=>?_);rw [hs.1] at he;unfold gB;cases hl:Ao (Θ []) t with
   | some e'=>
    rw [Cc hl] at he;simpa using he
   | none=>
    rw [Bm hl] at he;let ⟨h6,h7⟩:=Bp he;let ⟨j,_,hjt,oj,hoj,hjd⟩:=h.fg.ent _ (Eg h7);have hjs:j < ops.size:=(KS.1 hoj).1;have hje:es.contains j=false:=by
     cases hc:es.contains j
     ·rfl
     ·exfalso;have hu:=KW.1 h.use j (KX.2 hjs);simp only [hoj,hjt,hc,hjd,M8,Bool.true_or,M3,MT,NL] at hu;simp at hu;exact hu h6
    simp only [];rw [if_pos ⟨j,hjt,hje,hall j hjs,oj,hoj,hjd⟩];exact h7
 have all_of:∀ (listed:Array Bool),listed.size=ops.size->listed.toList.count false=0->∀ i,i < ops.size->listed.getD i false=true:=by
  intro listed hs hc i hi;have:=PX.1 hc;cases hb:listed.getD i false
  ·exfalso;refine this ?_;have hi':i < listed.size:=by omega
   have:listed[i]=false:=by simpa [KN,hi'] using hb
   rw [← this];simp
  ·rfl
 intro fuel
 induction fuel with
 | zero=>
  intro listed a w h1 h2 hcl hI;have hall:=all_of listed h2 aa;refine ⟨?_,fin listed a w hall hI⟩;cases hrd:Region.ready .any ops listed with
  | nil=>rfl
  | cons x xs=>
   have hx:x∈Region.ready .any ops listed:=by rw [hrd];exact LO ..
   let ⟨hx1,hx2,_⟩:=Ba.1 hx;have:=hall x hx1;simp [KN,h2,hx1] at this hx2;rw [this] at hx2;cases hx2
 | succ fuel ih=>
  intro listed a w h1 h2 hcl hI;refine ⟨λhnil=>?_,λi hi=>?_⟩
  ·refine fin listed a w ?_ hI;refine Classical.byContradiction λhc=>?_;have hex:∃ i,i < ops.size/\listed.getD i false=false:=by
    refine Classical.byContradiction λhc'=>hc λi hi=>?_;cases hb:listed.getD i false
    ·exact absurd ⟨i,hi,hb⟩ hc'
    ·rfl
   let ⟨i,hi,hb⟩:=hex;have hleast:∃ i,i < ops.size/\listed.getD i false=false/\∀ j,j < i->listed.getD j false=true:=by
    induction i using Nat.strongRecOn with
    | _ i ihi=>
     by_cases hj:∃ j,j < i/\listed.getD j false=false
     ·let ⟨j,hji,hjb⟩:=hj;exact ihi j hji aa hjb
     ·refine ⟨i,hi,hb,λj hji=>?_⟩;cases hb':listed.getD j false
      ·exact absurd ⟨j,hji,hb'⟩ hj
      ·rfl
   let ⟨i,hi,hb,hj⟩:=hleast;have ho:ops[i]?=some ops[i]:=L4 hi;have hin:i∈Region.ready .any ops listed:=Ba.2 ⟨hi,by simpa [KN,h2,hi] using hb,_,ho,λe he hb'=>hj _ ((H0 h.ok ho).1 e he hb')⟩;rw [hnil] at hin;simp at hin
  ·let ⟨hio,hil,o,ho,hdeps⟩:=Ba.1 hi;have hil':listed.getD i false=false:=by simpa [KN,h2,hio] using hil
   have his:i < listed.size:=by omega
   have hset:=λj=>HY (listed:=listed) (j:=j) his;have hcount:(listed.setIfInBounds i true).toList.count false<=fuel:=by
    have hgi0:listed[i]=false:=by simpa [KN,his] using hil'
    have hlt:i < listed.toList.length:=by simpa using his
    have hgi:listed.toList[i]=false:=by simpa using hgi0
    have hpos:0 < listed.toList.count false:=O1.2 (by rw [← hgi];exact KV _);rw [OZ,List.count_set hlt,hgi];rw [show ((true:Bool) == false)=false from rfl,show ((false:Bool) == false)=true from rfl];rw [if_pos rfl,if_neg (by decide)];omega
   have hcl':∀ j oj,ops[j]?=some oj->(listed.setIfInBounds i true).getD j false=true->∀ e∈oj.after,Region.binds .any e=true->(listed.setIfInBounds i true).getD e.on false=true:=by
    intro j oj hoj hlj ed he hb;rw [hset];split
    ·rfl
    ·rw [hset] at hlj;split at hlj
     ·rename_i hji;subst hji;rw [ho] at hoj;cases hoj
      exact hdeps ed he hb
     ·exact hcl j oj hoj hlj ed he hb
   have mono:∀ j,listed.getD j false=true->(listed.setIfInBounds i true).getD j false=true:=λj hj=>by rw [hset]; split <;> simp_all
   by_cases ht:ts.contains i=true
   ·-- one that does not float
    let ⟨_,hf2,_⟩:=H0 h.ok ho;let ⟨t1,t2,t3,t4⟩:=hf2 ht;have hreach:∀ j,Eo ops ops.size i j=true->listed.getD j false=true:=λj hj=>Ca hcl ops.size i j o ho hdeps hj;let ⟨is,dn,Θ,pre,q1,q2,q3,q4,q5,q6,q7⟩:=h.toB htl (λj hj=>⟨hreach j (t4 j hj).1,(hest j hj).2⟩) hI;have him:i∈ts:=by simpa using ht
    have hiis:i∈is.map (·.1):=by
     rw [q1] at him;rcases LA.1 him with h5 | h5
     ·rw [q3 i h5] at hil';cases hil'
     ·exact h5
    cases is with
    | nil=>simp at hiis
    | cons p is=>
     let ⟨i0,gs⟩:=p;have hi0:i=i0:=by
      refine Classical.byContradiction λhne=>?_;have hi0m:i0∈ts:=by rw [q1];simp
      have hlt:i0 < i:=by
       have hs:=h.srt;rw [q1] at hs;have hs2:=(List.pairwise_append.1 hs).2.1;simp only [K4,NK] at hs2;refine hs2.1 i ?_;simp only [K4,K8] at hiis;exact hiis.resolve_left hne
      have:=hreach i0 (t3 i0 hi0m hlt);rw [q2 i0 ai] at this;cases this
     subst hi0;let ⟨hs,hgs,o',ho',hstep⟩:=q7;rw [ho] at ho';cases ho'
     have glate:∀ d∈gs,∀ j,ts.contains j=false->DK ops j d->listed.getD j false=true:=λd hd j hjt ⟨oj,hoj,hjd⟩=>by
      have h5:=KW.1 hgs d hd;simp only [KU] at h5;have h6:=KW.1 h5.2 j (KX.2 (KS.1 hoj).1);simp only [hjt,hoj,NR,hjd,M8] at h6;simp at h6;exact hreach j h6
     have late_of:∀ d,ld.contains d=true->∀ j,ts.contains j=false->DK ops j d->es.contains j=false:=λd hd j hjt ⟨oj,hoj,hjd⟩=>by
      cases hc:es.contains j
      ·rfl
      ·exfalso;have hu:=KW.1 h.use j (KX.2 (KS.1 hoj).1);simp only [hoj,hjt,hc,hjd,M8,Bool.true_or,M3,MT,NL] at hu;simp at hu;simp at hd;exact hu hd
     classical
     let Ψ:Cx:=Δ.filter λx=>decide (Ll ops ts es listed x.1)
     have hΨ:∀ t,Ao Ψ t=if Ll ops ts es listed t then Ao Δ t else none:=λt=>by
      have:=Qs (t:=t) (p:=λt=>decide (Ll ops ts es listed t)) (Γ:=Δ);simpa using this
     have hst:St M0 w0 n (Θ (Bx gs Δ ++ Ψ)) a w:=q6.less λt e he=>by
      rw [hs.1] at he;unfold gB;cases hl:Ao (Θ []) t with
      | some e'=>rw [Cc hl] at he;simpa using he
      | none=>
       rw [Bm hl] at he;simp only [];rcases Eh he with h5 | h5
       ·let ⟨h6,h7⟩:=Bp h5;let ⟨j,_,hjt,hop⟩:=h.fg.ent _ (Eg h7);have hld:ld.contains t=true:=by
         have:=KW.1 hgs t h6;simp only [KU] at this;exact this.1.1
        rw [if_pos ⟨j,hjt,late_of t hld j hjt hop,glate t h6 j hjt hop,hop⟩];exact h7
       ·rw [hΨ] at h5;exact h5
     have hwp:=hstep Ψ a w hst;have hop1:o.wpIn (Fr rr) 0 P a w (λa' w'=>∃ Θ',TP (rr:=rr) P M0 w0 n ops Q Γf Δ ts ue ul ld is (gs ++ dn) Θ'/\St M0 w0 n (Θ' Ψ) a' w') Q:=by
      unfold wpListIn at hwp;rw [if_pos (by unfold Region.wanted;rw [t1])] at hwp;unfold Oper.wpIn at hwp ⊢;rw [CP] at hwp;exact hwp
     unfold wpOpIn;simp only [ho];rw [if_pos (by unfold Region.wanted;rw [t1])];refine Oper.wpIn_mono (λa' w' hk=>?_) hop1;let ⟨Θ',hT,hS⟩:=hk;refine ih _ a' w' hcount (by simp [h2]) hcl' (.inr ⟨is,gs ++ dn,Θ',pre ++ [i],by rw [q1];simp,λj hj=>?_,λj hj=>?_,λj hj=>mono j (q4 j hj),λd hd=>?_,hS.less λt e he=>?_,hT⟩)
     ·rw [hset];split
      ·rename_i hji;subst hji;exfalso;have hs':=h.srt;rw [q1] at hs';have hs2:=(List.pairwise_append.1 hs').2.1;simp only [K4,NK] at hs2;exact absurd (hs2.1 _ hj) (N3 _)
      ·exact q2 j (by simp only [K4];exact LK _ hj)
     ·rcases LA.1 hj with h5 | h5
      ·exact mono j (q3 j h5)
      ·simp at h5;subst h5;rw [hset];simp
     ·rcases LA.1 hd with h5 | h5
      ·have h6:=KW.1 hgs d h5;simp only [KU] at h6
       -- it is the key of a late one
       have hdl:=h6.1.1;have:∃ j,ts.contains j=false/\DK ops j d:=by
        let ⟨j,hj,hb⟩:=K1.1 h6.1.2;simp only [KU,LT,beq_iff_eq] at hb;let ⟨oj,hoj,hjd⟩:=MH.1 hb.2;exact ⟨j,hb.1,oj,hoj,hjd⟩
       let ⟨j,hjt,hop⟩:=this;exact ⟨j,hjt,late_of d hdl j hjt hop,mono j (glate d h5 j hjt hop),hop⟩
      ·let ⟨j,r1,r2,r3,r4⟩:=q5 d h5;exact ⟨j,r1,r2,mono j r3,r4⟩
     ·have hT':dN Γf Δ ue ul ld Θ' (gs ++ dn):=by
       cases is with
       | nil=>exact hT.1
       | cons p is=>exact hT.1
      rw [hT'.1];unfold gB at he;split at he
      ·rename_i e' he';cases he;exact Cc he'
      ·rename_i he';split at he
       ·rename_i hl;let ⟨j,r1,r2,r3,r4⟩:=hl;rw [Bm he',hΨ,if_pos]
        ·exact he
        ·refine ⟨j,r1,r2,?_,r4⟩;rw [hset] at r3;split at r3
         ·rename_i hji;subst hji;rw [ht] at r1;cases r1
         ·exact r3
       ·cases he
   ·-- one that floats
    have ht':ts.contains i=false:=by simpa using ht
    let ⟨Δi,o',d,e,ho',hd,hlk,hdn,hrule,hnm,hdep⟩:=h.flt hio ht';rw [ho] at ho';cases ho'
    have depl:∀ j,cI o j=true->listed.getD j false=true:=λj hj=>by
     unfold cI at hj;simp only [OY,KU,beq_iff_eq] at hj;obtain ⟨ed,h9,h10,rfl⟩:=hj;exact hdeps ed h9 h10
    rcases hI with ⟨b1,b2,b3⟩ | ⟨is,dn,Θ,pre,q1,q2,q3,q4,q5,q6,q7⟩
    ·let ⟨M,φ,hst⟩:=b2;have key:∀ t e',Ao Γ t=some e'->gA ops Γ Δ ts listed t=some e':=λt e' he'=>by
      unfold gA;rw [if_neg]
      ·exact he'
      ·rintro ⟨j,hjt,hjl,oj,hoj,hjd⟩;let ⟨_,o2,d2,e2,ho2,hd2,hl2,_⟩:=h.flt (KS.1 hoj).1 hjt;rw [hoj] at ho2;cases ho2
       rw [hjd] at hd2;cases hd2
       have:=h.dj _ (Eg hl2);rw [this] at he';cases he'
     refine hrule.run ho hdn hst (λt ht2 e' he'=>?_) (λ_ t e' _ he'=>key t e' he') (λ_ t e' he'=>Sw.rd hst key h.sb he') λa' w' hs'=>?_
     ·rw [hnm t ht2] at he';let ⟨j,r1,r2,r3,r4⟩:=hdep t ht2 e' he';unfold gA;rw [if_pos ⟨j,r2,depl j r4,r3⟩];exact he'
     ·refine ih _ a' w' hcount (by simp [h2]) hcl' (.inl ⟨λj hj=>?_,hs'.less λt e' he'=>?_,b3⟩)
      ·rw [hset];split
       ·rename_i hji;subst hji;simp at ht';exact absurd hj ht'
       ·exact b1 j hj
      ·unfold gA at he';simp only [put];by_cases htd:t=d
       ·subst htd;rw [if_pos rfl];rw [if_pos ⟨i,ht',by rw [hset];simp,o,ho,hd⟩,hlk] at he';exact he'
       ·rw [if_neg htd];unfold gA;by_cases hls:Ls ops ts listed t
        ·rw [if_pos hls];let ⟨j,r1,r2,r3⟩:=hls;rw [if_pos ⟨j,r1,mono j r2,r3⟩] at he';exact he'
        ·rw [if_neg hls];rw [if_neg] at he'
         ·exact he'
         ·rintro ⟨j,r1,r2,r3⟩;rw [hset] at r2;split at r2
          ·rename_i hji;subst hji;let ⟨oj,hoj,hjd⟩:=r3;rw [ho] at hoj;cases hoj
           rw [hd] at hjd;exact htd (Option.some.inj hjd).symm
          ·exact hls ⟨j,r1,r2,r3⟩
    ·let ⟨M,φ,hst⟩:=q6;have hside:dN Γf Δ ue ul ld Θ dn:=by
      cases is with
      | nil=>exact q7.1
      | cons p is=>exact q7.1
     let ⟨s1,s2,s345⟩:=hside;have hie:es.contains i=false:=by
      cases hc:es.contains i
      ·rfl
      ·have:=q4 i (by simpa using hc);rw [hil'] at this;cases this
     have hu:=KW.1 h.use i (KX.2 hio);simp only [ho,ht',hie,hd,M8,OC,Bool.true_or,NL,KU] at hu;let ⟨hld,huse⟩:=hu;have hndn:¬ (ld.all λd=>dn.contains d)=true:=λhall=>by
      have h5:=KW.1 hall d (by simpa using hld);let ⟨j,r1,r2,r3,r4⟩:=q5 d (by simpa using h5);have:=h.uniq r1 ht' r4 ⟨o,ho,hd⟩;subst this;rw [hil'] at r3;cases r3
     let ⟨s3,s4,s5⟩:=s345.resolve_left hndn;have hlk0:Ao (Θ []) d=none:=by
      have:=KW.1 s2 d (by simpa using hld);simp only [M9,Option.isNone_iff_eq_none] at this;rcases this with h5 | h5
      ·exfalso;let ⟨j,r1,r2,r3,r4⟩:=q5 d (by simpa using h5);have:=h.uniq r1 ht' r4 ⟨o,ho,hd⟩;subst this;rw [hil'] at r3;cases r3
      ·exact h5
     have inopt:∀ t∈Az ops o,∀ j,ts.contains j=false->DK ops j t->(if es.contains j then ue.contains t else ul.contains t)=true:=λt ht2 j hjt ⟨oj,hoj,hjd⟩=>by
      have h5:=KW.1 huse t ht2;have h6:=KW.1 h5 j (KX.2 (KS.1 hoj).1);simp only [hjt,hoj,NR,hjd,M8] at h6;simpa using h6
     refine hrule.run ho hdn hst (λt ht2 e' he'=>?_) (λhE=>by rw [hie] at hE;cases hE) (λ_ t e' he'=>?_) λa' w' hs'=>?_
     ·rw [hnm t ht2] at he';let ⟨j,r1,r2,r3,r4⟩:=hdep t ht2 e' he';have h5:=inopt t ht2 j r2 r3;unfold gB;cases hc:es.contains j
      ·rw [hc] at h5;have h6:t∈ul:=by simpa using h5
       rcases s5.get (t:=t) (e:=e') (by rw [Gb h6];exact he') with h7 | h7
       ·rw [h7];simp only [];rw [if_pos ⟨j,r2,hc,depl j r4,r3⟩];exact he'
       ·rw [h7]
      ·rw [hc] at h5;have h6:t∈ue:=by simpa using h5
       rw [s4.get (t:=t) (e:=e') (by rw [Gb h6];exact he')]
     ·exact Sw.rd hst (λt e h=>by unfold gB;rw [h]) s3 he'
     ·refine ih _ a' w' hcount (by simp [h2]) hcl' (.inr ⟨is,dn,Θ,pre,q1,λj hj=>?_,λj hj=>mono j (q3 j hj),λj hj=>mono j (q4 j hj),λd hd=>?_,hs'.less λt e' he'=>?_,q7⟩)
      ·rw [hset];split
       ·rename_i hji;subst hji;have:j∈ts:=by rw [q1];exact LC _ hj
        simp at ht';exact absurd this ht'
       ·exact q2 j hj
      ·let ⟨j,r1,r2,r3,r4⟩:=q5 d hd;exact ⟨j,r1,r2,mono j r3,r4⟩
      ·unfold gB at he';simp only [put];by_cases htd:t=d
       ·subst htd;rw [if_pos rfl];rw [hlk0] at he';simp only [] at he';rw [if_pos ⟨i,ht',hie,by rw [hset];simp,o,ho,hd⟩,hlk] at he';exact he'
       ·rw [if_neg htd];unfold gB;cases hl0:Ao (Θ []) t with
        | some e0=>rw [hl0] at he';simpa using he'
        | none=>
         rw [hl0] at he';simp only [] at he' ⊢;by_cases hls:Ll ops ts es listed t
         ·rw [if_pos hls];let ⟨j,r1,r2,r3,r4⟩:=hls;rw [if_pos ⟨j,r1,r2,mono j r3,r4⟩] at he';exact he'
         ·rw [if_neg] at he'
          ·cases he'
          ·rintro ⟨j,r1,r2,r3,r4⟩;rw [hset] at r3;split at r3
           ·rename_i hji;subst hji;let ⟨oj,hoj,hjd⟩:=r4;rw [ho] at hoj;cases hoj
            rw [hd] at hjd;exact htd (Option.some.inj hjd).symm
           ·exact hls ⟨j,r1,r2,r3,r4⟩
theorem Bb [hmx:Mx P] {id:Nat} {a:Act} {w:World} (Γf:Cx) (es ed ue ul ld:P1) (tl:List (Nat×P1)) (hs:St M0 w0 n Γ a w) (hfg:Fg P ops Γ Γf (tl.map (·.1)) es ops.size Δ) (hok:gc ops (tl.map (·.1)) es=true) (huse:gX ops (tl.map (·.1)) es ue ul ld=true)
  (hdj:Δ.all (λx=>(Ao Γ x.1).isNone)=true) (hn:Δ.all (λx=>Nat.blt x.1 n)=true) (hsb:Sw (Ao Γ) Γf)
  (hrg:((tl.map (·.1)).all λi=>Nat.blt i ops.size)=true) (hst:(tl.map (·.1)).Pairwise (· < ·)) (hes:(es.all λi=>Nat.blt i ops.size && !(tl.map (·.1)).contains i)=true)
  (hed:qa ops es=ed) (K:TP (rr:=rr) P M0 w0 n ops Q Γf Δ (tl.map (·.1)) ue ul ld tl [] (λΨ=>Bx ed Δ ++ (Γ ++ Ψ))):(Code.region id ops true).wpIn (Fr rr) 0 P Q a w:=by (subst hed;have hR:Rg P ops Γ Γf Δ (tl.map (·.1)) es ue ul ld n:=⟨hok,huse,hfg,λx hx=>by simpa using KW.1 hdj x hx,λx hx=>KY (KW.1 hn x hx),hsb,λi hi=>KY (KW.1 hrg i hi),hst⟩;have hest:∀ i∈es,i < ops.size/\(tl.map (·.1)).contains i=false:=λi hi=>by have:=KW.1 hes i hi;simp only [KU,LT] at this;exact ⟨Nat.le_of_ble_eq_true this.1,this.2⟩);refine wpIn_region_any hmx.mixed (ka hR rfl hest ops.size _ a _ ?_ ai (λi o ho hl=>?_) (.inl ⟨λi hi=>?_,?_,K⟩));refine LW OT ?_;simp;have hi:i < ops.size:=(KS.1 ho).1;simp [KN,hi] at hl;have:=hR.rng i hi;simp [KN,this];let ⟨M,φ,h⟩:=hs;have h2:StF M0 w0 n (Ao Γ) a { w with drawn:=w.drawn + 1 }:=⟨M,φ,λt e he=>Ent.st _ (h.holds t e he) (Ext.drawn _ _ _ (NV _ _)),h.own,h.apart,h.sub,h.bd,h.fr.trans (Ext.drawn _ _ _ (NV _ _)),h.sz,h.df⟩;refine StF.less h2 λt e he=>?_;unfold gA at he;rw [if_neg] at he;exact he;rintro ⟨j,_,hj,oj,hoj,_⟩;have hi:j < ops.size:=(KS.1 hoj).1;simp [KN,hi] at hj
theorem aZ {ue ul ld:P1} {is:List (Nat×P1)} {dn:P1} {Γ' Φ:Cx} (Ψ:Cx) {a:Act} {w:World} (s:St M0 w0 n Γ' a w) [e:Pf Γ' Φ Ψ] (h:TP (rr:=rr) P M0 w0 n ops Q Γf Δ ts ue ul ld is dn (λΨ=>Φ ++ Ψ)):∃ Θ',TP (rr:=rr) P M0 w0 n ops Q Γf Δ ts ue ul ld is dn Θ'/\St M0 w0 n (Θ' Ψ) a w:=⟨_,h,by have:=e.eq;subst this;exact s⟩
end
end
section
def Cdl (Γ:Cx):List Operand->P2->Prop
 | [],[]=>True
 | x :: xs,c :: cs=>(Od Γ x (Qv c)/\Oc Γ c)/\Cdl Γ xs cs
 | _,_=>False
def Kh (j:Nat) (cs:P2):Value:=cs.getD j undef
section
variable {P:Program} {M0:Fm} {w0:World} {n:Nat} {Γ:Cx} {Q:Exit->Act->World->Prop} {a:Act} {w:World} {ty:TypeId}
theorem cd0:Cdl Γ [] []:=trivial
theorem cd1 {x:Operand} {c:Value} {xs:List Operand} {cs:P2} (h:Od Γ x (Qv c)) (h1:Oc Γ c) (r:Cdl Γ xs cs):Cdl Γ (x :: xs) (c :: cs):=⟨⟨h,h1⟩,r⟩
theorem Cdl.map {ρ:Operand->Value} {M:Nat->Prop} {w:World} (rd:Rd (Ao Γ) M w ρ):∀ {xs:List Operand} {cs:P2},Cdl Γ xs cs->xs.map ρ=cs/\(∀ c∈cs,c.oneCell'=true)/\xs.length=cs.length
 | [],[],_=>⟨rfl,λc hc=>by simp at hc,rfl⟩
 | _ :: _,_ :: _,⟨⟨h,h1⟩,r⟩=>by
  let ⟨_,_,hv⟩:=h ρ M w rd;let ⟨r1,r2,r3⟩:=r.map rd;refine ⟨by rw [K4,hv,r1],λc hc=>?_,by simp [r3]⟩;rcases K8.1 hc with rfl | hc
  ·exact h1 ρ M w rd
  ·exact r2 c hc
theorem Ve:∀ {cs:P2},(∀ c∈cs,c.oneCell'=true)->eO 1 cs (cs.map λc=>[c])
 | [],_=>trivial
 | c :: cs,h=>by
  have h1:=h c (LO ..);refine ⟨?_,rfl,Ve λd hd=>h d (LK _ hd)⟩;cases c <;> first | rfl | simp [Value.oneCell'] at h1
theorem kz {T e len:Nat} {parts:Array (Nat×Operand)} {xs:List Operand} {cs z:P2} (hp:parts.toList=bA 0 xs) (h:Cdl Γ xs cs) (hT:P.underlying T=some (.array len e)) (hz:(P.info? T).map (·.zero)=some (some (.agg z.toArray))) (he:(P.info? e).map (·.size)=some 1) (hl:z.length=cs.length) :
  OR P (.build T parts) ty Γ (Qa cs):=by
 refine OR.val λρ M w r=>?_;let ⟨h1,h2,h3⟩:=h.map r;refine ⟨.agg cs.toArray,λ_ _ _ _=>?_,rfl,rfl,h2⟩;cases hi:P.info? T with
 | none=>simp [hi] at hz
 | some i=>
  cases hie:P.info? e with
  | none=>simp [hie] at he
  | some ie=>
   simp only [hi,hie,Option.map_some,Option.some.injEq] at hz he;have hpm:(parts.map λ(i,x)=>(i,ρ x)).toList=bA 0 cs:=by
    rw [NA,hp];have:∀ (l:List Operand) (k:Nat),List.map (λ(x:Nat×Operand)=>(x.1,ρ x.2)) (bA k l)=bA k (l.map ρ):=by
     intro l
     induction l with
     | nil=>intro k;rfl
     | cons x l ih=>intro k;simp [bA,ih]
    rw [← h1];exact this xs 0
   have hfl:=Jt (sz:=1) (vs:=cs) (cs:=cs.map λc=>[c]) (z:=z) (k:=0) (Ve h2) aa;have hfl2:(cs.map λc=>[c]).flatten=cs:=by
    clear hfl hpm h h1 h2 h3 hl hz
    induction cs with
    | nil=>rfl
    | cons c cs ih=>simp [ih]
   rw [hfl2] at hfl;simp only [MJ,M5,Nat.zero_mul,OB,MQ] at hfl;rw [LF aa,LP] at hfl;simp only [execOp,Instr.build,zeroValue,typeInfo,KJ,run_program,KE,hi,KQ,hz,run_underlying hT,sizeOf,hie,he,Value.cells,hpm];simp only [M5];rw [hfl];rfl
theorem aix {T e len:Nat} {x i:Operand} {m y:Int} {xs:PZ} {cs:P2} (h:Od Γ x (Qa cs)) (hi:Od Γ i (Va m)) (hT:P.underlying T=some (.array len e)) (he:(P.info? e).map (·.size)=some 1) (ha:(P.underlying e).map Br=some false) (hl:xs.length=len) (hc:cs=xs.map λz=>.int .i64 z) (hy:idx xs m=some y):OR P (.index T x i) ty Γ (Va y):=by
 refine OR.val λρ M w r=>?_;let ⟨_,_,hv,_⟩:=h ρ M w r;let ⟨_,h2⟩:=hi ρ M w r;let ⟨h0,hlt,hg⟩:=Au hy;refine ⟨.int .i64 y,λ_ _ _ _=>?_,Va.mkInt⟩;have hr:(sizeOf e).run P w=.ok 1 w:=by
  cases hie:P.info? e with
  | none=>simp [hie] at he
  | some i=>simp [hie] at he;simp [sizeOf,typeInfo,hie,he]
 have hp:=Bh (P:=P) (T:=e) (xs:=cs.toArray) (o:=m.toNat) (v:=.int .i64 y) (w:=w) ha (by
  rw [hc];simp [hg])
 subst hl;simp only [execOp,hv,Va.int h2,Instr.index,KJ,asIntOf,KQ,KE,run_underlying hT];simp [h0,hlt,hr,hp]
theorem jG {T e len off:Nat} {x i:Operand} {b:Nat} {m:Int} {j:Nat} (h:Od Γ x (Qv (pb b off))) (hi:Od Γ i (Va m)) (hA:P.underlying T=some (.array len e)) (he:(P.info? e).map (·.size)=some 1) (hy:idx (List.range len) m=some j):OR P (.indexAddr T x i) ty Γ (Qv (pb b (off + j))):=by
 refine OR.val λρ M w r=>?_;let ⟨_,_,hv⟩:=h ρ M w r;let ⟨_,h2⟩:=hi ρ M w r;let ⟨h0,hlt,hg⟩:=Au hy;simp only [L7] at hlt;have hj:m.toNat=j:=by
  rw [K6 aa] at hg;exact Option.some.inj hg
 have hr:(sizeOf e).run P w=.ok 1 w:=by
  cases hie:P.info? e with
  | none=>simp [hie] at he
  | some i=>simp [hie] at he;simp [sizeOf,typeInfo,hie,he]
 refine ⟨pb b (off + j),λ_ _ _ _=>?_,rfl,rfl⟩;simp only [execOp,hv,Va.int h2,Instr.indexAt,KJ,asIntOf,KQ,KE,run_underlying hA];simp [h0,hlt,Instr.sureAddr,hr,hj,Bo]
theorem jE {T K b off j len:Nat} {x:Operand} {cs ds:P2} (h:Od Γ x (Qv (pb b (off + j)))) (hk:Ao Γ K=some (Mr b cs)) (hd:(cs.drop off).take len=ds) (hj:j < len) (hl:off + len<=cs.length) (ha:(P.underlying T).map Br=some false):OR P (.load T x) ty Γ (Qv (Kh j ds)):=by (refine OR.val λρ M w r=>?_;let ⟨_,_,hv⟩:=h ρ M w r;let ⟨_,hh⟩:=r.tmp _ _ hk;have hc:cs[off + j]?=some (Kh j ds):=by (subst hd;have h1:((cs.drop off).take len)[j]?=cs[off + j]?:=by rw [LN hj,N5]);(have h2:off + j < cs.length:=by omega);unfold Kh;rw [KM,h1,L9 h2];rfl);refine ⟨Kh j ds,λ_ _ _ _=>?_,rfl,rfl⟩;have:=Mr.cell hh _ _ hc;simp only [execOp,hv,Instr.loadAt,Instr.sureAddr,KJ,KQ,KE,loadVar,Ty.run_agg ha];simp [this]
theorem HW {len:Nat} {m:Int} {j:Nat} (h:idx (List.range len) m=some j):j < len/\0<=m/\m < len/\m.toNat=j:=by let ⟨h0,hlt,hg⟩:=Au h;simp only [L7] at hlt;rw [K6 aa] at hg;have:=Option.some.inj hg;exact ⟨by omega,h0,hlt,this⟩
theorem j8 {C:Prop} {ρ:Type} {b:Bool} {x y:Option ρ} {r:ρ} (h:(bif b then x else y)=some r) (ht:b=true->x=some r->C) (hf:b=false->y=some r->C):C:=by cases b;exact hf rfl h;exact ht rfl h
theorem ql {C:Prop} {ρ:Type} {r:ρ} (h:(none:Option ρ)=some r):C:=by cases h
theorem dA {x:Operand} {j k:Nat} {cs:P2} {c:Value} (hj:(j == k)=true) (h:Od Γ x (Qv (Kh j cs))) (hc:Kh k cs=c):Od Γ x (Qv c):=by
 have:j=k:=by simpa using hj
 subst this;rw [hc] at h;exact h
end
end
section
structure Kd (k:IntKind) where
 v:Int
instance {k:IntKind}:Rep (Kd k) where
 sz:=1
 agg:=false
 rep _ _ cs x:=cs=[.int k x.v]
 len h:=by subst h;rfl
 ext h _:=h
 sub h _:=h
 one h:=by subst h;simp [Value.oneCell']
 flat _:=rfl
class Ik (k:outParam IntKind) (α:Type) [Rep α] where
 toI:α->Int
 ofI:Int->α
 rep:∀ {F M w v} {x:α},(Va x).p F M w v->v=.int k (toI x)
 mkv:∀ {M w} {x:α},(Va x).p [] M w (.int k (toI x))
 wrp:∀ n,toI (ofI n)=k.wrap n
instance {k:IntKind}:Ik k (Kd k) where
 toI x:=x.v
 ofI n:=⟨k.wrap n⟩
 rep h:=by
  obtain ⟨_,cs,rfl,hr⟩:=h;have:cs=_:=hr;subst this;rfl
 mkv:=⟨rfl,_,rfl,rfl⟩
 wrp _:=rfl
instance:Ik .i64 Int where
 toI x:=x
 ofI n:=wr n
 rep h:=Va.int h
 mkv:=Va.mkInt
 wrp _:=rfl
theorem kF (n:Int):IntKind.u8.wrap n=((wr8 n).toNat:Int):=by (have h1:0<=n % 256:=Int.emod_nonneg _ (by decide);have h2:n % 256 < 256:=Int.emod_lt_of_pos _ (by decide);have:(wr8 n).toNat=(n % 256).toNat:=by unfold wr8;rw [UInt8.toNat_ofNat'];omega);rw [this];simp [IntKind.wrap,IntKind.bits,IntKind.signed];omega
instance:Ik .u8 UInt8 where
 toI x:=x.toNat
 ofI n:=wr8 n
 rep h:=Va.byte h
 mkv:=⟨rfl,_,rfl,rfl⟩
 wrp n:=(kF n).symm
section
variable {P:Program} {Γ:Cx} {ty:TypeId} {k:IntKind} {α:Type} [Rep α] [ik:Ik k α]
theorem iA {k:IntKind} {n:Int}:Od Γ (.const (.int k n)) (Va (⟨n⟩:Kd k)):=λρ _ _ r=>⟨[],rfl,[.int k n],by rw [r.con];rfl,rfl⟩
theorem gN {op:BinOp} {x y:Operand} {T T':TypeId} {m n:α} {e:Ent} (hx:Od Γ x (Va m)) (hy:Od Γ y (Va n))
  (h:∀ w,∃ v,(binOp op T (.int k (ik.toI m)) (.int k (ik.toI n))).run P w=.ok v w/\∀ M,e.p [] M w v):OR P (.binOp op T x y T') ty Γ e:=by (refine OR.val λρ M w r=>?_;let ⟨_,h1⟩:=hx ρ M w r;let ⟨_,h2⟩:=hy ρ M w r;let ⟨v,hv,hp⟩:=h w;refine ⟨v,λ_ _ _ _=>?_,hp M⟩;simp only [execOp,ik.rep h1,ik.rep h2];have:∀ o,(eqGuard o T x y (.int k (ik.toI m)) (.int k (ik.toI n))).run P w=.ok () w:=by intro o; unfold eqGuard; cases o <;> rfl);simp only [KJ,this,KE,hv];rfl
theorem pZ {x y:Operand} {T T':TypeId} {m n:α} (hx:Od Γ x (Va m)) (hy:Od Γ y (Va n)):OR P (.binOp .gtr T x y T') ty Γ (Va (decide (ik.toI m > ik.toI n))):=gN hx hy λ_=>⟨_,by simp [binOp];rfl,λ_=>Va.mkBool⟩
theorem nek {x y:Operand} {T T':TypeId} {m n:α} (hx:Od Γ x (Va m)) (hy:Od Γ y (Va n)):OR P (.binOp .neq T x y T') ty Γ (Va (ik.toI m != ik.toI n)):=gN hx hy λ_=>⟨_,by simp [binOp];rfl,λ_=>Va.mkBool⟩
theorem jX {β:Type} [Rep β] {k':IntKind} [jk:Ik k' β] {S T:TypeId} {x:Operand} {m:α} (h:Od Γ x (Va m)) (hs:(P.underlying S).isSome=true) (hT:P.underlying T=some (.int k')):OR P (.convert S T x) ty Γ (Va (jk.ofI (ik.toI m))):=
 OR.val λρ M w r=>by
  let ⟨_,h1⟩:=h ρ M w r;have hk:P.intKind T=k':=by simp [Program.intKind,hT]
  have hr:=run_convert_int (P:=P) w S T k (ik.toI m) hs (by rw [hk];exact hT);rw [hk] at hr;exact ⟨.int k' (k'.wrap (ik.toI m)),λ_ _ _ _=>by simp only [execOp,ik.rep h1,KJ,hr,KE,KQ],by rw [← jk.wrp];exact jk.mkv⟩
def Dv (n:Int):P3:=Utf8.encode n
theorem qV {S T:TypeId} {x:Operand} {m:α} (h:Od Γ x (Va m)) (hS:(P.underlying S).map (λd=>match d with | .int _=>true | _=>false)=some true) (hT:P.underlying T=some .string):OR P (.convert S T x) ty Γ (Va (Dv (ik.toI m))):=
 OR.val λρ M w r=>by
  let ⟨_,h1⟩:=h ρ M w r;refine ⟨.string (Dv (ik.toI m)),λ_ _ _ _=>?_,Va.mkStr⟩;have hr:(convert S T (.int k (ik.toI m))).run P w=.ok (.string (Dv (ik.toI m))) w:=by
   cases hu:P.underlying S with
   | none=>simp [hu] at hS
   | some d=>
    cases d <;> simp [hu] at hS
    simp only [convert,KJ,run_underlying hu,run_underlying hT,KE];rfl
  simp only [execOp,ik.rep h1,KJ,hr,KE,KQ]
end
end
end Go.Pn
