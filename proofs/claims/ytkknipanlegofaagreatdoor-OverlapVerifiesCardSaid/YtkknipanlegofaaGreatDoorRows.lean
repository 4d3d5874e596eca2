/-
  NARROWER THAN 'FOR EVERY INPUT', by the rows' own cells (each row's printed sentence says how): OverlapFirst: loops, laid · OverlapExcludes: loops, laid · OverlapAll: loops, laid · OverlapInvariants: loops, laid · OverlapVerifies: loops, laid · OverlapImplies: loops, laid · OverlapShows: loops, laid · TopRunsStops: loops, laid.
  DERIVED. THE GIVEN ROWS OF THIS SEAT. 8 by the template 'for every input the law returns true; each argument reads behind the call as it read before'; 0 by the template 'total and deterministic' (their statements: YtkknipanlegofaaGreatDoorTotals.lean).
  GIVEN WITH THE SEED: the statements are not yours to turn. If you find one false, say at which input.
  Laid BY PROGRAM, IN A SANDBOX (cutbox-rows.mjs): the forced cells as the released guide's own fill.sh prints them over the translation 5b997c8d5c28ae61… (all of the seat's roots in one cut). By AI agents, Wed Nov 11 2026. No macro, syntax, notation, axiom, sorry.
-/
import Derived.Test.YtkknipanlegofaaGreatDoorChecked
import GoSem.Claim
import GoSem.ClaimJoined
import GoSem.ClaimMapViews
import Derived.JoinedTies
import Derived.KernelRfl
namespace Go.Proofs.YtkknipanlegofaaGreatDoor
/- THE CELL 'sum', in the pinned program and in every row, IS THE sha256 OF THE DUMP (.gsa) THAT YtkknipanlegofaaGreatDoorProg.lean LOADS. Nothing in Lean hashes anything: it is a label: what it is worth is what the hold of that sum in a sandbox is worth. -/
noncomputable def Tryz.pinned : Pinned := { name := "ytkknipanlegofaagreatdoor", sum := "5b997c8d5c28ae61d82726fd12e8d4def482057ceaea96432c9a3d7f44d91b86", checked := Tryz.checked }
namespace Rows
def none {H : Type} : Left H := { results := [], args := [] }

/- WHAT THE LISTED PACKAGE-LEVEL VARIABLES READ AS WHEN THE CALL BEGINS. Each datum BY PROGRAM (the guide's laid-datum.mjs) off the statement by which the dump's own 'gosem.cut.vars' lays the variable. In a bare row this is a premise. The card (YtkknipanlegofaaGreatDoorCards.lean) ties it to the program's text. -/
def laid_math_bits_deBruijn32tab {H : Type} : DataW H := .agg [.lit (.int .u8 0), .lit (.int .u8 1), .lit (.int .u8 28), .lit (.int .u8 2), .lit (.int .u8 29), .lit (.int .u8 14), .lit (.int .u8 24), .lit (.int .u8 3), .lit (.int .u8 30), .lit (.int .u8 22), .lit (.int .u8 20), .lit (.int .u8 15), .lit (.int .u8 25), .lit (.int .u8 17), .lit (.int .u8 4), .lit (.int .u8 8), .lit (.int .u8 31), .lit (.int .u8 27), .lit (.int .u8 13), .lit (.int .u8 23), .lit (.int .u8 21), .lit (.int .u8 19), .lit (.int .u8 16), .lit (.int .u8 7), .lit (.int .u8 26), .lit (.int .u8 12), .lit (.int .u8 18), .lit (.int .u8 6), .lit (.int .u8 11), .lit (.int .u8 5), .lit (.int .u8 10), .lit (.int .u8 9)]
def laid_math_bits_deBruijn64tab {H : Type} : DataW H := .agg [.lit (.int .u8 0), .lit (.int .u8 1), .lit (.int .u8 56), .lit (.int .u8 2), .lit (.int .u8 57), .lit (.int .u8 49), .lit (.int .u8 28), .lit (.int .u8 3), .lit (.int .u8 61), .lit (.int .u8 58), .lit (.int .u8 42), .lit (.int .u8 50), .lit (.int .u8 38), .lit (.int .u8 29), .lit (.int .u8 17), .lit (.int .u8 4), .lit (.int .u8 62), .lit (.int .u8 47), .lit (.int .u8 59), .lit (.int .u8 36), .lit (.int .u8 45), .lit (.int .u8 43), .lit (.int .u8 51), .lit (.int .u8 22), .lit (.int .u8 53), .lit (.int .u8 39), .lit (.int .u8 33), .lit (.int .u8 30), .lit (.int .u8 24), .lit (.int .u8 18), .lit (.int .u8 12), .lit (.int .u8 5), .lit (.int .u8 63), .lit (.int .u8 55), .lit (.int .u8 48), .lit (.int .u8 27), .lit (.int .u8 60), .lit (.int .u8 41), .lit (.int .u8 37), .lit (.int .u8 16), .lit (.int .u8 46), .lit (.int .u8 35), .lit (.int .u8 44), .lit (.int .u8 21), .lit (.int .u8 52), .lit (.int .u8 32), .lit (.int .u8 23), .lit (.int .u8 11), .lit (.int .u8 54), .lit (.int .u8 26), .lit (.int .u8 40), .lit (.int .u8 15), .lit (.int .u8 34), .lit (.int .u8 20), .lit (.int .u8 31), .lit (.int .u8 10), .lit (.int .u8 25), .lit (.int .u8 14), .lit (.int .u8 19), .lit (.int .u8 9), .lit (.int .u8 13), .lit (.int .u8 8), .lit (.int .u8 7), .lit (.int .u8 6)]
def laid_internal_strconv_uint64pow10 {H : Type} : DataW H := .agg [.lit (.int .u64 1), .lit (.int .u64 10), .lit (.int .u64 100), .lit (.int .u64 1000), .lit (.int .u64 10000), .lit (.int .u64 100000), .lit (.int .u64 1000000), .lit (.int .u64 10000000), .lit (.int .u64 100000000), .lit (.int .u64 1000000000), .lit (.int .u64 10000000000), .lit (.int .u64 100000000000), .lit (.int .u64 1000000000000), .lit (.int .u64 10000000000000), .lit (.int .u64 100000000000000), .lit (.int .u64 1000000000000000), .lit (.int .u64 10000000000000000), .lit (.int .u64 100000000000000000), .lit (.int .u64 1000000000000000000), .lit (.int .u64 10000000000000000000)]

/-- 'pneumaticlaw43.OverlapFirst': WHATEVER THE INPUT: true; the input reads as it did. -/
def overlapFirstSpec : ChangeSpec := { name := "overlapFirst", fn := fun _ => fun
  | [d1, d2] => { results := [.lit (.bool true)], args := [d1, d2] }
  | _ => none }
def overlapFirstRow : OpenClaim := { program := "ytkknipanlegofaagreatdoor", sum := "5b997c8d5c28ae61d82726fd12e8d4def482057ceaea96432c9a3d7f44d91b86", func := "pneumatic/pneumaticlaw43.OverlapFirst", spec := "overlapFirst", inPlace := ["internal/abi.NoEscape"], unfollowed := true, recurses := true, named := ["internal/strconv.uint64pow10", "math/bits.deBruijn32tab", "math/bits.deBruijn64tab"], loops := true, plainKeys := false, apart := false, laid := [("math/bits.deBruijn32tab", laid_math_bits_deBruijn32tab), ("math/bits.deBruijn64tab", laid_math_bits_deBruijn64tab), ("internal/strconv.uint64pow10", laid_internal_strconv_uint64pow10)] }
def OverlapFirstSaid : Prop := overlapFirstRow.holds Tryz.pinned (OpenSpec.ofChange overlapFirstSpec)

/-- ITS FALSE NEIGHBOUR: 'it returns false'. Refute it at one input. -/
def overlapFirstWrong : ChangeSpec := { name := "overlapFirst", fn := fun _ => fun
  | [d1, d2] => { results := [.lit (.bool false)], args := [d1, d2] }
  | _ => none }
def OverlapFirstWrongFalsely : Prop := overlapFirstRow.holds Tryz.pinned (OpenSpec.ofChange overlapFirstWrong)

/-- 'pneumaticlaw43.OverlapExcludes': WHATEVER THE INPUT: true; the input reads as it did. -/
def overlapExcludesSpec : ChangeSpec := { name := "overlapExcludes", fn := fun _ => fun
  | [d1, d2, d3] => { results := [.lit (.bool true)], args := [d1, d2, d3] }
  | _ => none }
def overlapExcludesRow : OpenClaim := { program := "ytkknipanlegofaagreatdoor", sum := "5b997c8d5c28ae61d82726fd12e8d4def482057ceaea96432c9a3d7f44d91b86", func := "pneumatic/pneumaticlaw43.OverlapExcludes", spec := "overlapExcludes", inPlace := ["internal/abi.NoEscape"], unfollowed := true, recurses := true, named := ["internal/strconv.uint64pow10", "math/bits.deBruijn32tab", "math/bits.deBruijn64tab"], loops := true, plainKeys := false, apart := false, laid := [("math/bits.deBruijn32tab", laid_math_bits_deBruijn32tab), ("math/bits.deBruijn64tab", laid_math_bits_deBruijn64tab), ("internal/strconv.uint64pow10", laid_internal_strconv_uint64pow10)] }
def OverlapExcludesSaid : Prop := overlapExcludesRow.holds Tryz.pinned (OpenSpec.ofChange overlapExcludesSpec)

/-- ITS FALSE NEIGHBOUR: 'it returns false'. Refute it at one input. -/
def overlapExcludesWrong : ChangeSpec := { name := "overlapExcludes", fn := fun _ => fun
  | [d1, d2, d3] => { results := [.lit (.bool false)], args := [d1, d2, d3] }
  | _ => none }
def OverlapExcludesWrongFalsely : Prop := overlapExcludesRow.holds Tryz.pinned (OpenSpec.ofChange overlapExcludesWrong)

/-- 'pneumaticlaw43.OverlapAll': WHATEVER THE INPUT: true; the input reads as it did. -/
def overlapAllSpec : ChangeSpec := { name := "overlapAll", fn := fun _ => fun
  | [d1, d2] => { results := [.lit (.bool true)], args := [d1, d2] }
  | _ => none }
def overlapAllRow : OpenClaim := { program := "ytkknipanlegofaagreatdoor", sum := "5b997c8d5c28ae61d82726fd12e8d4def482057ceaea96432c9a3d7f44d91b86", func := "pneumatic/pneumaticlaw43.OverlapAll", spec := "overlapAll", inPlace := ["internal/abi.NoEscape"], unfollowed := true, recurses := true, named := ["internal/strconv.uint64pow10", "math/bits.deBruijn32tab", "math/bits.deBruijn64tab"], loops := true, plainKeys := false, apart := false, laid := [("math/bits.deBruijn32tab", laid_math_bits_deBruijn32tab), ("math/bits.deBruijn64tab", laid_math_bits_deBruijn64tab), ("internal/strconv.uint64pow10", laid_internal_strconv_uint64pow10)] }
def OverlapAllSaid : Prop := overlapAllRow.holds Tryz.pinned (OpenSpec.ofChange overlapAllSpec)

/-- ITS FALSE NEIGHBOUR: 'it returns false'. Refute it at one input. -/
def overlapAllWrong : ChangeSpec := { name := "overlapAll", fn := fun _ => fun
  | [d1, d2] => { results := [.lit (.bool false)], args := [d1, d2] }
  | _ => none }
def OverlapAllWrongFalsely : Prop := overlapAllRow.holds Tryz.pinned (OpenSpec.ofChange overlapAllWrong)

/-- 'pneumaticlaw43.OverlapInvariants': WHATEVER THE INPUT: true; the input reads as it did. -/
def overlapInvariantsSpec : ChangeSpec := { name := "overlapInvariants", fn := fun _ => fun
  | [d1, d2, d3] => { results := [.lit (.bool true)], args := [d1, d2, d3] }
  | _ => none }
def overlapInvariantsRow : OpenClaim := { program := "ytkknipanlegofaagreatdoor", sum := "5b997c8d5c28ae61d82726fd12e8d4def482057ceaea96432c9a3d7f44d91b86", func := "pneumatic/pneumaticlaw43.OverlapInvariants", spec := "overlapInvariants", inPlace := ["internal/abi.NoEscape"], unfollowed := true, recurses := true, named := ["internal/strconv.uint64pow10", "math/bits.deBruijn32tab", "math/bits.deBruijn64tab"], loops := true, plainKeys := false, apart := false, laid := [("math/bits.deBruijn32tab", laid_math_bits_deBruijn32tab), ("math/bits.deBruijn64tab", laid_math_bits_deBruijn64tab), ("internal/strconv.uint64pow10", laid_internal_strconv_uint64pow10)] }
def OverlapInvariantsSaid : Prop := overlapInvariantsRow.holds Tryz.pinned (OpenSpec.ofChange overlapInvariantsSpec)

/-- ITS FALSE NEIGHBOUR: 'it returns false'. Refute it at one input. -/
def overlapInvariantsWrong : ChangeSpec := { name := "overlapInvariants", fn := fun _ => fun
  | [d1, d2, d3] => { results := [.lit (.bool false)], args := [d1, d2, d3] }
  | _ => none }
def OverlapInvariantsWrongFalsely : Prop := overlapInvariantsRow.holds Tryz.pinned (OpenSpec.ofChange overlapInvariantsWrong)

/-- 'pneumaticlaw43.OverlapVerifies': WHATEVER THE INPUT: true; the input reads as it did. -/
def overlapVerifiesSpec : ChangeSpec := { name := "overlapVerifies", fn := fun _ => fun
  | [d1, d2, d3] => { results := [.lit (.bool true)], args := [d1, d2, d3] }
  | _ => none }
def overlapVerifiesRow : OpenClaim := { program := "ytkknipanlegofaagreatdoor", sum := "5b997c8d5c28ae61d82726fd12e8d4def482057ceaea96432c9a3d7f44d91b86", func := "pneumatic/pneumaticlaw43.OverlapVerifies", spec := "overlapVerifies", inPlace := ["internal/abi.NoEscape"], unfollowed := true, recurses := true, named := ["internal/strconv.uint64pow10", "math/bits.deBruijn32tab", "math/bits.deBruijn64tab"], loops := true, plainKeys := false, apart := false, laid := [("math/bits.deBruijn32tab", laid_math_bits_deBruijn32tab), ("math/bits.deBruijn64tab", laid_math_bits_deBruijn64tab), ("internal/strconv.uint64pow10", laid_internal_strconv_uint64pow10)] }
def OverlapVerifiesSaid : Prop := overlapVerifiesRow.holds Tryz.pinned (OpenSpec.ofChange overlapVerifiesSpec)

/-- ITS FALSE NEIGHBOUR: 'it returns false'. Refute it at one input. -/
def overlapVerifiesWrong : ChangeSpec := { name := "overlapVerifies", fn := fun _ => fun
  | [d1, d2, d3] => { results := [.lit (.bool false)], args := [d1, d2, d3] }
  | _ => none }
def OverlapVerifiesWrongFalsely : Prop := overlapVerifiesRow.holds Tryz.pinned (OpenSpec.ofChange overlapVerifiesWrong)

/-- 'pneumaticlaw43.OverlapImplies': WHATEVER THE INPUT: true; the input reads as it did. -/
def overlapImpliesSpec : ChangeSpec := { name := "overlapImplies", fn := fun _ => fun
  | [d1, d2, d3] => { results := [.lit (.bool true)], args := [d1, d2, d3] }
  | _ => none }
def overlapImpliesRow : OpenClaim := { program := "ytkknipanlegofaagreatdoor", sum := "5b997c8d5c28ae61d82726fd12e8d4def482057ceaea96432c9a3d7f44d91b86", func := "pneumatic/pneumaticlaw43.OverlapImplies", spec := "overlapImplies", inPlace := ["internal/abi.NoEscape"], unfollowed := true, recurses := true, named := ["internal/strconv.uint64pow10", "math/bits.deBruijn32tab", "math/bits.deBruijn64tab"], loops := true, plainKeys := false, apart := false, laid := [("math/bits.deBruijn32tab", laid_math_bits_deBruijn32tab), ("math/bits.deBruijn64tab", laid_math_bits_deBruijn64tab), ("internal/strconv.uint64pow10", laid_internal_strconv_uint64pow10)] }
def OverlapImpliesSaid : Prop := overlapImpliesRow.holds Tryz.pinned (OpenSpec.ofChange overlapImpliesSpec)

/-- ITS FALSE NEIGHBOUR: 'it returns false'. Refute it at one input. -/
def overlapImpliesWrong : ChangeSpec := { name := "overlapImplies", fn := fun _ => fun
  | [d1, d2, d3] => { results := [.lit (.bool false)], args := [d1, d2, d3] }
  | _ => none }
def OverlapImpliesWrongFalsely : Prop := overlapImpliesRow.holds Tryz.pinned (OpenSpec.ofChange overlapImpliesWrong)

/-- 'pneumaticlaw43.OverlapShows': WHATEVER THE INPUT: true; the input reads as it did. -/
def overlapShowsSpec : ChangeSpec := { name := "overlapShows", fn := fun _ => fun
  | [d1, d2] => { results := [.lit (.bool true)], args := [d1, d2] }
  | _ => none }
def overlapShowsRow : OpenClaim := { program := "ytkknipanlegofaagreatdoor", sum := "5b997c8d5c28ae61d82726fd12e8d4def482057ceaea96432c9a3d7f44d91b86", func := "pneumatic/pneumaticlaw43.OverlapShows", spec := "overlapShows", inPlace := ["internal/abi.NoEscape"], unfollowed := true, recurses := true, named := ["internal/strconv.uint64pow10", "math/bits.deBruijn32tab", "math/bits.deBruijn64tab"], loops := true, plainKeys := false, apart := false, laid := [("math/bits.deBruijn32tab", laid_math_bits_deBruijn32tab), ("math/bits.deBruijn64tab", laid_math_bits_deBruijn64tab), ("internal/strconv.uint64pow10", laid_internal_strconv_uint64pow10)] }
def OverlapShowsSaid : Prop := overlapShowsRow.holds Tryz.pinned (OpenSpec.ofChange overlapShowsSpec)

/-- ITS FALSE NEIGHBOUR: 'it returns false'. Refute it at one input. -/
def overlapShowsWrong : ChangeSpec := { name := "overlapShows", fn := fun _ => fun
  | [d1, d2] => { results := [.lit (.bool false)], args := [d1, d2] }
  | _ => none }
def OverlapShowsWrongFalsely : Prop := overlapShowsRow.holds Tryz.pinned (OpenSpec.ofChange overlapShowsWrong)

/-- 'pneumatictop.TopRunsStops': WHATEVER THE INPUT: true; the input reads as it did. -/
def topRunsStopsSpec : ChangeSpec := { name := "topRunsStops", fn := fun _ => fun
  | [d1, d2] => { results := [.lit (.bool true)], args := [d1, d2] }
  | _ => none }
def topRunsStopsRow : OpenClaim := { program := "ytkknipanlegofaagreatdoor", sum := "5b997c8d5c28ae61d82726fd12e8d4def482057ceaea96432c9a3d7f44d91b86", func := "pneumatic/pneumatictop.TopRunsStops", spec := "topRunsStops", inPlace := ["internal/abi.NoEscape"], unfollowed := true, recurses := true, named := ["internal/strconv.uint64pow10", "math/bits.deBruijn32tab", "math/bits.deBruijn64tab"], loops := true, plainKeys := false, apart := false, laid := [("math/bits.deBruijn32tab", laid_math_bits_deBruijn32tab), ("math/bits.deBruijn64tab", laid_math_bits_deBruijn64tab), ("internal/strconv.uint64pow10", laid_internal_strconv_uint64pow10)] }
def TopRunsStopsSaid : Prop := topRunsStopsRow.holds Tryz.pinned (OpenSpec.ofChange topRunsStopsSpec)

/-- ITS FALSE NEIGHBOUR: 'it returns false'. Refute it at one input. -/
def topRunsStopsWrong : ChangeSpec := { name := "topRunsStops", fn := fun _ => fun
  | [d1, d2] => { results := [.lit (.bool false)], args := [d1, d2] }
  | _ => none }
def TopRunsStopsWrongFalsely : Prop := topRunsStopsRow.holds Tryz.pinned (OpenSpec.ofChange topRunsStopsWrong)

/- THE SECOND FORM. 'bulk': how many values and letters a reading holds, each counted each time it is reached (what is shared counts as often as it is met; a slice's spare places count too). A statement '..UptoSaid' is the law's where the arguments, and the package variables that the reading takes, are together of bulk at most 1048576: NARROWER than '..Said'. Prove '..Said' where nothing that the law and all that it calls make is longer than what came in: it says more and counts as full. Else prove '..UptoSaid'. A law counts once. -/
mutual
def uptoBulk {H : Type} : DataW H → Nat
  | .lit (.string bytes) => bytes.length + 1
  | .lit _ => 1
  | .nil => 1
  | .ptr d => uptoBulk d + 1
  | .slice elems spare => uptoBulkAll elems + uptoBulkAll spare + 1
  | .agg parts => uptoBulkAll parts + 1
  | .iface _ d => uptoBulk d + 1
  | .map entries => uptoBulkEntries entries + 1
  | .held _ => 1
def uptoBulkAll {H : Type} : List (DataW H) → Nat
  | [] => 0
  | d :: r => uptoBulk d + uptoBulkAll r
def uptoBulkEntries {H : Type} : List (Lit × DataW H) → Nat
  | [] => 0
  | x :: r => uptoBulkEntry x + uptoBulkEntries r
def uptoBulkEntry {H : Type} : Lit × DataW H → Nat
  | (.string bytes, d) => bytes.length + uptoBulk d + 1
  | (_, d) => uptoBulk d + 1
 end
def uptoSmall : (H : Type) → List (DataW H) → Bool := fun _ ds => decide (uptoBulkAll ds ≤ 1048576)
def OpenSpec.upto (s : _root_.Go.ChangeSpec) : _root_.Go.OpenSpec := { _root_.Go.OpenSpec.ofChange s with cond := some uptoSmall }

/-- 'pneumaticlaw43.OverlapFirst', WHERE WHAT IT READS IS OF BULK AT MOST 1048576: true; the input reads as it did. -/
def overlapFirstUptoRow : OpenClaim := { program := "ytkknipanlegofaagreatdoor", sum := "5b997c8d5c28ae61d82726fd12e8d4def482057ceaea96432c9a3d7f44d91b86", func := "pneumatic/pneumaticlaw43.OverlapFirst", spec := "overlapFirst", inPlace := ["internal/abi.NoEscape"], unfollowed := true, recurses := true, named := ["internal/strconv.uint64pow10", "math/bits.deBruijn32tab", "math/bits.deBruijn64tab"], loops := true, plainKeys := false, apart := false, laid := [("math/bits.deBruijn32tab", laid_math_bits_deBruijn32tab), ("math/bits.deBruijn64tab", laid_math_bits_deBruijn64tab), ("internal/strconv.uint64pow10", laid_internal_strconv_uint64pow10)], narrowed := true }
def OverlapFirstUptoSaid : Prop := overlapFirstUptoRow.holds Tryz.pinned (OpenSpec.upto overlapFirstSpec)

/-- 'pneumaticlaw43.OverlapExcludes', WHERE WHAT IT READS IS OF BULK AT MOST 1048576: true; the input reads as it did. -/
def overlapExcludesUptoRow : OpenClaim := { program := "ytkknipanlegofaagreatdoor", sum := "5b997c8d5c28ae61d82726fd12e8d4def482057ceaea96432c9a3d7f44d91b86", func := "pneumatic/pneumaticlaw43.OverlapExcludes", spec := "overlapExcludes", inPlace := ["internal/abi.NoEscape"], unfollowed := true, recurses := true, named := ["internal/strconv.uint64pow10", "math/bits.deBruijn32tab", "math/bits.deBruijn64tab"], loops := true, plainKeys := false, apart := false, laid := [("math/bits.deBruijn32tab", laid_math_bits_deBruijn32tab), ("math/bits.deBruijn64tab", laid_math_bits_deBruijn64tab), ("internal/strconv.uint64pow10", laid_internal_strconv_uint64pow10)], narrowed := true }
def OverlapExcludesUptoSaid : Prop := overlapExcludesUptoRow.holds Tryz.pinned (OpenSpec.upto overlapExcludesSpec)

/-- 'pneumaticlaw43.OverlapAll', WHERE WHAT IT READS IS OF BULK AT MOST 1048576: true; the input reads as it did. -/
def overlapAllUptoRow : OpenClaim := { program := "ytkknipanlegofaagreatdoor", sum := "5b997c8d5c28ae61d82726fd12e8d4def482057ceaea96432c9a3d7f44d91b86", func := "pneumatic/pneumaticlaw43.OverlapAll", spec := "overlapAll", inPlace := ["internal/abi.NoEscape"], unfollowed := true, recurses := true, named := ["internal/strconv.uint64pow10", "math/bits.deBruijn32tab", "math/bits.deBruijn64tab"], loops := true, plainKeys := false, apart := false, laid := [("math/bits.deBruijn32tab", laid_math_bits_deBruijn32tab), ("math/bits.deBruijn64tab", laid_math_bits_deBruijn64tab), ("internal/strconv.uint64pow10", laid_internal_strconv_uint64pow10)], narrowed := true }
def OverlapAllUptoSaid : Prop := overlapAllUptoRow.holds Tryz.pinned (OpenSpec.upto overlapAllSpec)

/-- 'pneumaticlaw43.OverlapInvariants', WHERE WHAT IT READS IS OF BULK AT MOST 1048576: true; the input reads as it did. -/
def overlapInvariantsUptoRow : OpenClaim := { program := "ytkknipanlegofaagreatdoor", sum := "5b997c8d5c28ae61d82726fd12e8d4def482057ceaea96432c9a3d7f44d91b86", func := "pneumatic/pneumaticlaw43.OverlapInvariants", spec := "overlapInvariants", inPlace := ["internal/abi.NoEscape"], unfollowed := true, recurses := true, named := ["internal/strconv.uint64pow10", "math/bits.deBruijn32tab", "math/bits.deBruijn64tab"], loops := true, plainKeys := false, apart := false, laid := [("math/bits.deBruijn32tab", laid_math_bits_deBruijn32tab), ("math/bits.deBruijn64tab", laid_math_bits_deBruijn64tab), ("internal/strconv.uint64pow10", laid_internal_strconv_uint64pow10)], narrowed := true }
def OverlapInvariantsUptoSaid : Prop := overlapInvariantsUptoRow.holds Tryz.pinned (OpenSpec.upto overlapInvariantsSpec)

/-- 'pneumaticlaw43.OverlapVerifies', WHERE WHAT IT READS IS OF BULK AT MOST 1048576: true; the input reads as it did. -/
def overlapVerifiesUptoRow : OpenClaim := { program := "ytkknipanlegofaagreatdoor", sum := "5b997c8d5c28ae61d82726fd12e8d4def482057ceaea96432c9a3d7f44d91b86", func := "pneumatic/pneumaticlaw43.OverlapVerifies", spec := "overlapVerifies", inPlace := ["internal/abi.NoEscape"], unfollowed := true, recurses := true, named := ["internal/strconv.uint64pow10", "math/bits.deBruijn32tab", "math/bits.deBruijn64tab"], loops := true, plainKeys := false, apart := false, laid := [("math/bits.deBruijn32tab", laid_math_bits_deBruijn32tab), ("math/bits.deBruijn64tab", laid_math_bits_deBruijn64tab), ("internal/strconv.uint64pow10", laid_internal_strconv_uint64pow10)], narrowed := true }
def OverlapVerifiesUptoSaid : Prop := overlapVerifiesUptoRow.holds Tryz.pinned (OpenSpec.upto overlapVerifiesSpec)

/-- 'pneumaticlaw43.OverlapImplies', WHERE WHAT IT READS IS OF BULK AT MOST 1048576: true; the input reads as it did. -/
def overlapImpliesUptoRow : OpenClaim := { program := "ytkknipanlegofaagreatdoor", sum := "5b997c8d5c28ae61d82726fd12e8d4def482057ceaea96432c9a3d7f44d91b86", func := "pneumatic/pneumaticlaw43.OverlapImplies", spec := "overlapImplies", inPlace := ["internal/abi.NoEscape"], unfollowed := true, recurses := true, named := ["internal/strconv.uint64pow10", "math/bits.deBruijn32tab", "math/bits.deBruijn64tab"], loops := true, plainKeys := false, apart := false, laid := [("math/bits.deBruijn32tab", laid_math_bits_deBruijn32tab), ("math/bits.deBruijn64tab", laid_math_bits_deBruijn64tab), ("internal/strconv.uint64pow10", laid_internal_strconv_uint64pow10)], narrowed := true }
def OverlapImpliesUptoSaid : Prop := overlapImpliesUptoRow.holds Tryz.pinned (OpenSpec.upto overlapImpliesSpec)

/-- 'pneumaticlaw43.OverlapShows', WHERE WHAT IT READS IS OF BULK AT MOST 1048576: true; the input reads as it did. -/
def overlapShowsUptoRow : OpenClaim := { program := "ytkknipanlegofaagreatdoor", sum := "5b997c8d5c28ae61d82726fd12e8d4def482057ceaea96432c9a3d7f44d91b86", func := "pneumatic/pneumaticlaw43.OverlapShows", spec := "overlapShows", inPlace := ["internal/abi.NoEscape"], unfollowed := true, recurses := true, named := ["internal/strconv.uint64pow10", "math/bits.deBruijn32tab", "math/bits.deBruijn64tab"], loops := true, plainKeys := false, apart := false, laid := [("math/bits.deBruijn32tab", laid_math_bits_deBruijn32tab), ("math/bits.deBruijn64tab", laid_math_bits_deBruijn64tab), ("internal/strconv.uint64pow10", laid_internal_strconv_uint64pow10)], narrowed := true }
def OverlapShowsUptoSaid : Prop := overlapShowsUptoRow.holds Tryz.pinned (OpenSpec.upto overlapShowsSpec)

/-- 'pneumatictop.TopRunsStops', WHERE WHAT IT READS IS OF BULK AT MOST 1048576: true; the input reads as it did. -/
def topRunsStopsUptoRow : OpenClaim := { program := "ytkknipanlegofaagreatdoor", sum := "5b997c8d5c28ae61d82726fd12e8d4def482057ceaea96432c9a3d7f44d91b86", func := "pneumatic/pneumatictop.TopRunsStops", spec := "topRunsStops", inPlace := ["internal/abi.NoEscape"], unfollowed := true, recurses := true, named := ["internal/strconv.uint64pow10", "math/bits.deBruijn32tab", "math/bits.deBruijn64tab"], loops := true, plainKeys := false, apart := false, laid := [("math/bits.deBruijn32tab", laid_math_bits_deBruijn32tab), ("math/bits.deBruijn64tab", laid_math_bits_deBruijn64tab), ("internal/strconv.uint64pow10", laid_internal_strconv_uint64pow10)], narrowed := true }
def TopRunsStopsUptoSaid : Prop := topRunsStopsUptoRow.holds Tryz.pinned (OpenSpec.upto topRunsStopsSpec)

end Rows
end Go.Proofs.YtkknipanlegofaaGreatDoor
