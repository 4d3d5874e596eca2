/-
  NARROWER THAN 'FOR EVERY INPUT', by the rows' own cells (each row's printed sentence says how): EqualDecides: loops, laid · EqualHas: loops, laid · EqualDiffers: loops, laid · EqualVerifies: loops, laid · EqualShows: loops, laid · EqualTraces: loops, laid.
  DERIVED. THE GIVEN ROWS OF THIS SEAT. 6 by the template 'for every input the law returns true; each argument reads behind the call as it read before'; 0 by the template 'total and deterministic' (their statements: YtdnjcbcdmgbaaaaGreatDoorTotals.lean).
  GIVEN WITH THE SEED: the statements are not yours to turn. If you find one false, say at which input.
  Laid BY PROGRAM, IN A SANDBOX (cutbox-rows.mjs): the forced cells as the released guide's own fill.sh prints them over the translation b9c33ad953ca6ff9… (all of the seat's roots in one cut). By AI agents, Wed Nov 11 2026. No macro, syntax, notation, axiom, sorry.
-/
import Derived.Test.YtdnjcbcdmgbaaaaGreatDoorChecked
import GoSem.Claim
import GoSem.ClaimJoined
import GoSem.ClaimMapViews
import Derived.JoinedTies
import Derived.KernelRfl
namespace Go.Proofs.YtdnjcbcdmgbaaaaGreatDoor
/- THE CELL 'sum', in the pinned program and in every row, IS THE sha256 OF THE DUMP (.gsa) THAT YtdnjcbcdmgbaaaaGreatDoorProg.lean LOADS. Nothing in Lean hashes anything: it is a label: what it is worth is what the hold of that sum in a sandbox is worth. -/
noncomputable def Tryz.pinned : Pinned := { name := "ytdnjcbcdmgbaaaagreatdoor", sum := "b9c33ad953ca6ff98e4bda93194d77b77ec3198c7b418b67ff978bb8dabcc593", checked := Tryz.checked }
namespace Rows
def none {H : Type} : Left H := { results := [], args := [] }

/- WHAT THE LISTED PACKAGE-LEVEL VARIABLES READ AS WHEN THE CALL BEGINS. Each datum BY PROGRAM (the guide's laid-datum.mjs) off the statement by which the dump's own 'gosem.cut.vars' lays the variable. In a bare row this is a premise. The card (YtdnjcbcdmgbaaaaGreatDoorCards.lean) ties it to the program's text. -/
def laid_math_bits_deBruijn32tab {H : Type} : DataW H := .agg [.lit (.int .u8 0), .lit (.int .u8 1), .lit (.int .u8 28), .lit (.int .u8 2), .lit (.int .u8 29), .lit (.int .u8 14), .lit (.int .u8 24), .lit (.int .u8 3), .lit (.int .u8 30), .lit (.int .u8 22), .lit (.int .u8 20), .lit (.int .u8 15), .lit (.int .u8 25), .lit (.int .u8 17), .lit (.int .u8 4), .lit (.int .u8 8), .lit (.int .u8 31), .lit (.int .u8 27), .lit (.int .u8 13), .lit (.int .u8 23), .lit (.int .u8 21), .lit (.int .u8 19), .lit (.int .u8 16), .lit (.int .u8 7), .lit (.int .u8 26), .lit (.int .u8 12), .lit (.int .u8 18), .lit (.int .u8 6), .lit (.int .u8 11), .lit (.int .u8 5), .lit (.int .u8 10), .lit (.int .u8 9)]
def laid_math_bits_deBruijn64tab {H : Type} : DataW H := .agg [.lit (.int .u8 0), .lit (.int .u8 1), .lit (.int .u8 56), .lit (.int .u8 2), .lit (.int .u8 57), .lit (.int .u8 49), .lit (.int .u8 28), .lit (.int .u8 3), .lit (.int .u8 61), .lit (.int .u8 58), .lit (.int .u8 42), .lit (.int .u8 50), .lit (.int .u8 38), .lit (.int .u8 29), .lit (.int .u8 17), .lit (.int .u8 4), .lit (.int .u8 62), .lit (.int .u8 47), .lit (.int .u8 59), .lit (.int .u8 36), .lit (.int .u8 45), .lit (.int .u8 43), .lit (.int .u8 51), .lit (.int .u8 22), .lit (.int .u8 53), .lit (.int .u8 39), .lit (.int .u8 33), .lit (.int .u8 30), .lit (.int .u8 24), .lit (.int .u8 18), .lit (.int .u8 12), .lit (.int .u8 5), .lit (.int .u8 63), .lit (.int .u8 55), .lit (.int .u8 48), .lit (.int .u8 27), .lit (.int .u8 60), .lit (.int .u8 41), .lit (.int .u8 37), .lit (.int .u8 16), .lit (.int .u8 46), .lit (.int .u8 35), .lit (.int .u8 44), .lit (.int .u8 21), .lit (.int .u8 52), .lit (.int .u8 32), .lit (.int .u8 23), .lit (.int .u8 11), .lit (.int .u8 54), .lit (.int .u8 26), .lit (.int .u8 40), .lit (.int .u8 15), .lit (.int .u8 34), .lit (.int .u8 20), .lit (.int .u8 31), .lit (.int .u8 10), .lit (.int .u8 25), .lit (.int .u8 14), .lit (.int .u8 19), .lit (.int .u8 9), .lit (.int .u8 13), .lit (.int .u8 8), .lit (.int .u8 7), .lit (.int .u8 6)]
def laid_internal_strconv_uint64pow10 {H : Type} : DataW H := .agg [.lit (.int .u64 1), .lit (.int .u64 10), .lit (.int .u64 100), .lit (.int .u64 1000), .lit (.int .u64 10000), .lit (.int .u64 100000), .lit (.int .u64 1000000), .lit (.int .u64 10000000), .lit (.int .u64 100000000), .lit (.int .u64 1000000000), .lit (.int .u64 10000000000), .lit (.int .u64 100000000000), .lit (.int .u64 1000000000000), .lit (.int .u64 10000000000000), .lit (.int .u64 100000000000000), .lit (.int .u64 1000000000000000), .lit (.int .u64 10000000000000000), .lit (.int .u64 100000000000000000), .lit (.int .u64 1000000000000000000), .lit (.int .u64 10000000000000000000)]

/-- 'pneumaticlaw46.EqualDecides': WHATEVER THE INPUT: true; the input reads as it did. -/
def equalDecidesSpec : ChangeSpec := { name := "equalDecides", fn := fun _ => fun
  | [d] => { results := [.lit (.bool true)], args := [d] }
  | _ => none }
def equalDecidesRow : OpenClaim := { program := "ytdnjcbcdmgbaaaagreatdoor", sum := "b9c33ad953ca6ff98e4bda93194d77b77ec3198c7b418b67ff978bb8dabcc593", func := "pneumatic/pneumaticlaw46.EqualDecides", spec := "equalDecides", inPlace := ["internal/abi.NoEscape"], unfollowed := true, recurses := true, named := ["internal/strconv.uint64pow10", "math/bits.deBruijn32tab", "math/bits.deBruijn64tab"], loops := true, plainKeys := false, apart := false, laid := [("math/bits.deBruijn32tab", laid_math_bits_deBruijn32tab), ("math/bits.deBruijn64tab", laid_math_bits_deBruijn64tab), ("internal/strconv.uint64pow10", laid_internal_strconv_uint64pow10)] }
def EqualDecidesSaid : Prop := equalDecidesRow.holds Tryz.pinned (OpenSpec.ofChange equalDecidesSpec)

/-- ITS FALSE NEIGHBOUR: 'it returns false'. Refute it at one input. -/
def equalDecidesWrong : ChangeSpec := { name := "equalDecides", fn := fun _ => fun
  | [d] => { results := [.lit (.bool false)], args := [d] }
  | _ => none }
def EqualDecidesWrongFalsely : Prop := equalDecidesRow.holds Tryz.pinned (OpenSpec.ofChange equalDecidesWrong)

/-- 'pneumaticlaw46.EqualHas': WHATEVER THE INPUT: true; the input reads as it did. -/
def equalHasSpec : ChangeSpec := { name := "equalHas", fn := fun _ => fun
  | [d1, d2] => { results := [.lit (.bool true)], args := [d1, d2] }
  | _ => none }
def equalHasRow : OpenClaim := { program := "ytdnjcbcdmgbaaaagreatdoor", sum := "b9c33ad953ca6ff98e4bda93194d77b77ec3198c7b418b67ff978bb8dabcc593", func := "pneumatic/pneumaticlaw46.EqualHas", spec := "equalHas", inPlace := ["internal/abi.NoEscape"], unfollowed := true, recurses := true, named := ["internal/strconv.uint64pow10", "math/bits.deBruijn32tab", "math/bits.deBruijn64tab"], loops := true, plainKeys := false, apart := false, laid := [("math/bits.deBruijn32tab", laid_math_bits_deBruijn32tab), ("math/bits.deBruijn64tab", laid_math_bits_deBruijn64tab), ("internal/strconv.uint64pow10", laid_internal_strconv_uint64pow10)] }
def EqualHasSaid : Prop := equalHasRow.holds Tryz.pinned (OpenSpec.ofChange equalHasSpec)

/-- ITS FALSE NEIGHBOUR: 'it returns false'. Refute it at one input. -/
def equalHasWrong : ChangeSpec := { name := "equalHas", fn := fun _ => fun
  | [d1, d2] => { results := [.lit (.bool false)], args := [d1, d2] }
  | _ => none }
def EqualHasWrongFalsely : Prop := equalHasRow.holds Tryz.pinned (OpenSpec.ofChange equalHasWrong)

/-- 'pneumaticlaw46.EqualDiffers': WHATEVER THE INPUT: true; the input reads as it did. -/
def equalDiffersSpec : ChangeSpec := { name := "equalDiffers", fn := fun _ => fun
  | [d] => { results := [.lit (.bool true)], args := [d] }
  | _ => none }
def equalDiffersRow : OpenClaim := { program := "ytdnjcbcdmgbaaaagreatdoor", sum := "b9c33ad953ca6ff98e4bda93194d77b77ec3198c7b418b67ff978bb8dabcc593", func := "pneumatic/pneumaticlaw46.EqualDiffers", spec := "equalDiffers", inPlace := ["internal/abi.NoEscape"], unfollowed := true, recurses := true, named := ["internal/strconv.uint64pow10", "math/bits.deBruijn32tab", "math/bits.deBruijn64tab"], loops := true, plainKeys := false, apart := false, laid := [("math/bits.deBruijn32tab", laid_math_bits_deBruijn32tab), ("math/bits.deBruijn64tab", laid_math_bits_deBruijn64tab), ("internal/strconv.uint64pow10", laid_internal_strconv_uint64pow10)] }
def EqualDiffersSaid : Prop := equalDiffersRow.holds Tryz.pinned (OpenSpec.ofChange equalDiffersSpec)

/-- ITS FALSE NEIGHBOUR: 'it returns false'. Refute it at one input. -/
def equalDiffersWrong : ChangeSpec := { name := "equalDiffers", fn := fun _ => fun
  | [d] => { results := [.lit (.bool false)], args := [d] }
  | _ => none }
def EqualDiffersWrongFalsely : Prop := equalDiffersRow.holds Tryz.pinned (OpenSpec.ofChange equalDiffersWrong)

/-- 'pneumaticlaw46.EqualVerifies': WHATEVER THE INPUT: true; the input reads as it did. -/
def equalVerifiesSpec : ChangeSpec := { name := "equalVerifies", fn := fun _ => fun
  | [d1, d2] => { results := [.lit (.bool true)], args := [d1, d2] }
  | _ => none }
def equalVerifiesRow : OpenClaim := { program := "ytdnjcbcdmgbaaaagreatdoor", sum := "b9c33ad953ca6ff98e4bda93194d77b77ec3198c7b418b67ff978bb8dabcc593", func := "pneumatic/pneumaticlaw46.EqualVerifies", spec := "equalVerifies", inPlace := ["internal/abi.NoEscape"], unfollowed := true, recurses := true, named := ["internal/strconv.uint64pow10", "math/bits.deBruijn32tab", "math/bits.deBruijn64tab"], loops := true, plainKeys := false, apart := false, laid := [("math/bits.deBruijn32tab", laid_math_bits_deBruijn32tab), ("math/bits.deBruijn64tab", laid_math_bits_deBruijn64tab), ("internal/strconv.uint64pow10", laid_internal_strconv_uint64pow10)] }
def EqualVerifiesSaid : Prop := equalVerifiesRow.holds Tryz.pinned (OpenSpec.ofChange equalVerifiesSpec)

/-- ITS FALSE NEIGHBOUR: 'it returns false'. Refute it at one input. -/
def equalVerifiesWrong : ChangeSpec := { name := "equalVerifies", fn := fun _ => fun
  | [d1, d2] => { results := [.lit (.bool false)], args := [d1, d2] }
  | _ => none }
def EqualVerifiesWrongFalsely : Prop := equalVerifiesRow.holds Tryz.pinned (OpenSpec.ofChange equalVerifiesWrong)

/-- 'pneumaticlaw46.EqualShows': WHATEVER THE INPUT: true; the input reads as it did. -/
def equalShowsSpec : ChangeSpec := { name := "equalShows", fn := fun _ => fun
  | [d] => { results := [.lit (.bool true)], args := [d] }
  | _ => none }
def equalShowsRow : OpenClaim := { program := "ytdnjcbcdmgbaaaagreatdoor", sum := "b9c33ad953ca6ff98e4bda93194d77b77ec3198c7b418b67ff978bb8dabcc593", func := "pneumatic/pneumaticlaw46.EqualShows", spec := "equalShows", inPlace := ["internal/abi.NoEscape"], unfollowed := true, recurses := true, named := ["internal/strconv.uint64pow10", "math/bits.deBruijn32tab", "math/bits.deBruijn64tab"], loops := true, plainKeys := false, apart := false, laid := [("math/bits.deBruijn32tab", laid_math_bits_deBruijn32tab), ("math/bits.deBruijn64tab", laid_math_bits_deBruijn64tab), ("internal/strconv.uint64pow10", laid_internal_strconv_uint64pow10)] }
def EqualShowsSaid : Prop := equalShowsRow.holds Tryz.pinned (OpenSpec.ofChange equalShowsSpec)

/-- ITS FALSE NEIGHBOUR: 'it returns false'. Refute it at one input. -/
def equalShowsWrong : ChangeSpec := { name := "equalShows", fn := fun _ => fun
  | [d] => { results := [.lit (.bool false)], args := [d] }
  | _ => none }
def EqualShowsWrongFalsely : Prop := equalShowsRow.holds Tryz.pinned (OpenSpec.ofChange equalShowsWrong)

/-- 'pneumaticlaw46.EqualTraces': WHATEVER THE INPUT: true; the input reads as it did. -/
def equalTracesSpec : ChangeSpec := { name := "equalTraces", fn := fun _ => fun
  | [d1, d2] => { results := [.lit (.bool true)], args := [d1, d2] }
  | _ => none }
def equalTracesRow : OpenClaim := { program := "ytdnjcbcdmgbaaaagreatdoor", sum := "b9c33ad953ca6ff98e4bda93194d77b77ec3198c7b418b67ff978bb8dabcc593", func := "pneumatic/pneumaticlaw46.EqualTraces", spec := "equalTraces", inPlace := ["internal/abi.NoEscape"], unfollowed := true, recurses := true, named := ["internal/strconv.uint64pow10", "math/bits.deBruijn32tab", "math/bits.deBruijn64tab"], loops := true, plainKeys := false, apart := false, laid := [("math/bits.deBruijn32tab", laid_math_bits_deBruijn32tab), ("math/bits.deBruijn64tab", laid_math_bits_deBruijn64tab), ("internal/strconv.uint64pow10", laid_internal_strconv_uint64pow10)] }
def EqualTracesSaid : Prop := equalTracesRow.holds Tryz.pinned (OpenSpec.ofChange equalTracesSpec)

/-- ITS FALSE NEIGHBOUR: 'it returns false'. Refute it at one input. -/
def equalTracesWrong : ChangeSpec := { name := "equalTraces", fn := fun _ => fun
  | [d1, d2] => { results := [.lit (.bool false)], args := [d1, d2] }
  | _ => none }
def EqualTracesWrongFalsely : Prop := equalTracesRow.holds Tryz.pinned (OpenSpec.ofChange equalTracesWrong)

/- THE SECOND FORM. 'bulk': how many values and letters a reading holds, each counted each time it is reached (what is shared counts as often as it is met; a slice's spare places count too). A statement '..UptoSaid' is the law's where the arguments, and the package variables that the reading takes, are together of bulk at most 1048576: NARROWER than '..Said'. Prove '..Said' where nothing that the law and all that it calls make is longer than what came in: it says more and counts as full. Else prove '..UptoSaid'. A law counts once. -/
mutual
def uptoBulk {H : Type} : DataW H → Nat
  | .lit (.string bytes) => bytes.length + 1
  | .lit _ => 1
  | .nil => 1
  | .ptr d => uptoBulk d + 1
  | .slice elems spare => uptoBulkAll elems + uptoBulkAll spare + 1
  | .agg parts => uptoBulkAll parts + 1
  | .iface _ d => uptoBulk d + 1
  | .map entries => uptoBulkEntries entries + 1
  | .held _ => 1
def uptoBulkAll {H : Type} : List (DataW H) → Nat
  | [] => 0
  | d :: r => uptoBulk d + uptoBulkAll r
def uptoBulkEntries {H : Type} : List (Lit × DataW H) → Nat
  | [] => 0
  | x :: r => uptoBulkEntry x + uptoBulkEntries r
def uptoBulkEntry {H : Type} : Lit × DataW H → Nat
  | (.string bytes, d) => bytes.length + uptoBulk d + 1
  | (_, d) => uptoBulk d + 1
 end
def uptoSmall : (H : Type) → List (DataW H) → Bool := fun _ ds => decide (uptoBulkAll ds ≤ 1048576)
def OpenSpec.upto (s : _root_.Go.ChangeSpec) : _root_.Go.OpenSpec := { _root_.Go.OpenSpec.ofChange s with cond := some uptoSmall }

/-- 'pneumaticlaw46.EqualDecides', WHERE WHAT IT READS IS OF BULK AT MOST 1048576: true; the input reads as it did. -/
def equalDecidesUptoRow : OpenClaim := { program := "ytdnjcbcdmgbaaaagreatdoor", sum := "b9c33ad953ca6ff98e4bda93194d77b77ec3198c7b418b67ff978bb8dabcc593", func := "pneumatic/pneumaticlaw46.EqualDecides", spec := "equalDecides", inPlace := ["internal/abi.NoEscape"], unfollowed := true, recurses := true, named := ["internal/strconv.uint64pow10", "math/bits.deBruijn32tab", "math/bits.deBruijn64tab"], loops := true, plainKeys := false, apart := false, laid := [("math/bits.deBruijn32tab", laid_math_bits_deBruijn32tab), ("math/bits.deBruijn64tab", laid_math_bits_deBruijn64tab), ("internal/strconv.uint64pow10", laid_internal_strconv_uint64pow10)], narrowed := true }
def EqualDecidesUptoSaid : Prop := equalDecidesUptoRow.holds Tryz.pinned (OpenSpec.upto equalDecidesSpec)

/-- 'pneumaticlaw46.EqualHas', WHERE WHAT IT READS IS OF BULK AT MOST 1048576: true; the input reads as it did. -/
def equalHasUptoRow : OpenClaim := { program := "ytdnjcbcdmgbaaaagreatdoor", sum := "b9c33ad953ca6ff98e4bda93194d77b77ec3198c7b418b67ff978bb8dabcc593", func := "pneumatic/pneumaticlaw46.EqualHas", spec := "equalHas", inPlace := ["internal/abi.NoEscape"], unfollowed := true, recurses := true, named := ["internal/strconv.uint64pow10", "math/bits.deBruijn32tab", "math/bits.deBruijn64tab"], loops := true, plainKeys := false, apart := false, laid := [("math/bits.deBruijn32tab", laid_math_bits_deBruijn32tab), ("math/bits.deBruijn64tab", laid_math_bits_deBruijn64tab), ("internal/strconv.uint64pow10", laid_internal_strconv_uint64pow10)], narrowed := true }
def EqualHasUptoSaid : Prop := equalHasUptoRow.holds Tryz.pinned (OpenSpec.upto equalHasSpec)

/-- 'pneumaticlaw46.EqualDiffers', WHERE WHAT IT READS IS OF BULK AT MOST 1048576: true; the input reads as it did. -/
def equalDiffersUptoRow : OpenClaim := { program := "ytdnjcbcdmgbaaaagreatdoor", sum := "b9c33ad953ca6ff98e4bda93194d77b77ec3198c7b418b67ff978bb8dabcc593", func := "pneumatic/pneumaticlaw46.EqualDiffers", spec := "equalDiffers", inPlace := ["internal/abi.NoEscape"], unfollowed := true, recurses := true, named := ["internal/strconv.uint64pow10", "math/bits.deBruijn32tab", "math/bits.deBruijn64tab"], loops := true, plainKeys := false, apart := false, laid := [("math/bits.deBruijn32tab", laid_math_bits_deBruijn32tab), ("math/bits.deBruijn64tab", laid_math_bits_deBruijn64tab), ("internal/strconv.uint64pow10", laid_internal_strconv_uint64pow10)], narrowed := true }
def EqualDiffersUptoSaid : Prop := equalDiffersUptoRow.holds Tryz.pinned (OpenSpec.upto equalDiffersSpec)

/-- 'pneumaticlaw46.EqualVerifies', WHERE WHAT IT READS IS OF BULK AT MOST 1048576: true; the input reads as it did. -/
def equalVerifiesUptoRow : OpenClaim := { program := "ytdnjcbcdmgbaaaagreatdoor", sum := "b9c33ad953ca6ff98e4bda93194d77b77ec3198c7b418b67ff978bb8dabcc593", func := "pneumatic/pneumaticlaw46.EqualVerifies", spec := "equalVerifies", inPlace := ["internal/abi.NoEscape"], unfollowed := true, recurses := true, named := ["internal/strconv.uint64pow10", "math/bits.deBruijn32tab", "math/bits.deBruijn64tab"], loops := true, plainKeys := false, apart := false, laid := [("math/bits.deBruijn32tab", laid_math_bits_deBruijn32tab), ("math/bits.deBruijn64tab", laid_math_bits_deBruijn64tab), ("internal/strconv.uint64pow10", laid_internal_strconv_uint64pow10)], narrowed := true }
def EqualVerifiesUptoSaid : Prop := equalVerifiesUptoRow.holds Tryz.pinned (OpenSpec.upto equalVerifiesSpec)

/-- 'pneumaticlaw46.EqualShows', WHERE WHAT IT READS IS OF BULK AT MOST 1048576: true; the input reads as it did. -/
def equalShowsUptoRow : OpenClaim := { program := "ytdnjcbcdmgbaaaagreatdoor", sum := "b9c33ad953ca6ff98e4bda93194d77b77ec3198c7b418b67ff978bb8dabcc593", func := "pneumatic/pneumaticlaw46.EqualShows", spec := "equalShows", inPlace := ["internal/abi.NoEscape"], unfollowed := true, recurses := true, named := ["internal/strconv.uint64pow10", "math/bits.deBruijn32tab", "math/bits.deBruijn64tab"], loops := true, plainKeys := false, apart := false, laid := [("math/bits.deBruijn32tab", laid_math_bits_deBruijn32tab), ("math/bits.deBruijn64tab", laid_math_bits_deBruijn64tab), ("internal/strconv.uint64pow10", laid_internal_strconv_uint64pow10)], narrowed := true }
def EqualShowsUptoSaid : Prop := equalShowsUptoRow.holds Tryz.pinned (OpenSpec.upto equalShowsSpec)

/-- 'pneumaticlaw46.EqualTraces', WHERE WHAT IT READS IS OF BULK AT MOST 1048576: true; the input reads as it did. -/
def equalTracesUptoRow : OpenClaim := { program := "ytdnjcbcdmgbaaaagreatdoor", sum := "b9c33ad953ca6ff98e4bda93194d77b77ec3198c7b418b67ff978bb8dabcc593", func := "pneumatic/pneumaticlaw46.EqualTraces", spec := "equalTraces", inPlace := ["internal/abi.NoEscape"], unfollowed := true, recurses := true, named := ["internal/strconv.uint64pow10", "math/bits.deBruijn32tab", "math/bits.deBruijn64tab"], loops := true, plainKeys := false, apart := false, laid := [("math/bits.deBruijn32tab", laid_math_bits_deBruijn32tab), ("math/bits.deBruijn64tab", laid_math_bits_deBruijn64tab), ("internal/strconv.uint64pow10", laid_internal_strconv_uint64pow10)], narrowed := true }
def EqualTracesUptoSaid : Prop := equalTracesUptoRow.holds Tryz.pinned (OpenSpec.upto equalTracesSpec)

end Rows
end Go.Proofs.YtdnjcbcdmgbaaaaGreatDoor
