/-
  NARROWER THAN 'FOR EVERY INPUT', by the rows' own cells (each row's printed sentence says how): ReachBegins: loops, laid · ReachExplores: loops, laid · StallChecks: loops, laid · StallCounts: loops, laid · StallLists: loops, laid · StallEnds: loops, laid · ReachStops: laid · ReachReturns: laid · ReachPaths: laid · ReachLeads: loops, laid · StallFinds: loops, laid · StallCascades: laid · StallBegins: loops, laid · StallLeads: loops, laid · ReachVerifies: loops, laid · ReachCloses: loops, laid.
  DERIVED. THE GIVEN ROWS OF THIS SEAT. 16 by the template 'for every input the law returns true; each argument reads behind the call as it read before'; 0 by the template 'total and deterministic' (their statements: YtpahlccmojdgdaaGreatDoorTotals.lean).
  GIVEN WITH THE SEED: the statements are not yours to turn. If you find one false, say at which input.
  Laid BY PROGRAM, IN A SANDBOX (cutbox-rows.mjs): the forced cells as the released guide's own fill.sh prints them over the translation 3320e7266acaedf2… (all of the seat's roots in one cut). By AI agents, Wed Nov 11 2026. No macro, syntax, notation, axiom, sorry.
-/
import Derived.Test.YtpahlccmojdgdaaGreatDoorChecked
import GoSem.Claim
import GoSem.ClaimJoined
import GoSem.ClaimMapViews
import Derived.JoinedTies
import Derived.KernelRfl
namespace Go.Proofs.YtpahlccmojdgdaaGreatDoor
/- THE CELL 'sum', in the pinned program and in every row, IS THE sha256 OF THE DUMP (.gsa) THAT YtpahlccmojdgdaaGreatDoorProg.lean LOADS. Nothing in Lean hashes anything: it is a label: what it is worth is what the hold of that sum in a sandbox is worth. -/
noncomputable def Tryz.pinned : Pinned := { name := "ytpahlccmojdgdaagreatdoor", sum := "3320e7266acaedf2460080b3573be14e6244840f04266218acead95806c91f7b", checked := Tryz.checked }
namespace Rows
def none {H : Type} : Left H := { results := [], args := [] }

/- WHAT THE LISTED PACKAGE-LEVEL VARIABLES READ AS WHEN THE CALL BEGINS. Each datum BY PROGRAM (the guide's laid-datum.mjs) off the statement by which the dump's own 'gosem.cut.vars' lays the variable. In a bare row this is a premise. The card (YtpahlccmojdgdaaGreatDoorCards.lean) ties it to the program's text. -/
def laid_math_bits_deBruijn32tab {H : Type} : DataW H := .agg [.lit (.int .u8 0), .lit (.int .u8 1), .lit (.int .u8 28), .lit (.int .u8 2), .lit (.int .u8 29), .lit (.int .u8 14), .lit (.int .u8 24), .lit (.int .u8 3), .lit (.int .u8 30), .lit (.int .u8 22), .lit (.int .u8 20), .lit (.int .u8 15), .lit (.int .u8 25), .lit (.int .u8 17), .lit (.int .u8 4), .lit (.int .u8 8), .lit (.int .u8 31), .lit (.int .u8 27), .lit (.int .u8 13), .lit (.int .u8 23), .lit (.int .u8 21), .lit (.int .u8 19), .lit (.int .u8 16), .lit (.int .u8 7), .lit (.int .u8 26), .lit (.int .u8 12), .lit (.int .u8 18), .lit (.int .u8 6), .lit (.int .u8 11), .lit (.int .u8 5), .lit (.int .u8 10), .lit (.int .u8 9)]
def laid_math_bits_deBruijn64tab {H : Type} : DataW H := .agg [.lit (.int .u8 0), .lit (.int .u8 1), .lit (.int .u8 56), .lit (.int .u8 2), .lit (.int .u8 57), .lit (.int .u8 49), .lit (.int .u8 28), .lit (.int .u8 3), .lit (.int .u8 61), .lit (.int .u8 58), .lit (.int .u8 42), .lit (.int .u8 50), .lit (.int .u8 38), .lit (.int .u8 29), .lit (.int .u8 17), .lit (.int .u8 4), .lit (.int .u8 62), .lit (.int .u8 47), .lit (.int .u8 59), .lit (.int .u8 36), .lit (.int .u8 45), .lit (.int .u8 43), .lit (.int .u8 51), .lit (.int .u8 22), .lit (.int .u8 53), .lit (.int .u8 39), .lit (.int .u8 33), .lit (.int .u8 30), .lit (.int .u8 24), .lit (.int .u8 18), .lit (.int .u8 12), .lit (.int .u8 5), .lit (.int .u8 63), .lit (.int .u8 55), .lit (.int .u8 48), .lit (.int .u8 27), .lit (.int .u8 60), .lit (.int .u8 41), .lit (.int .u8 37), .lit (.int .u8 16), .lit (.int .u8 46), .lit (.int .u8 35), .lit (.int .u8 44), .lit (.int .u8 21), .lit (.int .u8 52), .lit (.int .u8 32), .lit (.int .u8 23), .lit (.int .u8 11), .lit (.int .u8 54), .lit (.int .u8 26), .lit (.int .u8 40), .lit (.int .u8 15), .lit (.int .u8 34), .lit (.int .u8 20), .lit (.int .u8 31), .lit (.int .u8 10), .lit (.int .u8 25), .lit (.int .u8 14), .lit (.int .u8 19), .lit (.int .u8 9), .lit (.int .u8 13), .lit (.int .u8 8), .lit (.int .u8 7), .lit (.int .u8 6)]
def laid_internal_strconv_uint64pow10 {H : Type} : DataW H := .agg [.lit (.int .u64 1), .lit (.int .u64 10), .lit (.int .u64 100), .lit (.int .u64 1000), .lit (.int .u64 10000), .lit (.int .u64 100000), .lit (.int .u64 1000000), .lit (.int .u64 10000000), .lit (.int .u64 100000000), .lit (.int .u64 1000000000), .lit (.int .u64 10000000000), .lit (.int .u64 100000000000), .lit (.int .u64 1000000000000), .lit (.int .u64 10000000000000), .lit (.int .u64 100000000000000), .lit (.int .u64 1000000000000000), .lit (.int .u64 10000000000000000), .lit (.int .u64 100000000000000000), .lit (.int .u64 1000000000000000000), .lit (.int .u64 10000000000000000000)]

/-- 'pneumaticlaw40.ReachBegins': WHATEVER THE INPUT: true; the input reads as it did. -/
def reachBeginsSpec : ChangeSpec := { name := "reachBegins", fn := fun _ => fun
  | [d1, d2] => { results := [.lit (.bool true)], args := [d1, d2] }
  | _ => none }
def reachBeginsRow : OpenClaim := { program := "ytpahlccmojdgdaagreatdoor", sum := "3320e7266acaedf2460080b3573be14e6244840f04266218acead95806c91f7b", func := "pneumatic/pneumaticlaw40.ReachBegins", spec := "reachBegins", inPlace := ["internal/abi.NoEscape"], unfollowed := true, recurses := true, named := ["internal/strconv.uint64pow10", "math/bits.deBruijn32tab", "math/bits.deBruijn64tab"], loops := true, plainKeys := false, apart := false, laid := [("math/bits.deBruijn32tab", laid_math_bits_deBruijn32tab), ("math/bits.deBruijn64tab", laid_math_bits_deBruijn64tab), ("internal/strconv.uint64pow10", laid_internal_strconv_uint64pow10)] }
def ReachBeginsSaid : Prop := reachBeginsRow.holds Tryz.pinned (OpenSpec.ofChange reachBeginsSpec)

/-- ITS FALSE NEIGHBOUR: 'it returns false'. Refute it at one input. -/
def reachBeginsWrong : ChangeSpec := { name := "reachBegins", fn := fun _ => fun
  | [d1, d2] => { results := [.lit (.bool false)], args := [d1, d2] }
  | _ => none }
def ReachBeginsWrongFalsely : Prop := reachBeginsRow.holds Tryz.pinned (OpenSpec.ofChange reachBeginsWrong)

/-- 'pneumaticlaw40.ReachExplores': WHATEVER THE INPUT: true; the input reads as it did. -/
def reachExploresSpec : ChangeSpec := { name := "reachExplores", fn := fun _ => fun
  | [d1, d2] => { results := [.lit (.bool true)], args := [d1, d2] }
  | _ => none }
def reachExploresRow : OpenClaim := { program := "ytpahlccmojdgdaagreatdoor", sum := "3320e7266acaedf2460080b3573be14e6244840f04266218acead95806c91f7b", func := "pneumatic/pneumaticlaw40.ReachExplores", spec := "reachExplores", inPlace := ["internal/abi.NoEscape"], unfollowed := true, recurses := true, named := ["internal/strconv.uint64pow10", "math/bits.deBruijn32tab", "math/bits.deBruijn64tab"], loops := true, plainKeys := false, apart := false, laid := [("math/bits.deBruijn32tab", laid_math_bits_deBruijn32tab), ("math/bits.deBruijn64tab", laid_math_bits_deBruijn64tab), ("internal/strconv.uint64pow10", laid_internal_strconv_uint64pow10)] }
def ReachExploresSaid : Prop := reachExploresRow.holds Tryz.pinned (OpenSpec.ofChange reachExploresSpec)

/-- ITS FALSE NEIGHBOUR: 'it returns false'. Refute it at one input. -/
def reachExploresWrong : ChangeSpec := { name := "reachExplores", fn := fun _ => fun
  | [d1, d2] => { results := [.lit (.bool false)], args := [d1, d2] }
  | _ => none }
def ReachExploresWrongFalsely : Prop := reachExploresRow.holds Tryz.pinned (OpenSpec.ofChange reachExploresWrong)

/-- 'pneumaticlaw44.StallChecks': WHATEVER THE INPUT: true; the input reads as it did. -/
def stallChecksSpec : ChangeSpec := { name := "stallChecks", fn := fun _ => fun
  | [d1, d2] => { results := [.lit (.bool true)], args := [d1, d2] }
  | _ => none }
def stallChecksRow : OpenClaim := { program := "ytpahlccmojdgdaagreatdoor", sum := "3320e7266acaedf2460080b3573be14e6244840f04266218acead95806c91f7b", func := "pneumatic/pneumaticlaw44.StallChecks", spec := "stallChecks", inPlace := ["internal/abi.NoEscape"], unfollowed := true, recurses := true, named := ["internal/strconv.uint64pow10", "math/bits.deBruijn32tab", "math/bits.deBruijn64tab"], loops := true, plainKeys := false, apart := false, laid := [("math/bits.deBruijn32tab", laid_math_bits_deBruijn32tab), ("math/bits.deBruijn64tab", laid_math_bits_deBruijn64tab), ("internal/strconv.uint64pow10", laid_internal_strconv_uint64pow10)] }
def StallChecksSaid : Prop := stallChecksRow.holds Tryz.pinned (OpenSpec.ofChange stallChecksSpec)

/-- ITS FALSE NEIGHBOUR: 'it returns false'. Refute it at one input. -/
def stallChecksWrong : ChangeSpec := { name := "stallChecks", fn := fun _ => fun
  | [d1, d2] => { results := [.lit (.bool false)], args := [d1, d2] }
  | _ => none }
def StallChecksWrongFalsely : Prop := stallChecksRow.holds Tryz.pinned (OpenSpec.ofChange stallChecksWrong)

/-- 'pneumaticlaw44.StallCounts': WHATEVER THE INPUT: true; the input reads as it did. -/
def stallCountsSpec : ChangeSpec := { name := "stallCounts", fn := fun _ => fun
  | [d1, d2, d3] => { results := [.lit (.bool true)], args := [d1, d2, d3] }
  | _ => none }
def stallCountsRow : OpenClaim := { program := "ytpahlccmojdgdaagreatdoor", sum := "3320e7266acaedf2460080b3573be14e6244840f04266218acead95806c91f7b", func := "pneumatic/pneumaticlaw44.StallCounts", spec := "stallCounts", inPlace := ["internal/abi.NoEscape"], unfollowed := true, recurses := true, named := ["internal/strconv.uint64pow10", "math/bits.deBruijn32tab", "math/bits.deBruijn64tab"], loops := true, plainKeys := false, apart := false, laid := [("math/bits.deBruijn32tab", laid_math_bits_deBruijn32tab), ("math/bits.deBruijn64tab", laid_math_bits_deBruijn64tab), ("internal/strconv.uint64pow10", laid_internal_strconv_uint64pow10)] }
def StallCountsSaid : Prop := stallCountsRow.holds Tryz.pinned (OpenSpec.ofChange stallCountsSpec)

/-- ITS FALSE NEIGHBOUR: 'it returns false'. Refute it at one input. -/
def stallCountsWrong : ChangeSpec := { name := "stallCounts", fn := fun _ => fun
  | [d1, d2, d3] => { results := [.lit (.bool false)], args := [d1, d2, d3] }
  | _ => none }
def StallCountsWrongFalsely : Prop := stallCountsRow.holds Tryz.pinned (OpenSpec.ofChange stallCountsWrong)

/-- 'pneumaticlaw44.StallLists': WHATEVER THE INPUT: true; the input reads as it did. -/
def stallListsSpec : ChangeSpec := { name := "stallLists", fn := fun _ => fun
  | [d1, d2, d3] => { results := [.lit (.bool true)], args := [d1, d2, d3] }
  | _ => none }
def stallListsRow : OpenClaim := { program := "ytpahlccmojdgdaagreatdoor", sum := "3320e7266acaedf2460080b3573be14e6244840f04266218acead95806c91f7b", func := "pneumatic/pneumaticlaw44.StallLists", spec := "stallLists", inPlace := ["internal/abi.NoEscape"], unfollowed := true, recurses := true, named := ["internal/strconv.uint64pow10", "math/bits.deBruijn32tab", "math/bits.deBruijn64tab"], loops := true, plainKeys := false, apart := false, laid := [("math/bits.deBruijn32tab", laid_math_bits_deBruijn32tab), ("math/bits.deBruijn64tab", laid_math_bits_deBruijn64tab), ("internal/strconv.uint64pow10", laid_internal_strconv_uint64pow10)] }
def StallListsSaid : Prop := stallListsRow.holds Tryz.pinned (OpenSpec.ofChange stallListsSpec)

/-- ITS FALSE NEIGHBOUR: 'it returns false'. Refute it at one input. -/
def stallListsWrong : ChangeSpec := { name := "stallLists", fn := fun _ => fun
  | [d1, d2, d3] => { results := [.lit (.bool false)], args := [d1, d2, d3] }
  | _ => none }
def StallListsWrongFalsely : Prop := stallListsRow.holds Tryz.pinned (OpenSpec.ofChange stallListsWrong)

/-- 'pneumaticlaw44.StallEnds': WHATEVER THE INPUT: true; the input reads as it did. -/
def stallEndsSpec : ChangeSpec := { name := "stallEnds", fn := fun _ => fun
  | [d1, d2, d3] => { results := [.lit (.bool true)], args := [d1, d2, d3] }
  | _ => none }
def stallEndsRow : OpenClaim := { program := "ytpahlccmojdgdaagreatdoor", sum := "3320e7266acaedf2460080b3573be14e6244840f04266218acead95806c91f7b", func := "pneumatic/pneumaticlaw44.StallEnds", spec := "stallEnds", inPlace := ["internal/abi.NoEscape"], unfollowed := true, recurses := true, named := ["internal/strconv.uint64pow10", "math/bits.deBruijn32tab", "math/bits.deBruijn64tab"], loops := true, plainKeys := false, apart := false, laid := [("math/bits.deBruijn32tab", laid_math_bits_deBruijn32tab), ("math/bits.deBruijn64tab", laid_math_bits_deBruijn64tab), ("internal/strconv.uint64pow10", laid_internal_strconv_uint64pow10)] }
def StallEndsSaid : Prop := stallEndsRow.holds Tryz.pinned (OpenSpec.ofChange stallEndsSpec)

/-- ITS FALSE NEIGHBOUR: 'it returns false'. Refute it at one input. -/
def stallEndsWrong : ChangeSpec := { name := "stallEnds", fn := fun _ => fun
  | [d1, d2, d3] => { results := [.lit (.bool false)], args := [d1, d2, d3] }
  | _ => none }
def StallEndsWrongFalsely : Prop := stallEndsRow.holds Tryz.pinned (OpenSpec.ofChange stallEndsWrong)

/-- 'pneumaticlaw40.ReachStops': WHATEVER THE INPUT: true; the input reads as it did. -/
def reachStopsSpec : ChangeSpec := { name := "reachStops", fn := fun _ => fun
  | [d1, d2] => { results := [.lit (.bool true)], args := [d1, d2] }
  | _ => none }
def reachStopsRow : OpenClaim := { program := "ytpahlccmojdgdaagreatdoor", sum := "3320e7266acaedf2460080b3573be14e6244840f04266218acead95806c91f7b", func := "pneumatic/pneumaticlaw40.ReachStops", spec := "reachStops", inPlace := ["internal/abi.NoEscape"], unfollowed := true, recurses := true, named := ["internal/strconv.uint64pow10", "math/bits.deBruijn32tab", "math/bits.deBruijn64tab"], plainKeys := false, apart := false, laid := [("math/bits.deBruijn32tab", laid_math_bits_deBruijn32tab), ("math/bits.deBruijn64tab", laid_math_bits_deBruijn64tab), ("internal/strconv.uint64pow10", laid_internal_strconv_uint64pow10)] }
def ReachStopsSaid : Prop := reachStopsRow.holds Tryz.pinned (OpenSpec.ofChange reachStopsSpec)

/-- ITS FALSE NEIGHBOUR: 'it returns false'. Refute it at one input. -/
def reachStopsWrong : ChangeSpec := { name := "reachStops", fn := fun _ => fun
  | [d1, d2] => { results := [.lit (.bool false)], args := [d1, d2] }
  | _ => none }
def ReachStopsWrongFalsely : Prop := reachStopsRow.holds Tryz.pinned (OpenSpec.ofChange reachStopsWrong)

/-- 'pneumaticlaw40.ReachReturns': WHATEVER THE INPUT: true; the input reads as it did. -/
def reachReturnsSpec : ChangeSpec := { name := "reachReturns", fn := fun _ => fun
  | [d] => { results := [.lit (.bool true)], args := [d] }
  | _ => none }
def reachReturnsRow : OpenClaim := { program := "ytpahlccmojdgdaagreatdoor", sum := "3320e7266acaedf2460080b3573be14e6244840f04266218acead95806c91f7b", func := "pneumatic/pneumaticlaw40.ReachReturns", spec := "reachReturns", inPlace := ["internal/abi.NoEscape"], unfollowed := true, recurses := true, named := ["internal/strconv.uint64pow10", "math/bits.deBruijn32tab", "math/bits.deBruijn64tab"], plainKeys := false, apart := false, laid := [("math/bits.deBruijn32tab", laid_math_bits_deBruijn32tab), ("math/bits.deBruijn64tab", laid_math_bits_deBruijn64tab), ("internal/strconv.uint64pow10", laid_internal_strconv_uint64pow10)] }
def ReachReturnsSaid : Prop := reachReturnsRow.holds Tryz.pinned (OpenSpec.ofChange reachReturnsSpec)

/-- ITS FALSE NEIGHBOUR: 'it returns false'. Refute it at one input. -/
def reachReturnsWrong : ChangeSpec := { name := "reachReturns", fn := fun _ => fun
  | [d] => { results := [.lit (.bool false)], args := [d] }
  | _ => none }
def ReachReturnsWrongFalsely : Prop := reachReturnsRow.holds Tryz.pinned (OpenSpec.ofChange reachReturnsWrong)

/-- 'pneumaticlaw40.ReachPaths': WHATEVER THE INPUT: true; the input reads as it did. -/
def reachPathsSpec : ChangeSpec := { name := "reachPaths", fn := fun _ => fun
  | [d1, d2, d3] => { results := [.lit (.bool true)], args := [d1, d2, d3] }
  | _ => none }
def reachPathsRow : OpenClaim := { program := "ytpahlccmojdgdaagreatdoor", sum := "3320e7266acaedf2460080b3573be14e6244840f04266218acead95806c91f7b", func := "pneumatic/pneumaticlaw40.ReachPaths", spec := "reachPaths", inPlace := ["internal/abi.NoEscape"], unfollowed := true, recurses := true, named := ["internal/strconv.uint64pow10", "math/bits.deBruijn32tab", "math/bits.deBruijn64tab"], plainKeys := false, apart := false, laid := [("math/bits.deBruijn32tab", laid_math_bits_deBruijn32tab), ("math/bits.deBruijn64tab", laid_math_bits_deBruijn64tab), ("internal/strconv.uint64pow10", laid_internal_strconv_uint64pow10)] }
def ReachPathsSaid : Prop := reachPathsRow.holds Tryz.pinned (OpenSpec.ofChange reachPathsSpec)

/-- ITS FALSE NEIGHBOUR: 'it returns false'. Refute it at one input. -/
def reachPathsWrong : ChangeSpec := { name := "reachPaths", fn := fun _ => fun
  | [d1, d2, d3] => { results := [.lit (.bool false)], args := [d1, d2, d3] }
  | _ => none }
def ReachPathsWrongFalsely : Prop := reachPathsRow.holds Tryz.pinned (OpenSpec.ofChange reachPathsWrong)

/-- 'pneumaticlaw40.ReachLeads': WHATEVER THE INPUT: true; the input reads as it did. -/
def reachLeadsSpec : ChangeSpec := { name := "reachLeads", fn := fun _ => fun
  | [d1, d2] => { results := [.lit (.bool true)], args := [d1, d2] }
  | _ => none }
def reachLeadsRow : OpenClaim := { program := "ytpahlccmojdgdaagreatdoor", sum := "3320e7266acaedf2460080b3573be14e6244840f04266218acead95806c91f7b", func := "pneumatic/pneumaticlaw40.ReachLeads", spec := "reachLeads", inPlace := ["internal/abi.NoEscape"], unfollowed := true, recurses := true, named := ["internal/strconv.uint64pow10", "math/bits.deBruijn32tab", "math/bits.deBruijn64tab"], loops := true, plainKeys := false, apart := false, laid := [("math/bits.deBruijn32tab", laid_math_bits_deBruijn32tab), ("math/bits.deBruijn64tab", laid_math_bits_deBruijn64tab), ("internal/strconv.uint64pow10", laid_internal_strconv_uint64pow10)] }
def ReachLeadsSaid : Prop := reachLeadsRow.holds Tryz.pinned (OpenSpec.ofChange reachLeadsSpec)

/-- ITS FALSE NEIGHBOUR: 'it returns false'. Refute it at one input. -/
def reachLeadsWrong : ChangeSpec := { name := "reachLeads", fn := fun _ => fun
  | [d1, d2] => { results := [.lit (.bool false)], args := [d1, d2] }
  | _ => none }
def ReachLeadsWrongFalsely : Prop := reachLeadsRow.holds Tryz.pinned (OpenSpec.ofChange reachLeadsWrong)

/-- 'pneumaticlaw44.StallFinds': WHATEVER THE INPUT: true; the input reads as it did. -/
def stallFindsSpec : ChangeSpec := { name := "stallFinds", fn := fun _ => fun
  | [d1, d2, d3] => { results := [.lit (.bool true)], args := [d1, d2, d3] }
  | _ => none }
def stallFindsRow : OpenClaim := { program := "ytpahlccmojdgdaagreatdoor", sum := "3320e7266acaedf2460080b3573be14e6244840f04266218acead95806c91f7b", func := "pneumatic/pneumaticlaw44.StallFinds", spec := "stallFinds", inPlace := ["internal/abi.NoEscape"], unfollowed := true, recurses := true, named := ["internal/strconv.uint64pow10", "math/bits.deBruijn32tab", "math/bits.deBruijn64tab"], loops := true, plainKeys := false, apart := false, laid := [("math/bits.deBruijn32tab", laid_math_bits_deBruijn32tab), ("math/bits.deBruijn64tab", laid_math_bits_deBruijn64tab), ("internal/strconv.uint64pow10", laid_internal_strconv_uint64pow10)] }
def StallFindsSaid : Prop := stallFindsRow.holds Tryz.pinned (OpenSpec.ofChange stallFindsSpec)

/-- ITS FALSE NEIGHBOUR: 'it returns false'. Refute it at one input. -/
def stallFindsWrong : ChangeSpec := { name := "stallFinds", fn := fun _ => fun
  | [d1, d2, d3] => { results := [.lit (.bool false)], args := [d1, d2, d3] }
  | _ => none }
def StallFindsWrongFalsely : Prop := stallFindsRow.holds Tryz.pinned (OpenSpec.ofChange stallFindsWrong)

/-- 'pneumaticlaw44.StallCascades': WHATEVER THE INPUT: true; the input reads as it did. -/
def stallCascadesSpec : ChangeSpec := { name := "stallCascades", fn := fun _ => fun
  | [d] => { results := [.lit (.bool true)], args := [d] }
  | _ => none }
def stallCascadesRow : OpenClaim := { program := "ytpahlccmojdgdaagreatdoor", sum := "3320e7266acaedf2460080b3573be14e6244840f04266218acead95806c91f7b", func := "pneumatic/pneumaticlaw44.StallCascades", spec := "stallCascades", inPlace := ["internal/abi.NoEscape"], unfollowed := true, recurses := true, named := ["internal/strconv.uint64pow10", "math/bits.deBruijn32tab", "math/bits.deBruijn64tab"], plainKeys := false, apart := false, laid := [("math/bits.deBruijn32tab", laid_math_bits_deBruijn32tab), ("math/bits.deBruijn64tab", laid_math_bits_deBruijn64tab), ("internal/strconv.uint64pow10", laid_internal_strconv_uint64pow10)] }
def StallCascadesSaid : Prop := stallCascadesRow.holds Tryz.pinned (OpenSpec.ofChange stallCascadesSpec)

/-- ITS FALSE NEIGHBOUR: 'it returns false'. Refute it at one input. -/
def stallCascadesWrong : ChangeSpec := { name := "stallCascades", fn := fun _ => fun
  | [d] => { results := [.lit (.bool false)], args := [d] }
  | _ => none }
def StallCascadesWrongFalsely : Prop := stallCascadesRow.holds Tryz.pinned (OpenSpec.ofChange stallCascadesWrong)

/-- 'pneumaticlaw44.StallBegins': WHATEVER THE INPUT: true; the input reads as it did. -/
def stallBeginsSpec : ChangeSpec := { name := "stallBegins", fn := fun _ => fun
  | [d1, d2, d3] => { results := [.lit (.bool true)], args := [d1, d2, d3] }
  | _ => none }
def stallBeginsRow : OpenClaim := { program := "ytpahlccmojdgdaagreatdoor", sum := "3320e7266acaedf2460080b3573be14e6244840f04266218acead95806c91f7b", func := "pneumatic/pneumaticlaw44.StallBegins", spec := "stallBegins", inPlace := ["internal/abi.NoEscape"], unfollowed := true, recurses := true, named := ["internal/strconv.uint64pow10", "math/bits.deBruijn32tab", "math/bits.deBruijn64tab"], loops := true, plainKeys := false, apart := false, laid := [("math/bits.deBruijn32tab", laid_math_bits_deBruijn32tab), ("math/bits.deBruijn64tab", laid_math_bits_deBruijn64tab), ("internal/strconv.uint64pow10", laid_internal_strconv_uint64pow10)] }
def StallBeginsSaid : Prop := stallBeginsRow.holds Tryz.pinned (OpenSpec.ofChange stallBeginsSpec)

/-- ITS FALSE NEIGHBOUR: 'it returns false'. Refute it at one input. -/
def stallBeginsWrong : ChangeSpec := { name := "stallBegins", fn := fun _ => fun
  | [d1, d2, d3] => { results := [.lit (.bool false)], args := [d1, d2, d3] }
  | _ => none }
def StallBeginsWrongFalsely : Prop := stallBeginsRow.holds Tryz.pinned (OpenSpec.ofChange stallBeginsWrong)

/-- 'pneumaticlaw44.StallLeads': WHATEVER THE INPUT: true; the input reads as it did. -/
def stallLeadsSpec : ChangeSpec := { name := "stallLeads", fn := fun _ => fun
  | [d1, d2] => { results := [.lit (.bool true)], args := [d1, d2] }
  | _ => none }
def stallLeadsRow : OpenClaim := { program := "ytpahlccmojdgdaagreatdoor", sum := "3320e7266acaedf2460080b3573be14e6244840f04266218acead95806c91f7b", func := "pneumatic/pneumaticlaw44.StallLeads", spec := "stallLeads", inPlace := ["internal/abi.NoEscape"], unfollowed := true, recurses := true, named := ["internal/strconv.uint64pow10", "math/bits.deBruijn32tab", "math/bits.deBruijn64tab"], loops := true, plainKeys := false, apart := false, laid := [("math/bits.deBruijn32tab", laid_math_bits_deBruijn32tab), ("math/bits.deBruijn64tab", laid_math_bits_deBruijn64tab), ("internal/strconv.uint64pow10", laid_internal_strconv_uint64pow10)] }
def StallLeadsSaid : Prop := stallLeadsRow.holds Tryz.pinned (OpenSpec.ofChange stallLeadsSpec)

/-- ITS FALSE NEIGHBOUR: 'it returns false'. Refute it at one input. -/
def stallLeadsWrong : ChangeSpec := { name := "stallLeads", fn := fun _ => fun
  | [d1, d2] => { results := [.lit (.bool false)], args := [d1, d2] }
  | _ => none }
def StallLeadsWrongFalsely : Prop := stallLeadsRow.holds Tryz.pinned (OpenSpec.ofChange stallLeadsWrong)

/-- 'pneumaticlaw40.ReachVerifies': WHATEVER THE INPUT: true; the input reads as it did. -/
def reachVerifiesSpec : ChangeSpec := { name := "reachVerifies", fn := fun _ => fun
  | [d1, d2, d3] => { results := [.lit (.bool true)], args := [d1, d2, d3] }
  | _ => none }
def reachVerifiesRow : OpenClaim := { program := "ytpahlccmojdgdaagreatdoor", sum := "3320e7266acaedf2460080b3573be14e6244840f04266218acead95806c91f7b", func := "pneumatic/pneumaticlaw40.ReachVerifies", spec := "reachVerifies", inPlace := ["internal/abi.NoEscape"], unfollowed := true, recurses := true, named := ["internal/strconv.uint64pow10", "math/bits.deBruijn32tab", "math/bits.deBruijn64tab"], loops := true, plainKeys := false, apart := false, laid := [("math/bits.deBruijn32tab", laid_math_bits_deBruijn32tab), ("math/bits.deBruijn64tab", laid_math_bits_deBruijn64tab), ("internal/strconv.uint64pow10", laid_internal_strconv_uint64pow10)] }
def ReachVerifiesSaid : Prop := reachVerifiesRow.holds Tryz.pinned (OpenSpec.ofChange reachVerifiesSpec)

/-- ITS FALSE NEIGHBOUR: 'it returns false'. Refute it at one input. -/
def reachVerifiesWrong : ChangeSpec := { name := "reachVerifies", fn := fun _ => fun
  | [d1, d2, d3] => { results := [.lit (.bool false)], args := [d1, d2, d3] }
  | _ => none }
def ReachVerifiesWrongFalsely : Prop := reachVerifiesRow.holds Tryz.pinned (OpenSpec.ofChange reachVerifiesWrong)

/-- 'pneumaticlaw40.ReachCloses': WHATEVER THE INPUT: true; the input reads as it did. -/
def reachClosesSpec : ChangeSpec := { name := "reachCloses", fn := fun _ => fun
  | [d1, d2] => { results := [.lit (.bool true)], args := [d1, d2] }
  | _ => none }
def reachClosesRow : OpenClaim := { program := "ytpahlccmojdgdaagreatdoor", sum := "3320e7266acaedf2460080b3573be14e6244840f04266218acead95806c91f7b", func := "pneumatic/pneumaticlaw40.ReachCloses", spec := "reachCloses", inPlace := ["internal/abi.NoEscape"], unfollowed := true, recurses := true, named := ["internal/strconv.uint64pow10", "math/bits.deBruijn32tab", "math/bits.deBruijn64tab"], loops := true, plainKeys := false, apart := false, laid := [("math/bits.deBruijn32tab", laid_math_bits_deBruijn32tab), ("math/bits.deBruijn64tab", laid_math_bits_deBruijn64tab), ("internal/strconv.uint64pow10", laid_internal_strconv_uint64pow10)] }
def ReachClosesSaid : Prop := reachClosesRow.holds Tryz.pinned (OpenSpec.ofChange reachClosesSpec)

/-- ITS FALSE NEIGHBOUR: 'it returns false'. Refute it at one input. -/
def reachClosesWrong : ChangeSpec := { name := "reachCloses", fn := fun _ => fun
  | [d1, d2] => { results := [.lit (.bool false)], args := [d1, d2] }
  | _ => none }
def ReachClosesWrongFalsely : Prop := reachClosesRow.holds Tryz.pinned (OpenSpec.ofChange reachClosesWrong)

/- THE SECOND FORM. 'bulk': how many values and letters a reading holds, each counted each time it is reached (what is shared counts as often as it is met; a slice's spare places count too). A statement '..UptoSaid' is the law's where the arguments, and the package variables that the reading takes, are together of bulk at most 1048576: NARROWER than '..Said'. Prove '..Said' where nothing that the law and all that it calls make is longer than what came in: it says more and counts as full. Else prove '..UptoSaid'. A law counts once. -/
mutual
def uptoBulk {H : Type} : DataW H → Nat
  | .lit (.string bytes) => bytes.length + 1
  | .lit _ => 1
  | .nil => 1
  | .ptr d => uptoBulk d + 1
  | .slice elems spare => uptoBulkAll elems + uptoBulkAll spare + 1
  | .agg parts => uptoBulkAll parts + 1
  | .iface _ d => uptoBulk d + 1
  | .map entries => uptoBulkEntries entries + 1
  | .held _ => 1
def uptoBulkAll {H : Type} : List (DataW H) → Nat
  | [] => 0
  | d :: r => uptoBulk d + uptoBulkAll r
def uptoBulkEntries {H : Type} : List (Lit × DataW H) → Nat
  | [] => 0
  | x :: r => uptoBulkEntry x + uptoBulkEntries r
def uptoBulkEntry {H : Type} : Lit × DataW H → Nat
  | (.string bytes, d) => bytes.length + uptoBulk d + 1
  | (_, d) => uptoBulk d + 1
 end
def uptoSmall : (H : Type) → List (DataW H) → Bool := fun _ ds => decide (uptoBulkAll ds ≤ 1048576)
def OpenSpec.upto (s : _root_.Go.ChangeSpec) : _root_.Go.OpenSpec := { _root_.Go.OpenSpec.ofChange s with cond := some uptoSmall }

/-- 'pneumaticlaw40.ReachBegins', WHERE WHAT IT READS IS OF BULK AT MOST 1048576: true; the input reads as it did. -/
def reachBeginsUptoRow : OpenClaim := { program := "ytpahlccmojdgdaagreatdoor", sum := "3320e7266acaedf2460080b3573be14e6244840f04266218acead95806c91f7b", func := "pneumatic/pneumaticlaw40.ReachBegins", spec := "reachBegins", inPlace := ["internal/abi.NoEscape"], unfollowed := true, recurses := true, named := ["internal/strconv.uint64pow10", "math/bits.deBruijn32tab", "math/bits.deBruijn64tab"], loops := true, plainKeys := false, apart := false, laid := [("math/bits.deBruijn32tab", laid_math_bits_deBruijn32tab), ("math/bits.deBruijn64tab", laid_math_bits_deBruijn64tab), ("internal/strconv.uint64pow10", laid_internal_strconv_uint64pow10)], narrowed := true }
def ReachBeginsUptoSaid : Prop := reachBeginsUptoRow.holds Tryz.pinned (OpenSpec.upto reachBeginsSpec)

/-- 'pneumaticlaw40.ReachExplores', WHERE WHAT IT READS IS OF BULK AT MOST 1048576: true; the input reads as it did. -/
def reachExploresUptoRow : OpenClaim := { program := "ytpahlccmojdgdaagreatdoor", sum := "3320e7266acaedf2460080b3573be14e6244840f04266218acead95806c91f7b", func := "pneumatic/pneumaticlaw40.ReachExplores", spec := "reachExplores", inPlace := ["internal/abi.NoEscape"], unfollowed := true, recurses := true, named := ["internal/strconv.uint64pow10", "math/bits.deBruijn32tab", "math/bits.deBruijn64tab"], loops := true, plainKeys := false, apart := false, laid := [("math/bits.deBruijn32tab", laid_math_bits_deBruijn32tab), ("math/bits.deBruijn64tab", laid_math_bits_deBruijn64tab), ("internal/strconv.uint64pow10", laid_internal_strconv_uint64pow10)], narrowed := true }
def ReachExploresUptoSaid : Prop := reachExploresUptoRow.holds Tryz.pinned (OpenSpec.upto reachExploresSpec)

/-- 'pneumaticlaw44.StallChecks', WHERE WHAT IT READS IS OF BULK AT MOST 1048576: true; the input reads as it did. -/
def stallChecksUptoRow : OpenClaim := { program := "ytpahlccmojdgdaagreatdoor", sum := "3320e7266acaedf2460080b3573be14e6244840f04266218acead95806c91f7b", func := "pneumatic/pneumaticlaw44.StallChecks", spec := "stallChecks", inPlace := ["internal/abi.NoEscape"], unfollowed := true, recurses := true, named := ["internal/strconv.uint64pow10", "math/bits.deBruijn32tab", "math/bits.deBruijn64tab"], loops := true, plainKeys := false, apart := false, laid := [("math/bits.deBruijn32tab", laid_math_bits_deBruijn32tab), ("math/bits.deBruijn64tab", laid_math_bits_deBruijn64tab), ("internal/strconv.uint64pow10", laid_internal_strconv_uint64pow10)], narrowed := true }
def StallChecksUptoSaid : Prop := stallChecksUptoRow.holds Tryz.pinned (OpenSpec.upto stallChecksSpec)

/-- 'pneumaticlaw44.StallCounts', WHERE WHAT IT READS IS OF BULK AT MOST 1048576: true; the input reads as it did. -/
def stallCountsUptoRow : OpenClaim := { program := "ytpahlccmojdgdaagreatdoor", sum := "3320e7266acaedf2460080b3573be14e6244840f04266218acead95806c91f7b", func := "pneumatic/pneumaticlaw44.StallCounts", spec := "stallCounts", inPlace := ["internal/abi.NoEscape"], unfollowed := true, recurses := true, named := ["internal/strconv.uint64pow10", "math/bits.deBruijn32tab", "math/bits.deBruijn64tab"], loops := true, plainKeys := false, apart := false, laid := [("math/bits.deBruijn32tab", laid_math_bits_deBruijn32tab), ("math/bits.deBruijn64tab", laid_math_bits_deBruijn64tab), ("internal/strconv.uint64pow10", laid_internal_strconv_uint64pow10)], narrowed := true }
def StallCountsUptoSaid : Prop := stallCountsUptoRow.holds Tryz.pinned (OpenSpec.upto stallCountsSpec)

/-- 'pneumaticlaw44.StallLists', WHERE WHAT IT READS IS OF BULK AT MOST 1048576: true; the input reads as it did. -/
def stallListsUptoRow : OpenClaim := { program := "ytpahlccmojdgdaagreatdoor", sum := "3320e7266acaedf2460080b3573be14e6244840f04266218acead95806c91f7b", func := "pneumatic/pneumaticlaw44.StallLists", spec := "stallLists", inPlace := ["internal/abi.NoEscape"], unfollowed := true, recurses := true, named := ["internal/strconv.uint64pow10", "math/bits.deBruijn32tab", "math/bits.deBruijn64tab"], loops := true, plainKeys := false, apart := false, laid := [("math/bits.deBruijn32tab", laid_math_bits_deBruijn32tab), ("math/bits.deBruijn64tab", laid_math_bits_deBruijn64tab), ("internal/strconv.uint64pow10", laid_internal_strconv_uint64pow10)], narrowed := true }
def StallListsUptoSaid : Prop := stallListsUptoRow.holds Tryz.pinned (OpenSpec.upto stallListsSpec)

/-- 'pneumaticlaw44.StallEnds', WHERE WHAT IT READS IS OF BULK AT MOST 1048576: true; the input reads as it did. -/
def stallEndsUptoRow : OpenClaim := { program := "ytpahlccmojdgdaagreatdoor", sum := "3320e7266acaedf2460080b3573be14e6244840f04266218acead95806c91f7b", func := "pneumatic/pneumaticlaw44.StallEnds", spec := "stallEnds", inPlace := ["internal/abi.NoEscape"], unfollowed := true, recurses := true, named := ["internal/strconv.uint64pow10", "math/bits.deBruijn32tab", "math/bits.deBruijn64tab"], loops := true, plainKeys := false, apart := false, laid := [("math/bits.deBruijn32tab", laid_math_bits_deBruijn32tab), ("math/bits.deBruijn64tab", laid_math_bits_deBruijn64tab), ("internal/strconv.uint64pow10", laid_internal_strconv_uint64pow10)], narrowed := true }
def StallEndsUptoSaid : Prop := stallEndsUptoRow.holds Tryz.pinned (OpenSpec.upto stallEndsSpec)

/-- 'pneumaticlaw40.ReachStops', WHERE WHAT IT READS IS OF BULK AT MOST 1048576: true; the input reads as it did. -/
def reachStopsUptoRow : OpenClaim := { program := "ytpahlccmojdgdaagreatdoor", sum := "3320e7266acaedf2460080b3573be14e6244840f04266218acead95806c91f7b", func := "pneumatic/pneumaticlaw40.ReachStops", spec := "reachStops", inPlace := ["internal/abi.NoEscape"], unfollowed := true, recurses := true, named := ["internal/strconv.uint64pow10", "math/bits.deBruijn32tab", "math/bits.deBruijn64tab"], plainKeys := false, apart := false, laid := [("math/bits.deBruijn32tab", laid_math_bits_deBruijn32tab), ("math/bits.deBruijn64tab", laid_math_bits_deBruijn64tab), ("internal/strconv.uint64pow10", laid_internal_strconv_uint64pow10)], narrowed := true }
def ReachStopsUptoSaid : Prop := reachStopsUptoRow.holds Tryz.pinned (OpenSpec.upto reachStopsSpec)

/-- 'pneumaticlaw40.ReachReturns', WHERE WHAT IT READS IS OF BULK AT MOST 1048576: true; the input reads as it did. -/
def reachReturnsUptoRow : OpenClaim := { program := "ytpahlccmojdgdaagreatdoor", sum := "3320e7266acaedf2460080b3573be14e6244840f04266218acead95806c91f7b", func := "pneumatic/pneumaticlaw40.ReachReturns", spec := "reachReturns", inPlace := ["internal/abi.NoEscape"], unfollowed := true, recurses := true, named := ["internal/strconv.uint64pow10", "math/bits.deBruijn32tab", "math/bits.deBruijn64tab"], plainKeys := false, apart := false, laid := [("math/bits.deBruijn32tab", laid_math_bits_deBruijn32tab), ("math/bits.deBruijn64tab", laid_math_bits_deBruijn64tab), ("internal/strconv.uint64pow10", laid_internal_strconv_uint64pow10)], narrowed := true }
def ReachReturnsUptoSaid : Prop := reachReturnsUptoRow.holds Tryz.pinned (OpenSpec.upto reachReturnsSpec)

/-- 'pneumaticlaw40.ReachPaths', WHERE WHAT IT READS IS OF BULK AT MOST 1048576: true; the input reads as it did. -/
def reachPathsUptoRow : OpenClaim := { program := "ytpahlccmojdgdaagreatdoor", sum := "3320e7266acaedf2460080b3573be14e6244840f04266218acead95806c91f7b", func := "pneumatic/pneumaticlaw40.ReachPaths", spec := "reachPaths", inPlace := ["internal/abi.NoEscape"], unfollowed := true, recurses := true, named := ["internal/strconv.uint64pow10", "math/bits.deBruijn32tab", "math/bits.deBruijn64tab"], plainKeys := false, apart := false, laid := [("math/bits.deBruijn32tab", laid_math_bits_deBruijn32tab), ("math/bits.deBruijn64tab", laid_math_bits_deBruijn64tab), ("internal/strconv.uint64pow10", laid_internal_strconv_uint64pow10)], narrowed := true }
def ReachPathsUptoSaid : Prop := reachPathsUptoRow.holds Tryz.pinned (OpenSpec.upto reachPathsSpec)

/-- 'pneumaticlaw40.ReachLeads', WHERE WHAT IT READS IS OF BULK AT MOST 1048576: true; the input reads as it did. -/
def reachLeadsUptoRow : OpenClaim := { program := "ytpahlccmojdgdaagreatdoor", sum := "3320e7266acaedf2460080b3573be14e6244840f04266218acead95806c91f7b", func := "pneumatic/pneumaticlaw40.ReachLeads", spec := "reachLeads", inPlace := ["internal/abi.NoEscape"], unfollowed := true, recurses := true, named := ["internal/strconv.uint64pow10", "math/bits.deBruijn32tab", "math/bits.deBruijn64tab"], loops := true, plainKeys := false, apart := false, laid := [("math/bits.deBruijn32tab", laid_math_bits_deBruijn32tab), ("math/bits.deBruijn64tab", laid_math_bits_deBruijn64tab), ("internal/strconv.uint64pow10", laid_internal_strconv_uint64pow10)], narrowed := true }
def ReachLeadsUptoSaid : Prop := reachLeadsUptoRow.holds Tryz.pinned (OpenSpec.upto reachLeadsSpec)

/-- 'pneumaticlaw44.StallFinds', WHERE WHAT IT READS IS OF BULK AT MOST 1048576: true; the input reads as it did. -/
def stallFindsUptoRow : OpenClaim := { program := "ytpahlccmojdgdaagreatdoor", sum := "3320e7266acaedf2460080b3573be14e6244840f04266218acead95806c91f7b", func := "pneumatic/pneumaticlaw44.StallFinds", spec := "stallFinds", inPlace := ["internal/abi.NoEscape"], unfollowed := true, recurses := true, named := ["internal/strconv.uint64pow10", "math/bits.deBruijn32tab", "math/bits.deBruijn64tab"], loops := true, plainKeys := false, apart := false, laid := [("math/bits.deBruijn32tab", laid_math_bits_deBruijn32tab), ("math/bits.deBruijn64tab", laid_math_bits_deBruijn64tab), ("internal/strconv.uint64pow10", laid_internal_strconv_uint64pow10)], narrowed := true }
def StallFindsUptoSaid : Prop := stallFindsUptoRow.holds Tryz.pinned (OpenSpec.upto stallFindsSpec)

/-- 'pneumaticlaw44.StallCascades', WHERE WHAT IT READS IS OF BULK AT MOST 1048576: true; the input reads as it did. -/
def stallCascadesUptoRow : OpenClaim := { program := "ytpahlccmojdgdaagreatdoor", sum := "3320e7266acaedf2460080b3573be14e6244840f04266218acead95806c91f7b", func := "pneumatic/pneumaticlaw44.StallCascades", spec := "stallCascades", inPlace := ["internal/abi.NoEscape"], unfollowed := true, recurses := true, named := ["internal/strconv.uint64pow10", "math/bits.deBruijn32tab", "math/bits.deBruijn64tab"], plainKeys := false, apart := false, laid := [("math/bits.deBruijn32tab", laid_math_bits_deBruijn32tab), ("math/bits.deBruijn64tab", laid_math_bits_deBruijn64tab), ("internal/strconv.uint64pow10", laid_internal_strconv_uint64pow10)], narrowed := true }
def StallCascadesUptoSaid : Prop := stallCascadesUptoRow.holds Tryz.pinned (OpenSpec.upto stallCascadesSpec)

/-- 'pneumaticlaw44.StallBegins', WHERE WHAT IT READS IS OF BULK AT MOST 1048576: true; the input reads as it did. -/
def stallBeginsUptoRow : OpenClaim := { program := "ytpahlccmojdgdaagreatdoor", sum := "3320e7266acaedf2460080b3573be14e6244840f04266218acead95806c91f7b", func := "pneumatic/pneumaticlaw44.StallBegins", spec := "stallBegins", inPlace := ["internal/abi.NoEscape"], unfollowed := true, recurses := true, named := ["internal/strconv.uint64pow10", "math/bits.deBruijn32tab", "math/bits.deBruijn64tab"], loops := true, plainKeys := false, apart := false, laid := [("math/bits.deBruijn32tab", laid_math_bits_deBruijn32tab), ("math/bits.deBruijn64tab", laid_math_bits_deBruijn64tab), ("internal/strconv.uint64pow10", laid_internal_strconv_uint64pow10)], narrowed := true }
def StallBeginsUptoSaid : Prop := stallBeginsUptoRow.holds Tryz.pinned (OpenSpec.upto stallBeginsSpec)

/-- 'pneumaticlaw44.StallLeads', WHERE WHAT IT READS IS OF BULK AT MOST 1048576: true; the input reads as it did. -/
def stallLeadsUptoRow : OpenClaim := { program := "ytpahlccmojdgdaagreatdoor", sum := "3320e7266acaedf2460080b3573be14e6244840f04266218acead95806c91f7b", func := "pneumatic/pneumaticlaw44.StallLeads", spec := "stallLeads", inPlace := ["internal/abi.NoEscape"], unfollowed := true, recurses := true, named := ["internal/strconv.uint64pow10", "math/bits.deBruijn32tab", "math/bits.deBruijn64tab"], loops := true, plainKeys := false, apart := false, laid := [("math/bits.deBruijn32tab", laid_math_bits_deBruijn32tab), ("math/bits.deBruijn64tab", laid_math_bits_deBruijn64tab), ("internal/strconv.uint64pow10", laid_internal_strconv_uint64pow10)], narrowed := true }
def StallLeadsUptoSaid : Prop := stallLeadsUptoRow.holds Tryz.pinned (OpenSpec.upto stallLeadsSpec)

/-- 'pneumaticlaw40.ReachVerifies', WHERE WHAT IT READS IS OF BULK AT MOST 1048576: true; the input reads as it did. -/
def reachVerifiesUptoRow : OpenClaim := { program := "ytpahlccmojdgdaagreatdoor", sum := "3320e7266acaedf2460080b3573be14e6244840f04266218acead95806c91f7b", func := "pneumatic/pneumaticlaw40.ReachVerifies", spec := "reachVerifies", inPlace := ["internal/abi.NoEscape"], unfollowed := true, recurses := true, named := ["internal/strconv.uint64pow10", "math/bits.deBruijn32tab", "math/bits.deBruijn64tab"], loops := true, plainKeys := false, apart := false, laid := [("math/bits.deBruijn32tab", laid_math_bits_deBruijn32tab), ("math/bits.deBruijn64tab", laid_math_bits_deBruijn64tab), ("internal/strconv.uint64pow10", laid_internal_strconv_uint64pow10)], narrowed := true }
def ReachVerifiesUptoSaid : Prop := reachVerifiesUptoRow.holds Tryz.pinned (OpenSpec.upto reachVerifiesSpec)

/-- 'pneumaticlaw40.ReachCloses', WHERE WHAT IT READS IS OF BULK AT MOST 1048576: true; the input reads as it did. -/
def reachClosesUptoRow : OpenClaim := { program := "ytpahlccmojdgdaagreatdoor", sum := "3320e7266acaedf2460080b3573be14e6244840f04266218acead95806c91f7b", func := "pneumatic/pneumaticlaw40.ReachCloses", spec := "reachCloses", inPlace := ["internal/abi.NoEscape"], unfollowed := true, recurses := true, named := ["internal/strconv.uint64pow10", "math/bits.deBruijn32tab", "math/bits.deBruijn64tab"], loops := true, plainKeys := false, apart := false, laid := [("math/bits.deBruijn32tab", laid_math_bits_deBruijn32tab), ("math/bits.deBruijn64tab", laid_math_bits_deBruijn64tab), ("internal/strconv.uint64pow10", laid_internal_strconv_uint64pow10)], narrowed := true }
def ReachClosesUptoSaid : Prop := reachClosesUptoRow.holds Tryz.pinned (OpenSpec.upto reachClosesSpec)

end Rows
end Go.Proofs.YtpahlccmojdgdaaGreatDoor
