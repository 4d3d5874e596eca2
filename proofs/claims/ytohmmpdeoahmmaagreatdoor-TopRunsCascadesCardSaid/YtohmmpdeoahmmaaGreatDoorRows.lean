/-
  NARROWER THAN 'FOR EVERY INPUT', by the rows' own cells (each row's printed sentence says how): OverlapGroups: laid · TopCascadeEnds: laid · TopCascadeStops: laid · TopCascadeLeast: laid · TopRunsCascades: laid · TopChainAlike: laid.
  DERIVED. THE GIVEN ROWS OF THIS SEAT. 6 by the template 'for every input the law returns true; each argument reads behind the call as it read before'; 0 by the template 'total and deterministic' (their statements: YtohmmpdeoahmmaaGreatDoorTotals.lean).
  GIVEN WITH THE SEED: the statements are not yours to turn. If you find one false, say at which input.
  Laid BY PROGRAM, IN A SANDBOX (cutbox-rows.mjs): the forced cells as the released guide's own fill.sh prints them over the translation 338ec99f95173d54… (all of the seat's roots in one cut). By AI agents, Wed Nov 11 2026. No macro, syntax, notation, axiom, sorry.
-/
import Derived.Test.YtohmmpdeoahmmaaGreatDoorChecked
import GoSem.Claim
import GoSem.ClaimJoined
import GoSem.ClaimMapViews
import Derived.JoinedTies
import Derived.KernelRfl
namespace Go.Proofs.YtohmmpdeoahmmaaGreatDoor
/- THE CELL 'sum', in the pinned program and in every row, IS THE sha256 OF THE DUMP (.gsa) THAT YtohmmpdeoahmmaaGreatDoorProg.lean LOADS. Nothing in Lean hashes anything: it is a label: what it is worth is what the hold of that sum in a sandbox is worth. -/
noncomputable def Tryz.pinned : Pinned := { name := "ytohmmpdeoahmmaagreatdoor", sum := "338ec99f95173d548ace58efbc13c61e3a4675b833b724b26fd0d885755f750e", checked := Tryz.checked }
namespace Rows
def none {H : Type} : Left H := { results := [], args := [] }

/- WHAT THE LISTED PACKAGE-LEVEL VARIABLES READ AS WHEN THE CALL BEGINS. Each datum BY PROGRAM (the guide's laid-datum.mjs) off the statement by which the dump's own 'gosem.cut.vars' lays the variable. In a bare row this is a premise. The card (YtohmmpdeoahmmaaGreatDoorCards.lean) ties it to the program's text. -/
def laid_math_bits_deBruijn32tab {H : Type} : DataW H := .agg [.lit (.int .u8 0), .lit (.int .u8 1), .lit (.int .u8 28), .lit (.int .u8 2), .lit (.int .u8 29), .lit (.int .u8 14), .lit (.int .u8 24), .lit (.int .u8 3), .lit (.int .u8 30), .lit (.int .u8 22), .lit (.int .u8 20), .lit (.int .u8 15), .lit (.int .u8 25), .lit (.int .u8 17), .lit (.int .u8 4), .lit (.int .u8 8), .lit (.int .u8 31), .lit (.int .u8 27), .lit (.int .u8 13), .lit (.int .u8 23), .lit (.int .u8 21), .lit (.int .u8 19), .lit (.int .u8 16), .lit (.int .u8 7), .lit (.int .u8 26), .lit (.int .u8 12), .lit (.int .u8 18), .lit (.int .u8 6), .lit (.int .u8 11), .lit (.int .u8 5), .lit (.int .u8 10), .lit (.int .u8 9)]
def laid_math_bits_deBruijn64tab {H : Type} : DataW H := .agg [.lit (.int .u8 0), .lit (.int .u8 1), .lit (.int .u8 56), .lit (.int .u8 2), .lit (.int .u8 57), .lit (.int .u8 49), .lit (.int .u8 28), .lit (.int .u8 3), .lit (.int .u8 61), .lit (.int .u8 58), .lit (.int .u8 42), .lit (.int .u8 50), .lit (.int .u8 38), .lit (.int .u8 29), .lit (.int .u8 17), .lit (.int .u8 4), .lit (.int .u8 62), .lit (.int .u8 47), .lit (.int .u8 59), .lit (.int .u8 36), .lit (.int .u8 45), .lit (.int .u8 43), .lit (.int .u8 51), .lit (.int .u8 22), .lit (.int .u8 53), .lit (.int .u8 39), .lit (.int .u8 33), .lit (.int .u8 30), .lit (.int .u8 24), .lit (.int .u8 18), .lit (.int .u8 12), .lit (.int .u8 5), .lit (.int .u8 63), .lit (.int .u8 55), .lit (.int .u8 48), .lit (.int .u8 27), .lit (.int .u8 60), .lit (.int .u8 41), .lit (.int .u8 37), .lit (.int .u8 16), .lit (.int .u8 46), .lit (.int .u8 35), .lit (.int .u8 44), .lit (.int .u8 21), .lit (.int .u8 52), .lit (.int .u8 32), .lit (.int .u8 23), .lit (.int .u8 11), .lit (.int .u8 54), .lit (.int .u8 26), .lit (.int .u8 40), .lit (.int .u8 15), .lit (.int .u8 34), .lit (.int .u8 20), .lit (.int .u8 31), .lit (.int .u8 10), .lit (.int .u8 25), .lit (.int .u8 14), .lit (.int .u8 19), .lit (.int .u8 9), .lit (.int .u8 13), .lit (.int .u8 8), .lit (.int .u8 7), .lit (.int .u8 6)]
def laid_internal_strconv_uint64pow10 {H : Type} : DataW H := .agg [.lit (.int .u64 1), .lit (.int .u64 10), .lit (.int .u64 100), .lit (.int .u64 1000), .lit (.int .u64 10000), .lit (.int .u64 100000), .lit (.int .u64 1000000), .lit (.int .u64 10000000), .lit (.int .u64 100000000), .lit (.int .u64 1000000000), .lit (.int .u64 10000000000), .lit (.int .u64 100000000000), .lit (.int .u64 1000000000000), .lit (.int .u64 10000000000000), .lit (.int .u64 100000000000000), .lit (.int .u64 1000000000000000), .lit (.int .u64 10000000000000000), .lit (.int .u64 100000000000000000), .lit (.int .u64 1000000000000000000), .lit (.int .u64 10000000000000000000)]
def laid_pneumatic_group_bits {H : Type} : DataW H := .agg [.lit (.int .u64 1), .lit (.int .u64 2), .lit (.int .u64 4), .lit (.int .u64 8), .lit (.int .u64 16), .lit (.int .u64 32)]

/-- 'pneumaticlaw43.OverlapGroups': WHATEVER THE INPUT: true; the input reads as it did. -/
def overlapGroupsSpec : ChangeSpec := { name := "overlapGroups", fn := fun _ => fun
  | [d] => { results := [.lit (.bool true)], args := [d] }
  | _ => none }
def overlapGroupsRow : OpenClaim := { program := "ytohmmpdeoahmmaagreatdoor", sum := "338ec99f95173d548ace58efbc13c61e3a4675b833b724b26fd0d885755f750e", func := "pneumatic/pneumaticlaw43.OverlapGroups", spec := "overlapGroups", inPlace := ["internal/abi.NoEscape"], unfollowed := true, recurses := true, named := ["internal/strconv.uint64pow10", "math/bits.deBruijn32tab", "math/bits.deBruijn64tab"], plainKeys := false, apart := false, laid := [("math/bits.deBruijn32tab", laid_math_bits_deBruijn32tab), ("math/bits.deBruijn64tab", laid_math_bits_deBruijn64tab), ("internal/strconv.uint64pow10", laid_internal_strconv_uint64pow10)] }
def OverlapGroupsSaid : Prop := overlapGroupsRow.holds Tryz.pinned (OpenSpec.ofChange overlapGroupsSpec)

/-- ITS FALSE NEIGHBOUR: 'it returns false'. Refute it at one input. -/
def overlapGroupsWrong : ChangeSpec := { name := "overlapGroups", fn := fun _ => fun
  | [d] => { results := [.lit (.bool false)], args := [d] }
  | _ => none }
def OverlapGroupsWrongFalsely : Prop := overlapGroupsRow.holds Tryz.pinned (OpenSpec.ofChange overlapGroupsWrong)

/-- 'pneumatictop.TopCascadeEnds': WHATEVER THE INPUT: true; the input reads as it did. -/
def topCascadeEndsSpec : ChangeSpec := { name := "topCascadeEnds", fn := fun _ => fun
  | [d1, d2] => { results := [.lit (.bool true)], args := [d1, d2] }
  | _ => none }
def topCascadeEndsRow : OpenClaim := { program := "ytohmmpdeoahmmaagreatdoor", sum := "338ec99f95173d548ace58efbc13c61e3a4675b833b724b26fd0d885755f750e", func := "pneumatic/pneumatictop.TopCascadeEnds", spec := "topCascadeEnds", unfollowed := true, recurses := true, named := ["pneumatic/group.bits", "internal/strconv.uint64pow10", "math/bits.deBruijn32tab", "math/bits.deBruijn64tab"], plainKeys := false, apart := false, laid := [("math/bits.deBruijn32tab", laid_math_bits_deBruijn32tab), ("math/bits.deBruijn64tab", laid_math_bits_deBruijn64tab), ("internal/strconv.uint64pow10", laid_internal_strconv_uint64pow10), ("pneumatic/group.bits", laid_pneumatic_group_bits)] }
def TopCascadeEndsSaid : Prop := topCascadeEndsRow.holds Tryz.pinned (OpenSpec.ofChange topCascadeEndsSpec)

/-- ITS FALSE NEIGHBOUR: 'it returns false'. Refute it at one input. -/
def topCascadeEndsWrong : ChangeSpec := { name := "topCascadeEnds", fn := fun _ => fun
  | [d1, d2] => { results := [.lit (.bool false)], args := [d1, d2] }
  | _ => none }
def TopCascadeEndsWrongFalsely : Prop := topCascadeEndsRow.holds Tryz.pinned (OpenSpec.ofChange topCascadeEndsWrong)

/-- 'pneumatictop.TopCascadeStops': WHATEVER THE INPUT: true; the input reads as it did. -/
def topCascadeStopsSpec : ChangeSpec := { name := "topCascadeStops", fn := fun _ => fun
  | [d1, d2] => { results := [.lit (.bool true)], args := [d1, d2] }
  | _ => none }
def topCascadeStopsRow : OpenClaim := { program := "ytohmmpdeoahmmaagreatdoor", sum := "338ec99f95173d548ace58efbc13c61e3a4675b833b724b26fd0d885755f750e", func := "pneumatic/pneumatictop.TopCascadeStops", spec := "topCascadeStops", unfollowed := true, recurses := true, named := ["pneumatic/group.bits", "internal/strconv.uint64pow10", "math/bits.deBruijn32tab", "math/bits.deBruijn64tab"], plainKeys := false, apart := false, laid := [("math/bits.deBruijn32tab", laid_math_bits_deBruijn32tab), ("math/bits.deBruijn64tab", laid_math_bits_deBruijn64tab), ("internal/strconv.uint64pow10", laid_internal_strconv_uint64pow10), ("pneumatic/group.bits", laid_pneumatic_group_bits)] }
def TopCascadeStopsSaid : Prop := topCascadeStopsRow.holds Tryz.pinned (OpenSpec.ofChange topCascadeStopsSpec)

/-- ITS FALSE NEIGHBOUR: 'it returns false'. Refute it at one input. -/
def topCascadeStopsWrong : ChangeSpec := { name := "topCascadeStops", fn := fun _ => fun
  | [d1, d2] => { results := [.lit (.bool false)], args := [d1, d2] }
  | _ => none }
def TopCascadeStopsWrongFalsely : Prop := topCascadeStopsRow.holds Tryz.pinned (OpenSpec.ofChange topCascadeStopsWrong)

/-- 'pneumatictop.TopCascadeLeast': WHATEVER THE INPUT: true; the input reads as it did. -/
def topCascadeLeastSpec : ChangeSpec := { name := "topCascadeLeast", fn := fun _ => fun
  | [d] => { results := [.lit (.bool true)], args := [d] }
  | _ => none }
def topCascadeLeastRow : OpenClaim := { program := "ytohmmpdeoahmmaagreatdoor", sum := "338ec99f95173d548ace58efbc13c61e3a4675b833b724b26fd0d885755f750e", func := "pneumatic/pneumatictop.TopCascadeLeast", spec := "topCascadeLeast", unfollowed := true, recurses := true, named := ["pneumatic/group.bits", "internal/strconv.uint64pow10", "math/bits.deBruijn32tab", "math/bits.deBruijn64tab"], plainKeys := false, apart := false, laid := [("math/bits.deBruijn32tab", laid_math_bits_deBruijn32tab), ("math/bits.deBruijn64tab", laid_math_bits_deBruijn64tab), ("internal/strconv.uint64pow10", laid_internal_strconv_uint64pow10), ("pneumatic/group.bits", laid_pneumatic_group_bits)] }
def TopCascadeLeastSaid : Prop := topCascadeLeastRow.holds Tryz.pinned (OpenSpec.ofChange topCascadeLeastSpec)

/-- ITS FALSE NEIGHBOUR: 'it returns false'. Refute it at one input. -/
def topCascadeLeastWrong : ChangeSpec := { name := "topCascadeLeast", fn := fun _ => fun
  | [d] => { results := [.lit (.bool false)], args := [d] }
  | _ => none }
def TopCascadeLeastWrongFalsely : Prop := topCascadeLeastRow.holds Tryz.pinned (OpenSpec.ofChange topCascadeLeastWrong)

/-- 'pneumatictop.TopRunsCascades': WHATEVER THE INPUT: true; the input reads as it did. -/
def topRunsCascadesSpec : ChangeSpec := { name := "topRunsCascades", fn := fun _ => fun
  | [d1, d2] => { results := [.lit (.bool true)], args := [d1, d2] }
  | _ => none }
def topRunsCascadesRow : OpenClaim := { program := "ytohmmpdeoahmmaagreatdoor", sum := "338ec99f95173d548ace58efbc13c61e3a4675b833b724b26fd0d885755f750e", func := "pneumatic/pneumatictop.TopRunsCascades", spec := "topRunsCascades", inPlace := ["internal/abi.NoEscape"], unfollowed := true, recurses := true, named := ["pneumatic/group.bits", "internal/strconv.uint64pow10", "math/bits.deBruijn32tab", "math/bits.deBruijn64tab"], plainKeys := false, apart := false, laid := [("math/bits.deBruijn32tab", laid_math_bits_deBruijn32tab), ("math/bits.deBruijn64tab", laid_math_bits_deBruijn64tab), ("internal/strconv.uint64pow10", laid_internal_strconv_uint64pow10), ("pneumatic/group.bits", laid_pneumatic_group_bits)] }
def TopRunsCascadesSaid : Prop := topRunsCascadesRow.holds Tryz.pinned (OpenSpec.ofChange topRunsCascadesSpec)

/-- ITS FALSE NEIGHBOUR: 'it returns false'. Refute it at one input. -/
def topRunsCascadesWrong : ChangeSpec := { name := "topRunsCascades", fn := fun _ => fun
  | [d1, d2] => { results := [.lit (.bool false)], args := [d1, d2] }
  | _ => none }
def TopRunsCascadesWrongFalsely : Prop := topRunsCascadesRow.holds Tryz.pinned (OpenSpec.ofChange topRunsCascadesWrong)

/-- 'pneumatictop.TopChainAlike': WHATEVER THE INPUT: true; the input reads as it did. -/
def topChainAlikeSpec : ChangeSpec := { name := "topChainAlike", fn := fun _ => fun
  | [d1, d2] => { results := [.lit (.bool true)], args := [d1, d2] }
  | _ => none }
def topChainAlikeRow : OpenClaim := { program := "ytohmmpdeoahmmaagreatdoor", sum := "338ec99f95173d548ace58efbc13c61e3a4675b833b724b26fd0d885755f750e", func := "pneumatic/pneumatictop.TopChainAlike", spec := "topChainAlike", unfollowed := true, recurses := true, named := ["internal/strconv.uint64pow10", "math/bits.deBruijn32tab", "math/bits.deBruijn64tab", "pneumatic/group.bits"], plainKeys := false, apart := false, laid := [("math/bits.deBruijn32tab", laid_math_bits_deBruijn32tab), ("math/bits.deBruijn64tab", laid_math_bits_deBruijn64tab), ("internal/strconv.uint64pow10", laid_internal_strconv_uint64pow10), ("pneumatic/group.bits", laid_pneumatic_group_bits)] }
def TopChainAlikeSaid : Prop := topChainAlikeRow.holds Tryz.pinned (OpenSpec.ofChange topChainAlikeSpec)

/-- ITS FALSE NEIGHBOUR: 'it returns false'. Refute it at one input. -/
def topChainAlikeWrong : ChangeSpec := { name := "topChainAlike", fn := fun _ => fun
  | [d1, d2] => { results := [.lit (.bool false)], args := [d1, d2] }
  | _ => none }
def TopChainAlikeWrongFalsely : Prop := topChainAlikeRow.holds Tryz.pinned (OpenSpec.ofChange topChainAlikeWrong)

/- THE SECOND FORM. 'bulk': how many values and letters a reading holds, each counted each time it is reached (what is shared counts as often as it is met; a slice's spare places count too). A statement '..UptoSaid' is the law's where the arguments, and the package variables that the reading takes, are together of bulk at most 1048576: NARROWER than '..Said'. Prove '..Said' where nothing that the law and all that it calls make is longer than what came in: it says more and counts as full. Else prove '..UptoSaid'. A law counts once. -/
mutual
def uptoBulk {H : Type} : DataW H → Nat
  | .lit (.string bytes) => bytes.length + 1
  | .lit _ => 1
  | .nil => 1
  | .ptr d => uptoBulk d + 1
  | .slice elems spare => uptoBulkAll elems + uptoBulkAll spare + 1
  | .agg parts => uptoBulkAll parts + 1
  | .iface _ d => uptoBulk d + 1
  | .map entries => uptoBulkEntries entries + 1
  | .held _ => 1
def uptoBulkAll {H : Type} : List (DataW H) → Nat
  | [] => 0
  | d :: r => uptoBulk d + uptoBulkAll r
def uptoBulkEntries {H : Type} : List (Lit × DataW H) → Nat
  | [] => 0
  | x :: r => uptoBulkEntry x + uptoBulkEntries r
def uptoBulkEntry {H : Type} : Lit × DataW H → Nat
  | (.string bytes, d) => bytes.length + uptoBulk d + 1
  | (_, d) => uptoBulk d + 1
 end
def uptoSmall : (H : Type) → List (DataW H) → Bool := fun _ ds => decide (uptoBulkAll ds ≤ 1048576)
def OpenSpec.upto (s : _root_.Go.ChangeSpec) : _root_.Go.OpenSpec := { _root_.Go.OpenSpec.ofChange s with cond := some uptoSmall }

/-- 'pneumaticlaw43.OverlapGroups', WHERE WHAT IT READS IS OF BULK AT MOST 1048576: true; the input reads as it did. -/
def overlapGroupsUptoRow : OpenClaim := { program := "ytohmmpdeoahmmaagreatdoor", sum := "338ec99f95173d548ace58efbc13c61e3a4675b833b724b26fd0d885755f750e", func := "pneumatic/pneumaticlaw43.OverlapGroups", spec := "overlapGroups", inPlace := ["internal/abi.NoEscape"], unfollowed := true, recurses := true, named := ["internal/strconv.uint64pow10", "math/bits.deBruijn32tab", "math/bits.deBruijn64tab"], plainKeys := false, apart := false, laid := [("math/bits.deBruijn32tab", laid_math_bits_deBruijn32tab), ("math/bits.deBruijn64tab", laid_math_bits_deBruijn64tab), ("internal/strconv.uint64pow10", laid_internal_strconv_uint64pow10)], narrowed := true }
def OverlapGroupsUptoSaid : Prop := overlapGroupsUptoRow.holds Tryz.pinned (OpenSpec.upto overlapGroupsSpec)

/-- 'pneumatictop.TopCascadeEnds', WHERE WHAT IT READS IS OF BULK AT MOST 1048576: true; the input reads as it did. -/
def topCascadeEndsUptoRow : OpenClaim := { program := "ytohmmpdeoahmmaagreatdoor", sum := "338ec99f95173d548ace58efbc13c61e3a4675b833b724b26fd0d885755f750e", func := "pneumatic/pneumatictop.TopCascadeEnds", spec := "topCascadeEnds", unfollowed := true, recurses := true, named := ["pneumatic/group.bits", "internal/strconv.uint64pow10", "math/bits.deBruijn32tab", "math/bits.deBruijn64tab"], plainKeys := false, apart := false, laid := [("math/bits.deBruijn32tab", laid_math_bits_deBruijn32tab), ("math/bits.deBruijn64tab", laid_math_bits_deBruijn64tab), ("internal/strconv.uint64pow10", laid_internal_strconv_uint64pow10), ("pneumatic/group.bits", laid_pneumatic_group_bits)], narrowed := true }
def TopCascadeEndsUptoSaid : Prop := topCascadeEndsUptoRow.holds Tryz.pinned (OpenSpec.upto topCascadeEndsSpec)

/-- 'pneumatictop.TopCascadeStops', WHERE WHAT IT READS IS OF BULK AT MOST 1048576: true; the input reads as it did. -/
def topCascadeStopsUptoRow : OpenClaim := { program := "ytohmmpdeoahmmaagreatdoor", sum := "338ec99f95173d548ace58efbc13c61e3a4675b833b724b26fd0d885755f750e", func := "pneumatic/pneumatictop.TopCascadeStops", spec := "topCascadeStops", unfollowed := true, recurses := true, named := ["pneumatic/group.bits", "internal/strconv.uint64pow10", "math/bits.deBruijn32tab", "math/bits.deBruijn64tab"], plainKeys := false, apart := false, laid := [("math/bits.deBruijn32tab", laid_math_bits_deBruijn32tab), ("math/bits.deBruijn64tab", laid_math_bits_deBruijn64tab), ("internal/strconv.uint64pow10", laid_internal_strconv_uint64pow10), ("pneumatic/group.bits", laid_pneumatic_group_bits)], narrowed := true }
def TopCascadeStopsUptoSaid : Prop := topCascadeStopsUptoRow.holds Tryz.pinned (OpenSpec.upto topCascadeStopsSpec)

/-- 'pneumatictop.TopCascadeLeast', WHERE WHAT IT READS IS OF BULK AT MOST 1048576: true; the input reads as it did. -/
def topCascadeLeastUptoRow : OpenClaim := { program := "ytohmmpdeoahmmaagreatdoor", sum := "338ec99f95173d548ace58efbc13c61e3a4675b833b724b26fd0d885755f750e", func := "pneumatic/pneumatictop.TopCascadeLeast", spec := "topCascadeLeast", unfollowed := true, recurses := true, named := ["pneumatic/group.bits", "internal/strconv.uint64pow10", "math/bits.deBruijn32tab", "math/bits.deBruijn64tab"], plainKeys := false, apart := false, laid := [("math/bits.deBruijn32tab", laid_math_bits_deBruijn32tab), ("math/bits.deBruijn64tab", laid_math_bits_deBruijn64tab), ("internal/strconv.uint64pow10", laid_internal_strconv_uint64pow10), ("pneumatic/group.bits", laid_pneumatic_group_bits)], narrowed := true }
def TopCascadeLeastUptoSaid : Prop := topCascadeLeastUptoRow.holds Tryz.pinned (OpenSpec.upto topCascadeLeastSpec)

/-- 'pneumatictop.TopRunsCascades', WHERE WHAT IT READS IS OF BULK AT MOST 1048576: true; the input reads as it did. -/
def topRunsCascadesUptoRow : OpenClaim := { program := "ytohmmpdeoahmmaagreatdoor", sum := "338ec99f95173d548ace58efbc13c61e3a4675b833b724b26fd0d885755f750e", func := "pneumatic/pneumatictop.TopRunsCascades", spec := "topRunsCascades", inPlace := ["internal/abi.NoEscape"], unfollowed := true, recurses := true, named := ["pneumatic/group.bits", "internal/strconv.uint64pow10", "math/bits.deBruijn32tab", "math/bits.deBruijn64tab"], plainKeys := false, apart := false, laid := [("math/bits.deBruijn32tab", laid_math_bits_deBruijn32tab), ("math/bits.deBruijn64tab", laid_math_bits_deBruijn64tab), ("internal/strconv.uint64pow10", laid_internal_strconv_uint64pow10), ("pneumatic/group.bits", laid_pneumatic_group_bits)], narrowed := true }
def TopRunsCascadesUptoSaid : Prop := topRunsCascadesUptoRow.holds Tryz.pinned (OpenSpec.upto topRunsCascadesSpec)

/-- 'pneumatictop.TopChainAlike', WHERE WHAT IT READS IS OF BULK AT MOST 1048576: true; the input reads as it did. -/
def topChainAlikeUptoRow : OpenClaim := { program := "ytohmmpdeoahmmaagreatdoor", sum := "338ec99f95173d548ace58efbc13c61e3a4675b833b724b26fd0d885755f750e", func := "pneumatic/pneumatictop.TopChainAlike", spec := "topChainAlike", unfollowed := true, recurses := true, named := ["internal/strconv.uint64pow10", "math/bits.deBruijn32tab", "math/bits.deBruijn64tab", "pneumatic/group.bits"], plainKeys := false, apart := false, laid := [("math/bits.deBruijn32tab", laid_math_bits_deBruijn32tab), ("math/bits.deBruijn64tab", laid_math_bits_deBruijn64tab), ("internal/strconv.uint64pow10", laid_internal_strconv_uint64pow10), ("pneumatic/group.bits", laid_pneumatic_group_bits)], narrowed := true }
def TopChainAlikeUptoSaid : Prop := topChainAlikeUptoRow.holds Tryz.pinned (OpenSpec.upto topChainAlikeSpec)

end Rows
end Go.Proofs.YtohmmpdeoahmmaaGreatDoor
