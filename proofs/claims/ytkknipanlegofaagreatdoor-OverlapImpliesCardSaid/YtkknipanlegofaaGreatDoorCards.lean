/-
  DERIVED. GIVEN WITH THE SEED: THE CARDS: each row of YtkknipanlegofaaGreatDoorRows.lean that lists a variable, with what it lists TIED to the program's text (the seventh form; the later family's looks); each row that meets fmt, with fmt's text TOLD by the authors' own Lean function (tested against real Go, not proved from fmt's source: count such statements apart). THE CARD IS WHAT COUNTS. Prove the row's statement (the work); the ties are given (YtkknipanlegofaaGreatDoorTie.lean); close each card by the builder's one call (the guide's Derived/Test/ToyasCard.lean, 'card_holds'). Laid BY PROGRAM, IN A SANDBOX (cutbox-door.mjs). By AI agents, Wed Nov 11 2026. No macro, syntax, notation, axiom, sorry.
-/
import Derived.Test.YtkknipanlegofaaGreatDoorRows
import GoSem.ClaimSeven
namespace Go.Proofs.YtkknipanlegofaaGreatDoor
namespace Rows

/-- THE TIED CARD OF 'pneumaticlaw43.OverlapFirst'. -/
def overlapFirstCard : Claim7 := { stood := { row := overlapFirstRow, standIns := [], harness := (true, "e9e273bfdfc6991a24485d2f4e589538819b56a45fb12b38bc5fd08641027949"), looks := false }, kinds := [], alts := [], laidByText := true, laidKinds := [.data, .data, .data], laidTests := true, laidLooks := .later }
def OverlapFirstCardSaid : Prop := Claim7.holds Tryz.pinned (.plain (OpenSpec.ofChange overlapFirstSpec)) overlapFirstCard

/-- THE TIED CARD OF 'pneumaticlaw43.OverlapExcludes'. -/
def overlapExcludesCard : Claim7 := { stood := { row := overlapExcludesRow, standIns := [], harness := (true, "e9e273bfdfc6991a24485d2f4e589538819b56a45fb12b38bc5fd08641027949"), looks := false }, kinds := [], alts := [], laidByText := true, laidKinds := [.data, .data, .data], laidTests := true, laidLooks := .later }
def OverlapExcludesCardSaid : Prop := Claim7.holds Tryz.pinned (.plain (OpenSpec.ofChange overlapExcludesSpec)) overlapExcludesCard

/-- THE TIED CARD OF 'pneumaticlaw43.OverlapAll'. -/
def overlapAllCard : Claim7 := { stood := { row := overlapAllRow, standIns := [], harness := (true, "e9e273bfdfc6991a24485d2f4e589538819b56a45fb12b38bc5fd08641027949"), looks := false }, kinds := [], alts := [], laidByText := true, laidKinds := [.data, .data, .data], laidTests := true, laidLooks := .later }
def OverlapAllCardSaid : Prop := Claim7.holds Tryz.pinned (.plain (OpenSpec.ofChange overlapAllSpec)) overlapAllCard

/-- THE TIED CARD OF 'pneumaticlaw43.OverlapInvariants'. -/
def overlapInvariantsCard : Claim7 := { stood := { row := overlapInvariantsRow, standIns := [], harness := (true, "e9e273bfdfc6991a24485d2f4e589538819b56a45fb12b38bc5fd08641027949"), looks := false }, kinds := [], alts := [], laidByText := true, laidKinds := [.data, .data, .data], laidTests := true, laidLooks := .later }
def OverlapInvariantsCardSaid : Prop := Claim7.holds Tryz.pinned (.plain (OpenSpec.ofChange overlapInvariantsSpec)) overlapInvariantsCard

/-- THE TIED CARD OF 'pneumaticlaw43.OverlapVerifies'. -/
def overlapVerifiesCard : Claim7 := { stood := { row := overlapVerifiesRow, standIns := [], harness := (true, "e9e273bfdfc6991a24485d2f4e589538819b56a45fb12b38bc5fd08641027949"), looks := false }, kinds := [], alts := [], laidByText := true, laidKinds := [.data, .data, .data], laidTests := true, laidLooks := .later }
def OverlapVerifiesCardSaid : Prop := Claim7.holds Tryz.pinned (.plain (OpenSpec.ofChange overlapVerifiesSpec)) overlapVerifiesCard

/-- THE TIED CARD OF 'pneumaticlaw43.OverlapImplies'. -/
def overlapImpliesCard : Claim7 := { stood := { row := overlapImpliesRow, standIns := [], harness := (true, "e9e273bfdfc6991a24485d2f4e589538819b56a45fb12b38bc5fd08641027949"), looks := false }, kinds := [], alts := [], laidByText := true, laidKinds := [.data, .data, .data], laidTests := true, laidLooks := .later }
def OverlapImpliesCardSaid : Prop := Claim7.holds Tryz.pinned (.plain (OpenSpec.ofChange overlapImpliesSpec)) overlapImpliesCard

/-- THE TIED CARD OF 'pneumaticlaw43.OverlapShows'. -/
def overlapShowsCard : Claim7 := { stood := { row := overlapShowsRow, standIns := [], harness := (true, "e9e273bfdfc6991a24485d2f4e589538819b56a45fb12b38bc5fd08641027949"), looks := false }, kinds := [], alts := [], laidByText := true, laidKinds := [.data, .data, .data], laidTests := true, laidLooks := .later }
def OverlapShowsCardSaid : Prop := Claim7.holds Tryz.pinned (.plain (OpenSpec.ofChange overlapShowsSpec)) overlapShowsCard

/-- THE TIED CARD OF 'pneumatictop.TopRunsStops'. -/
def topRunsStopsCard : Claim7 := { stood := { row := topRunsStopsRow, standIns := [], harness := (true, "e9e273bfdfc6991a24485d2f4e589538819b56a45fb12b38bc5fd08641027949"), looks := false }, kinds := [], alts := [], laidByText := true, laidKinds := [.data, .data, .data], laidTests := true, laidLooks := .later }
def TopRunsStopsCardSaid : Prop := Claim7.holds Tryz.pinned (.plain (OpenSpec.ofChange topRunsStopsSpec)) topRunsStopsCard

/-- THE SECOND FORM's CARD OF 'pneumaticlaw43.OverlapFirst'. -/
def overlapFirstUptoCard : Claim7 := { stood := { row := overlapFirstUptoRow, standIns := [], harness := (true, "e9e273bfdfc6991a24485d2f4e589538819b56a45fb12b38bc5fd08641027949"), looks := false }, kinds := [], alts := [], laidByText := true, laidKinds := [.data, .data, .data], laidTests := true, laidLooks := .later }
def OverlapFirstUptoCardSaid : Prop := Claim7.holds Tryz.pinned (.plain (OpenSpec.upto overlapFirstSpec)) overlapFirstUptoCard

/-- THE SECOND FORM's CARD OF 'pneumaticlaw43.OverlapExcludes'. -/
def overlapExcludesUptoCard : Claim7 := { stood := { row := overlapExcludesUptoRow, standIns := [], harness := (true, "e9e273bfdfc6991a24485d2f4e589538819b56a45fb12b38bc5fd08641027949"), looks := false }, kinds := [], alts := [], laidByText := true, laidKinds := [.data, .data, .data], laidTests := true, laidLooks := .later }
def OverlapExcludesUptoCardSaid : Prop := Claim7.holds Tryz.pinned (.plain (OpenSpec.upto overlapExcludesSpec)) overlapExcludesUptoCard

/-- THE SECOND FORM's CARD OF 'pneumaticlaw43.OverlapAll'. -/
def overlapAllUptoCard : Claim7 := { stood := { row := overlapAllUptoRow, standIns := [], harness := (true, "e9e273bfdfc6991a24485d2f4e589538819b56a45fb12b38bc5fd08641027949"), looks := false }, kinds := [], alts := [], laidByText := true, laidKinds := [.data, .data, .data], laidTests := true, laidLooks := .later }
def OverlapAllUptoCardSaid : Prop := Claim7.holds Tryz.pinned (.plain (OpenSpec.upto overlapAllSpec)) overlapAllUptoCard

/-- THE SECOND FORM's CARD OF 'pneumaticlaw43.OverlapInvariants'. -/
def overlapInvariantsUptoCard : Claim7 := { stood := { row := overlapInvariantsUptoRow, standIns := [], harness := (true, "e9e273bfdfc6991a24485d2f4e589538819b56a45fb12b38bc5fd08641027949"), looks := false }, kinds := [], alts := [], laidByText := true, laidKinds := [.data, .data, .data], laidTests := true, laidLooks := .later }
def OverlapInvariantsUptoCardSaid : Prop := Claim7.holds Tryz.pinned (.plain (OpenSpec.upto overlapInvariantsSpec)) overlapInvariantsUptoCard

/-- THE SECOND FORM's CARD OF 'pneumaticlaw43.OverlapVerifies'. -/
def overlapVerifiesUptoCard : Claim7 := { stood := { row := overlapVerifiesUptoRow, standIns := [], harness := (true, "e9e273bfdfc6991a24485d2f4e589538819b56a45fb12b38bc5fd08641027949"), looks := false }, kinds := [], alts := [], laidByText := true, laidKinds := [.data, .data, .data], laidTests := true, laidLooks := .later }
def OverlapVerifiesUptoCardSaid : Prop := Claim7.holds Tryz.pinned (.plain (OpenSpec.upto overlapVerifiesSpec)) overlapVerifiesUptoCard

/-- THE SECOND FORM's CARD OF 'pneumaticlaw43.OverlapImplies'. -/
def overlapImpliesUptoCard : Claim7 := { stood := { row := overlapImpliesUptoRow, standIns := [], harness := (true, "e9e273bfdfc6991a24485d2f4e589538819b56a45fb12b38bc5fd08641027949"), looks := false }, kinds := [], alts := [], laidByText := true, laidKinds := [.data, .data, .data], laidTests := true, laidLooks := .later }
def OverlapImpliesUptoCardSaid : Prop := Claim7.holds Tryz.pinned (.plain (OpenSpec.upto overlapImpliesSpec)) overlapImpliesUptoCard

/-- THE SECOND FORM's CARD OF 'pneumaticlaw43.OverlapShows'. -/
def overlapShowsUptoCard : Claim7 := { stood := { row := overlapShowsUptoRow, standIns := [], harness := (true, "e9e273bfdfc6991a24485d2f4e589538819b56a45fb12b38bc5fd08641027949"), looks := false }, kinds := [], alts := [], laidByText := true, laidKinds := [.data, .data, .data], laidTests := true, laidLooks := .later }
def OverlapShowsUptoCardSaid : Prop := Claim7.holds Tryz.pinned (.plain (OpenSpec.upto overlapShowsSpec)) overlapShowsUptoCard

/-- THE SECOND FORM's CARD OF 'pneumatictop.TopRunsStops'. -/
def topRunsStopsUptoCard : Claim7 := { stood := { row := topRunsStopsUptoRow, standIns := [], harness := (true, "e9e273bfdfc6991a24485d2f4e589538819b56a45fb12b38bc5fd08641027949"), looks := false }, kinds := [], alts := [], laidByText := true, laidKinds := [.data, .data, .data], laidTests := true, laidLooks := .later }
def TopRunsStopsUptoCardSaid : Prop := Claim7.holds Tryz.pinned (.plain (OpenSpec.upto topRunsStopsSpec)) topRunsStopsUptoCard
end Rows
end Go.Proofs.YtkknipanlegofaaGreatDoor
