/-
  DERIVED. GIVEN WITH THE SEED: THE CARDS: each row of YtohmmpdeoahmmaaGreatDoorRows.lean that lists a variable, with what it lists TIED to the program's text (the seventh form; the later family's looks); each row that meets fmt, with fmt's text TOLD by the authors' own Lean function (tested against real Go, not proved from fmt's source: count such statements apart). THE CARD IS WHAT COUNTS. Prove the row's statement (the work); the ties are given (YtohmmpdeoahmmaaGreatDoorTie.lean); close each card by the builder's one call (the guide's Derived/Test/ToyasCard.lean, 'card_holds'). Laid BY PROGRAM, IN A SANDBOX (cutbox-door.mjs). By AI agents, Wed Nov 11 2026. No macro, syntax, notation, axiom, sorry.
-/
import Derived.Test.YtohmmpdeoahmmaaGreatDoorRows
import GoSem.ClaimSeven
namespace Go.Proofs.YtohmmpdeoahmmaaGreatDoor
namespace Rows

/-- THE TIED CARD OF 'pneumaticlaw43.OverlapGroups'. -/
def overlapGroupsCard : Claim7 := { stood := { row := overlapGroupsRow, standIns := [], harness := (true, "23d05d18fa3c86235daac5fd9daa4562b67a46c45fa2b321db33d85279808ee3"), looks := false }, kinds := [], alts := [], laidByText := true, laidKinds := [.data, .data, .data], laidTests := true, laidLooks := .later }
def OverlapGroupsCardSaid : Prop := Claim7.holds Tryz.pinned (.plain (OpenSpec.ofChange overlapGroupsSpec)) overlapGroupsCard

/-- THE TIED CARD OF 'pneumatictop.TopCascadeEnds'. -/
def topCascadeEndsCard : Claim7 := { stood := { row := topCascadeEndsRow, standIns := [], harness := (true, "23d05d18fa3c86235daac5fd9daa4562b67a46c45fa2b321db33d85279808ee3"), looks := false }, kinds := [], alts := [], laidByText := true, laidKinds := [.data, .data, .data, .data], laidTests := true, laidLooks := .later }
def TopCascadeEndsCardSaid : Prop := Claim7.holds Tryz.pinned (.plain (OpenSpec.ofChange topCascadeEndsSpec)) topCascadeEndsCard

/-- THE TIED CARD OF 'pneumatictop.TopCascadeStops'. -/
def topCascadeStopsCard : Claim7 := { stood := { row := topCascadeStopsRow, standIns := [], harness := (true, "23d05d18fa3c86235daac5fd9daa4562b67a46c45fa2b321db33d85279808ee3"), looks := false }, kinds := [], alts := [], laidByText := true, laidKinds := [.data, .data, .data, .data], laidTests := true, laidLooks := .later }
def TopCascadeStopsCardSaid : Prop := Claim7.holds Tryz.pinned (.plain (OpenSpec.ofChange topCascadeStopsSpec)) topCascadeStopsCard

/-- THE TIED CARD OF 'pneumatictop.TopCascadeLeast'. -/
def topCascadeLeastCard : Claim7 := { stood := { row := topCascadeLeastRow, standIns := [], harness := (true, "23d05d18fa3c86235daac5fd9daa4562b67a46c45fa2b321db33d85279808ee3"), looks := false }, kinds := [], alts := [], laidByText := true, laidKinds := [.data, .data, .data, .data], laidTests := true, laidLooks := .later }
def TopCascadeLeastCardSaid : Prop := Claim7.holds Tryz.pinned (.plain (OpenSpec.ofChange topCascadeLeastSpec)) topCascadeLeastCard

/-- THE TIED CARD OF 'pneumatictop.TopRunsCascades'. -/
def topRunsCascadesCard : Claim7 := { stood := { row := topRunsCascadesRow, standIns := [], harness := (true, "23d05d18fa3c86235daac5fd9daa4562b67a46c45fa2b321db33d85279808ee3"), looks := false }, kinds := [], alts := [], laidByText := true, laidKinds := [.data, .data, .data, .data], laidTests := true, laidLooks := .later }
def TopRunsCascadesCardSaid : Prop := Claim7.holds Tryz.pinned (.plain (OpenSpec.ofChange topRunsCascadesSpec)) topRunsCascadesCard

/-- THE TIED CARD OF 'pneumatictop.TopChainAlike'. -/
def topChainAlikeCard : Claim7 := { stood := { row := topChainAlikeRow, standIns := [], harness := (true, "23d05d18fa3c86235daac5fd9daa4562b67a46c45fa2b321db33d85279808ee3"), looks := false }, kinds := [], alts := [], laidByText := true, laidKinds := [.data, .data, .data, .data], laidTests := true, laidLooks := .later }
def TopChainAlikeCardSaid : Prop := Claim7.holds Tryz.pinned (.plain (OpenSpec.ofChange topChainAlikeSpec)) topChainAlikeCard

/-- THE SECOND FORM's CARD OF 'pneumaticlaw43.OverlapGroups'. -/
def overlapGroupsUptoCard : Claim7 := { stood := { row := overlapGroupsUptoRow, standIns := [], harness := (true, "23d05d18fa3c86235daac5fd9daa4562b67a46c45fa2b321db33d85279808ee3"), looks := false }, kinds := [], alts := [], laidByText := true, laidKinds := [.data, .data, .data], laidTests := true, laidLooks := .later }
def OverlapGroupsUptoCardSaid : Prop := Claim7.holds Tryz.pinned (.plain (OpenSpec.upto overlapGroupsSpec)) overlapGroupsUptoCard

/-- THE SECOND FORM's CARD OF 'pneumatictop.TopCascadeEnds'. -/
def topCascadeEndsUptoCard : Claim7 := { stood := { row := topCascadeEndsUptoRow, standIns := [], harness := (true, "23d05d18fa3c86235daac5fd9daa4562b67a46c45fa2b321db33d85279808ee3"), looks := false }, kinds := [], alts := [], laidByText := true, laidKinds := [.data, .data, .data, .data], laidTests := true, laidLooks := .later }
def TopCascadeEndsUptoCardSaid : Prop := Claim7.holds Tryz.pinned (.plain (OpenSpec.upto topCascadeEndsSpec)) topCascadeEndsUptoCard

/-- THE SECOND FORM's CARD OF 'pneumatictop.TopCascadeStops'. -/
def topCascadeStopsUptoCard : Claim7 := { stood := { row := topCascadeStopsUptoRow, standIns := [], harness := (true, "23d05d18fa3c86235daac5fd9daa4562b67a46c45fa2b321db33d85279808ee3"), looks := false }, kinds := [], alts := [], laidByText := true, laidKinds := [.data, .data, .data, .data], laidTests := true, laidLooks := .later }
def TopCascadeStopsUptoCardSaid : Prop := Claim7.holds Tryz.pinned (.plain (OpenSpec.upto topCascadeStopsSpec)) topCascadeStopsUptoCard

/-- THE SECOND FORM's CARD OF 'pneumatictop.TopCascadeLeast'. -/
def topCascadeLeastUptoCard : Claim7 := { stood := { row := topCascadeLeastUptoRow, standIns := [], harness := (true, "23d05d18fa3c86235daac5fd9daa4562b67a46c45fa2b321db33d85279808ee3"), looks := false }, kinds := [], alts := [], laidByText := true, laidKinds := [.data, .data, .data, .data], laidTests := true, laidLooks := .later }
def TopCascadeLeastUptoCardSaid : Prop := Claim7.holds Tryz.pinned (.plain (OpenSpec.upto topCascadeLeastSpec)) topCascadeLeastUptoCard

/-- THE SECOND FORM's CARD OF 'pneumatictop.TopRunsCascades'. -/
def topRunsCascadesUptoCard : Claim7 := { stood := { row := topRunsCascadesUptoRow, standIns := [], harness := (true, "23d05d18fa3c86235daac5fd9daa4562b67a46c45fa2b321db33d85279808ee3"), looks := false }, kinds := [], alts := [], laidByText := true, laidKinds := [.data, .data, .data, .data], laidTests := true, laidLooks := .later }
def TopRunsCascadesUptoCardSaid : Prop := Claim7.holds Tryz.pinned (.plain (OpenSpec.upto topRunsCascadesSpec)) topRunsCascadesUptoCard

/-- THE SECOND FORM's CARD OF 'pneumatictop.TopChainAlike'. -/
def topChainAlikeUptoCard : Claim7 := { stood := { row := topChainAlikeUptoRow, standIns := [], harness := (true, "23d05d18fa3c86235daac5fd9daa4562b67a46c45fa2b321db33d85279808ee3"), looks := false }, kinds := [], alts := [], laidByText := true, laidKinds := [.data, .data, .data, .data], laidTests := true, laidLooks := .later }
def TopChainAlikeUptoCardSaid : Prop := Claim7.holds Tryz.pinned (.plain (OpenSpec.upto topChainAlikeSpec)) topChainAlikeUptoCard
end Rows
end Go.Proofs.YtohmmpdeoahmmaaGreatDoor
