/-
  DERIVED. GIVEN WITH THE SEED: THE CARDS: each row of YtojiamajkdpjmaaGreatDoorRows.lean that lists a variable, with what it lists TIED to the program's text (the seventh form; the later family's looks); each row that meets fmt, with fmt's text TOLD by the authors' own Lean function (tested against real Go, not proved from fmt's source: count such statements apart). THE CARD IS WHAT COUNTS. Prove the row's statement (the work); the ties are given (YtojiamajkdpjmaaGreatDoorTie.lean); close each card by the builder's one call (the guide's Derived/Test/ToyasCard.lean, 'card_holds'). Laid BY PROGRAM, IN A SANDBOX (cutbox-door.mjs). By AI agents, Wed Nov 11 2026. No macro, syntax, notation, axiom, sorry.
-/
import Derived.Test.YtojiamajkdpjmaaGreatDoorRows
import GoSem.ClaimSeven
namespace Go.Proofs.YtojiamajkdpjmaaGreatDoor
namespace Rows

/-- THE TIED CARD OF 'pneumatictop.TopRunsFound'. -/
def topRunsFoundCard : Claim7 := { stood := { row := topRunsFoundRow, standIns := [], harness := (true, "7c834997b7ddead75c1846c4e83ad73488d8dbed4d883b861061ba299c5e0d5e"), looks := false }, kinds := [], alts := [], laidByText := true, laidKinds := [.data, .data, .data], laidTests := true, laidLooks := .later }
def TopRunsFoundCardSaid : Prop := Claim7.holds Tryz.pinned (.plain (OpenSpec.ofChange topRunsFoundSpec)) topRunsFoundCard

/-- THE TIED CARD OF 'pneumatictop.TopRunsEnd'. -/
def topRunsEndCard : Claim7 := { stood := { row := topRunsEndRow, standIns := [], harness := (true, "7c834997b7ddead75c1846c4e83ad73488d8dbed4d883b861061ba299c5e0d5e"), looks := false }, kinds := [], alts := [], laidByText := true, laidKinds := [.data, .data, .data], laidTests := true, laidLooks := .later }
def TopRunsEndCardSaid : Prop := Claim7.holds Tryz.pinned (.plain (OpenSpec.ofChange topRunsEndSpec)) topRunsEndCard

/-- THE SECOND FORM's CARD OF 'pneumatictop.TopRunsFound'. -/
def topRunsFoundUptoCard : Claim7 := { stood := { row := topRunsFoundUptoRow, standIns := [], harness := (true, "7c834997b7ddead75c1846c4e83ad73488d8dbed4d883b861061ba299c5e0d5e"), looks := false }, kinds := [], alts := [], laidByText := true, laidKinds := [.data, .data, .data], laidTests := true, laidLooks := .later }
def TopRunsFoundUptoCardSaid : Prop := Claim7.holds Tryz.pinned (.plain (OpenSpec.upto topRunsFoundSpec)) topRunsFoundUptoCard

/-- THE SECOND FORM's CARD OF 'pneumatictop.TopRunsEnd'. -/
def topRunsEndUptoCard : Claim7 := { stood := { row := topRunsEndUptoRow, standIns := [], harness := (true, "7c834997b7ddead75c1846c4e83ad73488d8dbed4d883b861061ba299c5e0d5e"), looks := false }, kinds := [], alts := [], laidByText := true, laidKinds := [.data, .data, .data], laidTests := true, laidLooks := .later }
def TopRunsEndUptoCardSaid : Prop := Claim7.holds Tryz.pinned (.plain (OpenSpec.upto topRunsEndSpec)) topRunsEndUptoCard
end Rows
end Go.Proofs.YtojiamajkdpjmaaGreatDoor
