/-
  DERIVED. GIVEN WITH THE SEED: THE CARDS: each row of YtonodoleidhjcaaGreatDoorRows.lean that lists a variable, with what it lists TIED to the program's text (the seventh form; the later family's looks); each row that meets fmt, with fmt's text TOLD by the authors' own Lean function (tested against real Go, not proved from fmt's source: count such statements apart). THE CARD IS WHAT COUNTS. Prove the row's statement (the work); the ties are given (YtonodoleidhjcaaGreatDoorTie.lean); close each card by the builder's one call (the guide's Derived/Test/ToyasCard.lean, 'card_holds'). Laid BY PROGRAM, IN A SANDBOX (cutbox-door.mjs). By AI agents, Wed Nov 11 2026. No macro, syntax, notation, axiom, sorry.
-/
import Derived.Test.YtonodoleidhjcaaGreatDoorRows
import GoSem.ClaimSeven
namespace Go.Proofs.YtonodoleidhjcaaGreatDoor
namespace Rows

/-- THE TIED CARD OF 'pneumaticlaw44.StallCascades'. -/
def stallCascadesCard : Claim7 := { stood := { row := stallCascadesRow, standIns := [], harness := (true, "994ea0fca59066a3d9f858a60dc287b4e4e31fd3a60d116b55bc513ab2ce21ac"), looks := false }, kinds := [], alts := [], laidByText := true, laidKinds := [.data, .data, .data], laidTests := true, laidLooks := .later }
def StallCascadesCardSaid : Prop := Claim7.holds Tryz.pinned (.plain (OpenSpec.ofChange stallCascadesSpec)) stallCascadesCard

/-- THE SECOND FORM's CARD OF 'pneumaticlaw44.StallCascades'. -/
def stallCascadesUptoCard : Claim7 := { stood := { row := stallCascadesUptoRow, standIns := [], harness := (true, "994ea0fca59066a3d9f858a60dc287b4e4e31fd3a60d116b55bc513ab2ce21ac"), looks := false }, kinds := [], alts := [], laidByText := true, laidKinds := [.data, .data, .data], laidTests := true, laidLooks := .later }
def StallCascadesUptoCardSaid : Prop := Claim7.holds Tryz.pinned (.plain (OpenSpec.upto stallCascadesSpec)) stallCascadesUptoCard
end Rows
end Go.Proofs.YtonodoleidhjcaaGreatDoor
