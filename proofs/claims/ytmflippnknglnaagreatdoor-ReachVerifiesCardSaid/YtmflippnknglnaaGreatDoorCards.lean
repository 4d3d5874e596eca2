/-
  DERIVED. GIVEN WITH THE SEED: THE CARDS: each row of YtmflippnknglnaaGreatDoorRows.lean that lists a variable, with what it lists TIED to the program's text (the seventh form; the later family's looks); each row that meets fmt, with fmt's text TOLD by the authors' own Lean function (tested against real Go, not proved from fmt's source: count such statements apart). THE CARD IS WHAT COUNTS. Prove the row's statement (the work); the ties are given (YtmflippnknglnaaGreatDoorTie.lean); close each card by the builder's one call (the guide's Derived/Test/ToyasCard.lean, 'card_holds'). Laid BY PROGRAM, IN A SANDBOX (cutbox-door.mjs). By AI agents, Wed Nov 11 2026. No macro, syntax, notation, axiom, sorry.
-/
import Derived.Test.YtmflippnknglnaaGreatDoorRows
import GoSem.ClaimSeven
namespace Go.Proofs.YtmflippnknglnaaGreatDoor
namespace Rows

/-- THE TIED CARD OF 'pneumaticlaw40.ReachVerifies'. -/
def reachVerifiesCard : Claim7 := { stood := { row := reachVerifiesRow, standIns := [], harness := (true, "8460f5891d5718ad1a74a2c7f6ca8be57dcfada8a2f19e7d45f660fe4ebaf777"), looks := false }, kinds := [], alts := [], laidByText := true, laidKinds := [.data, .data, .data], laidTests := true, laidLooks := .later }
def ReachVerifiesCardSaid : Prop := Claim7.holds Tryz.pinned (.plain (OpenSpec.ofChange reachVerifiesSpec)) reachVerifiesCard

/-- THE SECOND FORM's CARD OF 'pneumaticlaw40.ReachVerifies'. -/
def reachVerifiesUptoCard : Claim7 := { stood := { row := reachVerifiesUptoRow, standIns := [], harness := (true, "8460f5891d5718ad1a74a2c7f6ca8be57dcfada8a2f19e7d45f660fe4ebaf777"), looks := false }, kinds := [], alts := [], laidByText := true, laidKinds := [.data, .data, .data], laidTests := true, laidLooks := .later }
def ReachVerifiesUptoCardSaid : Prop := Claim7.holds Tryz.pinned (.plain (OpenSpec.upto reachVerifiesSpec)) reachVerifiesUptoCard
end Rows
end Go.Proofs.YtmflippnknglnaaGreatDoor
