/-
  DERIVED. GIVEN WITH THE SEED: THE CARDS: each row of YtokjdeanofohoaaGreatDoorRows.lean that lists a variable, with what it lists TIED to the program's text (the seventh form; the later family's looks); each row that meets fmt, with fmt's text TOLD by the authors' own Lean function (tested against real Go, not proved from fmt's source: count such statements apart). THE CARD IS WHAT COUNTS. Prove the row's statement (the work); the ties are given (YtokjdeanofohoaaGreatDoorTie.lean); close each card by the builder's one call (the guide's Derived/Test/ToyasCard.lean, 'card_holds'). Laid BY PROGRAM, IN A SANDBOX (cutbox-door.mjs). By AI agents, Wed Nov 11 2026. No macro, syntax, notation, axiom, sorry.
-/
import Derived.Test.YtokjdeanofohoaaGreatDoorRows
import GoSem.ClaimSeven
namespace Go.Proofs.YtokjdeanofohoaaGreatDoor
namespace Rows

/-- THE TIED CARD OF 'pneumatictop.TopFaultsSeen'. -/
def topFaultsSeenCard : Claim7 := { stood := { row := topFaultsSeenRow, standIns := [], harness := (true, "f1a708414cd019405daf7e1143bb7d9310917d24f86495077935f9cb4b43f5ed"), looks := false }, kinds := [], alts := [], laidByText := true, laidKinds := [.data, .data, .data, .data], laidTests := true, laidLooks := .later }
def TopFaultsSeenCardSaid : Prop := Claim7.holds Tryz.pinned (.plain (OpenSpec.ofChange topFaultsSeenSpec)) topFaultsSeenCard

/-- THE SECOND FORM's CARD OF 'pneumatictop.TopFaultsSeen'. -/
def topFaultsSeenUptoCard : Claim7 := { stood := { row := topFaultsSeenUptoRow, standIns := [], harness := (true, "f1a708414cd019405daf7e1143bb7d9310917d24f86495077935f9cb4b43f5ed"), looks := false }, kinds := [], alts := [], laidByText := true, laidKinds := [.data, .data, .data, .data], laidTests := true, laidLooks := .later }
def TopFaultsSeenUptoCardSaid : Prop := Claim7.holds Tryz.pinned (.plain (OpenSpec.upto topFaultsSeenSpec)) topFaultsSeenUptoCard
end Rows
end Go.Proofs.YtokjdeanofohoaaGreatDoor
