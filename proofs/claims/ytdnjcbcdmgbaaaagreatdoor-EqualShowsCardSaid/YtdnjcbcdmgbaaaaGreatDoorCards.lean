/-
  DERIVED. GIVEN WITH THE SEED: THE CARDS: each row of YtdnjcbcdmgbaaaaGreatDoorRows.lean that lists a variable, with what it lists TIED to the program's text (the seventh form; the later family's looks); each row that meets fmt, with fmt's text TOLD by the authors' own Lean function (tested against real Go, not proved from fmt's source: count such statements apart). THE CARD IS WHAT COUNTS. Prove the row's statement (the work); the ties are given (YtdnjcbcdmgbaaaaGreatDoorTie.lean); close each card by the builder's one call (the guide's Derived/Test/ToyasCard.lean, 'card_holds'). Laid BY PROGRAM, IN A SANDBOX (cutbox-door.mjs). By AI agents, Wed Nov 11 2026. No macro, syntax, notation, axiom, sorry.
-/
import Derived.Test.YtdnjcbcdmgbaaaaGreatDoorRows
import GoSem.ClaimSeven
namespace Go.Proofs.YtdnjcbcdmgbaaaaGreatDoor
namespace Rows

/-- THE TIED CARD OF 'pneumaticlaw46.EqualDecides'. -/
def equalDecidesCard : Claim7 := { stood := { row := equalDecidesRow, standIns := [], harness := (true, "93b973e9de75b8fe6d3c66e3f5ec221b02e23d53a97c840407fe20dfcc7232ca"), looks := false }, kinds := [], alts := [], laidByText := true, laidKinds := [.data, .data, .data], laidTests := true, laidLooks := .later }
def EqualDecidesCardSaid : Prop := Claim7.holds Tryz.pinned (.plain (OpenSpec.ofChange equalDecidesSpec)) equalDecidesCard

/-- THE TIED CARD OF 'pneumaticlaw46.EqualHas'. -/
def equalHasCard : Claim7 := { stood := { row := equalHasRow, standIns := [], harness := (true, "93b973e9de75b8fe6d3c66e3f5ec221b02e23d53a97c840407fe20dfcc7232ca"), looks := false }, kinds := [], alts := [], laidByText := true, laidKinds := [.data, .data, .data], laidTests := true, laidLooks := .later }
def EqualHasCardSaid : Prop := Claim7.holds Tryz.pinned (.plain (OpenSpec.ofChange equalHasSpec)) equalHasCard

/-- THE TIED CARD OF 'pneumaticlaw46.EqualDiffers'. -/
def equalDiffersCard : Claim7 := { stood := { row := equalDiffersRow, standIns := [], harness := (true, "93b973e9de75b8fe6d3c66e3f5ec221b02e23d53a97c840407fe20dfcc7232ca"), looks := false }, kinds := [], alts := [], laidByText := true, laidKinds := [.data, .data, .data], laidTests := true, laidLooks := .later }
def EqualDiffersCardSaid : Prop := Claim7.holds Tryz.pinned (.plain (OpenSpec.ofChange equalDiffersSpec)) equalDiffersCard

/-- THE TIED CARD OF 'pneumaticlaw46.EqualVerifies'. -/
def equalVerifiesCard : Claim7 := { stood := { row := equalVerifiesRow, standIns := [], harness := (true, "93b973e9de75b8fe6d3c66e3f5ec221b02e23d53a97c840407fe20dfcc7232ca"), looks := false }, kinds := [], alts := [], laidByText := true, laidKinds := [.data, .data, .data], laidTests := true, laidLooks := .later }
def EqualVerifiesCardSaid : Prop := Claim7.holds Tryz.pinned (.plain (OpenSpec.ofChange equalVerifiesSpec)) equalVerifiesCard

/-- THE TIED CARD OF 'pneumaticlaw46.EqualShows'. -/
def equalShowsCard : Claim7 := { stood := { row := equalShowsRow, standIns := [], harness := (true, "93b973e9de75b8fe6d3c66e3f5ec221b02e23d53a97c840407fe20dfcc7232ca"), looks := false }, kinds := [], alts := [], laidByText := true, laidKinds := [.data, .data, .data], laidTests := true, laidLooks := .later }
def EqualShowsCardSaid : Prop := Claim7.holds Tryz.pinned (.plain (OpenSpec.ofChange equalShowsSpec)) equalShowsCard

/-- THE TIED CARD OF 'pneumaticlaw46.EqualTraces'. -/
def equalTracesCard : Claim7 := { stood := { row := equalTracesRow, standIns := [], harness := (true, "93b973e9de75b8fe6d3c66e3f5ec221b02e23d53a97c840407fe20dfcc7232ca"), looks := false }, kinds := [], alts := [], laidByText := true, laidKinds := [.data, .data, .data], laidTests := true, laidLooks := .later }
def EqualTracesCardSaid : Prop := Claim7.holds Tryz.pinned (.plain (OpenSpec.ofChange equalTracesSpec)) equalTracesCard

/-- THE SECOND FORM's CARD OF 'pneumaticlaw46.EqualDecides'. -/
def equalDecidesUptoCard : Claim7 := { stood := { row := equalDecidesUptoRow, standIns := [], harness := (true, "93b973e9de75b8fe6d3c66e3f5ec221b02e23d53a97c840407fe20dfcc7232ca"), looks := false }, kinds := [], alts := [], laidByText := true, laidKinds := [.data, .data, .data], laidTests := true, laidLooks := .later }
def EqualDecidesUptoCardSaid : Prop := Claim7.holds Tryz.pinned (.plain (OpenSpec.upto equalDecidesSpec)) equalDecidesUptoCard

/-- THE SECOND FORM's CARD OF 'pneumaticlaw46.EqualHas'. -/
def equalHasUptoCard : Claim7 := { stood := { row := equalHasUptoRow, standIns := [], harness := (true, "93b973e9de75b8fe6d3c66e3f5ec221b02e23d53a97c840407fe20dfcc7232ca"), looks := false }, kinds := [], alts := [], laidByText := true, laidKinds := [.data, .data, .data], laidTests := true, laidLooks := .later }
def EqualHasUptoCardSaid : Prop := Claim7.holds Tryz.pinned (.plain (OpenSpec.upto equalHasSpec)) equalHasUptoCard

/-- THE SECOND FORM's CARD OF 'pneumaticlaw46.EqualDiffers'. -/
def equalDiffersUptoCard : Claim7 := { stood := { row := equalDiffersUptoRow, standIns := [], harness := (true, "93b973e9de75b8fe6d3c66e3f5ec221b02e23d53a97c840407fe20dfcc7232ca"), looks := false }, kinds := [], alts := [], laidByText := true, laidKinds := [.data, .data, .data], laidTests := true, laidLooks := .later }
def EqualDiffersUptoCardSaid : Prop := Claim7.holds Tryz.pinned (.plain (OpenSpec.upto equalDiffersSpec)) equalDiffersUptoCard

/-- THE SECOND FORM's CARD OF 'pneumaticlaw46.EqualVerifies'. -/
def equalVerifiesUptoCard : Claim7 := { stood := { row := equalVerifiesUptoRow, standIns := [], harness := (true, "93b973e9de75b8fe6d3c66e3f5ec221b02e23d53a97c840407fe20dfcc7232ca"), looks := false }, kinds := [], alts := [], laidByText := true, laidKinds := [.data, .data, .data], laidTests := true, laidLooks := .later }
def EqualVerifiesUptoCardSaid : Prop := Claim7.holds Tryz.pinned (.plain (OpenSpec.upto equalVerifiesSpec)) equalVerifiesUptoCard

/-- THE SECOND FORM's CARD OF 'pneumaticlaw46.EqualShows'. -/
def equalShowsUptoCard : Claim7 := { stood := { row := equalShowsUptoRow, standIns := [], harness := (true, "93b973e9de75b8fe6d3c66e3f5ec221b02e23d53a97c840407fe20dfcc7232ca"), looks := false }, kinds := [], alts := [], laidByText := true, laidKinds := [.data, .data, .data], laidTests := true, laidLooks := .later }
def EqualShowsUptoCardSaid : Prop := Claim7.holds Tryz.pinned (.plain (OpenSpec.upto equalShowsSpec)) equalShowsUptoCard

/-- THE SECOND FORM's CARD OF 'pneumaticlaw46.EqualTraces'. -/
def equalTracesUptoCard : Claim7 := { stood := { row := equalTracesUptoRow, standIns := [], harness := (true, "93b973e9de75b8fe6d3c66e3f5ec221b02e23d53a97c840407fe20dfcc7232ca"), looks := false }, kinds := [], alts := [], laidByText := true, laidKinds := [.data, .data, .data], laidTests := true, laidLooks := .later }
def EqualTracesUptoCardSaid : Prop := Claim7.holds Tryz.pinned (.plain (OpenSpec.upto equalTracesSpec)) equalTracesUptoCard
end Rows
end Go.Proofs.YtdnjcbcdmgbaaaaGreatDoor
