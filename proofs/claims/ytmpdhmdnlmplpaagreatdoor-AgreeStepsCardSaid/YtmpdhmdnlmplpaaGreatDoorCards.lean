/-
  DERIVED. GIVEN WITH THE SEED: THE CARDS: each row of YtmpdhmdnlmplpaaGreatDoorRows.lean that lists a variable, with what it lists TIED to the program's text (the seventh form; the later family's looks); each row that meets fmt, with fmt's text TOLD by the authors' own Lean function (tested against real Go, not proved from fmt's source: count such statements apart). THE CARD IS WHAT COUNTS. Prove the row's statement (the work); the ties are given (YtmpdhmdnlmplpaaGreatDoorTie.lean); close each card by the builder's one call (the guide's Derived/Test/ToyasCard.lean, 'card_holds'). Laid BY PROGRAM, IN A SANDBOX (cutbox-door.mjs). By AI agents, Wed Nov 11 2026. No macro, syntax, notation, axiom, sorry.
-/
import Derived.Test.YtmpdhmdnlmplpaaGreatDoorRows
import GoSem.ClaimSeven
namespace Go.Proofs.YtmpdhmdnlmplpaaGreatDoor
namespace Rows

/-- THE TIED CARD OF 'pneumaticlaw45.AgreeVerifies'. -/
def agreeVerifiesCard : Claim7 := { stood := { row := agreeVerifiesRow, standIns := [], harness := (true, "e76bdc307bc27c7181433b03fceb5e883b3b65861bdffc0af918329ba7b4a128"), looks := false }, kinds := [], alts := [], laidByText := true, laidKinds := [.data, .data, .data], laidTests := true, laidLooks := .later }
def AgreeVerifiesCardSaid : Prop := Claim7.holds Tryz.pinned (.plain (OpenSpec.ofChange agreeVerifiesSpec)) agreeVerifiesCard

/-- THE TIED CARD OF 'pneumaticlaw45.AgreeTraces'. -/
def agreeTracesCard : Claim7 := { stood := { row := agreeTracesRow, standIns := [], harness := (true, "e76bdc307bc27c7181433b03fceb5e883b3b65861bdffc0af918329ba7b4a128"), looks := false }, kinds := [], alts := [], laidByText := true, laidKinds := [.data, .data, .data], laidTests := true, laidLooks := .later }
def AgreeTracesCardSaid : Prop := Claim7.holds Tryz.pinned (.plain (OpenSpec.ofChange agreeTracesSpec)) agreeTracesCard

/-- THE TIED CARD OF 'pneumaticlaw45.AgreeRuns'. -/
def agreeRunsCard : Claim7 := { stood := { row := agreeRunsRow, standIns := [], harness := (true, "e76bdc307bc27c7181433b03fceb5e883b3b65861bdffc0af918329ba7b4a128"), looks := false }, kinds := [], alts := [], laidByText := true, laidKinds := [.data, .data, .data], laidTests := true, laidLooks := .later }
def AgreeRunsCardSaid : Prop := Claim7.holds Tryz.pinned (.plain (OpenSpec.ofChange agreeRunsSpec)) agreeRunsCard

/-- THE TIED CARD OF 'pneumaticlaw45.AgreeFronts'. -/
def agreeFrontsCard : Claim7 := { stood := { row := agreeFrontsRow, standIns := [], harness := (true, "e76bdc307bc27c7181433b03fceb5e883b3b65861bdffc0af918329ba7b4a128"), looks := false }, kinds := [], alts := [], laidByText := true, laidKinds := [.data, .data, .data], laidTests := true, laidLooks := .later }
def AgreeFrontsCardSaid : Prop := Claim7.holds Tryz.pinned (.plain (OpenSpec.ofChange agreeFrontsSpec)) agreeFrontsCard

/-- THE TIED CARD OF 'pneumaticlaw45.AgreeCauses'. -/
def agreeCausesCard : Claim7 := { stood := { row := agreeCausesRow, standIns := [], harness := (true, "e76bdc307bc27c7181433b03fceb5e883b3b65861bdffc0af918329ba7b4a128"), looks := false }, kinds := [], alts := [], laidByText := true, laidKinds := [.data, .data, .data], laidTests := true, laidLooks := .later }
def AgreeCausesCardSaid : Prop := Claim7.holds Tryz.pinned (.plain (OpenSpec.ofChange agreeCausesSpec)) agreeCausesCard

/-- THE TIED CARD OF 'pneumaticlaw45.AgreeSteps'. -/
def agreeStepsCard : Claim7 := { stood := { row := agreeStepsRow, standIns := [], harness := (true, "e76bdc307bc27c7181433b03fceb5e883b3b65861bdffc0af918329ba7b4a128"), looks := false }, kinds := [], alts := [], laidByText := true, laidKinds := [.data, .data, .data], laidTests := true, laidLooks := .later }
def AgreeStepsCardSaid : Prop := Claim7.holds Tryz.pinned (.plain (OpenSpec.ofChange agreeStepsSpec)) agreeStepsCard

/-- THE SECOND FORM's CARD OF 'pneumaticlaw45.AgreeVerifies'. -/
def agreeVerifiesUptoCard : Claim7 := { stood := { row := agreeVerifiesUptoRow, standIns := [], harness := (true, "e76bdc307bc27c7181433b03fceb5e883b3b65861bdffc0af918329ba7b4a128"), looks := false }, kinds := [], alts := [], laidByText := true, laidKinds := [.data, .data, .data], laidTests := true, laidLooks := .later }
def AgreeVerifiesUptoCardSaid : Prop := Claim7.holds Tryz.pinned (.plain (OpenSpec.upto agreeVerifiesSpec)) agreeVerifiesUptoCard

/-- THE SECOND FORM's CARD OF 'pneumaticlaw45.AgreeTraces'. -/
def agreeTracesUptoCard : Claim7 := { stood := { row := agreeTracesUptoRow, standIns := [], harness := (true, "e76bdc307bc27c7181433b03fceb5e883b3b65861bdffc0af918329ba7b4a128"), looks := false }, kinds := [], alts := [], laidByText := true, laidKinds := [.data, .data, .data], laidTests := true, laidLooks := .later }
def AgreeTracesUptoCardSaid : Prop := Claim7.holds Tryz.pinned (.plain (OpenSpec.upto agreeTracesSpec)) agreeTracesUptoCard

/-- THE SECOND FORM's CARD OF 'pneumaticlaw45.AgreeRuns'. -/
def agreeRunsUptoCard : Claim7 := { stood := { row := agreeRunsUptoRow, standIns := [], harness := (true, "e76bdc307bc27c7181433b03fceb5e883b3b65861bdffc0af918329ba7b4a128"), looks := false }, kinds := [], alts := [], laidByText := true, laidKinds := [.data, .data, .data], laidTests := true, laidLooks := .later }
def AgreeRunsUptoCardSaid : Prop := Claim7.holds Tryz.pinned (.plain (OpenSpec.upto agreeRunsSpec)) agreeRunsUptoCard

/-- THE SECOND FORM's CARD OF 'pneumaticlaw45.AgreeFronts'. -/
def agreeFrontsUptoCard : Claim7 := { stood := { row := agreeFrontsUptoRow, standIns := [], harness := (true, "e76bdc307bc27c7181433b03fceb5e883b3b65861bdffc0af918329ba7b4a128"), looks := false }, kinds := [], alts := [], laidByText := true, laidKinds := [.data, .data, .data], laidTests := true, laidLooks := .later }
def AgreeFrontsUptoCardSaid : Prop := Claim7.holds Tryz.pinned (.plain (OpenSpec.upto agreeFrontsSpec)) agreeFrontsUptoCard

/-- THE SECOND FORM's CARD OF 'pneumaticlaw45.AgreeCauses'. -/
def agreeCausesUptoCard : Claim7 := { stood := { row := agreeCausesUptoRow, standIns := [], harness := (true, "e76bdc307bc27c7181433b03fceb5e883b3b65861bdffc0af918329ba7b4a128"), looks := false }, kinds := [], alts := [], laidByText := true, laidKinds := [.data, .data, .data], laidTests := true, laidLooks := .later }
def AgreeCausesUptoCardSaid : Prop := Claim7.holds Tryz.pinned (.plain (OpenSpec.upto agreeCausesSpec)) agreeCausesUptoCard

/-- THE SECOND FORM's CARD OF 'pneumaticlaw45.AgreeSteps'. -/
def agreeStepsUptoCard : Claim7 := { stood := { row := agreeStepsUptoRow, standIns := [], harness := (true, "e76bdc307bc27c7181433b03fceb5e883b3b65861bdffc0af918329ba7b4a128"), looks := false }, kinds := [], alts := [], laidByText := true, laidKinds := [.data, .data, .data], laidTests := true, laidLooks := .later }
def AgreeStepsUptoCardSaid : Prop := Claim7.holds Tryz.pinned (.plain (OpenSpec.upto agreeStepsSpec)) agreeStepsUptoCard
end Rows
end Go.Proofs.YtmpdhmdnlmplpaaGreatDoor
