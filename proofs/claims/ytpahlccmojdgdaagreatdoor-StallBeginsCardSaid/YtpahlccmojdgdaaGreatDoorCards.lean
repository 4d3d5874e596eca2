/-
  DERIVED. GIVEN WITH THE SEED: THE CARDS: each row of YtpahlccmojdgdaaGreatDoorRows.lean that lists a variable, with what it lists TIED to the program's text (the seventh form; the later family's looks); each row that meets fmt, with fmt's text TOLD by the authors' own Lean function (tested against real Go, not proved from fmt's source: count such statements apart). THE CARD IS WHAT COUNTS. Prove the row's statement (the work); the ties are given (YtpahlccmojdgdaaGreatDoorTie.lean); close each card by the builder's one call (the guide's Derived/Test/ToyasCard.lean, 'card_holds'). Laid BY PROGRAM, IN A SANDBOX (cutbox-door.mjs). By AI agents, Wed Nov 11 2026. No macro, syntax, notation, axiom, sorry.
-/
import Derived.Test.YtpahlccmojdgdaaGreatDoorRows
import GoSem.ClaimSeven
namespace Go.Proofs.YtpahlccmojdgdaaGreatDoor
namespace Rows

/-- THE TIED CARD OF 'pneumaticlaw40.ReachBegins'. -/
def reachBeginsCard : Claim7 := { stood := { row := reachBeginsRow, standIns := [], harness := (true, "fee7cef7fc2da380478749124ab1aacab4f32c72ae1009b40b2973cc075cca84"), looks := false }, kinds := [], alts := [], laidByText := true, laidKinds := [.data, .data, .data], laidTests := true, laidLooks := .later }
def ReachBeginsCardSaid : Prop := Claim7.holds Tryz.pinned (.plain (OpenSpec.ofChange reachBeginsSpec)) reachBeginsCard

/-- THE TIED CARD OF 'pneumaticlaw40.ReachExplores'. -/
def reachExploresCard : Claim7 := { stood := { row := reachExploresRow, standIns := [], harness := (true, "fee7cef7fc2da380478749124ab1aacab4f32c72ae1009b40b2973cc075cca84"), looks := false }, kinds := [], alts := [], laidByText := true, laidKinds := [.data, .data, .data], laidTests := true, laidLooks := .later }
def ReachExploresCardSaid : Prop := Claim7.holds Tryz.pinned (.plain (OpenSpec.ofChange reachExploresSpec)) reachExploresCard

/-- THE TIED CARD OF 'pneumaticlaw44.StallChecks'. -/
def stallChecksCard : Claim7 := { stood := { row := stallChecksRow, standIns := [], harness := (true, "fee7cef7fc2da380478749124ab1aacab4f32c72ae1009b40b2973cc075cca84"), looks := false }, kinds := [], alts := [], laidByText := true, laidKinds := [.data, .data, .data], laidTests := true, laidLooks := .later }
def StallChecksCardSaid : Prop := Claim7.holds Tryz.pinned (.plain (OpenSpec.ofChange stallChecksSpec)) stallChecksCard

/-- THE TIED CARD OF 'pneumaticlaw44.StallCounts'. -/
def stallCountsCard : Claim7 := { stood := { row := stallCountsRow, standIns := [], harness := (true, "fee7cef7fc2da380478749124ab1aacab4f32c72ae1009b40b2973cc075cca84"), looks := false }, kinds := [], alts := [], laidByText := true, laidKinds := [.data, .data, .data], laidTests := true, laidLooks := .later }
def StallCountsCardSaid : Prop := Claim7.holds Tryz.pinned (.plain (OpenSpec.ofChange stallCountsSpec)) stallCountsCard

/-- THE TIED CARD OF 'pneumaticlaw44.StallLists'. -/
def stallListsCard : Claim7 := { stood := { row := stallListsRow, standIns := [], harness := (true, "fee7cef7fc2da380478749124ab1aacab4f32c72ae1009b40b2973cc075cca84"), looks := false }, kinds := [], alts := [], laidByText := true, laidKinds := [.data, .data, .data], laidTests := true, laidLooks := .later }
def StallListsCardSaid : Prop := Claim7.holds Tryz.pinned (.plain (OpenSpec.ofChange stallListsSpec)) stallListsCard

/-- THE TIED CARD OF 'pneumaticlaw44.StallEnds'. -/
def stallEndsCard : Claim7 := { stood := { row := stallEndsRow, standIns := [], harness := (true, "fee7cef7fc2da380478749124ab1aacab4f32c72ae1009b40b2973cc075cca84"), looks := false }, kinds := [], alts := [], laidByText := true, laidKinds := [.data, .data, .data], laidTests := true, laidLooks := .later }
def StallEndsCardSaid : Prop := Claim7.holds Tryz.pinned (.plain (OpenSpec.ofChange stallEndsSpec)) stallEndsCard

/-- THE TIED CARD OF 'pneumaticlaw40.ReachStops'. -/
def reachStopsCard : Claim7 := { stood := { row := reachStopsRow, standIns := [], harness := (true, "fee7cef7fc2da380478749124ab1aacab4f32c72ae1009b40b2973cc075cca84"), looks := false }, kinds := [], alts := [], laidByText := true, laidKinds := [.data, .data, .data], laidTests := true, laidLooks := .later }
def ReachStopsCardSaid : Prop := Claim7.holds Tryz.pinned (.plain (OpenSpec.ofChange reachStopsSpec)) reachStopsCard

/-- THE TIED CARD OF 'pneumaticlaw40.ReachReturns'. -/
def reachReturnsCard : Claim7 := { stood := { row := reachReturnsRow, standIns := [], harness := (true, "fee7cef7fc2da380478749124ab1aacab4f32c72ae1009b40b2973cc075cca84"), looks := false }, kinds := [], alts := [], laidByText := true, laidKinds := [.data, .data, .data], laidTests := true, laidLooks := .later }
def ReachReturnsCardSaid : Prop := Claim7.holds Tryz.pinned (.plain (OpenSpec.ofChange reachReturnsSpec)) reachReturnsCard

/-- THE TIED CARD OF 'pneumaticlaw40.ReachPaths'. -/
def reachPathsCard : Claim7 := { stood := { row := reachPathsRow, standIns := [], harness := (true, "fee7cef7fc2da380478749124ab1aacab4f32c72ae1009b40b2973cc075cca84"), looks := false }, kinds := [], alts := [], laidByText := true, laidKinds := [.data, .data, .data], laidTests := true, laidLooks := .later }
def ReachPathsCardSaid : Prop := Claim7.holds Tryz.pinned (.plain (OpenSpec.ofChange reachPathsSpec)) reachPathsCard

/-- THE TIED CARD OF 'pneumaticlaw40.ReachLeads'. -/
def reachLeadsCard : Claim7 := { stood := { row := reachLeadsRow, standIns := [], harness := (true, "fee7cef7fc2da380478749124ab1aacab4f32c72ae1009b40b2973cc075cca84"), looks := false }, kinds := [], alts := [], laidByText := true, laidKinds := [.data, .data, .data], laidTests := true, laidLooks := .later }
def ReachLeadsCardSaid : Prop := Claim7.holds Tryz.pinned (.plain (OpenSpec.ofChange reachLeadsSpec)) reachLeadsCard

/-- THE TIED CARD OF 'pneumaticlaw44.StallFinds'. -/
def stallFindsCard : Claim7 := { stood := { row := stallFindsRow, standIns := [], harness := (true, "fee7cef7fc2da380478749124ab1aacab4f32c72ae1009b40b2973cc075cca84"), looks := false }, kinds := [], alts := [], laidByText := true, laidKinds := [.data, .data, .data], laidTests := true, laidLooks := .later }
def StallFindsCardSaid : Prop := Claim7.holds Tryz.pinned (.plain (OpenSpec.ofChange stallFindsSpec)) stallFindsCard

/-- THE TIED CARD OF 'pneumaticlaw44.StallCascades'. -/
def stallCascadesCard : Claim7 := { stood := { row := stallCascadesRow, standIns := [], harness := (true, "fee7cef7fc2da380478749124ab1aacab4f32c72ae1009b40b2973cc075cca84"), looks := false }, kinds := [], alts := [], laidByText := true, laidKinds := [.data, .data, .data], laidTests := true, laidLooks := .later }
def StallCascadesCardSaid : Prop := Claim7.holds Tryz.pinned (.plain (OpenSpec.ofChange stallCascadesSpec)) stallCascadesCard

/-- THE TIED CARD OF 'pneumaticlaw44.StallBegins'. -/
def stallBeginsCard : Claim7 := { stood := { row := stallBeginsRow, standIns := [], harness := (true, "fee7cef7fc2da380478749124ab1aacab4f32c72ae1009b40b2973cc075cca84"), looks := false }, kinds := [], alts := [], laidByText := true, laidKinds := [.data, .data, .data], laidTests := true, laidLooks := .later }
def StallBeginsCardSaid : Prop := Claim7.holds Tryz.pinned (.plain (OpenSpec.ofChange stallBeginsSpec)) stallBeginsCard

/-- THE TIED CARD OF 'pneumaticlaw44.StallLeads'. -/
def stallLeadsCard : Claim7 := { stood := { row := stallLeadsRow, standIns := [], harness := (true, "fee7cef7fc2da380478749124ab1aacab4f32c72ae1009b40b2973cc075cca84"), looks := false }, kinds := [], alts := [], laidByText := true, laidKinds := [.data, .data, .data], laidTests := true, laidLooks := .later }
def StallLeadsCardSaid : Prop := Claim7.holds Tryz.pinned (.plain (OpenSpec.ofChange stallLeadsSpec)) stallLeadsCard

/-- THE TIED CARD OF 'pneumaticlaw40.ReachVerifies'. -/
def reachVerifiesCard : Claim7 := { stood := { row := reachVerifiesRow, standIns := [], harness := (true, "fee7cef7fc2da380478749124ab1aacab4f32c72ae1009b40b2973cc075cca84"), looks := false }, kinds := [], alts := [], laidByText := true, laidKinds := [.data, .data, .data], laidTests := true, laidLooks := .later }
def ReachVerifiesCardSaid : Prop := Claim7.holds Tryz.pinned (.plain (OpenSpec.ofChange reachVerifiesSpec)) reachVerifiesCard

/-- THE TIED CARD OF 'pneumaticlaw40.ReachCloses'. -/
def reachClosesCard : Claim7 := { stood := { row := reachClosesRow, standIns := [], harness := (true, "fee7cef7fc2da380478749124ab1aacab4f32c72ae1009b40b2973cc075cca84"), looks := false }, kinds := [], alts := [], laidByText := true, laidKinds := [.data, .data, .data], laidTests := true, laidLooks := .later }
def ReachClosesCardSaid : Prop := Claim7.holds Tryz.pinned (.plain (OpenSpec.ofChange reachClosesSpec)) reachClosesCard

/-- THE SECOND FORM's CARD OF 'pneumaticlaw40.ReachBegins'. -/
def reachBeginsUptoCard : Claim7 := { stood := { row := reachBeginsUptoRow, standIns := [], harness := (true, "fee7cef7fc2da380478749124ab1aacab4f32c72ae1009b40b2973cc075cca84"), looks := false }, kinds := [], alts := [], laidByText := true, laidKinds := [.data, .data, .data], laidTests := true, laidLooks := .later }
def ReachBeginsUptoCardSaid : Prop := Claim7.holds Tryz.pinned (.plain (OpenSpec.upto reachBeginsSpec)) reachBeginsUptoCard

/-- THE SECOND FORM's CARD OF 'pneumaticlaw40.ReachExplores'. -/
def reachExploresUptoCard : Claim7 := { stood := { row := reachExploresUptoRow, standIns := [], harness := (true, "fee7cef7fc2da380478749124ab1aacab4f32c72ae1009b40b2973cc075cca84"), looks := false }, kinds := [], alts := [], laidByText := true, laidKinds := [.data, .data, .data], laidTests := true, laidLooks := .later }
def ReachExploresUptoCardSaid : Prop := Claim7.holds Tryz.pinned (.plain (OpenSpec.upto reachExploresSpec)) reachExploresUptoCard

/-- THE SECOND FORM's CARD OF 'pneumaticlaw44.StallChecks'. -/
def stallChecksUptoCard : Claim7 := { stood := { row := stallChecksUptoRow, standIns := [], harness := (true, "fee7cef7fc2da380478749124ab1aacab4f32c72ae1009b40b2973cc075cca84"), looks := false }, kinds := [], alts := [], laidByText := true, laidKinds := [.data, .data, .data], laidTests := true, laidLooks := .later }
def StallChecksUptoCardSaid : Prop := Claim7.holds Tryz.pinned (.plain (OpenSpec.upto stallChecksSpec)) stallChecksUptoCard

/-- THE SECOND FORM's CARD OF 'pneumaticlaw44.StallCounts'. -/
def stallCountsUptoCard : Claim7 := { stood := { row := stallCountsUptoRow, standIns := [], harness := (true, "fee7cef7fc2da380478749124ab1aacab4f32c72ae1009b40b2973cc075cca84"), looks := false }, kinds := [], alts := [], laidByText := true, laidKinds := [.data, .data, .data], laidTests := true, laidLooks := .later }
def StallCountsUptoCardSaid : Prop := Claim7.holds Tryz.pinned (.plain (OpenSpec.upto stallCountsSpec)) stallCountsUptoCard

/-- THE SECOND FORM's CARD OF 'pneumaticlaw44.StallLists'. -/
def stallListsUptoCard : Claim7 := { stood := { row := stallListsUptoRow, standIns := [], harness := (true, "fee7cef7fc2da380478749124ab1aacab4f32c72ae1009b40b2973cc075cca84"), looks := false }, kinds := [], alts := [], laidByText := true, laidKinds := [.data, .data, .data], laidTests := true, laidLooks := .later }
def StallListsUptoCardSaid : Prop := Claim7.holds Tryz.pinned (.plain (OpenSpec.upto stallListsSpec)) stallListsUptoCard

/-- THE SECOND FORM's CARD OF 'pneumaticlaw44.StallEnds'. -/
def stallEndsUptoCard : Claim7 := { stood := { row := stallEndsUptoRow, standIns := [], harness := (true, "fee7cef7fc2da380478749124ab1aacab4f32c72ae1009b40b2973cc075cca84"), looks := false }, kinds := [], alts := [], laidByText := true, laidKinds := [.data, .data, .data], laidTests := true, laidLooks := .later }
def StallEndsUptoCardSaid : Prop := Claim7.holds Tryz.pinned (.plain (OpenSpec.upto stallEndsSpec)) stallEndsUptoCard

/-- THE SECOND FORM's CARD OF 'pneumaticlaw40.ReachStops'. -/
def reachStopsUptoCard : Claim7 := { stood := { row := reachStopsUptoRow, standIns := [], harness := (true, "fee7cef7fc2da380478749124ab1aacab4f32c72ae1009b40b2973cc075cca84"), looks := false }, kinds := [], alts := [], laidByText := true, laidKinds := [.data, .data, .data], laidTests := true, laidLooks := .later }
def ReachStopsUptoCardSaid : Prop := Claim7.holds Tryz.pinned (.plain (OpenSpec.upto reachStopsSpec)) reachStopsUptoCard

/-- THE SECOND FORM's CARD OF 'pneumaticlaw40.ReachReturns'. -/
def reachReturnsUptoCard : Claim7 := { stood := { row := reachReturnsUptoRow, standIns := [], harness := (true, "fee7cef7fc2da380478749124ab1aacab4f32c72ae1009b40b2973cc075cca84"), looks := false }, kinds := [], alts := [], laidByText := true, laidKinds := [.data, .data, .data], laidTests := true, laidLooks := .later }
def ReachReturnsUptoCardSaid : Prop := Claim7.holds Tryz.pinned (.plain (OpenSpec.upto reachReturnsSpec)) reachReturnsUptoCard

/-- THE SECOND FORM's CARD OF 'pneumaticlaw40.ReachPaths'. -/
def reachPathsUptoCard : Claim7 := { stood := { row := reachPathsUptoRow, standIns := [], harness := (true, "fee7cef7fc2da380478749124ab1aacab4f32c72ae1009b40b2973cc075cca84"), looks := false }, kinds := [], alts := [], laidByText := true, laidKinds := [.data, .data, .data], laidTests := true, laidLooks := .later }
def ReachPathsUptoCardSaid : Prop := Claim7.holds Tryz.pinned (.plain (OpenSpec.upto reachPathsSpec)) reachPathsUptoCard

/-- THE SECOND FORM's CARD OF 'pneumaticlaw40.ReachLeads'. -/
def reachLeadsUptoCard : Claim7 := { stood := { row := reachLeadsUptoRow, standIns := [], harness := (true, "fee7cef7fc2da380478749124ab1aacab4f32c72ae1009b40b2973cc075cca84"), looks := false }, kinds := [], alts := [], laidByText := true, laidKinds := [.data, .data, .data], laidTests := true, laidLooks := .later }
def ReachLeadsUptoCardSaid : Prop := Claim7.holds Tryz.pinned (.plain (OpenSpec.upto reachLeadsSpec)) reachLeadsUptoCard

/-- THE SECOND FORM's CARD OF 'pneumaticlaw44.StallFinds'. -/
def stallFindsUptoCard : Claim7 := { stood := { row := stallFindsUptoRow, standIns := [], harness := (true, "fee7cef7fc2da380478749124ab1aacab4f32c72ae1009b40b2973cc075cca84"), looks := false }, kinds := [], alts := [], laidByText := true, laidKinds := [.data, .data, .data], laidTests := true, laidLooks := .later }
def StallFindsUptoCardSaid : Prop := Claim7.holds Tryz.pinned (.plain (OpenSpec.upto stallFindsSpec)) stallFindsUptoCard

/-- THE SECOND FORM's CARD OF 'pneumaticlaw44.StallCascades'. -/
def stallCascadesUptoCard : Claim7 := { stood := { row := stallCascadesUptoRow, standIns := [], harness := (true, "fee7cef7fc2da380478749124ab1aacab4f32c72ae1009b40b2973cc075cca84"), looks := false }, kinds := [], alts := [], laidByText := true, laidKinds := [.data, .data, .data], laidTests := true, laidLooks := .later }
def StallCascadesUptoCardSaid : Prop := Claim7.holds Tryz.pinned (.plain (OpenSpec.upto stallCascadesSpec)) stallCascadesUptoCard

/-- THE SECOND FORM's CARD OF 'pneumaticlaw44.StallBegins'. -/
def stallBeginsUptoCard : Claim7 := { stood := { row := stallBeginsUptoRow, standIns := [], harness := (true, "fee7cef7fc2da380478749124ab1aacab4f32c72ae1009b40b2973cc075cca84"), looks := false }, kinds := [], alts := [], laidByText := true, laidKinds := [.data, .data, .data], laidTests := true, laidLooks := .later }
def StallBeginsUptoCardSaid : Prop := Claim7.holds Tryz.pinned (.plain (OpenSpec.upto stallBeginsSpec)) stallBeginsUptoCard

/-- THE SECOND FORM's CARD OF 'pneumaticlaw44.StallLeads'. -/
def stallLeadsUptoCard : Claim7 := { stood := { row := stallLeadsUptoRow, standIns := [], harness := (true, "fee7cef7fc2da380478749124ab1aacab4f32c72ae1009b40b2973cc075cca84"), looks := false }, kinds := [], alts := [], laidByText := true, laidKinds := [.data, .data, .data], laidTests := true, laidLooks := .later }
def StallLeadsUptoCardSaid : Prop := Claim7.holds Tryz.pinned (.plain (OpenSpec.upto stallLeadsSpec)) stallLeadsUptoCard

/-- THE SECOND FORM's CARD OF 'pneumaticlaw40.ReachVerifies'. -/
def reachVerifiesUptoCard : Claim7 := { stood := { row := reachVerifiesUptoRow, standIns := [], harness := (true, "fee7cef7fc2da380478749124ab1aacab4f32c72ae1009b40b2973cc075cca84"), looks := false }, kinds := [], alts := [], laidByText := true, laidKinds := [.data, .data, .data], laidTests := true, laidLooks := .later }
def ReachVerifiesUptoCardSaid : Prop := Claim7.holds Tryz.pinned (.plain (OpenSpec.upto reachVerifiesSpec)) reachVerifiesUptoCard

/-- THE SECOND FORM's CARD OF 'pneumaticlaw40.ReachCloses'. -/
def reachClosesUptoCard : Claim7 := { stood := { row := reachClosesUptoRow, standIns := [], harness := (true, "fee7cef7fc2da380478749124ab1aacab4f32c72ae1009b40b2973cc075cca84"), looks := false }, kinds := [], alts := [], laidByText := true, laidKinds := [.data, .data, .data], laidTests := true, laidLooks := .later }
def ReachClosesUptoCardSaid : Prop := Claim7.holds Tryz.pinned (.plain (OpenSpec.upto reachClosesSpec)) reachClosesUptoCard
end Rows
end Go.Proofs.YtpahlccmojdgdaaGreatDoor
