/-
  DERIVED. GIVEN WITH THE SEED: THE CARDS: each row of YtgkchlchkdecfaaGreatDoorRows.lean that lists a variable, with what it lists TIED to the program's text (the seventh form; the later family's looks); each row that meets fmt, with fmt's text TOLD by the authors' own Lean function (tested against real Go, not proved from fmt's source: count such statements apart). THE CARD IS WHAT COUNTS. Prove the row's statement (the work); the ties are given (YtgkchlchkdecfaaGreatDoorTie.lean); close each card by the builder's one call (the guide's Derived/Test/ToyasCard.lean, 'card_holds'). Laid BY PROGRAM, IN A SANDBOX (cutbox-door.mjs). By AI agents, Wed Nov 11 2026. No macro, syntax, notation, axiom, sorry.
-/
import Derived.Test.YtgkchlchkdecfaaGreatDoorRows
import GoSem.ClaimSeven
namespace Go.Proofs.YtgkchlchkdecfaaGreatDoor
namespace Rows

/-- THE TIED CARD OF 'garboardlaw53.SurveyFits'. -/
def surveyFitsCard : Claim7 := { stood := { row := surveyFitsRow, standIns := [], harness := (true, "34a0481afcf75797110d58762a04f3f299690938753691ef14695558ba56f4b3"), looks := true }, kinds := [], alts := [], laidByText := true, laidKinds := [.data, .data, .data, .sentinel, .sentinel], laidTests := true, laidLooks := .later }
def SurveyFitsCardSaid : Prop := Claim7.holds Tryz.pinned (.plain (OpenSpec.ofChange surveyFitsSpec)) surveyFitsCard

/-- THE TIED CARD OF 'garboardlaw53.SurveyPlaces'. -/
def surveyPlacesCard : Claim7 := { stood := { row := surveyPlacesRow, standIns := [], harness := (true, "34a0481afcf75797110d58762a04f3f299690938753691ef14695558ba56f4b3"), looks := true }, kinds := [], alts := [], laidByText := true, laidKinds := [.data, .data, .data, .sentinel, .sentinel], laidTests := true, laidLooks := .later }
def SurveyPlacesCardSaid : Prop := Claim7.holds Tryz.pinned (.plain (OpenSpec.ofChange surveyPlacesSpec)) surveyPlacesCard

/-- THE TIED CARD OF 'garboardlaw53.SurveyWhole'. -/
def surveyWholeCard : Claim7 := { stood := { row := surveyWholeRow, standIns := [], harness := (true, "34a0481afcf75797110d58762a04f3f299690938753691ef14695558ba56f4b3"), looks := true }, kinds := [], alts := [], laidByText := true, laidKinds := [.data, .data, .data, .sentinel, .sentinel], laidTests := true, laidLooks := .later }
def SurveyWholeCardSaid : Prop := Claim7.holds Tryz.pinned (.plain (OpenSpec.ofChange surveyWholeSpec)) surveyWholeCard

/-- THE TIED CARD OF 'garboardlaw53.SurveyLeast'. -/
def surveyLeastCard : Claim7 := { stood := { row := surveyLeastRow, standIns := [], harness := (true, "34a0481afcf75797110d58762a04f3f299690938753691ef14695558ba56f4b3"), looks := true }, kinds := [], alts := [], laidByText := true, laidKinds := [.data, .data, .data, .sentinel, .sentinel], laidTests := true, laidLooks := .later }
def SurveyLeastCardSaid : Prop := Claim7.holds Tryz.pinned (.plain (OpenSpec.ofChange surveyLeastSpec)) surveyLeastCard

/-- THE TIED CARD OF 'garboardlaw53.SurveyNormal'. -/
def surveyNormalCard : Claim7 := { stood := { row := surveyNormalRow, standIns := [], harness := (true, "34a0481afcf75797110d58762a04f3f299690938753691ef14695558ba56f4b3"), looks := true }, kinds := [], alts := [], laidByText := true, laidKinds := [.data, .data, .data, .sentinel, .sentinel], laidTests := true, laidLooks := .later }
def SurveyNormalCardSaid : Prop := Claim7.holds Tryz.pinned (.plain (OpenSpec.ofChange surveyNormalSpec)) surveyNormalCard

/-- THE TIED CARD OF 'garboardlaw53.SurveyFlat'. -/
def surveyFlatCard : Claim7 := { stood := { row := surveyFlatRow, standIns := [], harness := (true, "34a0481afcf75797110d58762a04f3f299690938753691ef14695558ba56f4b3"), looks := true }, kinds := [], alts := [], laidByText := true, laidKinds := [.data, .data, .data, .sentinel, .sentinel], laidTests := true, laidLooks := .later }
def SurveyFlatCardSaid : Prop := Claim7.holds Tryz.pinned (.plain (OpenSpec.ofChange surveyFlatSpec)) surveyFlatCard

/-- THE TIED CARD OF 'garboardlaw53.SurveyRaised'. -/
def surveyRaisedCard : Claim7 := { stood := { row := surveyRaisedRow, standIns := [], harness := (true, "34a0481afcf75797110d58762a04f3f299690938753691ef14695558ba56f4b3"), looks := true }, kinds := [], alts := [], laidByText := true, laidKinds := [.data, .data, .data, .sentinel, .sentinel], laidTests := true, laidLooks := .later }
def SurveyRaisedCardSaid : Prop := Claim7.holds Tryz.pinned (.plain (OpenSpec.ofChange surveyRaisedSpec)) surveyRaisedCard

/-- THE TIED CARD OF 'garboardlaw53.SurveyDeeper'. -/
def surveyDeeperCard : Claim7 := { stood := { row := surveyDeeperRow, standIns := [], harness := (true, "34a0481afcf75797110d58762a04f3f299690938753691ef14695558ba56f4b3"), looks := true }, kinds := [], alts := [], laidByText := true, laidKinds := [.data, .data, .data, .sentinel, .sentinel], laidTests := true, laidLooks := .later }
def SurveyDeeperCardSaid : Prop := Claim7.holds Tryz.pinned (.plain (OpenSpec.ofChange surveyDeeperSpec)) surveyDeeperCard

/-- THE SECOND FORM's CARD OF 'garboardlaw53.SurveyFits'. -/
def surveyFitsUptoCard : Claim7 := { stood := { row := surveyFitsUptoRow, standIns := [], harness := (true, "34a0481afcf75797110d58762a04f3f299690938753691ef14695558ba56f4b3"), looks := true }, kinds := [], alts := [], laidByText := true, laidKinds := [.data, .data, .data, .sentinel, .sentinel], laidTests := true, laidLooks := .later }
def SurveyFitsUptoCardSaid : Prop := Claim7.holds Tryz.pinned (.plain (OpenSpec.upto surveyFitsSpec)) surveyFitsUptoCard

/-- THE SECOND FORM's CARD OF 'garboardlaw53.SurveyPlaces'. -/
def surveyPlacesUptoCard : Claim7 := { stood := { row := surveyPlacesUptoRow, standIns := [], harness := (true, "34a0481afcf75797110d58762a04f3f299690938753691ef14695558ba56f4b3"), looks := true }, kinds := [], alts := [], laidByText := true, laidKinds := [.data, .data, .data, .sentinel, .sentinel], laidTests := true, laidLooks := .later }
def SurveyPlacesUptoCardSaid : Prop := Claim7.holds Tryz.pinned (.plain (OpenSpec.upto surveyPlacesSpec)) surveyPlacesUptoCard

/-- THE SECOND FORM's CARD OF 'garboardlaw53.SurveyWhole'. -/
def surveyWholeUptoCard : Claim7 := { stood := { row := surveyWholeUptoRow, standIns := [], harness := (true, "34a0481afcf75797110d58762a04f3f299690938753691ef14695558ba56f4b3"), looks := true }, kinds := [], alts := [], laidByText := true, laidKinds := [.data, .data, .data, .sentinel, .sentinel], laidTests := true, laidLooks := .later }
def SurveyWholeUptoCardSaid : Prop := Claim7.holds Tryz.pinned (.plain (OpenSpec.upto surveyWholeSpec)) surveyWholeUptoCard

/-- THE SECOND FORM's CARD OF 'garboardlaw53.SurveyLeast'. -/
def surveyLeastUptoCard : Claim7 := { stood := { row := surveyLeastUptoRow, standIns := [], harness := (true, "34a0481afcf75797110d58762a04f3f299690938753691ef14695558ba56f4b3"), looks := true }, kinds := [], alts := [], laidByText := true, laidKinds := [.data, .data, .data, .sentinel, .sentinel], laidTests := true, laidLooks := .later }
def SurveyLeastUptoCardSaid : Prop := Claim7.holds Tryz.pinned (.plain (OpenSpec.upto surveyLeastSpec)) surveyLeastUptoCard

/-- THE SECOND FORM's CARD OF 'garboardlaw53.SurveyNormal'. -/
def surveyNormalUptoCard : Claim7 := { stood := { row := surveyNormalUptoRow, standIns := [], harness := (true, "34a0481afcf75797110d58762a04f3f299690938753691ef14695558ba56f4b3"), looks := true }, kinds := [], alts := [], laidByText := true, laidKinds := [.data, .data, .data, .sentinel, .sentinel], laidTests := true, laidLooks := .later }
def SurveyNormalUptoCardSaid : Prop := Claim7.holds Tryz.pinned (.plain (OpenSpec.upto surveyNormalSpec)) surveyNormalUptoCard

/-- THE SECOND FORM's CARD OF 'garboardlaw53.SurveyFlat'. -/
def surveyFlatUptoCard : Claim7 := { stood := { row := surveyFlatUptoRow, standIns := [], harness := (true, "34a0481afcf75797110d58762a04f3f299690938753691ef14695558ba56f4b3"), looks := true }, kinds := [], alts := [], laidByText := true, laidKinds := [.data, .data, .data, .sentinel, .sentinel], laidTests := true, laidLooks := .later }
def SurveyFlatUptoCardSaid : Prop := Claim7.holds Tryz.pinned (.plain (OpenSpec.upto surveyFlatSpec)) surveyFlatUptoCard

/-- THE SECOND FORM's CARD OF 'garboardlaw53.SurveyRaised'. -/
def surveyRaisedUptoCard : Claim7 := { stood := { row := surveyRaisedUptoRow, standIns := [], harness := (true, "34a0481afcf75797110d58762a04f3f299690938753691ef14695558ba56f4b3"), looks := true }, kinds := [], alts := [], laidByText := true, laidKinds := [.data, .data, .data, .sentinel, .sentinel], laidTests := true, laidLooks := .later }
def SurveyRaisedUptoCardSaid : Prop := Claim7.holds Tryz.pinned (.plain (OpenSpec.upto surveyRaisedSpec)) surveyRaisedUptoCard

/-- THE SECOND FORM's CARD OF 'garboardlaw53.SurveyDeeper'. -/
def surveyDeeperUptoCard : Claim7 := { stood := { row := surveyDeeperUptoRow, standIns := [], harness := (true, "34a0481afcf75797110d58762a04f3f299690938753691ef14695558ba56f4b3"), looks := true }, kinds := [], alts := [], laidByText := true, laidKinds := [.data, .data, .data, .sentinel, .sentinel], laidTests := true, laidLooks := .later }
def SurveyDeeperUptoCardSaid : Prop := Claim7.holds Tryz.pinned (.plain (OpenSpec.upto surveyDeeperSpec)) surveyDeeperUptoCard
end Rows
end Go.Proofs.YtgkchlchkdecfaaGreatDoor
