/-
  DERIVED. GIVEN WITH THE SEED: THE CARDS: each row of YtkoeoklndhgejaaGreatDoorRows.lean that lists a variable, with what it lists TIED to the program's text (the seventh form; the later family's looks); each row that meets fmt, with fmt's text TOLD by the authors' own Lean function (tested against real Go, not proved from fmt's source: count such statements apart). THE CARD IS WHAT COUNTS. Prove the row's statement (the work); the ties are given (YtkoeoklndhgejaaGreatDoorTie.lean); close each card by the builder's one call (the guide's Derived/Test/ToyasCard.lean, 'card_holds'). Laid BY PROGRAM, IN A SANDBOX (cutbox-door.mjs). By AI agents, Wed Nov 11 2026. No macro, syntax, notation, axiom, sorry.
-/
import Derived.Test.YtkoeoklndhgejaaGreatDoorRows
import GoSem.ClaimSeven
namespace Go.Proofs.YtkoeoklndhgejaaGreatDoor
namespace Rows

/-- THE TIED CARD OF 'proofprogramslaw09.DecideSearches'. -/
def decideSearchesCard : Claim7 := { stood := { row := decideSearchesRow, standIns := [], harness := (true, "d39a32e7de8dc8c7a7827794b8ce9fbf55600d86e71c70f87e42bc395adbb1ae"), looks := true }, kinds := [], alts := [], laidByText := true, laidKinds := [.data], laidTests := true, laidLooks := .later }
def DecideSearchesCardSaid : Prop := Claim7.holds Tryz.pinned (.plain (OpenSpec.ofChange decideSearchesSpec)) decideSearchesCard

/-- THE TIED CARD OF 'proofprogramslaw21.RefuteValues'. -/
def refuteValuesCard : Claim7 := { stood := { row := refuteValuesRow, standIns := [], harness := (true, "d39a32e7de8dc8c7a7827794b8ce9fbf55600d86e71c70f87e42bc395adbb1ae"), looks := true }, kinds := [], alts := [], laidByText := true, laidKinds := [.data], laidTests := true, laidLooks := .later }
def RefuteValuesCardSaid : Prop := Claim7.holds Tryz.pinned (.plain (OpenSpec.ofChange refuteValuesSpec)) refuteValuesCard

/-- THE TIED CARD OF 'proofprogramslaw21.RefuteMore'. -/
def refuteMoreCard : Claim7 := { stood := { row := refuteMoreRow, standIns := [], harness := (true, "d39a32e7de8dc8c7a7827794b8ce9fbf55600d86e71c70f87e42bc395adbb1ae"), looks := true }, kinds := [], alts := [], laidByText := true, laidKinds := [.data], laidTests := true, laidLooks := .later }
def RefuteMoreCardSaid : Prop := Claim7.holds Tryz.pinned (.plain (OpenSpec.ofChange refuteMoreSpec)) refuteMoreCard

/-- THE TIED CARD OF 'proofprogramslaw21.RefuteFinds'. -/
def refuteFindsCard : Claim7 := { stood := { row := refuteFindsRow, standIns := [], harness := (true, "d39a32e7de8dc8c7a7827794b8ce9fbf55600d86e71c70f87e42bc395adbb1ae"), looks := true }, kinds := [], alts := [], laidByText := true, laidKinds := [.data], laidTests := true, laidLooks := .later }
def RefuteFindsCardSaid : Prop := Claim7.holds Tryz.pinned (.plain (OpenSpec.ofChange refuteFindsSpec)) refuteFindsCard

/-- THE TIED CARD OF 'proofprogramslaw21.RefuteAnswers'. -/
def refuteAnswersCard : Claim7 := { stood := { row := refuteAnswersRow, standIns := [], harness := (true, "d39a32e7de8dc8c7a7827794b8ce9fbf55600d86e71c70f87e42bc395adbb1ae"), looks := true }, kinds := [], alts := [], laidByText := true, laidKinds := [.data], laidTests := true, laidLooks := .later }
def RefuteAnswersCardSaid : Prop := Claim7.holds Tryz.pinned (.plain (OpenSpec.ofChange refuteAnswersSpec)) refuteAnswersCard

/-- THE SECOND FORM's CARD OF 'proofprogramslaw09.DecideSearches'. -/
def decideSearchesUptoCard : Claim7 := { stood := { row := decideSearchesUptoRow, standIns := [], harness := (true, "d39a32e7de8dc8c7a7827794b8ce9fbf55600d86e71c70f87e42bc395adbb1ae"), looks := true }, kinds := [], alts := [], laidByText := true, laidKinds := [.data], laidTests := true, laidLooks := .later }
def DecideSearchesUptoCardSaid : Prop := Claim7.holds Tryz.pinned (.plain (OpenSpec.upto decideSearchesSpec)) decideSearchesUptoCard

/-- THE SECOND FORM's CARD OF 'proofprogramslaw21.RefuteValues'. -/
def refuteValuesUptoCard : Claim7 := { stood := { row := refuteValuesUptoRow, standIns := [], harness := (true, "d39a32e7de8dc8c7a7827794b8ce9fbf55600d86e71c70f87e42bc395adbb1ae"), looks := true }, kinds := [], alts := [], laidByText := true, laidKinds := [.data], laidTests := true, laidLooks := .later }
def RefuteValuesUptoCardSaid : Prop := Claim7.holds Tryz.pinned (.plain (OpenSpec.upto refuteValuesSpec)) refuteValuesUptoCard

/-- THE SECOND FORM's CARD OF 'proofprogramslaw21.RefuteMore'. -/
def refuteMoreUptoCard : Claim7 := { stood := { row := refuteMoreUptoRow, standIns := [], harness := (true, "d39a32e7de8dc8c7a7827794b8ce9fbf55600d86e71c70f87e42bc395adbb1ae"), looks := true }, kinds := [], alts := [], laidByText := true, laidKinds := [.data], laidTests := true, laidLooks := .later }
def RefuteMoreUptoCardSaid : Prop := Claim7.holds Tryz.pinned (.plain (OpenSpec.upto refuteMoreSpec)) refuteMoreUptoCard

/-- THE SECOND FORM's CARD OF 'proofprogramslaw21.RefuteFinds'. -/
def refuteFindsUptoCard : Claim7 := { stood := { row := refuteFindsUptoRow, standIns := [], harness := (true, "d39a32e7de8dc8c7a7827794b8ce9fbf55600d86e71c70f87e42bc395adbb1ae"), looks := true }, kinds := [], alts := [], laidByText := true, laidKinds := [.data], laidTests := true, laidLooks := .later }
def RefuteFindsUptoCardSaid : Prop := Claim7.holds Tryz.pinned (.plain (OpenSpec.upto refuteFindsSpec)) refuteFindsUptoCard

/-- THE SECOND FORM's CARD OF 'proofprogramslaw21.RefuteAnswers'. -/
def refuteAnswersUptoCard : Claim7 := { stood := { row := refuteAnswersUptoRow, standIns := [], harness := (true, "d39a32e7de8dc8c7a7827794b8ce9fbf55600d86e71c70f87e42bc395adbb1ae"), looks := true }, kinds := [], alts := [], laidByText := true, laidKinds := [.data], laidTests := true, laidLooks := .later }
def RefuteAnswersUptoCardSaid : Prop := Claim7.holds Tryz.pinned (.plain (OpenSpec.upto refuteAnswersSpec)) refuteAnswersUptoCard
end Rows
end Go.Proofs.YtkoeoklndhgejaaGreatDoor
