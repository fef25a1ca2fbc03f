/-
  DERIVED. GIVEN WITH THE SEED: THE CARDS: each row of YteaijonkbbkkjaaGreatDoorRows.lean that lists a variable, with what it lists TIED to the program's text (the seventh form; the later family's looks); each row that meets fmt, with fmt's text TOLD by the authors' own Lean function (tested against real Go, not proved from fmt's source: count such statements apart). THE CARD IS WHAT COUNTS. Prove the row's statement (the work); the ties are given (YteaijonkbbkkjaaGreatDoorTie.lean); close each card by the builder's one call (the guide's Derived/Test/ToyasCard.lean, 'card_holds'). Laid BY PROGRAM, IN A SANDBOX (cutbox-door.mjs). By AI agents, Wed Nov 11 2026. No macro, syntax, notation, axiom, sorry.
-/
import Derived.Test.YteaijonkbbkkjaaGreatDoorRows
import GoSem.ClaimSeven
namespace Go.Proofs.YteaijonkbbkkjaaGreatDoor
namespace Rows

/-- THE TIED CARD OF 'proofprogramslaw21.RefuteValues'. -/
def refuteValuesCard : Claim7 := { stood := { row := refuteValuesRow, standIns := [], harness := (true, "67e56f0de17fb30b79747a7a915a610841d3dea69fa44f0305dbee0b26d1c66d"), looks := true }, kinds := [], alts := [], laidByText := true, laidKinds := [.data], laidTests := true, laidLooks := .later }
def RefuteValuesCardSaid : Prop := Claim7.holds Tryz.pinned (.plain (OpenSpec.ofChange refuteValuesSpec)) refuteValuesCard

/-- THE TIED CARD OF 'proofprogramslaw21.RefuteMore'. -/
def refuteMoreCard : Claim7 := { stood := { row := refuteMoreRow, standIns := [], harness := (true, "67e56f0de17fb30b79747a7a915a610841d3dea69fa44f0305dbee0b26d1c66d"), looks := true }, kinds := [], alts := [], laidByText := true, laidKinds := [.data], laidTests := true, laidLooks := .later }
def RefuteMoreCardSaid : Prop := Claim7.holds Tryz.pinned (.plain (OpenSpec.ofChange refuteMoreSpec)) refuteMoreCard

/-- THE TIED CARD OF 'proofprogramslaw21.RefuteFinds'. -/
def refuteFindsCard : Claim7 := { stood := { row := refuteFindsRow, standIns := [], harness := (true, "67e56f0de17fb30b79747a7a915a610841d3dea69fa44f0305dbee0b26d1c66d"), looks := true }, kinds := [], alts := [], laidByText := true, laidKinds := [.data], laidTests := true, laidLooks := .later }
def RefuteFindsCardSaid : Prop := Claim7.holds Tryz.pinned (.plain (OpenSpec.ofChange refuteFindsSpec)) refuteFindsCard

/-- THE TIED CARD OF 'proofprogramslaw21.RefuteAnswers'. -/
def refuteAnswersCard : Claim7 := { stood := { row := refuteAnswersRow, standIns := [], harness := (true, "67e56f0de17fb30b79747a7a915a610841d3dea69fa44f0305dbee0b26d1c66d"), looks := true }, kinds := [], alts := [], laidByText := true, laidKinds := [.data], laidTests := true, laidLooks := .later }
def RefuteAnswersCardSaid : Prop := Claim7.holds Tryz.pinned (.plain (OpenSpec.ofChange refuteAnswersSpec)) refuteAnswersCard

/-- THE SECOND FORM's CARD OF 'proofprogramslaw21.RefuteValues'. -/
def refuteValuesUptoCard : Claim7 := { stood := { row := refuteValuesUptoRow, standIns := [], harness := (true, "67e56f0de17fb30b79747a7a915a610841d3dea69fa44f0305dbee0b26d1c66d"), looks := true }, kinds := [], alts := [], laidByText := true, laidKinds := [.data], laidTests := true, laidLooks := .later }
def RefuteValuesUptoCardSaid : Prop := Claim7.holds Tryz.pinned (.plain (OpenSpec.upto refuteValuesSpec)) refuteValuesUptoCard

/-- THE SECOND FORM's CARD OF 'proofprogramslaw21.RefuteMore'. -/
def refuteMoreUptoCard : Claim7 := { stood := { row := refuteMoreUptoRow, standIns := [], harness := (true, "67e56f0de17fb30b79747a7a915a610841d3dea69fa44f0305dbee0b26d1c66d"), looks := true }, kinds := [], alts := [], laidByText := true, laidKinds := [.data], laidTests := true, laidLooks := .later }
def RefuteMoreUptoCardSaid : Prop := Claim7.holds Tryz.pinned (.plain (OpenSpec.upto refuteMoreSpec)) refuteMoreUptoCard

/-- THE SECOND FORM's CARD OF 'proofprogramslaw21.RefuteFinds'. -/
def refuteFindsUptoCard : Claim7 := { stood := { row := refuteFindsUptoRow, standIns := [], harness := (true, "67e56f0de17fb30b79747a7a915a610841d3dea69fa44f0305dbee0b26d1c66d"), looks := true }, kinds := [], alts := [], laidByText := true, laidKinds := [.data], laidTests := true, laidLooks := .later }
def RefuteFindsUptoCardSaid : Prop := Claim7.holds Tryz.pinned (.plain (OpenSpec.upto refuteFindsSpec)) refuteFindsUptoCard

/-- THE SECOND FORM's CARD OF 'proofprogramslaw21.RefuteAnswers'. -/
def refuteAnswersUptoCard : Claim7 := { stood := { row := refuteAnswersUptoRow, standIns := [], harness := (true, "67e56f0de17fb30b79747a7a915a610841d3dea69fa44f0305dbee0b26d1c66d"), looks := true }, kinds := [], alts := [], laidByText := true, laidKinds := [.data], laidTests := true, laidLooks := .later }
def RefuteAnswersUptoCardSaid : Prop := Claim7.holds Tryz.pinned (.plain (OpenSpec.upto refuteAnswersSpec)) refuteAnswersUptoCard
end Rows
end Go.Proofs.YteaijonkbbkkjaaGreatDoor
