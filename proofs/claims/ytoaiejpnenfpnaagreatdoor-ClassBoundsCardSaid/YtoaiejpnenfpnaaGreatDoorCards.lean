/-
  DERIVED. GIVEN WITH THE SEED: THE CARDS: each row of YtoaiejpnenfpnaaGreatDoorRows.lean that lists a variable, with what it lists TIED to the program's text (the seventh form; the later family's looks); each row that meets fmt, with fmt's text TOLD by the authors' own Lean function (tested against real Go, not proved from fmt's source: count such statements apart). THE CARD IS WHAT COUNTS. Prove the row's statement (the work); the ties are given (YtoaiejpnenfpnaaGreatDoorTie.lean); close each card by the builder's one call (the guide's Derived/Test/ToyasCard.lean, 'card_holds'). Laid BY PROGRAM, IN A SANDBOX (cutbox-door.mjs). By AI agents, Wed Nov 11 2026. No macro, syntax, notation, axiom, sorry.
-/
import Derived.Test.YtoaiejpnenfpnaaGreatDoorRows
import GoSem.ClaimSeven
namespace Go.Proofs.YtoaiejpnenfpnaaGreatDoor
namespace Rows

/-- THE TIED CARD OF 'proofprogramslaw08.ClassTasks'. -/
def classTasksCard : Claim7 := { stood := { row := classTasksRow, standIns := [], harness := (true, "f714b182c89559c5649aa20a8a3bf2d95671521b17cb1523fa28f6aaecea28b2"), looks := false }, kinds := [], alts := [], laidByText := true, laidKinds := [.data], laidTests := true, laidLooks := .later }
def ClassTasksCardSaid : Prop := Claim7.holds Tryz.pinned (.plain (OpenSpec.ofChange classTasksSpec)) classTasksCard

/-- THE TIED CARD OF 'proofprogramslaw08.ClassStays'. -/
def classStaysCard : Claim7 := { stood := { row := classStaysRow, standIns := [], harness := (true, "f714b182c89559c5649aa20a8a3bf2d95671521b17cb1523fa28f6aaecea28b2"), looks := false }, kinds := [], alts := [], laidByText := true, laidKinds := [.data], laidTests := true, laidLooks := .later }
def ClassStaysCardSaid : Prop := Claim7.holds Tryz.pinned (.plain (OpenSpec.ofChange classStaysSpec)) classStaysCard

/-- THE TIED CARD OF 'proofprogramslaw30.TruthExact'. -/
def truthExactCard : Claim7 := { stood := { row := truthExactRow, standIns := [], harness := (true, "f714b182c89559c5649aa20a8a3bf2d95671521b17cb1523fa28f6aaecea28b2"), looks := false }, kinds := [], alts := [], laidByText := true, laidKinds := [.data], laidTests := true, laidLooks := .later }
def TruthExactCardSaid : Prop := Claim7.holds Tryz.pinned (.plain (OpenSpec.ofChange truthExactSpec)) truthExactCard

/-- THE TIED CARD OF 'proofprogramslaw30.TruthDecides'. -/
def truthDecidesCard : Claim7 := { stood := { row := truthDecidesRow, standIns := [], harness := (true, "f714b182c89559c5649aa20a8a3bf2d95671521b17cb1523fa28f6aaecea28b2"), looks := false }, kinds := [], alts := [], laidByText := true, laidKinds := [.data], laidTests := true, laidLooks := .later }
def TruthDecidesCardSaid : Prop := Claim7.holds Tryz.pinned (.plain (OpenSpec.ofChange truthDecidesSpec)) truthDecidesCard

/-- THE TIED CARD OF 'proofprogramslaw30.TruthIf'. -/
def truthIfCard : Claim7 := { stood := { row := truthIfRow, standIns := [], harness := (true, "f714b182c89559c5649aa20a8a3bf2d95671521b17cb1523fa28f6aaecea28b2"), looks := false }, kinds := [], alts := [], laidByText := true, laidKinds := [.data], laidTests := true, laidLooks := .later }
def TruthIfCardSaid : Prop := Claim7.holds Tryz.pinned (.plain (OpenSpec.ofChange truthIfSpec)) truthIfCard

/-- THE TIED CARD OF 'proofprogramslaw30.TruthWork'. -/
def truthWorkCard : Claim7 := { stood := { row := truthWorkRow, standIns := [], harness := (true, "f714b182c89559c5649aa20a8a3bf2d95671521b17cb1523fa28f6aaecea28b2"), looks := false }, kinds := [], alts := [], laidByText := true, laidKinds := [.data], laidTests := true, laidLooks := .later }
def TruthWorkCardSaid : Prop := Claim7.holds Tryz.pinned (.plain (OpenSpec.ofChange truthWorkSpec)) truthWorkCard

/-- THE TIED CARD OF 'proofprogramslaw30.TruthNot'. -/
def truthNotCard : Claim7 := { stood := { row := truthNotRow, standIns := [], harness := (true, "f714b182c89559c5649aa20a8a3bf2d95671521b17cb1523fa28f6aaecea28b2"), looks := false }, kinds := [], alts := [], laidByText := true, laidKinds := [.data], laidTests := true, laidLooks := .later }
def TruthNotCardSaid : Prop := Claim7.holds Tryz.pinned (.plain (OpenSpec.ofChange truthNotSpec)) truthNotCard

/-- THE TIED CARD OF 'proofprogramslaw08.ClassBounds'. -/
def classBoundsCard : Claim7 := { stood := { row := classBoundsRow, standIns := [], harness := (true, "f714b182c89559c5649aa20a8a3bf2d95671521b17cb1523fa28f6aaecea28b2"), looks := false }, kinds := [], alts := [], laidByText := true, laidKinds := [.data], laidTests := true, laidLooks := .later }
def ClassBoundsCardSaid : Prop := Claim7.holds Tryz.pinned (.plain (OpenSpec.ofChange classBoundsSpec)) classBoundsCard

/-- THE TIED CARD OF 'proofprogramslaw08.ClassDoes'. -/
def classDoesCard : Claim7 := { stood := { row := classDoesRow, standIns := [], harness := (true, "f714b182c89559c5649aa20a8a3bf2d95671521b17cb1523fa28f6aaecea28b2"), looks := false }, kinds := [], alts := [], laidByText := true, laidKinds := [.data], laidTests := true, laidLooks := .later }
def ClassDoesCardSaid : Prop := Claim7.holds Tryz.pinned (.plain (OpenSpec.ofChange classDoesSpec)) classDoesCard

/-- THE SECOND FORM's CARD OF 'proofprogramslaw08.ClassTasks'. -/
def classTasksUptoCard : Claim7 := { stood := { row := classTasksUptoRow, standIns := [], harness := (true, "f714b182c89559c5649aa20a8a3bf2d95671521b17cb1523fa28f6aaecea28b2"), looks := false }, kinds := [], alts := [], laidByText := true, laidKinds := [.data], laidTests := true, laidLooks := .later }
def ClassTasksUptoCardSaid : Prop := Claim7.holds Tryz.pinned (.plain (OpenSpec.upto classTasksSpec)) classTasksUptoCard

/-- THE SECOND FORM's CARD OF 'proofprogramslaw08.ClassStays'. -/
def classStaysUptoCard : Claim7 := { stood := { row := classStaysUptoRow, standIns := [], harness := (true, "f714b182c89559c5649aa20a8a3bf2d95671521b17cb1523fa28f6aaecea28b2"), looks := false }, kinds := [], alts := [], laidByText := true, laidKinds := [.data], laidTests := true, laidLooks := .later }
def ClassStaysUptoCardSaid : Prop := Claim7.holds Tryz.pinned (.plain (OpenSpec.upto classStaysSpec)) classStaysUptoCard

/-- THE SECOND FORM's CARD OF 'proofprogramslaw30.TruthExact'. -/
def truthExactUptoCard : Claim7 := { stood := { row := truthExactUptoRow, standIns := [], harness := (true, "f714b182c89559c5649aa20a8a3bf2d95671521b17cb1523fa28f6aaecea28b2"), looks := false }, kinds := [], alts := [], laidByText := true, laidKinds := [.data], laidTests := true, laidLooks := .later }
def TruthExactUptoCardSaid : Prop := Claim7.holds Tryz.pinned (.plain (OpenSpec.upto truthExactSpec)) truthExactUptoCard

/-- THE SECOND FORM's CARD OF 'proofprogramslaw30.TruthDecides'. -/
def truthDecidesUptoCard : Claim7 := { stood := { row := truthDecidesUptoRow, standIns := [], harness := (true, "f714b182c89559c5649aa20a8a3bf2d95671521b17cb1523fa28f6aaecea28b2"), looks := false }, kinds := [], alts := [], laidByText := true, laidKinds := [.data], laidTests := true, laidLooks := .later }
def TruthDecidesUptoCardSaid : Prop := Claim7.holds Tryz.pinned (.plain (OpenSpec.upto truthDecidesSpec)) truthDecidesUptoCard

/-- THE SECOND FORM's CARD OF 'proofprogramslaw30.TruthIf'. -/
def truthIfUptoCard : Claim7 := { stood := { row := truthIfUptoRow, standIns := [], harness := (true, "f714b182c89559c5649aa20a8a3bf2d95671521b17cb1523fa28f6aaecea28b2"), looks := false }, kinds := [], alts := [], laidByText := true, laidKinds := [.data], laidTests := true, laidLooks := .later }
def TruthIfUptoCardSaid : Prop := Claim7.holds Tryz.pinned (.plain (OpenSpec.upto truthIfSpec)) truthIfUptoCard

/-- THE SECOND FORM's CARD OF 'proofprogramslaw30.TruthWork'. -/
def truthWorkUptoCard : Claim7 := { stood := { row := truthWorkUptoRow, standIns := [], harness := (true, "f714b182c89559c5649aa20a8a3bf2d95671521b17cb1523fa28f6aaecea28b2"), looks := false }, kinds := [], alts := [], laidByText := true, laidKinds := [.data], laidTests := true, laidLooks := .later }
def TruthWorkUptoCardSaid : Prop := Claim7.holds Tryz.pinned (.plain (OpenSpec.upto truthWorkSpec)) truthWorkUptoCard

/-- THE SECOND FORM's CARD OF 'proofprogramslaw30.TruthNot'. -/
def truthNotUptoCard : Claim7 := { stood := { row := truthNotUptoRow, standIns := [], harness := (true, "f714b182c89559c5649aa20a8a3bf2d95671521b17cb1523fa28f6aaecea28b2"), looks := false }, kinds := [], alts := [], laidByText := true, laidKinds := [.data], laidTests := true, laidLooks := .later }
def TruthNotUptoCardSaid : Prop := Claim7.holds Tryz.pinned (.plain (OpenSpec.upto truthNotSpec)) truthNotUptoCard

/-- THE SECOND FORM's CARD OF 'proofprogramslaw08.ClassBounds'. -/
def classBoundsUptoCard : Claim7 := { stood := { row := classBoundsUptoRow, standIns := [], harness := (true, "f714b182c89559c5649aa20a8a3bf2d95671521b17cb1523fa28f6aaecea28b2"), looks := false }, kinds := [], alts := [], laidByText := true, laidKinds := [.data], laidTests := true, laidLooks := .later }
def ClassBoundsUptoCardSaid : Prop := Claim7.holds Tryz.pinned (.plain (OpenSpec.upto classBoundsSpec)) classBoundsUptoCard

/-- THE SECOND FORM's CARD OF 'proofprogramslaw08.ClassDoes'. -/
def classDoesUptoCard : Claim7 := { stood := { row := classDoesUptoRow, standIns := [], harness := (true, "f714b182c89559c5649aa20a8a3bf2d95671521b17cb1523fa28f6aaecea28b2"), looks := false }, kinds := [], alts := [], laidByText := true, laidKinds := [.data], laidTests := true, laidLooks := .later }
def ClassDoesUptoCardSaid : Prop := Claim7.holds Tryz.pinned (.plain (OpenSpec.upto classDoesSpec)) classDoesUptoCard
end Rows
end Go.Proofs.YtoaiejpnenfpnaaGreatDoor
