/-
  DERIVED. GIVEN WITH THE SEED: THE CARDS: each row of YtjpheflnapmdcaaGreatDoorRows.lean that lists a variable, with what it lists TIED to the program's text (the seventh form; the later family's looks); each row that meets fmt, with fmt's text TOLD by the authors' own Lean function (tested against real Go, not proved from fmt's source: count such statements apart). THE CARD IS WHAT COUNTS. Prove the row's statement (the work); the ties are given (YtjpheflnapmdcaaGreatDoorTie.lean); close each card by the builder's one call (the guide's Derived/Test/ToyasCard.lean, 'card_holds'). Laid BY PROGRAM, IN A SANDBOX (cutbox-door.mjs). By AI agents, Wed Nov 11 2026. No macro, syntax, notation, axiom, sorry.
-/
import Derived.Test.YtjpheflnapmdcaaGreatDoorRows
import GoSem.ClaimSeven
namespace Go.Proofs.YtjpheflnapmdcaaGreatDoor
namespace Rows

/-- THE TIED CARD OF 'proofprogramslaw30.TruthExact'. -/
def truthExactCard : Claim7 := { stood := { row := truthExactRow, standIns := [], harness := (true, "7ad2bace45b9239bd739cc6d14d8a662eb6a1e2401e69eb0b9e2aad0f7f7f0b2"), looks := false }, kinds := [], alts := [], laidByText := true, laidKinds := [.data], laidTests := true, laidLooks := .later }
def TruthExactCardSaid : Prop := Claim7.holds Tryz.pinned (.plain (OpenSpec.ofChange truthExactSpec)) truthExactCard

/-- THE TIED CARD OF 'proofprogramslaw30.TruthDecides'. -/
def truthDecidesCard : Claim7 := { stood := { row := truthDecidesRow, standIns := [], harness := (true, "7ad2bace45b9239bd739cc6d14d8a662eb6a1e2401e69eb0b9e2aad0f7f7f0b2"), looks := false }, kinds := [], alts := [], laidByText := true, laidKinds := [.data], laidTests := true, laidLooks := .later }
def TruthDecidesCardSaid : Prop := Claim7.holds Tryz.pinned (.plain (OpenSpec.ofChange truthDecidesSpec)) truthDecidesCard

/-- THE TIED CARD OF 'proofprogramslaw30.TruthIf'. -/
def truthIfCard : Claim7 := { stood := { row := truthIfRow, standIns := [], harness := (true, "7ad2bace45b9239bd739cc6d14d8a662eb6a1e2401e69eb0b9e2aad0f7f7f0b2"), looks := false }, kinds := [], alts := [], laidByText := true, laidKinds := [.data], laidTests := true, laidLooks := .later }
def TruthIfCardSaid : Prop := Claim7.holds Tryz.pinned (.plain (OpenSpec.ofChange truthIfSpec)) truthIfCard

/-- THE TIED CARD OF 'proofprogramslaw30.TruthWork'. -/
def truthWorkCard : Claim7 := { stood := { row := truthWorkRow, standIns := [], harness := (true, "7ad2bace45b9239bd739cc6d14d8a662eb6a1e2401e69eb0b9e2aad0f7f7f0b2"), looks := false }, kinds := [], alts := [], laidByText := true, laidKinds := [.data], laidTests := true, laidLooks := .later }
def TruthWorkCardSaid : Prop := Claim7.holds Tryz.pinned (.plain (OpenSpec.ofChange truthWorkSpec)) truthWorkCard

/-- THE TIED CARD OF 'proofprogramslaw30.TruthNot'. -/
def truthNotCard : Claim7 := { stood := { row := truthNotRow, standIns := [], harness := (true, "7ad2bace45b9239bd739cc6d14d8a662eb6a1e2401e69eb0b9e2aad0f7f7f0b2"), looks := false }, kinds := [], alts := [], laidByText := true, laidKinds := [.data], laidTests := true, laidLooks := .later }
def TruthNotCardSaid : Prop := Claim7.holds Tryz.pinned (.plain (OpenSpec.ofChange truthNotSpec)) truthNotCard

/-- THE TIED CARD OF 'proofprogramslaw08.ClassDoes'. -/
def classDoesCard : Claim7 := { stood := { row := classDoesRow, standIns := [], harness := (true, "7ad2bace45b9239bd739cc6d14d8a662eb6a1e2401e69eb0b9e2aad0f7f7f0b2"), looks := false }, kinds := [], alts := [], laidByText := true, laidKinds := [.data], laidTests := true, laidLooks := .later }
def ClassDoesCardSaid : Prop := Claim7.holds Tryz.pinned (.plain (OpenSpec.ofChange classDoesSpec)) classDoesCard

/-- THE TIED CARD OF 'proofprogramslaw24.RealizePut'. -/
def realizePutCard : Claim7 := { stood := { row := realizePutRow, standIns := [], harness := (true, "7ad2bace45b9239bd739cc6d14d8a662eb6a1e2401e69eb0b9e2aad0f7f7f0b2"), looks := false }, kinds := [], alts := [], laidByText := true, laidKinds := [.data], laidTests := true, laidLooks := .later }
def RealizePutCardSaid : Prop := Claim7.holds Tryz.pinned (.plain (OpenSpec.ofChange realizePutSpec)) realizePutCard

/-- THE SECOND FORM's CARD OF 'proofprogramslaw30.TruthExact'. -/
def truthExactUptoCard : Claim7 := { stood := { row := truthExactUptoRow, standIns := [], harness := (true, "7ad2bace45b9239bd739cc6d14d8a662eb6a1e2401e69eb0b9e2aad0f7f7f0b2"), looks := false }, kinds := [], alts := [], laidByText := true, laidKinds := [.data], laidTests := true, laidLooks := .later }
def TruthExactUptoCardSaid : Prop := Claim7.holds Tryz.pinned (.plain (OpenSpec.upto truthExactSpec)) truthExactUptoCard

/-- THE SECOND FORM's CARD OF 'proofprogramslaw30.TruthDecides'. -/
def truthDecidesUptoCard : Claim7 := { stood := { row := truthDecidesUptoRow, standIns := [], harness := (true, "7ad2bace45b9239bd739cc6d14d8a662eb6a1e2401e69eb0b9e2aad0f7f7f0b2"), looks := false }, kinds := [], alts := [], laidByText := true, laidKinds := [.data], laidTests := true, laidLooks := .later }
def TruthDecidesUptoCardSaid : Prop := Claim7.holds Tryz.pinned (.plain (OpenSpec.upto truthDecidesSpec)) truthDecidesUptoCard

/-- THE SECOND FORM's CARD OF 'proofprogramslaw30.TruthIf'. -/
def truthIfUptoCard : Claim7 := { stood := { row := truthIfUptoRow, standIns := [], harness := (true, "7ad2bace45b9239bd739cc6d14d8a662eb6a1e2401e69eb0b9e2aad0f7f7f0b2"), looks := false }, kinds := [], alts := [], laidByText := true, laidKinds := [.data], laidTests := true, laidLooks := .later }
def TruthIfUptoCardSaid : Prop := Claim7.holds Tryz.pinned (.plain (OpenSpec.upto truthIfSpec)) truthIfUptoCard

/-- THE SECOND FORM's CARD OF 'proofprogramslaw30.TruthWork'. -/
def truthWorkUptoCard : Claim7 := { stood := { row := truthWorkUptoRow, standIns := [], harness := (true, "7ad2bace45b9239bd739cc6d14d8a662eb6a1e2401e69eb0b9e2aad0f7f7f0b2"), looks := false }, kinds := [], alts := [], laidByText := true, laidKinds := [.data], laidTests := true, laidLooks := .later }
def TruthWorkUptoCardSaid : Prop := Claim7.holds Tryz.pinned (.plain (OpenSpec.upto truthWorkSpec)) truthWorkUptoCard

/-- THE SECOND FORM's CARD OF 'proofprogramslaw30.TruthNot'. -/
def truthNotUptoCard : Claim7 := { stood := { row := truthNotUptoRow, standIns := [], harness := (true, "7ad2bace45b9239bd739cc6d14d8a662eb6a1e2401e69eb0b9e2aad0f7f7f0b2"), looks := false }, kinds := [], alts := [], laidByText := true, laidKinds := [.data], laidTests := true, laidLooks := .later }
def TruthNotUptoCardSaid : Prop := Claim7.holds Tryz.pinned (.plain (OpenSpec.upto truthNotSpec)) truthNotUptoCard

/-- THE SECOND FORM's CARD OF 'proofprogramslaw08.ClassDoes'. -/
def classDoesUptoCard : Claim7 := { stood := { row := classDoesUptoRow, standIns := [], harness := (true, "7ad2bace45b9239bd739cc6d14d8a662eb6a1e2401e69eb0b9e2aad0f7f7f0b2"), looks := false }, kinds := [], alts := [], laidByText := true, laidKinds := [.data], laidTests := true, laidLooks := .later }
def ClassDoesUptoCardSaid : Prop := Claim7.holds Tryz.pinned (.plain (OpenSpec.upto classDoesSpec)) classDoesUptoCard

/-- THE SECOND FORM's CARD OF 'proofprogramslaw24.RealizePut'. -/
def realizePutUptoCard : Claim7 := { stood := { row := realizePutUptoRow, standIns := [], harness := (true, "7ad2bace45b9239bd739cc6d14d8a662eb6a1e2401e69eb0b9e2aad0f7f7f0b2"), looks := false }, kinds := [], alts := [], laidByText := true, laidKinds := [.data], laidTests := true, laidLooks := .later }
def RealizePutUptoCardSaid : Prop := Claim7.holds Tryz.pinned (.plain (OpenSpec.upto realizePutSpec)) realizePutUptoCard
end Rows
end Go.Proofs.YtjpheflnapmdcaaGreatDoor
