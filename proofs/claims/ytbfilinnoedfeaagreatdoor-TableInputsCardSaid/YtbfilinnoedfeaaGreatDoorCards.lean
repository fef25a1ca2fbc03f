/-
  DERIVED. GIVEN WITH THE SEED: THE CARDS: each row of YtbfilinnoedfeaaGreatDoorRows.lean that lists a variable, with what it lists TIED to the program's text (the seventh form; the later family's looks); each row that meets fmt, with fmt's text TOLD by the authors' own Lean function (tested against real Go, not proved from fmt's source: count such statements apart). THE CARD IS WHAT COUNTS. Prove the row's statement (the work); the ties are given (YtbfilinnoedfeaaGreatDoorTie.lean); close each card by the builder's one call (the guide's Derived/Test/ToyasCard.lean, 'card_holds'). Laid BY PROGRAM, IN A SANDBOX (cutbox-door.mjs). By AI agents, Wed Nov 11 2026. No macro, syntax, notation, axiom, sorry.
-/
import Derived.Test.YtbfilinnoedfeaaGreatDoorRows
import GoSem.ClaimSeven
namespace Go.Proofs.YtbfilinnoedfeaaGreatDoor
namespace Rows

/-- THE TIED CARD OF 'proofprogramslaw32.ContestCandidates'. -/
def contestCandidatesCard : Claim7 := { stood := { row := contestCandidatesRow, standIns := [], harness := (true, "4ccc56ced90c9b300caa55eabe675f347ab40cd062f67b0f26b1e8ace196e984"), looks := true }, kinds := [], alts := [], laidByText := true, laidKinds := [.data], laidTests := true, laidLooks := .later }
def ContestCandidatesCardSaid : Prop := Claim7.holds Tryz.pinned (.plain (OpenSpec.ofChange contestCandidatesSpec)) contestCandidatesCard

/-- THE TIED CARD OF 'proofprogramslaw32.ContestAnd'. -/
def contestAndCard : Claim7 := { stood := { row := contestAndRow, standIns := [], harness := (true, "4ccc56ced90c9b300caa55eabe675f347ab40cd062f67b0f26b1e8ace196e984"), looks := true }, kinds := [], alts := [], laidByText := true, laidKinds := [.data], laidTests := true, laidLooks := .later }
def ContestAndCardSaid : Prop := Claim7.holds Tryz.pinned (.plain (OpenSpec.ofChange contestAndSpec)) contestAndCard

/-- THE TIED CARD OF 'proofprogramslaw32.ContestImp'. -/
def contestImpCard : Claim7 := { stood := { row := contestImpRow, standIns := [], harness := (true, "4ccc56ced90c9b300caa55eabe675f347ab40cd062f67b0f26b1e8ace196e984"), looks := true }, kinds := [], alts := [], laidByText := true, laidKinds := [.data], laidTests := true, laidLooks := .later }
def ContestImpCardSaid : Prop := Claim7.holds Tryz.pinned (.plain (OpenSpec.ofChange contestImpSpec)) contestImpCard

/-- THE TIED CARD OF 'proofprogramslaw40.TableInputs'. -/
def tableInputsCard : Claim7 := { stood := { row := tableInputsRow, standIns := [], harness := (true, "4ccc56ced90c9b300caa55eabe675f347ab40cd062f67b0f26b1e8ace196e984"), looks := true }, kinds := [], alts := [], laidByText := true, laidKinds := [.data], laidTests := true, laidLooks := .later }
def TableInputsCardSaid : Prop := Claim7.holds Tryz.pinned (.plain (OpenSpec.ofChange tableInputsSpec)) tableInputsCard

/-- THE SECOND FORM's CARD OF 'proofprogramslaw32.ContestCandidates'. -/
def contestCandidatesUptoCard : Claim7 := { stood := { row := contestCandidatesUptoRow, standIns := [], harness := (true, "4ccc56ced90c9b300caa55eabe675f347ab40cd062f67b0f26b1e8ace196e984"), looks := true }, kinds := [], alts := [], laidByText := true, laidKinds := [.data], laidTests := true, laidLooks := .later }
def ContestCandidatesUptoCardSaid : Prop := Claim7.holds Tryz.pinned (.plain (OpenSpec.upto contestCandidatesSpec)) contestCandidatesUptoCard

/-- THE SECOND FORM's CARD OF 'proofprogramslaw32.ContestAnd'. -/
def contestAndUptoCard : Claim7 := { stood := { row := contestAndUptoRow, standIns := [], harness := (true, "4ccc56ced90c9b300caa55eabe675f347ab40cd062f67b0f26b1e8ace196e984"), looks := true }, kinds := [], alts := [], laidByText := true, laidKinds := [.data], laidTests := true, laidLooks := .later }
def ContestAndUptoCardSaid : Prop := Claim7.holds Tryz.pinned (.plain (OpenSpec.upto contestAndSpec)) contestAndUptoCard

/-- THE SECOND FORM's CARD OF 'proofprogramslaw32.ContestImp'. -/
def contestImpUptoCard : Claim7 := { stood := { row := contestImpUptoRow, standIns := [], harness := (true, "4ccc56ced90c9b300caa55eabe675f347ab40cd062f67b0f26b1e8ace196e984"), looks := true }, kinds := [], alts := [], laidByText := true, laidKinds := [.data], laidTests := true, laidLooks := .later }
def ContestImpUptoCardSaid : Prop := Claim7.holds Tryz.pinned (.plain (OpenSpec.upto contestImpSpec)) contestImpUptoCard

/-- THE SECOND FORM's CARD OF 'proofprogramslaw40.TableInputs'. -/
def tableInputsUptoCard : Claim7 := { stood := { row := tableInputsUptoRow, standIns := [], harness := (true, "4ccc56ced90c9b300caa55eabe675f347ab40cd062f67b0f26b1e8ace196e984"), looks := true }, kinds := [], alts := [], laidByText := true, laidKinds := [.data], laidTests := true, laidLooks := .later }
def TableInputsUptoCardSaid : Prop := Claim7.holds Tryz.pinned (.plain (OpenSpec.upto tableInputsSpec)) tableInputsUptoCard
end Rows
end Go.Proofs.YtbfilinnoedfeaaGreatDoor
