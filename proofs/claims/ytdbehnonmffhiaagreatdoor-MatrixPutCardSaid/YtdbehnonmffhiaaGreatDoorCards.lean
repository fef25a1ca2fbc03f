/-
  DERIVED. GIVEN WITH THE SEED: THE CARDS: each row of YtdbehnonmffhiaaGreatDoorRows.lean that lists a variable, with what it lists TIED to the program's text (the seventh form; the later family's looks); each row that meets fmt, with fmt's text TOLD by the authors' own Lean function (tested against real Go, not proved from fmt's source: count such statements apart). THE CARD IS WHAT COUNTS. Prove the row's statement (the work); the ties are given (YtdbehnonmffhiaaGreatDoorTie.lean); close each card by the builder's one call (the guide's Derived/Test/ToyasCard.lean, 'card_holds'). Laid BY PROGRAM, IN A SANDBOX (cutbox-door.mjs). By AI agents, Wed Nov 11 2026. No macro, syntax, notation, axiom, sorry.
-/
import Derived.Test.YtdbehnonmffhiaaGreatDoorRows
import GoSem.ClaimSeven
namespace Go.Proofs.YtdbehnonmffhiaaGreatDoor
namespace Rows

/-- THE TIED CARD OF 'proofprogramslaw29.MatrixPut'. -/
def matrixPutCard : Claim7 := { stood := { row := matrixPutRow, standIns := [], harness := (true, "9de001815663c336bfa861ef7a58b956e3cfa51c8b70940ce602d867e91b8560"), looks := false }, kinds := [], alts := [], laidByText := true, laidKinds := [.data], laidTests := true, laidLooks := .later }
def MatrixPutCardSaid : Prop := Claim7.holds Tryz.pinned (.plain (OpenSpec.ofChange matrixPutSpec)) matrixPutCard

/-- THE SECOND FORM's CARD OF 'proofprogramslaw29.MatrixPut'. -/
def matrixPutUptoCard : Claim7 := { stood := { row := matrixPutUptoRow, standIns := [], harness := (true, "9de001815663c336bfa861ef7a58b956e3cfa51c8b70940ce602d867e91b8560"), looks := false }, kinds := [], alts := [], laidByText := true, laidKinds := [.data], laidTests := true, laidLooks := .later }
def MatrixPutUptoCardSaid : Prop := Claim7.holds Tryz.pinned (.plain (OpenSpec.upto matrixPutSpec)) matrixPutUptoCard
end Rows
end Go.Proofs.YtdbehnonmffhiaaGreatDoor
