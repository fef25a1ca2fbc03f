/-
  DERIVED. GIVEN WITH THE SEED: THE CARDS: each row of YtmfhhhhnokhggaaGreatDoorRows.lean that lists a variable, with what it lists TIED to the program's text (the seventh form; the later family's looks); each row that meets fmt, with fmt's text TOLD by the authors' own Lean function (tested against real Go, not proved from fmt's source: count such statements apart). THE CARD IS WHAT COUNTS. Prove the row's statement (the work); the ties are given (YtmfhhhhnokhggaaGreatDoorTie.lean); close each card by the builder's one call (the guide's Derived/Test/ToyasCard.lean, 'card_holds'). Laid BY PROGRAM, IN A SANDBOX (cutbox-door.mjs). By AI agents, Wed Nov 11 2026. No macro, syntax, notation, axiom, sorry.
-/
import Derived.Test.YtmfhhhhnokhggaaGreatDoorRows
import GoSem.ClaimSeven
namespace Go.Proofs.YtmfhhhhnokhggaaGreatDoor
namespace Rows

/-- THE TIED CARD OF 'proofprogramslaw21.RefuteNever'. -/
def refuteNeverCard : Claim7 := { stood := { row := refuteNeverRow, standIns := [], harness := (true, "295237e45a6bb90a7d98d789b16986f3bde690afabb199cf8d27e0178de93f66"), looks := true }, kinds := [], alts := [], laidByText := true, laidKinds := [.data], laidTests := true, laidLooks := .later }
def RefuteNeverCardSaid : Prop := Claim7.holds Tryz.pinned (.plain (OpenSpec.ofChange refuteNeverSpec)) refuteNeverCard

/-- THE SECOND FORM's CARD OF 'proofprogramslaw21.RefuteNever'. -/
def refuteNeverUptoCard : Claim7 := { stood := { row := refuteNeverUptoRow, standIns := [], harness := (true, "295237e45a6bb90a7d98d789b16986f3bde690afabb199cf8d27e0178de93f66"), looks := true }, kinds := [], alts := [], laidByText := true, laidKinds := [.data], laidTests := true, laidLooks := .later }
def RefuteNeverUptoCardSaid : Prop := Claim7.holds Tryz.pinned (.plain (OpenSpec.upto refuteNeverSpec)) refuteNeverUptoCard
end Rows
end Go.Proofs.YtmfhhhhnokhggaaGreatDoor
