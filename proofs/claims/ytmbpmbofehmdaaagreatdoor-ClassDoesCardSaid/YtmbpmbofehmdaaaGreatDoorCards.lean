/-
  DERIVED. GIVEN WITH THE SEED: THE CARDS: each row of YtmbpmbofehmdaaaGreatDoorRows.lean that lists a variable, with what it lists TIED to the program's text (the seventh form; the later family's looks); each row that meets fmt, with fmt's text TOLD by the authors' own Lean function (tested against real Go, not proved from fmt's source: count such statements apart). THE CARD IS WHAT COUNTS. Prove the row's statement (the work); the ties are given (YtmbpmbofehmdaaaGreatDoorTie.lean); close each card by the builder's one call (the guide's Derived/Test/ToyasCard.lean, 'card_holds'). Laid BY PROGRAM, IN A SANDBOX (cutbox-door.mjs). By AI agents, Wed Nov 11 2026. No macro, syntax, notation, axiom, sorry.
-/
import Derived.Test.YtmbpmbofehmdaaaGreatDoorRows
import GoSem.ClaimSeven
namespace Go.Proofs.YtmbpmbofehmdaaaGreatDoor
namespace Rows

/-- THE TIED CARD OF 'proofprogramslaw08.ClassDoes'. -/
def classDoesCard : Claim7 := { stood := { row := classDoesRow, standIns := [], harness := (true, "da1e3e339323539ffa9e886fd04c96796a7695ac9b697ae267496f37005ce08c"), looks := false }, kinds := [], alts := [], laidByText := true, laidKinds := [.data], laidTests := true, laidLooks := .later }
def ClassDoesCardSaid : Prop := Claim7.holds Tryz.pinned (.plain (OpenSpec.ofChange classDoesSpec)) classDoesCard

/-- THE SECOND FORM's CARD OF 'proofprogramslaw08.ClassDoes'. -/
def classDoesUptoCard : Claim7 := { stood := { row := classDoesUptoRow, standIns := [], harness := (true, "da1e3e339323539ffa9e886fd04c96796a7695ac9b697ae267496f37005ce08c"), looks := false }, kinds := [], alts := [], laidByText := true, laidKinds := [.data], laidTests := true, laidLooks := .later }
def ClassDoesUptoCardSaid : Prop := Claim7.holds Tryz.pinned (.plain (OpenSpec.upto classDoesSpec)) classDoesUptoCard
end Rows
end Go.Proofs.YtmbpmbofehmdaaaGreatDoor
