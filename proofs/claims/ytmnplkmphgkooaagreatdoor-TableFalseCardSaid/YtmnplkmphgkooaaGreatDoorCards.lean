/-
  DERIVED. GIVEN WITH THE SEED: THE CARDS: each row of YtmnplkmphgkooaaGreatDoorRows.lean that lists a variable, with what it lists TIED to the program's text (the seventh form; the later family's looks); each row that meets fmt, with fmt's text TOLD by the authors' own Lean function (tested against real Go, not proved from fmt's source: count such statements apart). THE CARD IS WHAT COUNTS. Prove the row's statement (the work); the ties are given (YtmnplkmphgkooaaGreatDoorTie.lean); close each card by the builder's one call (the guide's Derived/Test/ToyasCard.lean, 'card_holds'). Laid BY PROGRAM, IN A SANDBOX (cutbox-door.mjs). By AI agents, Wed Nov 11 2026. No macro, syntax, notation, axiom, sorry.
-/
import Derived.Test.YtmnplkmphgkooaaGreatDoorRows
import GoSem.ClaimSeven
namespace Go.Proofs.YtmnplkmphgkooaaGreatDoor
namespace Rows

/-- THE TIED CARD OF 'proofprogramslaw40.TableFalse'. -/
def tableFalseCard : Claim7 := { stood := { row := tableFalseRow, standIns := [], harness := (true, "3cdba90e5ccea4e9a5395ce035b1805581422e2dff288ea4450570c301f2878a"), looks := true }, kinds := [], alts := [], laidByText := true, laidKinds := [.data], laidTests := true, laidLooks := .later }
def TableFalseCardSaid : Prop := Claim7.holds Tryz.pinned (.plain (OpenSpec.ofChange tableFalseSpec)) tableFalseCard

/-- THE SECOND FORM's CARD OF 'proofprogramslaw40.TableFalse'. -/
def tableFalseUptoCard : Claim7 := { stood := { row := tableFalseUptoRow, standIns := [], harness := (true, "3cdba90e5ccea4e9a5395ce035b1805581422e2dff288ea4450570c301f2878a"), looks := true }, kinds := [], alts := [], laidByText := true, laidKinds := [.data], laidTests := true, laidLooks := .later }
def TableFalseUptoCardSaid : Prop := Claim7.holds Tryz.pinned (.plain (OpenSpec.upto tableFalseSpec)) tableFalseUptoCard
end Rows
end Go.Proofs.YtmnplkmphgkooaaGreatDoor
