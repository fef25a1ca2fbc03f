/-
  What the cards of this seat ask of the program as a whole.
-/
import Derived.Test.YtnhjlnkogoihhaaGreatDoorCards
import Derived.SevenTiedAt
set_option maxRecDepth 100000
namespace Go.Proofs.YtnhjlnkogoihhaaGreatDoor
open Go Go.Proofs

theorem seat_looks : false = Tryz.pinned.checked.prog.looks [] := by kernel_rfl
theorem seat_main : Tryz.pinned.checked.prog.mainIs = some (true, "ee142058debe635c78ff34c6d29aca2e70c5c9f299d2558953c75fe805ae658b".toList) := by kernel_rfl
end Go.Proofs.YtnhjlnkogoihhaaGreatDoor
