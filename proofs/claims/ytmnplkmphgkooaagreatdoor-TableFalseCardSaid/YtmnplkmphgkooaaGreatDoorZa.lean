/-
  What the cards of this seat ask of the program as a whole.
-/
import Derived.Test.YtmnplkmphgkooaaGreatDoorCards
import Derived.SevenTiedAt
set_option maxRecDepth 100000
namespace Go.Proofs.YtmnplkmphgkooaaGreatDoor
open Go Go.Proofs

theorem seat_looks : true = Tryz.pinned.checked.prog.looks [] := by kernel_rfl
theorem seat_main : Tryz.pinned.checked.prog.mainIs = some (true, "3cdba90e5ccea4e9a5395ce035b1805581422e2dff288ea4450570c301f2878a".toList) := by kernel_rfl
end Go.Proofs.YtmnplkmphgkooaaGreatDoor
