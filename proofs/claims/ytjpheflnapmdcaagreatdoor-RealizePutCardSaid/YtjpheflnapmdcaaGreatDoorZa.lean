/-
  What the cards of this seat ask of the program as a whole.
-/
import Derived.Test.YtjpheflnapmdcaaGreatDoorCards
import Derived.SevenTiedAt
set_option maxRecDepth 100000
namespace Go.Proofs.YtjpheflnapmdcaaGreatDoor
open Go Go.Proofs

theorem seat_looks : false = Tryz.pinned.checked.prog.looks [] := by kernel_rfl
theorem seat_main : Tryz.pinned.checked.prog.mainIs = some (true, "7ad2bace45b9239bd739cc6d14d8a662eb6a1e2401e69eb0b9e2aad0f7f7f0b2".toList) := by kernel_rfl
end Go.Proofs.YtjpheflnapmdcaaGreatDoor
