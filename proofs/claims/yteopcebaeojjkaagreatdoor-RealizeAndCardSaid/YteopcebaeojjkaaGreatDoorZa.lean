/-
  What the cards of this seat ask of the program as a whole.
-/
import Derived.Test.YteopcebaeojjkaaGreatDoorCards
import Derived.SevenTiedAt
set_option maxRecDepth 100000
namespace Go.Proofs.YteopcebaeojjkaaGreatDoor
open Go Go.Proofs

theorem seat_looks : false = Tryz.pinned.checked.prog.looks [] := by kernel_rfl
theorem seat_main : Tryz.pinned.checked.prog.mainIs = some (true, "bd76ee3397bca7d9536a9acc081408b1850b61500c477731fa1de05b5f2bab91".toList) := by kernel_rfl
end Go.Proofs.YteopcebaeojjkaaGreatDoor
