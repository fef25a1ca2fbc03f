/-
  What the cards of this seat ask of the program as a whole.
-/
import Derived.Test.YtbfilinnoedfeaaGreatDoorCards
import Derived.SevenTiedAt
set_option maxRecDepth 100000
namespace Go.Proofs.YtbfilinnoedfeaaGreatDoor
open Go Go.Proofs

theorem seat_looks : true = Tryz.pinned.checked.prog.looks [] := by kernel_rfl
theorem seat_main : Tryz.pinned.checked.prog.mainIs = some (true, "4ccc56ced90c9b300caa55eabe675f347ab40cd062f67b0f26b1e8ace196e984".toList) := by kernel_rfl
end Go.Proofs.YtbfilinnoedfeaaGreatDoor
