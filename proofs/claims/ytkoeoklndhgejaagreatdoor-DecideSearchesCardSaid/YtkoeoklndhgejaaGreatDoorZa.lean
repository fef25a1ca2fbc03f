/-
  What the cards of this seat ask of the program as a whole.
-/
import Derived.Test.YtkoeoklndhgejaaGreatDoorCards
import Derived.SevenTiedAt
set_option maxRecDepth 100000
namespace Go.Proofs.YtkoeoklndhgejaaGreatDoor
open Go Go.Proofs

theorem seat_looks : true = Tryz.pinned.checked.prog.looks [] := by kernel_rfl
theorem seat_main : Tryz.pinned.checked.prog.mainIs = some (true, "d39a32e7de8dc8c7a7827794b8ce9fbf55600d86e71c70f87e42bc395adbb1ae".toList) := by kernel_rfl
end Go.Proofs.YtkoeoklndhgejaaGreatDoor
