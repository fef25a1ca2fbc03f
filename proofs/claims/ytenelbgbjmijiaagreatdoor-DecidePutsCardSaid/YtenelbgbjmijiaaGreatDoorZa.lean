/-
  What the cards of this seat ask of the program as a whole.
-/
import Derived.Test.YtenelbgbjmijiaaGreatDoorCards
import Derived.SevenTiedAt
set_option maxRecDepth 100000
namespace Go.Proofs.YtenelbgbjmijiaaGreatDoor
open Go Go.Proofs

theorem seat_looks : true = Tryz.pinned.checked.prog.looks [] := by kernel_rfl
theorem seat_main : Tryz.pinned.checked.prog.mainIs = some (true, "e9e16ee6dbfeffb1dbb838c507e501875ac2c4f9eb15f95de26a8bc9acab7f1d".toList) := by kernel_rfl
end Go.Proofs.YtenelbgbjmijiaaGreatDoor
