/-
  What the cards of this seat ask of the program as a whole.
-/
import Derived.Test.YteaijonkbbkkjaaGreatDoorCards
import Derived.SevenTiedAt
set_option maxRecDepth 100000
namespace Go.Proofs.YteaijonkbbkkjaaGreatDoor
open Go Go.Proofs

theorem bI8 : true = Tryz.pinned.checked.prog.looks [] := by kernel_rfl
theorem cf1 : Tryz.pinned.checked.prog.mainIs = some (true, "67e56f0de17fb30b79747a7a915a610841d3dea69fa44f0305dbee0b26d1c66d".toList) := by kernel_rfl
end Go.Proofs.YteaijonkbbkkjaaGreatDoor
