/-
 What the card of this statement asks of the program as a whole.
-/
import Derived.Test.YteaijonkbbkkjaaGreatDoorCards
import Derived.SevenTiedAt
set_option maxRecDepth 100000
namespace Go.Proofs.YteaijonkbbkkjaaGreatDoor
open Go Go.Proofs
theorem cz0 : false = Rows.refuteAnswersRow.goesBy Tryz.pinned.checked.prog := by kernel_rfl
end Go.Proofs.YteaijonkbbkkjaaGreatDoor
