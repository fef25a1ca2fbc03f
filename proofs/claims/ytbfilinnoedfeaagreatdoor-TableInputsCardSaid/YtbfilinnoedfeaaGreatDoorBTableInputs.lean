/-
 What the card of this statement asks of the program as a whole.
-/
import Derived.Test.YtbfilinnoedfeaaGreatDoorCards
import Derived.SevenTiedAt
set_option maxRecDepth 100000
namespace Go.Proofs.YtbfilinnoedfeaaGreatDoor
open Go Go.Proofs
theorem goes_by : false = Rows.tableInputsRow.goesBy Tryz.pinned.checked.prog := by kernel_rfl
end Go.Proofs.YtbfilinnoedfeaaGreatDoor
