/-
 What the card of this statement asks of the program as a whole.
-/
import Derived.Test.YtmfhhhhnokhggaaGreatDoorCards
import Derived.SevenTiedAt
set_option maxRecDepth 100000
namespace Go.Proofs.YtmfhhhhnokhggaaGreatDoor
open Go Go.Proofs
theorem du3 : false = Rows.refuteNeverRow.goesBy Tryz.pinned.checked.prog := by kernel_rfl
end Go.Proofs.YtmfhhhhnokhggaaGreatDoor
