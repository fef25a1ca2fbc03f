/-
 What the card of this statement asks of the program as a whole.
-/
import Derived.Test.YtmbpmbofehmdaaaGreatDoorCards
import Derived.SevenTiedAt
set_option maxRecDepth 100000
namespace Go.Proofs.YtmbpmbofehmdaaaGreatDoor
open Go Go.Proofs
theorem goes_by : false = Rows.classDoesRow.goesBy Tryz.pinned.checked.prog := by kernel_rfl
end Go.Proofs.YtmbpmbofehmdaaaGreatDoor
