/-
  What the cards of this seat ask of the program as a whole.
-/
import Derived.Test.YtmbpmbofehmdaaaGreatDoorCards
import Derived.SevenTiedAt
set_option maxRecDepth 100000
namespace Go.Proofs.YtmbpmbofehmdaaaGreatDoor
open Go Go.Proofs

theorem seat_looks : false = Tryz.pinned.checked.prog.looks [] := by kernel_rfl
theorem seat_main : Tryz.pinned.checked.prog.mainIs = some (true, "da1e3e339323539ffa9e886fd04c96796a7695ac9b697ae267496f37005ce08c".toList) := by kernel_rfl
end Go.Proofs.YtmbpmbofehmdaaaGreatDoor
