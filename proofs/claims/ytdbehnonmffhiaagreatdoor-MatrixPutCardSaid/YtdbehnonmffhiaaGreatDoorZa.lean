/-
  What the cards of this seat ask of the program as a whole.
-/
import Derived.Test.YtdbehnonmffhiaaGreatDoorCards
import Derived.SevenTiedAt
set_option maxRecDepth 100000
namespace Go.Proofs.YtdbehnonmffhiaaGreatDoor
open Go Go.Proofs

theorem seat_looks : false = Tryz.pinned.checked.prog.looks [] := by kernel_rfl
theorem seat_main : Tryz.pinned.checked.prog.mainIs = some (true, "9de001815663c336bfa861ef7a58b956e3cfa51c8b70940ce602d867e91b8560".toList) := by kernel_rfl
end Go.Proofs.YtdbehnonmffhiaaGreatDoor
