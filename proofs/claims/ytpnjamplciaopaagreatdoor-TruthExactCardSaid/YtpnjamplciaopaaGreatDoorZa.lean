/-
  What the cards of this seat ask of the program as a whole.
-/
import Derived.Test.YtpnjamplciaopaaGreatDoorCards
import Derived.SevenTiedAt
set_option maxRecDepth 100000
namespace Go.Proofs.YtpnjamplciaopaaGreatDoor
open Go Go.Proofs

theorem seat_looks : false = Tryz.pinned.checked.prog.looks [] := by kernel_rfl
theorem seat_main : Tryz.pinned.checked.prog.mainIs = some (true, "b4bd6cb3028485d44dd67763124bac239b9c1011b103b4e6be77f5cc08dacef4".toList) := by kernel_rfl
end Go.Proofs.YtpnjamplciaopaaGreatDoor
