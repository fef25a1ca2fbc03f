/-
  What the cards of this seat ask of the program as a whole.
-/
import Derived.Test.YtmfhhhhnokhggaaGreatDoorCards
import Derived.SevenTiedAt
set_option maxRecDepth 100000
namespace Go.Proofs.YtmfhhhhnokhggaaGreatDoor
open Go Go.Proofs

theorem cu4 : true = Tryz.pinned.checked.prog.looks [] := by kernel_rfl
theorem cP8 : Tryz.pinned.checked.prog.mainIs = some (true, "295237e45a6bb90a7d98d789b16986f3bde690afabb199cf8d27e0178de93f66".toList) := by kernel_rfl
end Go.Proofs.YtmfhhhhnokhggaaGreatDoor
