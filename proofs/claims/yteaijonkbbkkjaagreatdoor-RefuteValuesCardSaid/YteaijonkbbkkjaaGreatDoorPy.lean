/-
 Walks: several parts in one text.
-/
import Derived.Test.YteaijonkbbkkjaaGreatDoorMz
import Derived.Test.YteaijonkbbkkjaaGreatDoorOq
set_option linter.unusedSimpArgs false
set_option linter.unusedVariables false
set_option maxRecDepth 20000
set_option maxHeartbeats 4000000
namespace Go.Proofs.YteaijonkbbkkjaaGreatDoor
open Go GoAbs Go.Proofs
theorem c_rfMay {w : Int} (h0 : 0 ≤ w) (h1 : w ≤ 65536) : Pure Tryz.prog env 42 [.int .i64 w] (.bool true) := by
 intro h
 have d0 : decide (w ≥ 0) = true := by simp; omega
 have d1 : decide (w ≤ 65536) = true := by simp; omega
 clear h0 h1
 exact ek_ Tryz.func42 [.tmp 2]
end Go.Proofs.YteaijonkbbkkjaaGreatDoor
