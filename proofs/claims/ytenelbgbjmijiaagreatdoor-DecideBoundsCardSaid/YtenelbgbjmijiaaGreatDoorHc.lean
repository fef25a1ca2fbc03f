/-
 Walks: what uses scope.Each; small functions of the package matrix.
-/
import Derived.Test.YtenelbgbjmijiaaGreatDoorMb
import Derived.Test.YtenelbgbjmijiaaGreatDoorAbsD
import Derived.Test.YtenelbgbjmijiaaGreatDoorAbsC
import Derived.Test.YtenelbgbjmijiaaGreatDoorMa
import Derived.Test.YtenelbgbjmijiaaGreatDoorGy
set_option linter.unusedSimpArgs false
set_option linter.unusedVariables false
set_option maxRecDepth 20000
set_option maxHeartbeats 4000000
namespace Go.Proofs.YtenelbgbjmijiaaGreatDoor
open Go GoAbs Go.Proofs
theorem hset_id {h : H} {d : GoAbs.Id} {o : GoAbs.Obj} (hd : h d = some o) : hset h d o = h := by
 funext j
 by_cases e : j = d
 ·subst e; rw [hset_same, hd]
 ·rw [hset_other e]
end Go.Proofs.YtenelbgbjmijiaaGreatDoor
