/-
 Walks: the matrix of a formula.
-/
import Derived.Test.YtpnjamplciaopaaGreatDoorHc
import Derived.Test.YtpnjamplciaopaaGreatDoorMa
set_option linter.unusedSimpArgs false
set_option linter.unusedVariables false
set_option maxRecDepth 20000
set_option maxHeartbeats 4000000
namespace Go.Proofs.YtpnjamplciaopaaGreatDoor
open Go GoAbs Go.Proofs
theorem zeroF_W' : FmW zeroF := .mk _ _ _ _ tZero_W (by simp) (by simp) (by simp) (by simp)
end Go.Proofs.YtpnjamplciaopaaGreatDoor
