/-
  Walks: the sanity check of chapter 28; the law of negation.
-/
import Derived.Test.YtnhjlnkogoihhaaGreatDoorWu
import Derived.Test.YtnhjlnkogoihhaaGreatDoorWo
import Derived.Test.YtnhjlnkogoihhaaGreatDoorAbsD
set_option linter.unusedSimpArgs false
set_option linter.unusedVariables false
set_option maxRecDepth 20000
set_option maxHeartbeats 4000000
namespace Go.Proofs.YtnhjlnkogoihhaaGreatDoor
open Go GoAbs Go.Proofs

def awF : Fm := fmQ 4 tNat (fmQ 5 tNat falseF)
theorem awF_W : FmW awF := fmQ_W tNat_W (fmQ_W tNat_W falseF_W)

end Go.Proofs.YtnhjlnkogoihhaaGreatDoor
