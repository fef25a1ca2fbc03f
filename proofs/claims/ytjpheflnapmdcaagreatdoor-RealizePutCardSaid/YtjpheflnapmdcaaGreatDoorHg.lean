/-
  Walks: the reference of witnesses and challenges.
-/
import Derived.Test.YtjpheflnapmdcaaGreatDoorMb
import Derived.Test.YtjpheflnapmdcaaGreatDoorMa
import Derived.Test.YtjpheflnapmdcaaGreatDoorVc
import Derived.Test.YtjpheflnapmdcaaGreatDoorAbsD
set_option linter.unusedSimpArgs false
set_option linter.unusedVariables false
set_option maxRecDepth 20000
set_option maxHeartbeats 4000000
namespace Go.Proofs.YtjpheflnapmdcaaGreatDoor
open Go GoAbs Go.Proofs

theorem c_r23Pair (a b : Ty) : Pure Tryz.prog env 208 [.agg a.cells, .agg b.cells] (.agg (tPair a b).cells) := by
  intro h
  refine en Tryz.func208 [.cell 4 25] rfl rfl fun g0 w0 gen hrel hfr hfr' hres => ?_
  repeat' (first
    | exact hin _ | exact agf (by assumption)
    | (first | refine wp rfl ?_ | refine finF hrel ?_ ?_ ?_) <;> try simp only [go_sem, *])
  all_goals simp [tPair, Ty.mk_cells]

end Go.Proofs.YtjpheflnapmdcaaGreatDoor
