/-
 Walks: the reference of witnesses and challenges.
-/
import Derived.Test.YtpnjamplciaopaaGreatDoorMb
import Derived.Test.YtpnjamplciaopaaGreatDoorMa
import Derived.Test.YtpnjamplciaopaaGreatDoorVc
import Derived.Test.YtpnjamplciaopaaGreatDoorAbsD
set_option linter.unusedSimpArgs false
set_option linter.unusedVariables false
set_option maxRecDepth 20000
set_option maxHeartbeats 4000000
namespace Go.Proofs.YtpnjamplciaopaaGreatDoor
open Go GoAbs Go.Proofs
theorem c_r24Node (k : Int) (l : List Tm) : Pure Tryz.prog env 106 [.int .i64 k, .sl .any (l.map Tm.cells)] (.agg (tm0 k l).cells) := by
 intro h
 refine en Tryz.func106 [.cell 4 31] rfl rfl fun g0 w0 gen hrel hfr hfr' hres => ?_
 repeat' (first
  | exact hin _ | exact agf (by assumption)
  | (first | refine wp rfl ?_ | refine finF hrel ?_ ?_ ?_) <;> try simp only [go_sem, *])
 all_goals simp [tm0, Tm.mk_cells, Ty.mk_kind, Ty.mk_args]
theorem c_r24App (f a : Tm) : Pure Tryz.prog env 107 [.agg f.cells, .agg a.cells] (.agg (tm0 3 [f, a]).cells) := by
 intro h
 have h1 := c_r24Node 3 [f, a]
 simp only [List.map_cons, List.map_nil] at h1
 have hin : ∀ S, InV S (V.agg (tm0 3 [f, a]).cells) := fun S => by simp [InV, InL_Tm]
 generalize tm0 3 [f, a] = x at *
 refine en Tryz.func107 [.cell 4 31] rfl rfl fun g0 w0 gen hrel hfr hfr' hres => ?_
 repeat' (first
  | exact hin _ | exact agf (by assumption)
  | (first | refine wp rfl ?_ | refine cp (h1) ?_ | refine finF hrel ?_ ?_ ?_) <;> try simp only [go_sem, *])
end Go.Proofs.YtpnjamplciaopaaGreatDoor
