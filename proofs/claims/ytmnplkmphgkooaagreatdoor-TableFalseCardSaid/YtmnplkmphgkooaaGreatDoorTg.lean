/-
 Walks: several parts in one text.
-/
import Derived.Test.YtmnplkmphgkooaaGreatDoorMb
import Derived.Test.YtmnplkmphgkooaaGreatDoorMa
import Derived.Test.YtmnplkmphgkooaaGreatDoorAbsC
import Derived.Test.YtmnplkmphgkooaaGreatDoorMc
import Derived.Test.YtmnplkmphgkooaaGreatDoorAbsD
set_option linter.unusedSimpArgs false
set_option linter.unusedVariables false
set_option maxRecDepth 20000
set_option maxHeartbeats 4000000
namespace Go.Proofs.YtmnplkmphgkooaaGreatDoor
open Go GoAbs Go.Proofs
theorem c_r24Node (k:Int) (l:List Tm):Pure Tryz.prog env 12 [.int .i64 k,.sl .any (l.map Tm.cells)] (.agg (tm0 k l).cells):=by
 intro h
 refine en_ Tryz.func12 [.cell 4 32] fun g0 w0 gen hrel hfr hfr' hres=>?_
 first|refine wq_ ?_|exact wk_
 all_goals simp [tm0,Tm.mk_cells,Ty.mk_kind,Ty.mk_args]
theorem c_r24App (f a:Tm):Pure Tryz.prog env 13 [.agg f.cells,.agg a.cells] (.agg (tm0 3 [f,a]).cells):=by
 intro h
 have h1:=c_r24Node 3 [f,a]
 simp only [List.map_cons,List.map_nil] at h1
 have hin:∀ S,InV S (V.agg (tm0 3 [f,a]).cells):=fun S=>by simp [InV,InL_Tm]
 generalize tm0 3 [f,a]=x at *
 exact ek_ Tryz.func13 [.cell 4 32]
end Go.Proofs.YtmnplkmphgkooaaGreatDoor
