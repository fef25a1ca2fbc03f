/-
 Walks: the law that with more values of each type a counterexample is found, too.
-/
import Derived.Test.YteaijonkbbkkjaaGreatDoorPv
import Derived.Test.YteaijonkbbkkjaaGreatDoorPz
set_option linter.unusedSimpArgs false
set_option linter.unusedVariables false
set_option maxRecDepth 20000
set_option maxHeartbeats 4000000
namespace Go.Proofs.YteaijonkbbkkjaaGreatDoor
open Go GoAbs Go.Proofs
theorem c_limit21 (e:Int):Pure Tryz.prog env 17 [.int .i64 e] (.bool (e==5||e==4)):=by
 intro h
 refine en_ Tryz.func17 [.tmp 2] fun g0 w0 gen hrel hfr hfr' hres=>?_
 first|refine wq_ ?_|exact wk_
 all_goals simp_all
theorem c_refuted {g k:List Ty} {f b:Fm} (h:Front g f k b) {T:List PVl→List Tm} {l:List PVl} (hl:IsVls k l (T l)) {is:Bool} {u:Nat} (hh:holdsT b T l 65536=(is,u,0)) :
  Pure Tryz.prog env 18 [.agg (allF g f).cells,.sl .any (l.map PVl.cells),.int .i64 65536] (.int .i64 (if is then 21 else 0)):=by
 have h1:=h.len
 have h2:=h.sz
 have hH:=c_decHolds hl (by omega) h.dc (by omega) 65536 (by omega)
 rw [show holdsR 65536 b (T l)=(is,u,0) from hh] at hH
 have:=c_Refutes (c_claim21 h) (c_fitsOk hl (by omega)) (c_rfMay (w:=65536) (by omega) (by omega)) hH (weakLL_PVl l) (fun S=>by simp only [go_sem, *])
 simpa using this
end Go.Proofs.YteaijonkbbkkjaaGreatDoor
