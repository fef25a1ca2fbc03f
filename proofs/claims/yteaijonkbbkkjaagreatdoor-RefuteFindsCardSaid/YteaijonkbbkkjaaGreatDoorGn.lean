/-
 Walks: the law of tasks.
-/
import Derived.Test.YteaijonkbbkkjaaGreatDoorGh
import Derived.Test.YteaijonkbbkkjaaGreatDoorMn
import Derived.Test.YteaijonkbbkkjaaGreatDoorGl
import Derived.Test.YteaijonkbbkkjaaGreatDoorMr
set_option linter.unusedSimpArgs false
set_option linter.unusedVariables false
set_option maxRecDepth 20000
set_option maxHeartbeats 4000000
namespace Go.Proofs.YteaijonkbbkkjaaGreatDoor
open Go GoAbs Go.Proofs
theorem c_Universal (f:Fm) (hf:FmW f) (he:fmErr f=0) (hs:fmSz f≤1000000) :
  Pure Tryz.prog env 69 [.agg f.cells] (.tup [.sl .any (f.univ.1.map Ty.cells),.agg f.univ.2.cells,.int .i64 0]):=by
 intro h
 have hC:=c_fmCheck f hf
 rw [he] at hC
 have he':(fmErr f != 0)=false:=by rw [he];rfl
 have hU:=c_universal f hf (Fm.ok_good he') hs
 have hO:=c_OwnFormula f.univ.2 (univ_good f hf (Fm.ok_good he')).1
 have n0:((0:Int) != 0)=false:=rfl
 clear hf he he' hs
 generalize f.univ=p at *
 exact ek_ Tryz.func69 [.tmp 2,.cell 3 45,.tmp 4]
end Go.Proofs.YteaijonkbbkkjaaGreatDoor
