/-
 Walks: what the reference reads of a candidate.
-/
import Derived.Test.YtbfilinnoedfeaaGreatDoorTb
import Derived.Test.YtbfilinnoedfeaaGreatDoorMg
import Derived.Test.YtbfilinnoedfeaaGreatDoorOp
set_option linter.unusedSimpArgs false
set_option linter.unusedVariables false
set_option maxRecDepth 20000
set_option maxHeartbeats 4000000
namespace Go.Proofs.YtbfilinnoedfeaaGreatDoor
open Go GoAbs Go.Proofs
def zeroP:PVl:=.mk 0 0 [] []
/-- What is read: the value, or the error. -/
def readP (v:PVl) (b:Bool):PVl × Int:=if b then (if decide (v.nd>64) then (zeroP,4) else (v,0)) else (zeroP,2)
theorem c_r05Read {t:Tm} {s:Ty} {v:PVl} {b:Bool} (ho:CandOk [] s 4096 t) (hr:RdT t v b) :
  Pure Tryz.prog env 14 [.agg t.cells] (.tup [.agg (readP v b).1.cells,.int .i64 (readP v b).2]):=by
 intro h
 have h1:=c_tmCheck t ho.w
 rw [ho.gd.err0 ho.sz] at h1
 have h2:=c_r05read c_r05readL hr
 have h3:=c_vNodes v hr.W
 have hz:zeroP.cells=[.int .i64 0,.int .i64 0,.sl .any [],.sl .any []]:=by rw [zeroP,PVl.cells_eq];rfl
 have n0:((0:Int) != 0)=false:=rfl
 clear ho hr
 unfold readP
 cases b with
 | false =>
  simp only [Bool.false_eq_true,if_false]
  rw [hz]
  clear hz
  refine en Tryz.func14 [.cell 2 42,.tmp 3] rfl rfl fun g0 w0 gen hrel hfr hfr' hres=>?_
  repeat' (first
   | exact hin _|exact agf (by assumption)
   | (first|refine wp rfl ?_|refine spt rfl ?_|refine spf rfl ?_|(refine spl (fun hc=>?_) fun hc=>?_)<;>(try rw [beq_iff_eq] at hc)<;>try simp only [hc]|refine cp (h1) ?_|refine cp (h2) ?_|refine cp (h3) ?_|refine finF hrel ?_ ?_ ?_)<;>try simp only [go_sem, *])
 | true =>
  simp only [if_true]
  cases hd:decide (v.nd>64) with
  | false =>
   simp only [Bool.false_eq_true,if_false]
   clear hz
   refine en Tryz.func14 [.cell 2 42,.tmp 3] rfl rfl fun g0 w0 gen hrel hfr hfr' hres=>?_
   repeat' (first
    | exact hin _|exact agf (by assumption)
    | (first|refine wp rfl ?_|refine spt rfl ?_|refine spf rfl ?_|(refine spl (fun hc=>?_) fun hc=>?_)<;>(try rw [beq_iff_eq] at hc)<;>try simp only [hc]|refine cp (h1) ?_|refine cp (h2) ?_|refine cp (h3) ?_|refine finF hrel ?_ ?_ ?_)<;>try simp only [go_sem, *])
  | true =>
   simp only [if_true]
   rw [hz]
   clear hz
   refine en Tryz.func14 [.cell 2 42,.tmp 3] rfl rfl fun g0 w0 gen hrel hfr hfr' hres=>?_
   repeat' (first
    | exact hin _|exact agf (by assumption)
    | (first|refine wp rfl ?_|refine spt rfl ?_|refine spf rfl ?_|(refine spl (fun hc=>?_) fun hc=>?_)<;>(try rw [beq_iff_eq] at hc)<;>try simp only [hc]|refine cp (h1) ?_|refine cp (h2) ?_|refine cp (h3) ?_|refine finF hrel ?_ ?_ ?_)<;>try simp only [go_sem, *])
end Go.Proofs.YtbfilinnoedfeaaGreatDoor
