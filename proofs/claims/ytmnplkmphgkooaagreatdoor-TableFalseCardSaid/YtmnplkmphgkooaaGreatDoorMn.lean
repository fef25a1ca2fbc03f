/-
 Walks: several parts in one text.
-/
import Derived.Test.YtmnplkmphgkooaaGreatDoorMb
import Derived.Test.YtmnplkmphgkooaaGreatDoorAbsD
import Derived.Test.YtmnplkmphgkooaaGreatDoorMh
import Derived.Test.YtmnplkmphgkooaaGreatDoorMc
import Derived.Test.YtmnplkmphgkooaaGreatDoorAbsC
set_option linter.unusedSimpArgs false
set_option linter.unusedVariables false
set_option maxRecDepth 20000
set_option maxHeartbeats 4000000
namespace Go.Proofs.YtmnplkmphgkooaaGreatDoor
open Go GoAbs Go.Proofs
theorem c_CheckTerm (t:Tm) (ht:TmW t):Pure Tryz.prog env 116 [.agg t.cells] (two (chk 4096 t.nodes)):=by
 intro h
 have hc:=c_termNodes t ht
 have hin:∀ S,InV S (two (chk 4096 t.nodes)):=fun S=>by simp [two,InV,InL]
 cases hn:t.nodes with
 | none =>
  rw [hn] at hc hin
  refine en_ Tryz.func116 [.tmp 2,.tmp 3] fun g0 w0 gen hrel hfr hfr' hres=>?_
  first|refine wq_ ?_|exact wk_
  all_goals simp [two,chk]
 | some n =>
  rw [hn] at hc hin
  refine en_ Tryz.func116 [.tmp 2,.tmp 3] fun g0 w0 gen hrel hfr hfr' hres=>?_
  repeat' (first
   |exact hin _|exact agf (by assumption)
   | (first|refine wp rfl ?_|refine spt rfl ?_|refine spf rfl ?_|(refine spl (fun hc=>?_) fun hc=>?_)<;>(try rw [beq_iff_eq] at hc)<;>try simp only [hc]|refine cp hc ?_|refine finF hrel ?_ ?_ ?_)<;>try simp only [go_sem, *])
  all_goals (try simp only [decide_eq_true_eq,decide_eq_false_iff_not] at *)
  all_goals first|(have hcn:¬ 4096<n:=by omega);simp [two,chk,hcn]|(have hcn:4096<n:=by omega);simp [two,chk,hcn]
theorem c_termsCheck (t:Tm) (ht:TmW t):Pure Tryz.prog env 72 [.agg t.cells] (.int .i64 (tmErr t)):=by
 intro h
 have hc:=c_CheckTerm t ht
 unfold two at hc
 refine en_ Tryz.func72 [.tmp 2] fun g0 w0 gen hrel hfr hfr' hres=>?_
 first|refine wq_ ?_|exact wk_
 all_goals simp [tmErr]
end Go.Proofs.YtmnplkmphgkooaaGreatDoor
