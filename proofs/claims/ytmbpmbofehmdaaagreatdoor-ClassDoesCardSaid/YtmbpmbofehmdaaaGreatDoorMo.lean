/-
 Walks: several parts in one text.
-/
import Derived.Test.YtmbpmbofehmdaaaGreatDoorMb
import Derived.Test.YtmbpmbofehmdaaaGreatDoorAbsD
import Derived.Test.YtmbpmbofehmdaaaGreatDoorGr
import Derived.Test.YtmbpmbofehmdaaaGreatDoorMn
import Derived.Test.YtmbpmbofehmdaaaGreatDoorVc
set_option linter.unusedSimpArgs false
set_option linter.unusedVariables false
set_option maxRecDepth 20000
set_option maxHeartbeats 4000000
namespace Go.Proofs.YtmbpmbofehmdaaaGreatDoor
open Go GoAbs Go.Proofs
theorem c_CheckTerm (t : Tm) (ht : TmW t) : Pure Tryz.prog env 110 [.agg t.cells] (two (chk 4096 t.nodes)) := by
 intro h
 have hc := c_termNodes t ht
 have hin : ∀ S, InV S (two (chk 4096 t.nodes)) := fun S => by simp [two, InV, InL]
 cases hn : t.nodes with
 | none =>
  rw [hn] at hc hin
  refine en_ Tryz.func110 [.tmp 2, .tmp 3] fun g0 w0 gen hrel hfr hfr' hres => ?_
  first|refine wq_ ?_|exact wk_
  all_goals simp [two, chk]
 | some n =>
  rw [hn] at hc hin
  refine en_ Tryz.func110 [.tmp 2, .tmp 3] fun g0 w0 gen hrel hfr hfr' hres => ?_
  repeat' (first
   |exact hin _|exact agf (by assumption)
   | (first|refine wp rfl ?_|refine spt rfl ?_|refine spf rfl ?_|(refine spl (fun hc => ?_) fun hc => ?_) <;> (try rw [beq_iff_eq] at hc) <;> try simp only [hc]|refine cp hc ?_|refine finF hrel ?_ ?_ ?_)<;>try simp only [go_sem, *])
  all_goals (try simp only [decide_eq_true_eq, decide_eq_false_iff_not] at *)
  all_goals first | (have hcn : ¬ 4096 < n := by omega); simp [two, chk, hcn] | (have hcn : 4096 < n := by omega); simp [two, chk, hcn]
theorem c_termsCheck (t : Tm) (ht : TmW t) : Pure Tryz.prog env 80 [.agg t.cells] (.int .i64 (tmErr t)) := by
 intro h
 have hc := c_CheckTerm t ht
 unfold two at hc
 refine en_ Tryz.func80 [.tmp 2] fun g0 w0 gen hrel hfr hfr' hres => ?_
 first|refine wq_ ?_|exact wk_
 all_goals simp [tmErr]
theorem c_within (n : Int) (h0 : 0 ≤ n) (h1 : n ≤ 4096) : Pure Tryz.prog env 103 [.int .i64 n] (.bool true) := by
 intro h
 have d1 : decide (n ≥ 0) = true := by simp; omega
 have d2 : decide (n ≤ 4096) = true := by simp; omega
 clear h0 h1
 exact ek_ Tryz.func103 [.tmp 2]
theorem c_Form (k : Int) (l : List Fm) : Pure Tryz.prog env 75 [.int .i64 k, .sl .any (l.map Fm.cells)] (.agg (Fm.mk k (.mk 0 []) [] l).cells) := by
 intro h
 refine en_ Tryz.func75 [.cell 4 29] fun g0 w0 gen hrel hfr hfr' hres => ?_
 first|refine wq_ ?_|exact wk_
 all_goals simp [Fm.mk_cells, Ty.mk_kind, Ty.mk_args]
theorem c_Quantified (k : Int) (t : Ty) (f : Fm) : Pure Tryz.prog env 73 [.int .i64 k, .agg t.cells, .agg f.cells] (.agg (fmQ k t f).cells) := by
 intro h
 refine en_ Tryz.func73 [.cell 6 29] fun g0 w0 gen hrel hfr hfr' hres => ?_
 first|refine wq_ ?_|exact wk_
 all_goals simp [fmQ, Fm.mk_cells, Ty.mk_kind, Ty.mk_args]
end Go.Proofs.YtmbpmbofehmdaaaGreatDoor
