/-
 Walks: several parts in one text.
-/
import Derived.Test.YteaijonkbbkkjaaGreatDoorMb
import Derived.Test.YteaijonkbbkkjaaGreatDoorAbsD
import Derived.Test.YteaijonkbbkkjaaGreatDoorMh
import Derived.Test.YteaijonkbbkkjaaGreatDoorGq
import Derived.Test.YteaijonkbbkkjaaGreatDoorNy
import Derived.Test.YteaijonkbbkkjaaGreatDoorMc
import Derived.Test.YteaijonkbbkkjaaGreatDoorAbsC
set_option linter.unusedSimpArgs false
set_option linter.unusedVariables false
set_option maxRecDepth 20000
set_option maxHeartbeats 4000000
namespace Go.Proofs.YteaijonkbbkkjaaGreatDoor
open Go GoAbs Go.Proofs
theorem aR0 (t:Tm) (ht:TmW t):Pure Tryz.prog env 169 [.agg t.cells] (two (chk 4096 t.nodes)):=by
 intro h;have hc:=aS4 t ht;have hin:∀ S,InV S (two (chk 4096 t.nodes)):=fun S=>by simp [two,InV,InL]
 cases hn:t.nodes with
 | none =>
  rw [hn] at hc hin;refine en_ Tryz.func169 [.tmp 2,.tmp 3] fun g0 w0 gen b7 hfr c6 m0=>?_
  first|refine wq_ ?_|exact wk_
  all_goals simp [two,chk]
 | some n =>
  rw [hn] at hc hin;refine en_ Tryz.func169 [.tmp 2,.tmp 3] fun g0 w0 gen b7 hfr c6 m0=>?_
  repeat' (first
   |exact hin _|exact agf as_
   | (first|refine wp rfl ?_|refine spt rfl ?_|refine spf rfl ?_|(refine spl (fun hc=>?_) fun hc=>?_)<;>(try rw [beq_iff_eq] at hc)<;>try simp only [hc]|refine cp hc ?_|refine A9 b7 ?_ ?_ ?_)<;>try simp only [go_sem, *])
  all_goals (try simp only [decide_eq_true_eq,decide_eq_false_iff_not] at *)
  all_goals first|(have hcn:¬ 4096<n:=by omega);simp [two,chk,hcn]|(have hcn:4096<n:=by omega);simp [two,chk,hcn]
theorem bn5 (t:Tm) (ht:TmW t):Pure Tryz.prog env 266 [.agg t.cells] (.int .i64 (Z2 t)):=by
 intro h;have hc:=aR0 t ht;unfold two at hc;refine en_ Tryz.func266 [.tmp 2] fun g0 w0 gen b7 hfr c6 m0=>?_
 first|refine wq_ ?_|exact wk_
 all_goals simp [Z2]
end Go.Proofs.YteaijonkbbkkjaaGreatDoor
