/-
  Walks: makers of the deck.
-/
import Derived.Test.YtdbehnonmffhiaaGreatDoorWm
set_option linter.unusedSimpArgs false
set_option linter.unusedVariables false
set_option maxRecDepth 20000
namespace Go.Proofs.YtdbehnonmffhiaaGreatDoor
open Go GoAbs Go.Proofs

theorem c_longer (g l : List Ty) (hg : g.length ≤ 1000) (hl : l.length ≤ 1000) :
    Pure Tryz.prog env 26 [.sl .any (g.map Ty.cells), .sl .any (l.map Ty.cells)] (.sl .any ((g ++ l).map Ty.cells)) := by
  intro h
  have b1 : g.length * 32 ≤ 140737488355328 := by omega
  have b2 : g.length ≤ 140737488355328 := by omega
  have b3 : (g.length + l.length) * 32 ≤ 140737488355328 := by omega
  have b4 : g.length + l.length ≤ 140737488355328 := by omega
  have z : 0 + g.length = g.length := by omega
  refine enter Tryz.func26 [.tmp 4] rfl (by kernel_rfl) follows (by kernel_rfl) rfl fun g0 w0 gen hrel hfr hfr' hres => ?_
  repeat' (first
    | exact hin _ | exact agf (by assumption)
    | (first | refine wp rfl ?_ | refine finF hrel ?_ ?_ ?_) <;> try simp only [go_sem, *])
  all_goals (rw [← List.map_append, weakLL_Ty])
end Go.Proofs.YtdbehnonmffhiaaGreatDoor
