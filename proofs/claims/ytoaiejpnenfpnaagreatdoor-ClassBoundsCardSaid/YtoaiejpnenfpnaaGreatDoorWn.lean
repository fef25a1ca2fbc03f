/-
  Walks: makers of the deck.
-/
import Derived.Test.YtoaiejpnenfpnaaGreatDoorWm
set_option linter.unusedSimpArgs false
set_option linter.unusedVariables false
set_option maxRecDepth 20000
namespace Go.Proofs.YtoaiejpnenfpnaaGreatDoor
open Go GoAbs Go.Proofs

theorem c_longer (g l : List Ty) (hg : g.length ≤ 1000) (hl : l.length ≤ 1000) :
    Pure Tryz.prog env 76 [.sl .any (g.map Ty.cells), .sl .any (l.map Ty.cells)] (.sl .any ((g ++ l).map Ty.cells)) := by
  intro h
  have b1 : g.length * 32 ≤ 140737488355328 := by omega
  have b2 : g.length ≤ 140737488355328 := by omega
  have b3 : (g.length + l.length) * 32 ≤ 140737488355328 := by omega
  have b4 : g.length + l.length ≤ 140737488355328 := by omega
  have z : 0 + g.length = g.length := by omega
  refine ret_of_walk Tryz.func76 rfl (by kernel_rfl) follows (by kernel_rfl) ?_
  intro g0 w0 gen hrel hfr
  have hfr' := fresh_of hfr
  have hres : Tryz.f76.results.toList = [.tmp 4] := rfl
  repeat' (first
    | refine AR_seq ?_ | refine AR_skip ?_ | refine AR_block ?_ | refine AR_block_end ?_ | refine AR_exit ?_ | refine AR_code_exit ?_ | refine AR_inv_exit ?_ | refine AR_block_hit ?_
    | refine AR_block_pass (by decide) ?_ | refine AR_ret ?_ | refine AR_fall ?_
    | (refine ⟨?_, ?_⟩; focus ((repeat' (first | (refine And.intro ?_ ?_) | (refine Or.inr ?_))); all_goals kernel_rfl))
    | refine AR_cond_t rfl ?_ | refine AR_cond_f rfl ?_ | (refine AR_cond rfl (fun hc => ?_) (fun hc => ?_) <;> (try rw [beq_iff_eq] at hc) <;> (try simp only [hc]))
    | ((first | refine AR_region ?_ | (refine guarded_split (fun hb => ?_) (fun hb => ?_) <;> (try simp only [Bool.not_true, Bool.not_false] at hb)) | refine AR_fin hrel (by first | exact hin _ | simp only [go_sem, and_self]) (by repeat (first | exact Agree.refl _ | assumption | refine Agree.new ?_ (hgf0 _ _) | refine Agree.new ?_ (hfr' _ _))) ?_) <;> simp only [go_sem, *, reduceIte, Nat.reduceEqDiff, Nat.reduceAdd, Nat.reduceLeDiff, Nat.reduceMul, Nat.reduceBEq, Nat.reduceLT, Nat.reduceSub, Int.reduceBEq, Int.reduceToNat, Int.reduceLE, Int.reduceEq]))
  all_goals (rw [← List.map_append, weakLL_Ty])
end Go.Proofs.YtoaiejpnenfpnaaGreatDoor
