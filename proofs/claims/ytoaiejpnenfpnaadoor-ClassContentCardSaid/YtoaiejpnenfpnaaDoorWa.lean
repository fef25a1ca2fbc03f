/-
  Walks: the small functions.
-/
import Derived.Test.YtoaiejpnenfpnaaDoorBase
import Derived.Test.YtoaiejpnenfpnaaDoorAbsB
set_option linter.unusedSimpArgs false
set_option linter.unusedVariables false
set_option maxRecDepth 20000
namespace Go.Proofs.YtoaiejpnenfpnaaDoor
open Go GoAbs Go.Proofs

def env : Nat → Option (List V)
  | 0 => some [.int .i64 0, .int .i64 0, .int .i64 1, .int .i64 2, .int .i64 0, .int .i64 1, .int .i64 3, .int .i64 0, .int .i64 2, .int .i64 3, .int .i64 2, .int .i64 1, .int .i64 1, .int .i64 0]
  | _ => none

theorem c_refNat : Pure Tryd.prog env 32 [] (.agg tNat.cells) := by
  intro h
  refine ret_of_walk Tryd.func32 rfl (by kernel_rfl) follows (by kernel_rfl) ?_
  intro g0 w0 gen hrel hfr
  have hfr' := fresh_of hfr
  have hres : Tryd.f32.results.toList = [.cell 0 29] := rfl
  repeat' (first
    | refine AR_seq ?_ | refine AR_skip ?_ | refine AR_block ?_ | refine AR_block_end ?_ | refine AR_exit ?_ | refine AR_code_exit ?_ | refine AR_inv_exit ?_ | refine AR_block_hit ?_
    | refine AR_block_pass (by decide) ?_ | refine AR_ret ?_ | refine AR_fall ?_
    | (refine AR_region ?_; simp only [go_sem, *, reduceIte, Nat.reduceEqDiff, Nat.reduceAdd, Nat.reduceLeDiff, Nat.reduceMul, Nat.reduceBEq, Nat.reduceLT, Nat.reduceSub, Int.reduceBEq, Int.reduceToNat, Int.reduceLE, Int.reduceEq])
    | refine ⟨by kernel_rfl, ?_⟩ | refine ⟨.inr (by kernel_rfl), ?_⟩ | refine ⟨⟨.inr (by kernel_rfl), by kernel_rfl⟩, ?_⟩ | refine ⟨⟨.inr (by kernel_rfl), by kernel_rfl, by kernel_rfl⟩, ?_⟩ | refine ⟨⟨.inr (by kernel_rfl), by kernel_rfl, by kernel_rfl, by kernel_rfl⟩, ?_⟩ | (refine ⟨?_, ?_⟩; focus ((repeat' (first | (refine And.intro ?_ ?_) | (refine Or.inr ?_))); all_goals kernel_rfl))
    | refine AR_cond_t rfl ?_ | refine AR_cond_f rfl ?_ | (refine AR_cond rfl (fun hc => ?_) (fun hc => ?_) <;> (try rw [beq_iff_eq] at hc) <;> (try simp only [hc]))
    | (refine guarded_split (fun hb => ?_) (fun hb => ?_) <;> (try simp only [Bool.not_true, Bool.not_false] at hb) <;> simp only [go_sem, *, reduceIte, Nat.reduceEqDiff, Nat.reduceAdd, Nat.reduceLeDiff, Nat.reduceMul, Nat.reduceBEq, Nat.reduceLT, Nat.reduceSub, Int.reduceBEq, Int.reduceToNat, Int.reduceLE, Int.reduceEq])
    | (refine AR_fin hrel (by first | exact hin _ | simp only [go_sem, and_self]) (by repeat (first | exact Agree.refl _ | assumption | refine Agree.new ?_ (hgf0 _ _) | refine Agree.new ?_ (hfr' _ _))) ?_; simp only [go_sem, *, reduceIte, Nat.reduceEqDiff, Nat.reduceAdd, Nat.reduceLeDiff, Nat.reduceMul, Nat.reduceBEq, Nat.reduceLT, Nat.reduceSub, Int.reduceBEq, Int.reduceToNat, Int.reduceLE, Int.reduceEq]))
  rfl

theorem c_refList : Pure Tryd.prog env 33 [] (.agg tList.cells) := by
  intro h
  refine ret_of_walk Tryd.func33 rfl (by kernel_rfl) follows (by kernel_rfl) ?_
  intro g0 w0 gen hrel hfr
  have hfr' := fresh_of hfr
  have hres : Tryd.f33.results.toList = [.cell 0 29] := rfl
  repeat' (first
    | refine AR_seq ?_ | refine AR_skip ?_ | refine AR_block ?_ | refine AR_block_end ?_ | refine AR_exit ?_ | refine AR_code_exit ?_ | refine AR_inv_exit ?_ | refine AR_block_hit ?_
    | refine AR_block_pass (by decide) ?_ | refine AR_ret ?_ | refine AR_fall ?_
    | (refine AR_region ?_; simp only [go_sem, *, reduceIte, Nat.reduceEqDiff, Nat.reduceAdd, Nat.reduceLeDiff, Nat.reduceMul, Nat.reduceBEq, Nat.reduceLT, Nat.reduceSub, Int.reduceBEq, Int.reduceToNat, Int.reduceLE, Int.reduceEq])
    | refine ⟨by kernel_rfl, ?_⟩ | refine ⟨.inr (by kernel_rfl), ?_⟩ | refine ⟨⟨.inr (by kernel_rfl), by kernel_rfl⟩, ?_⟩ | refine ⟨⟨.inr (by kernel_rfl), by kernel_rfl, by kernel_rfl⟩, ?_⟩ | refine ⟨⟨.inr (by kernel_rfl), by kernel_rfl, by kernel_rfl, by kernel_rfl⟩, ?_⟩ | (refine ⟨?_, ?_⟩; focus ((repeat' (first | (refine And.intro ?_ ?_) | (refine Or.inr ?_))); all_goals kernel_rfl))
    | refine AR_cond_t rfl ?_ | refine AR_cond_f rfl ?_ | (refine AR_cond rfl (fun hc => ?_) (fun hc => ?_) <;> (try rw [beq_iff_eq] at hc) <;> (try simp only [hc]))
    | (refine guarded_split (fun hb => ?_) (fun hb => ?_) <;> (try simp only [Bool.not_true, Bool.not_false] at hb) <;> simp only [go_sem, *, reduceIte, Nat.reduceEqDiff, Nat.reduceAdd, Nat.reduceLeDiff, Nat.reduceMul, Nat.reduceBEq, Nat.reduceLT, Nat.reduceSub, Int.reduceBEq, Int.reduceToNat, Int.reduceLE, Int.reduceEq])
    | (refine AR_fin hrel (by first | exact hin _ | simp only [go_sem, and_self]) (by repeat (first | exact Agree.refl _ | assumption | refine Agree.new ?_ (hgf0 _ _) | refine Agree.new ?_ (hfr' _ _))) ?_; simp only [go_sem, *, reduceIte, Nat.reduceEqDiff, Nat.reduceAdd, Nat.reduceLeDiff, Nat.reduceMul, Nat.reduceBEq, Nat.reduceLT, Nat.reduceSub, Int.reduceBEq, Int.reduceToNat, Int.reduceLE, Int.reduceEq]))
  rfl

theorem c_refUnit : Pure Tryd.prog env 34 [] (.agg tUnit.cells) := by
  intro h
  refine ret_of_walk Tryd.func34 rfl (by kernel_rfl) follows (by kernel_rfl) ?_
  intro g0 w0 gen hrel hfr
  have hfr' := fresh_of hfr
  have hres : Tryd.f34.results.toList = [.cell 0 29] := rfl
  repeat' (first
    | refine AR_seq ?_ | refine AR_skip ?_ | refine AR_block ?_ | refine AR_block_end ?_ | refine AR_exit ?_ | refine AR_code_exit ?_ | refine AR_inv_exit ?_ | refine AR_block_hit ?_
    | refine AR_block_pass (by decide) ?_ | refine AR_ret ?_ | refine AR_fall ?_
    | (refine AR_region ?_; simp only [go_sem, *, reduceIte, Nat.reduceEqDiff, Nat.reduceAdd, Nat.reduceLeDiff, Nat.reduceMul, Nat.reduceBEq, Nat.reduceLT, Nat.reduceSub, Int.reduceBEq, Int.reduceToNat, Int.reduceLE, Int.reduceEq])
    | refine ⟨by kernel_rfl, ?_⟩ | refine ⟨.inr (by kernel_rfl), ?_⟩ | refine ⟨⟨.inr (by kernel_rfl), by kernel_rfl⟩, ?_⟩ | refine ⟨⟨.inr (by kernel_rfl), by kernel_rfl, by kernel_rfl⟩, ?_⟩ | refine ⟨⟨.inr (by kernel_rfl), by kernel_rfl, by kernel_rfl, by kernel_rfl⟩, ?_⟩ | (refine ⟨?_, ?_⟩; focus ((repeat' (first | (refine And.intro ?_ ?_) | (refine Or.inr ?_))); all_goals kernel_rfl))
    | refine AR_cond_t rfl ?_ | refine AR_cond_f rfl ?_ | (refine AR_cond rfl (fun hc => ?_) (fun hc => ?_) <;> (try rw [beq_iff_eq] at hc) <;> (try simp only [hc]))
    | (refine guarded_split (fun hb => ?_) (fun hb => ?_) <;> (try simp only [Bool.not_true, Bool.not_false] at hb) <;> simp only [go_sem, *, reduceIte, Nat.reduceEqDiff, Nat.reduceAdd, Nat.reduceLeDiff, Nat.reduceMul, Nat.reduceBEq, Nat.reduceLT, Nat.reduceSub, Int.reduceBEq, Int.reduceToNat, Int.reduceLE, Int.reduceEq])
    | (refine AR_fin hrel (by first | exact hin _ | simp only [go_sem, and_self]) (by repeat (first | exact Agree.refl _ | assumption | refine Agree.new ?_ (hgf0 _ _) | refine Agree.new ?_ (hfr' _ _))) ?_; simp only [go_sem, *, reduceIte, Nat.reduceEqDiff, Nat.reduceAdd, Nat.reduceLeDiff, Nat.reduceMul, Nat.reduceBEq, Nat.reduceLT, Nat.reduceSub, Int.reduceBEq, Int.reduceToNat, Int.reduceLE, Int.reduceEq]))
  rfl

theorem c_ref23Unit : Pure Tryd.prog env 27 [] (.agg tUnit.cells) := by
  intro h
  refine ret_of_walk Tryd.func27 rfl (by kernel_rfl) follows (by kernel_rfl) ?_
  intro g0 w0 gen hrel hfr
  have hfr' := fresh_of hfr
  have hres : Tryd.f27.results.toList = [.cell 0 29] := rfl
  repeat' (first
    | refine AR_seq ?_ | refine AR_skip ?_ | refine AR_block ?_ | refine AR_block_end ?_ | refine AR_exit ?_ | refine AR_code_exit ?_ | refine AR_inv_exit ?_ | refine AR_block_hit ?_
    | refine AR_block_pass (by decide) ?_ | refine AR_ret ?_ | refine AR_fall ?_
    | (refine AR_region ?_; simp only [go_sem, *, reduceIte, Nat.reduceEqDiff, Nat.reduceAdd, Nat.reduceLeDiff, Nat.reduceMul, Nat.reduceBEq, Nat.reduceLT, Nat.reduceSub, Int.reduceBEq, Int.reduceToNat, Int.reduceLE, Int.reduceEq])
    | refine ⟨by kernel_rfl, ?_⟩ | refine ⟨.inr (by kernel_rfl), ?_⟩ | refine ⟨⟨.inr (by kernel_rfl), by kernel_rfl⟩, ?_⟩ | refine ⟨⟨.inr (by kernel_rfl), by kernel_rfl, by kernel_rfl⟩, ?_⟩ | refine ⟨⟨.inr (by kernel_rfl), by kernel_rfl, by kernel_rfl, by kernel_rfl⟩, ?_⟩ | (refine ⟨?_, ?_⟩; focus ((repeat' (first | (refine And.intro ?_ ?_) | (refine Or.inr ?_))); all_goals kernel_rfl))
    | refine AR_cond_t rfl ?_ | refine AR_cond_f rfl ?_ | (refine AR_cond rfl (fun hc => ?_) (fun hc => ?_) <;> (try rw [beq_iff_eq] at hc) <;> (try simp only [hc]))
    | (refine guarded_split (fun hb => ?_) (fun hb => ?_) <;> (try simp only [Bool.not_true, Bool.not_false] at hb) <;> simp only [go_sem, *, reduceIte, Nat.reduceEqDiff, Nat.reduceAdd, Nat.reduceLeDiff, Nat.reduceMul, Nat.reduceBEq, Nat.reduceLT, Nat.reduceSub, Int.reduceBEq, Int.reduceToNat, Int.reduceLE, Int.reduceEq])
    | (refine AR_fin hrel (by first | exact hin _ | simp only [go_sem, and_self]) (by repeat (first | exact Agree.refl _ | assumption | refine Agree.new ?_ (hgf0 _ _) | refine Agree.new ?_ (hfr' _ _))) ?_; simp only [go_sem, *, reduceIte, Nat.reduceEqDiff, Nat.reduceAdd, Nat.reduceLeDiff, Nat.reduceMul, Nat.reduceBEq, Nat.reduceLT, Nat.reduceSub, Int.reduceBEq, Int.reduceToNat, Int.reduceLE, Int.reduceEq]))
  rfl

theorem c_ref23Fun (a b : Ty) : Pure Tryd.prog env 28 [.agg a.cells, .agg b.cells] (.agg (tFun a b).cells) := by
  intro h
  refine ret_of_walk Tryd.func28 rfl (by kernel_rfl) follows (by kernel_rfl) ?_
  intro g0 w0 gen hrel hfr
  have hfr' := fresh_of hfr
  have hres : Tryd.f28.results.toList = [.cell 4 29] := rfl
  repeat' (first
    | refine AR_seq ?_ | refine AR_skip ?_ | refine AR_block ?_ | refine AR_block_end ?_ | refine AR_exit ?_ | refine AR_code_exit ?_ | refine AR_inv_exit ?_ | refine AR_block_hit ?_
    | refine AR_block_pass (by decide) ?_ | refine AR_ret ?_ | refine AR_fall ?_
    | (refine AR_region ?_; simp only [go_sem, *, reduceIte, Nat.reduceEqDiff, Nat.reduceAdd, Nat.reduceLeDiff, Nat.reduceMul, Nat.reduceBEq, Nat.reduceLT, Nat.reduceSub, Int.reduceBEq, Int.reduceToNat, Int.reduceLE, Int.reduceEq])
    | refine ⟨by kernel_rfl, ?_⟩ | refine ⟨.inr (by kernel_rfl), ?_⟩ | refine ⟨⟨.inr (by kernel_rfl), by kernel_rfl⟩, ?_⟩ | refine ⟨⟨.inr (by kernel_rfl), by kernel_rfl, by kernel_rfl⟩, ?_⟩ | refine ⟨⟨.inr (by kernel_rfl), by kernel_rfl, by kernel_rfl, by kernel_rfl⟩, ?_⟩ | (refine ⟨?_, ?_⟩; focus ((repeat' (first | (refine And.intro ?_ ?_) | (refine Or.inr ?_))); all_goals kernel_rfl))
    | refine AR_cond_t rfl ?_ | refine AR_cond_f rfl ?_ | (refine AR_cond rfl (fun hc => ?_) (fun hc => ?_) <;> (try rw [beq_iff_eq] at hc) <;> (try simp only [hc]))
    | (refine guarded_split (fun hb => ?_) (fun hb => ?_) <;> (try simp only [Bool.not_true, Bool.not_false] at hb) <;> simp only [go_sem, *, reduceIte, Nat.reduceEqDiff, Nat.reduceAdd, Nat.reduceLeDiff, Nat.reduceMul, Nat.reduceBEq, Nat.reduceLT, Nat.reduceSub, Int.reduceBEq, Int.reduceToNat, Int.reduceLE, Int.reduceEq])
    | (refine AR_fin hrel (by first | exact hin _ | simp only [go_sem, and_self]) (by repeat (first | exact Agree.refl _ | assumption | refine Agree.new ?_ (hgf0 _ _) | refine Agree.new ?_ (hfr' _ _))) ?_; simp only [go_sem, *, reduceIte, Nat.reduceEqDiff, Nat.reduceAdd, Nat.reduceLeDiff, Nat.reduceMul, Nat.reduceBEq, Nat.reduceLT, Nat.reduceSub, Int.reduceBEq, Int.reduceToNat, Int.reduceLE, Int.reduceEq]))
  all_goals simp [tFun, Ty.mk_cells]

theorem c_chNone : Pure Tryd.prog env 60 [] (.agg tUnit.cells) := by
  intro h
  refine ret_of_walk Tryd.func60 rfl (by kernel_rfl) follows (by kernel_rfl) ?_
  intro g0 w0 gen hrel hfr
  have hfr' := fresh_of hfr
  have hres : Tryd.f60.results.toList = [.cell 0 29] := rfl
  repeat' (first
    | refine AR_seq ?_ | refine AR_skip ?_ | refine AR_block ?_ | refine AR_block_end ?_ | refine AR_exit ?_ | refine AR_code_exit ?_ | refine AR_inv_exit ?_ | refine AR_block_hit ?_
    | refine AR_block_pass (by decide) ?_ | refine AR_ret ?_ | refine AR_fall ?_
    | (refine AR_region ?_; simp only [go_sem, *, reduceIte, Nat.reduceEqDiff, Nat.reduceAdd, Nat.reduceLeDiff, Nat.reduceMul, Nat.reduceBEq, Nat.reduceLT, Nat.reduceSub, Int.reduceBEq, Int.reduceToNat, Int.reduceLE, Int.reduceEq])
    | refine ⟨by kernel_rfl, ?_⟩ | refine ⟨.inr (by kernel_rfl), ?_⟩ | refine ⟨⟨.inr (by kernel_rfl), by kernel_rfl⟩, ?_⟩ | refine ⟨⟨.inr (by kernel_rfl), by kernel_rfl, by kernel_rfl⟩, ?_⟩ | refine ⟨⟨.inr (by kernel_rfl), by kernel_rfl, by kernel_rfl, by kernel_rfl⟩, ?_⟩ | (refine ⟨?_, ?_⟩; focus ((repeat' (first | (refine And.intro ?_ ?_) | (refine Or.inr ?_))); all_goals kernel_rfl))
    | refine AR_cond_t rfl ?_ | refine AR_cond_f rfl ?_ | (refine AR_cond rfl (fun hc => ?_) (fun hc => ?_) <;> (try rw [beq_iff_eq] at hc) <;> (try simp only [hc]))
    | (refine guarded_split (fun hb => ?_) (fun hb => ?_) <;> (try simp only [Bool.not_true, Bool.not_false] at hb) <;> simp only [go_sem, *, reduceIte, Nat.reduceEqDiff, Nat.reduceAdd, Nat.reduceLeDiff, Nat.reduceMul, Nat.reduceBEq, Nat.reduceLT, Nat.reduceSub, Int.reduceBEq, Int.reduceToNat, Int.reduceLE, Int.reduceEq])
    | (refine AR_fin hrel (by first | exact hin _ | simp only [go_sem, and_self]) (by repeat (first | exact Agree.refl _ | assumption | refine Agree.new ?_ (hgf0 _ _) | refine Agree.new ?_ (hfr' _ _))) ?_; simp only [go_sem, *, reduceIte, Nat.reduceEqDiff, Nat.reduceAdd, Nat.reduceLeDiff, Nat.reduceMul, Nat.reduceBEq, Nat.reduceLT, Nat.reduceSub, Int.reduceBEq, Int.reduceToNat, Int.reduceLE, Int.reduceEq]))
  rfl

theorem c_chUnit (t : Ty) : Pure Tryd.prog env 46 [.agg t.cells] (.bool (t.kind == 5)) := by
  intro h
  refine ret_of_walk Tryd.func46 rfl (by kernel_rfl) follows (by kernel_rfl) ?_
  intro g0 w0 gen hrel hfr
  have hfr' := fresh_of hfr
  have hres : Tryd.f46.results.toList = [.tmp 2] := rfl
  repeat' (first
    | refine AR_seq ?_ | refine AR_skip ?_ | refine AR_block ?_ | refine AR_block_end ?_ | refine AR_exit ?_ | refine AR_code_exit ?_ | refine AR_inv_exit ?_ | refine AR_block_hit ?_
    | refine AR_block_pass (by decide) ?_ | refine AR_ret ?_ | refine AR_fall ?_
    | (refine AR_region ?_; simp only [go_sem, *, reduceIte, Nat.reduceEqDiff, Nat.reduceAdd, Nat.reduceLeDiff, Nat.reduceMul, Nat.reduceBEq, Nat.reduceLT, Nat.reduceSub, Int.reduceBEq, Int.reduceToNat, Int.reduceLE, Int.reduceEq])
    | refine ⟨by kernel_rfl, ?_⟩ | refine ⟨.inr (by kernel_rfl), ?_⟩ | refine ⟨⟨.inr (by kernel_rfl), by kernel_rfl⟩, ?_⟩ | refine ⟨⟨.inr (by kernel_rfl), by kernel_rfl, by kernel_rfl⟩, ?_⟩ | refine ⟨⟨.inr (by kernel_rfl), by kernel_rfl, by kernel_rfl, by kernel_rfl⟩, ?_⟩ | (refine ⟨?_, ?_⟩; focus ((repeat' (first | (refine And.intro ?_ ?_) | (refine Or.inr ?_))); all_goals kernel_rfl))
    | refine AR_cond_t rfl ?_ | refine AR_cond_f rfl ?_ | (refine AR_cond rfl (fun hc => ?_) (fun hc => ?_) <;> (try rw [beq_iff_eq] at hc) <;> (try simp only [hc]))
    | (refine guarded_split (fun hb => ?_) (fun hb => ?_) <;> (try simp only [Bool.not_true, Bool.not_false] at hb) <;> simp only [go_sem, *, reduceIte, Nat.reduceEqDiff, Nat.reduceAdd, Nat.reduceLeDiff, Nat.reduceMul, Nat.reduceBEq, Nat.reduceLT, Nat.reduceSub, Int.reduceBEq, Int.reduceToNat, Int.reduceLE, Int.reduceEq])
    | (refine AR_fin hrel (by first | exact hin _ | simp only [go_sem, and_self]) (by repeat (first | exact Agree.refl _ | assumption | refine Agree.new ?_ (hgf0 _ _) | refine Agree.new ?_ (hfr' _ _))) ?_; simp only [go_sem, *, reduceIte, Nat.reduceEqDiff, Nat.reduceAdd, Nat.reduceLeDiff, Nat.reduceMul, Nat.reduceBEq, Nat.reduceLT, Nat.reduceSub, Int.reduceBEq, Int.reduceToNat, Int.reduceLE, Int.reduceEq]))

theorem c_chPair (a b : Ty) : Pure Tryd.prog env 13 [.agg a.cells, .agg b.cells] (.agg (chPair a b).cells) := by
  intro h
  refine ret_of_walk Tryd.func13 rfl (by kernel_rfl) follows (by kernel_rfl) ?_
  intro g0 w0 gen hrel hfr
  have hfr' := fresh_of hfr
  have hres : Tryd.f13.results.toList = [.cell 4 29] := rfl
  repeat' (first
    | refine AR_seq ?_ | refine AR_skip ?_ | refine AR_block ?_ | refine AR_block_end ?_ | refine AR_exit ?_ | refine AR_code_exit ?_ | refine AR_inv_exit ?_ | refine AR_block_hit ?_
    | refine AR_block_pass (by decide) ?_ | refine AR_ret ?_ | refine AR_fall ?_
    | (refine AR_region ?_; simp only [go_sem, *, reduceIte, Nat.reduceEqDiff, Nat.reduceAdd, Nat.reduceLeDiff, Nat.reduceMul, Nat.reduceBEq, Nat.reduceLT, Nat.reduceSub, Int.reduceBEq, Int.reduceToNat, Int.reduceLE, Int.reduceEq])
    | refine ⟨by kernel_rfl, ?_⟩ | refine ⟨.inr (by kernel_rfl), ?_⟩ | refine ⟨⟨.inr (by kernel_rfl), by kernel_rfl⟩, ?_⟩ | refine ⟨⟨.inr (by kernel_rfl), by kernel_rfl, by kernel_rfl⟩, ?_⟩ | refine ⟨⟨.inr (by kernel_rfl), by kernel_rfl, by kernel_rfl, by kernel_rfl⟩, ?_⟩ | (refine ⟨?_, ?_⟩; focus ((repeat' (first | (refine And.intro ?_ ?_) | (refine Or.inr ?_))); all_goals kernel_rfl))
    | refine AR_cond_t rfl ?_ | refine AR_cond_f rfl ?_ | (refine AR_cond rfl (fun hc => ?_) (fun hc => ?_) <;> (try rw [beq_iff_eq] at hc) <;> (try simp only [hc]))
    | (refine guarded_split (fun hb => ?_) (fun hb => ?_) <;> (try simp only [Bool.not_true, Bool.not_false] at hb) <;> simp only [go_sem, *, reduceIte, Nat.reduceEqDiff, Nat.reduceAdd, Nat.reduceLeDiff, Nat.reduceMul, Nat.reduceBEq, Nat.reduceLT, Nat.reduceSub, Int.reduceBEq, Int.reduceToNat, Int.reduceLE, Int.reduceEq])
    | (refine Call1_pure (c_chUnit _) ?_; simp only [go_sem, *, reduceIte, Nat.reduceEqDiff, Nat.reduceAdd, Nat.reduceLeDiff, Nat.reduceMul, Nat.reduceBEq, Nat.reduceLT, Nat.reduceSub, Int.reduceBEq, Int.reduceToNat, Int.reduceLE, Int.reduceEq])
    | (refine AR_fin hrel (by first | exact hin _ | simp only [go_sem, and_self]) (by repeat (first | exact Agree.refl _ | assumption | refine Agree.new ?_ (hgf0 _ _) | refine Agree.new ?_ (hfr' _ _))) ?_; simp only [go_sem, *, reduceIte, Nat.reduceEqDiff, Nat.reduceAdd, Nat.reduceLeDiff, Nat.reduceMul, Nat.reduceBEq, Nat.reduceLT, Nat.reduceSub, Int.reduceBEq, Int.reduceToNat, Int.reduceLE, Int.reduceEq]))
  all_goals simp [chPair, tPair, Ty.mk_cells, *]

theorem c_chFun (a b : Ty) : Pure Tryd.prog env 30 [.agg a.cells, .agg b.cells] (.agg (chFun a b).cells) := by
  intro h
  refine ret_of_walk Tryd.func30 rfl (by kernel_rfl) follows (by kernel_rfl) ?_
  intro g0 w0 gen hrel hfr
  have hfr' := fresh_of hfr
  have hres : Tryd.f30.results.toList = [.cell 4 29] := rfl
  repeat' (first
    | refine AR_seq ?_ | refine AR_skip ?_ | refine AR_block ?_ | refine AR_block_end ?_ | refine AR_exit ?_ | refine AR_code_exit ?_ | refine AR_inv_exit ?_ | refine AR_block_hit ?_
    | refine AR_block_pass (by decide) ?_ | refine AR_ret ?_ | refine AR_fall ?_
    | (refine AR_region ?_; simp only [go_sem, *, reduceIte, Nat.reduceEqDiff, Nat.reduceAdd, Nat.reduceLeDiff, Nat.reduceMul, Nat.reduceBEq, Nat.reduceLT, Nat.reduceSub, Int.reduceBEq, Int.reduceToNat, Int.reduceLE, Int.reduceEq])
    | refine ⟨by kernel_rfl, ?_⟩ | refine ⟨.inr (by kernel_rfl), ?_⟩ | refine ⟨⟨.inr (by kernel_rfl), by kernel_rfl⟩, ?_⟩ | refine ⟨⟨.inr (by kernel_rfl), by kernel_rfl, by kernel_rfl⟩, ?_⟩ | refine ⟨⟨.inr (by kernel_rfl), by kernel_rfl, by kernel_rfl, by kernel_rfl⟩, ?_⟩ | (refine ⟨?_, ?_⟩; focus ((repeat' (first | (refine And.intro ?_ ?_) | (refine Or.inr ?_))); all_goals kernel_rfl))
    | refine AR_cond_t rfl ?_ | refine AR_cond_f rfl ?_ | (refine AR_cond rfl (fun hc => ?_) (fun hc => ?_) <;> (try rw [beq_iff_eq] at hc) <;> (try simp only [hc]))
    | (refine guarded_split (fun hb => ?_) (fun hb => ?_) <;> (try simp only [Bool.not_true, Bool.not_false] at hb) <;> simp only [go_sem, *, reduceIte, Nat.reduceEqDiff, Nat.reduceAdd, Nat.reduceLeDiff, Nat.reduceMul, Nat.reduceBEq, Nat.reduceLT, Nat.reduceSub, Int.reduceBEq, Int.reduceToNat, Int.reduceLE, Int.reduceEq])
    | (refine Call1_pure (c_chUnit _) ?_; simp only [go_sem, *, reduceIte, Nat.reduceEqDiff, Nat.reduceAdd, Nat.reduceLeDiff, Nat.reduceMul, Nat.reduceBEq, Nat.reduceLT, Nat.reduceSub, Int.reduceBEq, Int.reduceToNat, Int.reduceLE, Int.reduceEq])
    | (refine Call1_pure (c_chNone) ?_; simp only [go_sem, *, reduceIte, Nat.reduceEqDiff, Nat.reduceAdd, Nat.reduceLeDiff, Nat.reduceMul, Nat.reduceBEq, Nat.reduceLT, Nat.reduceSub, Int.reduceBEq, Int.reduceToNat, Int.reduceLE, Int.reduceEq])
    | (refine AR_fin hrel (by first | exact hin _ | simp only [go_sem, and_self]) (by repeat (first | exact Agree.refl _ | assumption | refine Agree.new ?_ (hgf0 _ _) | refine Agree.new ?_ (hfr' _ _))) ?_; simp only [go_sem, *, reduceIte, Nat.reduceEqDiff, Nat.reduceAdd, Nat.reduceLeDiff, Nat.reduceMul, Nat.reduceBEq, Nat.reduceLT, Nat.reduceSub, Int.reduceBEq, Int.reduceToNat, Int.reduceLE, Int.reduceEq]))
  all_goals simp [chFun, tFun, Ty.mk_cells, *]

theorem c_chNode (k : Int) (l : List Tm) : Pure Tryd.prog env 47 [.int .i64 k, .sl .any (l.map Tm.cells)] (.agg (tm0 k l).cells) := by
  intro h
  refine ret_of_walk Tryd.func47 rfl (by kernel_rfl) follows (by kernel_rfl) ?_
  intro g0 w0 gen hrel hfr
  have hfr' := fresh_of hfr
  have hres : Tryd.f47.results.toList = [.cell 4 33] := rfl
  repeat' (first
    | refine AR_seq ?_ | refine AR_skip ?_ | refine AR_block ?_ | refine AR_block_end ?_ | refine AR_exit ?_ | refine AR_code_exit ?_ | refine AR_inv_exit ?_ | refine AR_block_hit ?_
    | refine AR_block_pass (by decide) ?_ | refine AR_ret ?_ | refine AR_fall ?_
    | (refine AR_region ?_; simp only [go_sem, *, reduceIte, Nat.reduceEqDiff, Nat.reduceAdd, Nat.reduceLeDiff, Nat.reduceMul, Nat.reduceBEq, Nat.reduceLT, Nat.reduceSub, Int.reduceBEq, Int.reduceToNat, Int.reduceLE, Int.reduceEq])
    | refine ⟨by kernel_rfl, ?_⟩ | refine ⟨.inr (by kernel_rfl), ?_⟩ | refine ⟨⟨.inr (by kernel_rfl), by kernel_rfl⟩, ?_⟩ | refine ⟨⟨.inr (by kernel_rfl), by kernel_rfl, by kernel_rfl⟩, ?_⟩ | refine ⟨⟨.inr (by kernel_rfl), by kernel_rfl, by kernel_rfl, by kernel_rfl⟩, ?_⟩ | (refine ⟨?_, ?_⟩; focus ((repeat' (first | (refine And.intro ?_ ?_) | (refine Or.inr ?_))); all_goals kernel_rfl))
    | refine AR_cond_t rfl ?_ | refine AR_cond_f rfl ?_ | (refine AR_cond rfl (fun hc => ?_) (fun hc => ?_) <;> (try rw [beq_iff_eq] at hc) <;> (try simp only [hc]))
    | (refine guarded_split (fun hb => ?_) (fun hb => ?_) <;> (try simp only [Bool.not_true, Bool.not_false] at hb) <;> simp only [go_sem, *, reduceIte, Nat.reduceEqDiff, Nat.reduceAdd, Nat.reduceLeDiff, Nat.reduceMul, Nat.reduceBEq, Nat.reduceLT, Nat.reduceSub, Int.reduceBEq, Int.reduceToNat, Int.reduceLE, Int.reduceEq])
    | (refine AR_fin hrel (by first | exact hin _ | simp only [go_sem, and_self]) (by repeat (first | exact Agree.refl _ | assumption | refine Agree.new ?_ (hgf0 _ _) | refine Agree.new ?_ (hfr' _ _))) ?_; simp only [go_sem, *, reduceIte, Nat.reduceEqDiff, Nat.reduceAdd, Nat.reduceLeDiff, Nat.reduceMul, Nat.reduceBEq, Nat.reduceLT, Nat.reduceSub, Int.reduceBEq, Int.reduceToNat, Int.reduceLE, Int.reduceEq]))
  all_goals simp [tm0, Tm.mk_cells, Ty.mk_kind, Ty.mk_args]

end Go.Proofs.YtoaiejpnenfpnaaDoor
