/-
  Walks: makers without loops.
-/
import Derived.Test.YtoaiejpnenfpnaaGreatDoorWc
set_option linter.unusedSimpArgs false
set_option linter.unusedVariables false
set_option maxRecDepth 20000
namespace Go.Proofs.YtoaiejpnenfpnaaGreatDoor
open Go GoAbs Go.Proofs

theorem c_Var (i : Int) : Pure Tryz.prog env 71 [.int .i64 i] (.agg (tmVar i).cells) := by
  intro h
  refine ret_of_walk Tryz.func71 rfl (by kernel_rfl) follows (by kernel_rfl) ?_
  intro g0 w0 gen hrel hfr
  have hfr' := fresh_of hfr
  have hres : Tryz.f71.results.toList = [.cell 2 51] := rfl
  repeat' (first
    | refine AR_seq ?_ | refine AR_skip ?_ | refine AR_block ?_ | refine AR_block_end ?_ | refine AR_exit ?_ | refine AR_code_exit ?_ | refine AR_inv_exit ?_ | refine AR_block_hit ?_
    | refine AR_block_pass (by decide) ?_ | refine AR_ret ?_ | refine AR_fall ?_
    | (refine ⟨?_, ?_⟩; focus ((repeat' (first | (refine And.intro ?_ ?_) | (refine Or.inr ?_))); all_goals kernel_rfl))
    | refine AR_cond_t rfl ?_ | refine AR_cond_f rfl ?_ | (refine AR_cond rfl (fun hc => ?_) (fun hc => ?_) <;> (try rw [beq_iff_eq] at hc) <;> (try simp only [hc]))
    | ((first | refine AR_region ?_ | (refine guarded_split (fun hb => ?_) (fun hb => ?_) <;> (try simp only [Bool.not_true, Bool.not_false] at hb)) | refine AR_fin hrel (by first | exact hin _ | simp only [go_sem, and_self]) (by repeat (first | exact Agree.refl _ | assumption | refine Agree.new ?_ (hgf0 _ _) | refine Agree.new ?_ (hfr' _ _))) ?_) <;> simp only [go_sem, *, reduceIte, Nat.reduceEqDiff, Nat.reduceAdd, Nat.reduceLeDiff, Nat.reduceMul, Nat.reduceBEq, Nat.reduceLT, Nat.reduceSub, Int.reduceBEq, Int.reduceToNat, Int.reduceLE, Int.reduceEq]))
  all_goals simp [tmVar, Tm.mk_cells, Ty.mk_kind, Ty.mk_args]

theorem c_Eq (a b : Tm) (ha : TmW a) (hb : TmW b) : Pure Tryz.prog env 70 [.agg a.cells, .agg b.cells] (.agg (fmEq a b).cells) := by
  intro h
  refine ret_of_walk Tryz.func70 rfl (by kernel_rfl) follows (by kernel_rfl) ?_
  intro g0 w0 gen hrel hfr
  have hfr' := fresh_of hfr
  have hres : Tryz.f70.results.toList = [.cell 4 35] := rfl
  repeat' (first
    | refine AR_seq ?_ | refine AR_skip ?_ | refine AR_block ?_ | refine AR_block_end ?_ | refine AR_exit ?_ | refine AR_code_exit ?_ | refine AR_inv_exit ?_ | refine AR_block_hit ?_
    | refine AR_block_pass (by decide) ?_ | refine AR_ret ?_ | refine AR_fall ?_
    | (refine ⟨?_, ?_⟩; focus ((repeat' (first | (refine And.intro ?_ ?_) | (refine Or.inr ?_))); all_goals kernel_rfl))
    | refine AR_cond_t rfl ?_ | refine AR_cond_f rfl ?_ | (refine AR_cond rfl (fun hc => ?_) (fun hc => ?_) <;> (try rw [beq_iff_eq] at hc) <;> (try simp only [hc]))
    | ((first | refine AR_region ?_ | (refine guarded_split (fun hb => ?_) (fun hb => ?_) <;> (try simp only [Bool.not_true, Bool.not_false] at hb)) | refine Call1_pure (c_tmCopy _ ha) ?_ | refine Call1_pure (c_tmCopy _ hb) ?_ | refine AR_fin hrel (by first | exact hin _ | simp only [go_sem, and_self]) (by repeat (first | exact Agree.refl _ | assumption | refine Agree.new ?_ (hgf0 _ _) | refine Agree.new ?_ (hfr' _ _))) ?_) <;> simp only [go_sem, *, reduceIte, Nat.reduceEqDiff, Nat.reduceAdd, Nat.reduceLeDiff, Nat.reduceMul, Nat.reduceBEq, Nat.reduceLT, Nat.reduceSub, Int.reduceBEq, Int.reduceToNat, Int.reduceLE, Int.reduceEq]))
  all_goals simp [fmEq, Fm.mk_cells, Ty.mk_kind, Ty.mk_args]

theorem c_fmTwo (k : Int) (a b : Fm) (ha : FmW a) (hb : FmW b) : Pure Tryz.prog env 24 [.int .i64 k, .agg a.cells, .agg b.cells] (.agg (fmTwo k a b).cells) := by
  intro h
  refine ret_of_walk Tryz.func24 rfl (by kernel_rfl) follows (by kernel_rfl) ?_
  intro g0 w0 gen hrel hfr
  have hfr' := fresh_of hfr
  have hres : Tryz.f24.results.toList = [.cell 6 35] := rfl
  repeat' (first
    | refine AR_seq ?_ | refine AR_skip ?_ | refine AR_block ?_ | refine AR_block_end ?_ | refine AR_exit ?_ | refine AR_code_exit ?_ | refine AR_inv_exit ?_ | refine AR_block_hit ?_
    | refine AR_block_pass (by decide) ?_ | refine AR_ret ?_ | refine AR_fall ?_
    | (refine ⟨?_, ?_⟩; focus ((repeat' (first | (refine And.intro ?_ ?_) | (refine Or.inr ?_))); all_goals kernel_rfl))
    | refine AR_cond_t rfl ?_ | refine AR_cond_f rfl ?_ | (refine AR_cond rfl (fun hc => ?_) (fun hc => ?_) <;> (try rw [beq_iff_eq] at hc) <;> (try simp only [hc]))
    | ((first | refine AR_region ?_ | (refine guarded_split (fun hb => ?_) (fun hb => ?_) <;> (try simp only [Bool.not_true, Bool.not_false] at hb)) | refine Call1_pure (c_fmCopy _ ha) ?_ | refine Call1_pure (c_fmCopy _ hb) ?_ | refine AR_fin hrel (by first | exact hin _ | simp only [go_sem, and_self]) (by repeat (first | exact Agree.refl _ | assumption | refine Agree.new ?_ (hgf0 _ _) | refine Agree.new ?_ (hfr' _ _))) ?_) <;> simp only [go_sem, *, reduceIte, Nat.reduceEqDiff, Nat.reduceAdd, Nat.reduceLeDiff, Nat.reduceMul, Nat.reduceBEq, Nat.reduceLT, Nat.reduceSub, Int.reduceBEq, Int.reduceToNat, Int.reduceLE, Int.reduceEq]))
  all_goals simp [fmTwo, Fm.mk_cells, Ty.mk_kind, Ty.mk_args]

theorem c_fmQ (k : Int) (t : Ty) (a : Fm) (ht : TyW t) (ha : FmW a) : Pure Tryz.prog env 18 [.int .i64 k, .agg t.cells, .agg a.cells] (.agg (fmQ k t a).cells) := by
  intro h
  refine ret_of_walk Tryz.func18 rfl (by kernel_rfl) follows (by kernel_rfl) ?_
  intro g0 w0 gen hrel hfr
  have hfr' := fresh_of hfr
  have hres : Tryz.f18.results.toList = [.cell 6 35] := rfl
  repeat' (first
    | refine AR_seq ?_ | refine AR_skip ?_ | refine AR_block ?_ | refine AR_block_end ?_ | refine AR_exit ?_ | refine AR_code_exit ?_ | refine AR_inv_exit ?_ | refine AR_block_hit ?_
    | refine AR_block_pass (by decide) ?_ | refine AR_ret ?_ | refine AR_fall ?_
    | (refine ⟨?_, ?_⟩; focus ((repeat' (first | (refine And.intro ?_ ?_) | (refine Or.inr ?_))); all_goals kernel_rfl))
    | refine AR_cond_t rfl ?_ | refine AR_cond_f rfl ?_ | (refine AR_cond rfl (fun hc => ?_) (fun hc => ?_) <;> (try rw [beq_iff_eq] at hc) <;> (try simp only [hc]))
    | ((first | refine AR_region ?_ | (refine guarded_split (fun hb => ?_) (fun hb => ?_) <;> (try simp only [Bool.not_true, Bool.not_false] at hb)) | refine Call1_pure (c_fmCopy _ ha) ?_ | refine Call1_pure (c_refCopy _ ht) ?_ | refine AR_fin hrel (by first | exact hin _ | simp only [go_sem, and_self]) (by repeat (first | exact Agree.refl _ | assumption | refine Agree.new ?_ (hgf0 _ _) | refine Agree.new ?_ (hfr' _ _))) ?_) <;> simp only [go_sem, *, reduceIte, Nat.reduceEqDiff, Nat.reduceAdd, Nat.reduceLeDiff, Nat.reduceMul, Nat.reduceBEq, Nat.reduceLT, Nat.reduceSub, Int.reduceBEq, Int.reduceToNat, Int.reduceLE, Int.reduceEq]))
  all_goals simp [fmQ, Fm.mk_cells, Ty.mk_kind, Ty.mk_args]

theorem c_refTwo (a b : Ty) (ha : TyW a) (hb : TyW b) : Pure Tryz.prog env 74 [.agg a.cells, .agg b.cells] (.agg (tPair a b).cells) := by
  intro h
  refine ret_of_walk Tryz.func74 rfl (by kernel_rfl) follows (by kernel_rfl) ?_
  intro g0 w0 gen hrel hfr
  have hfr' := fresh_of hfr
  have hres : Tryz.f74.results.toList = [.cell 4 30] := rfl
  repeat' (first
    | refine AR_seq ?_ | refine AR_skip ?_ | refine AR_block ?_ | refine AR_block_end ?_ | refine AR_exit ?_ | refine AR_code_exit ?_ | refine AR_inv_exit ?_ | refine AR_block_hit ?_
    | refine AR_block_pass (by decide) ?_ | refine AR_ret ?_ | refine AR_fall ?_
    | (refine ⟨?_, ?_⟩; focus ((repeat' (first | (refine And.intro ?_ ?_) | (refine Or.inr ?_))); all_goals kernel_rfl))
    | refine AR_cond_t rfl ?_ | refine AR_cond_f rfl ?_ | (refine AR_cond rfl (fun hc => ?_) (fun hc => ?_) <;> (try rw [beq_iff_eq] at hc) <;> (try simp only [hc]))
    | ((first | refine AR_region ?_ | (refine guarded_split (fun hb => ?_) (fun hb => ?_) <;> (try simp only [Bool.not_true, Bool.not_false] at hb)) | refine Call1_pure (c_refCopy _ ha) ?_ | refine Call1_pure (c_refCopy _ hb) ?_ | refine AR_fin hrel (by first | exact hin _ | simp only [go_sem, and_self]) (by repeat (first | exact Agree.refl _ | assumption | refine Agree.new ?_ (hgf0 _ _) | refine Agree.new ?_ (hfr' _ _))) ?_) <;> simp only [go_sem, *, reduceIte, Nat.reduceEqDiff, Nat.reduceAdd, Nat.reduceLeDiff, Nat.reduceMul, Nat.reduceBEq, Nat.reduceLT, Nat.reduceSub, Int.reduceBEq, Int.reduceToNat, Int.reduceLE, Int.reduceEq]))
  all_goals simp [tPair, Ty.mk_cells]

theorem c_refFun (a b : Ty) (ha : TyW a) (hb : TyW b) : Pure Tryz.prog env 75 [.agg a.cells, .agg b.cells] (.agg (tFun a b).cells) := by
  intro h
  refine ret_of_walk Tryz.func75 rfl (by kernel_rfl) follows (by kernel_rfl) ?_
  intro g0 w0 gen hrel hfr
  have hfr' := fresh_of hfr
  have hres : Tryz.f75.results.toList = [.cell 4 30] := rfl
  repeat' (first
    | refine AR_seq ?_ | refine AR_skip ?_ | refine AR_block ?_ | refine AR_block_end ?_ | refine AR_exit ?_ | refine AR_code_exit ?_ | refine AR_inv_exit ?_ | refine AR_block_hit ?_
    | refine AR_block_pass (by decide) ?_ | refine AR_ret ?_ | refine AR_fall ?_
    | (refine ⟨?_, ?_⟩; focus ((repeat' (first | (refine And.intro ?_ ?_) | (refine Or.inr ?_))); all_goals kernel_rfl))
    | refine AR_cond_t rfl ?_ | refine AR_cond_f rfl ?_ | (refine AR_cond rfl (fun hc => ?_) (fun hc => ?_) <;> (try rw [beq_iff_eq] at hc) <;> (try simp only [hc]))
    | ((first | refine AR_region ?_ | (refine guarded_split (fun hb => ?_) (fun hb => ?_) <;> (try simp only [Bool.not_true, Bool.not_false] at hb)) | refine Call1_pure (c_refCopy _ ha) ?_ | refine Call1_pure (c_refCopy _ hb) ?_ | refine AR_fin hrel (by first | exact hin _ | simp only [go_sem, and_self]) (by repeat (first | exact Agree.refl _ | assumption | refine Agree.new ?_ (hgf0 _ _) | refine Agree.new ?_ (hfr' _ _))) ?_) <;> simp only [go_sem, *, reduceIte, Nat.reduceEqDiff, Nat.reduceAdd, Nat.reduceLeDiff, Nat.reduceMul, Nat.reduceBEq, Nat.reduceLT, Nat.reduceSub, Int.reduceBEq, Int.reduceToNat, Int.reduceLE, Int.reduceEq]))
  all_goals simp [tFun, Ty.mk_cells]

theorem c_Few (l : List Int) : Pure Tryz.prog env 13 [.sl .any (ints l)] (.bool (decide ((l.length : Int) ≤ 500))) := by
  intro h
  refine ret_of_walk Tryz.func13 rfl (by kernel_rfl) follows (by kernel_rfl) ?_
  intro g0 w0 gen hrel hfr
  have hfr' := fresh_of hfr
  have hres : Tryz.f13.results.toList = [.tmp 2] := rfl
  repeat' (first
    | refine AR_seq ?_ | refine AR_skip ?_ | refine AR_block ?_ | refine AR_block_end ?_ | refine AR_exit ?_ | refine AR_code_exit ?_ | refine AR_inv_exit ?_ | refine AR_block_hit ?_
    | refine AR_block_pass (by decide) ?_ | refine AR_ret ?_ | refine AR_fall ?_
    | (refine ⟨?_, ?_⟩; focus ((repeat' (first | (refine And.intro ?_ ?_) | (refine Or.inr ?_))); all_goals kernel_rfl))
    | refine AR_cond_t rfl ?_ | refine AR_cond_f rfl ?_ | (refine AR_cond rfl (fun hc => ?_) (fun hc => ?_) <;> (try rw [beq_iff_eq] at hc) <;> (try simp only [hc]))
    | ((first | refine AR_region ?_ | (refine guarded_split (fun hb => ?_) (fun hb => ?_) <;> (try simp only [Bool.not_true, Bool.not_false] at hb)) | refine AR_fin hrel (by first | exact hin _ | simp only [go_sem, and_self]) (by repeat (first | exact Agree.refl _ | assumption | refine Agree.new ?_ (hgf0 _ _) | refine Agree.new ?_ (hfr' _ _))) ?_) <;> simp only [go_sem, *, reduceIte, Nat.reduceEqDiff, Nat.reduceAdd, Nat.reduceLeDiff, Nat.reduceMul, Nat.reduceBEq, Nat.reduceLT, Nat.reduceSub, Int.reduceBEq, Int.reduceToNat, Int.reduceLE, Int.reduceEq]))

theorem c_Mod (n k : Int) (hk : k ≠ 0) : Pure Tryz.prog env 121 [.int .i64 n, .int .i64 k] (.int .i64 (modI n k)) := by
  intro h
  refine ret_of_walk Tryz.func121 rfl (by kernel_rfl) follows (by kernel_rfl) ?_
  intro g0 w0 gen hrel hfr
  have hfr' := fresh_of hfr
  have hres : Tryz.f121.results.toList = [.tmp 4] := rfl
  repeat' (first
    | refine AR_seq ?_ | refine AR_skip ?_ | refine AR_block ?_ | refine AR_block_end ?_ | refine AR_exit ?_ | refine AR_code_exit ?_ | refine AR_inv_exit ?_ | refine AR_block_hit ?_
    | refine AR_block_pass (by decide) ?_ | refine AR_ret ?_ | refine AR_fall ?_
    | (refine ⟨?_, ?_⟩; focus ((repeat' (first | (refine And.intro ?_ ?_) | (refine Or.inr ?_))); all_goals kernel_rfl))
    | refine AR_cond_t rfl ?_ | refine AR_cond_f rfl ?_ | (refine AR_cond rfl (fun hc => ?_) (fun hc => ?_) <;> (try rw [beq_iff_eq] at hc) <;> (try simp only [hc]))
    | ((first | refine AR_region ?_ | (refine guarded_split (fun hb => ?_) (fun hb => ?_) <;> (try simp only [Bool.not_true, Bool.not_false] at hb)) | refine AR_fin hrel (by first | exact hin _ | simp only [go_sem, and_self]) (by repeat (first | exact Agree.refl _ | assumption | refine Agree.new ?_ (hgf0 _ _) | refine Agree.new ?_ (hfr' _ _))) ?_) <;> simp only [go_sem, *, reduceIte, Nat.reduceEqDiff, Nat.reduceAdd, Nat.reduceLeDiff, Nat.reduceMul, Nat.reduceBEq, Nat.reduceLT, Nat.reduceSub, Int.reduceBEq, Int.reduceToNat, Int.reduceLE, Int.reduceEq]))
  all_goals simp [modI]

end Go.Proofs.YtoaiejpnenfpnaaGreatDoor
