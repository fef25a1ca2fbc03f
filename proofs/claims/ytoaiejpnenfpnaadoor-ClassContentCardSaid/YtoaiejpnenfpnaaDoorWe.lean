/-
  Walks: makers without loops.
-/
import Derived.Test.YtoaiejpnenfpnaaDoorWc
set_option linter.unusedSimpArgs false
set_option linter.unusedVariables false
set_option maxRecDepth 20000
namespace Go.Proofs.YtoaiejpnenfpnaaDoor
open Go GoAbs Go.Proofs

theorem c_Var (i : Int) : Pure Tryd.prog env 38 [.int .i64 i] (.agg (tmVar i).cells) := by
  intro h
  refine ret_of_walk Tryd.func38 rfl (by kernel_rfl) follows (by kernel_rfl) ?_
  intro g0 w0 gen hrel hfr
  have hfr' := fresh_of hfr
  have hres : Tryd.f38.results.toList = [.cell 2 33] := rfl
  repeat' (first
    | refine AR_seq ?_ | refine AR_skip ?_ | refine AR_block ?_ | refine AR_block_end ?_ | refine AR_exit ?_ | refine AR_code_exit ?_ | refine AR_inv_exit ?_ | refine AR_block_hit ?_
    | refine AR_block_pass (by decide) ?_ | refine AR_ret ?_ | refine AR_fall ?_
    | (refine AR_region ?_; simp only [go_sem, *, reduceIte, Nat.reduceEqDiff, Nat.reduceAdd, Nat.reduceLeDiff, Nat.reduceMul, Nat.reduceBEq, Nat.reduceLT, Nat.reduceSub, Int.reduceBEq, Int.reduceToNat, Int.reduceLE, Int.reduceEq])
    | refine ⟨by kernel_rfl, ?_⟩ | refine ⟨.inr (by kernel_rfl), ?_⟩ | refine ⟨⟨.inr (by kernel_rfl), by kernel_rfl⟩, ?_⟩ | refine ⟨⟨.inr (by kernel_rfl), by kernel_rfl, by kernel_rfl⟩, ?_⟩ | refine ⟨⟨.inr (by kernel_rfl), by kernel_rfl, by kernel_rfl, by kernel_rfl⟩, ?_⟩ | (refine ⟨?_, ?_⟩; focus ((repeat' (first | (refine And.intro ?_ ?_) | (refine Or.inr ?_))); all_goals kernel_rfl))
    | refine AR_cond_t rfl ?_ | refine AR_cond_f rfl ?_ | (refine AR_cond rfl (fun hc => ?_) (fun hc => ?_) <;> (try rw [beq_iff_eq] at hc) <;> (try simp only [hc]))
    | (refine guarded_split (fun hb => ?_) (fun hb => ?_) <;> (try simp only [Bool.not_true, Bool.not_false] at hb) <;> simp only [go_sem, *, reduceIte, Nat.reduceEqDiff, Nat.reduceAdd, Nat.reduceLeDiff, Nat.reduceMul, Nat.reduceBEq, Nat.reduceLT, Nat.reduceSub, Int.reduceBEq, Int.reduceToNat, Int.reduceLE, Int.reduceEq])
    | (refine AR_fin hrel (by first | exact hin _ | simp only [go_sem, and_self]) (by repeat (first | exact Agree.refl _ | assumption | refine Agree.new ?_ (hgf0 _ _) | refine Agree.new ?_ (hfr' _ _))) ?_; simp only [go_sem, *, reduceIte, Nat.reduceEqDiff, Nat.reduceAdd, Nat.reduceLeDiff, Nat.reduceMul, Nat.reduceBEq, Nat.reduceLT, Nat.reduceSub, Int.reduceBEq, Int.reduceToNat, Int.reduceLE, Int.reduceEq]))
  all_goals simp [tmVar, Tm.mk_cells, Ty.mk_kind, Ty.mk_args]

theorem c_Eq (a b : Tm) (ha : TmW a) (hb : TmW b) : Pure Tryd.prog env 55 [.agg a.cells, .agg b.cells] (.agg (fmEq a b).cells) := by
  intro h
  refine ret_of_walk Tryd.func55 rfl (by kernel_rfl) follows (by kernel_rfl) ?_
  intro g0 w0 gen hrel hfr
  have hfr' := fresh_of hfr
  have hres : Tryd.f55.results.toList = [.cell 4 47] := rfl
  repeat' (first
    | refine AR_seq ?_ | refine AR_skip ?_ | refine AR_block ?_ | refine AR_block_end ?_ | refine AR_exit ?_ | refine AR_code_exit ?_ | refine AR_inv_exit ?_ | refine AR_block_hit ?_
    | refine AR_block_pass (by decide) ?_ | refine AR_ret ?_ | refine AR_fall ?_
    | (refine AR_region ?_; simp only [go_sem, *, reduceIte, Nat.reduceEqDiff, Nat.reduceAdd, Nat.reduceLeDiff, Nat.reduceMul, Nat.reduceBEq, Nat.reduceLT, Nat.reduceSub, Int.reduceBEq, Int.reduceToNat, Int.reduceLE, Int.reduceEq])
    | refine ⟨by kernel_rfl, ?_⟩ | refine ⟨.inr (by kernel_rfl), ?_⟩ | refine ⟨⟨.inr (by kernel_rfl), by kernel_rfl⟩, ?_⟩ | refine ⟨⟨.inr (by kernel_rfl), by kernel_rfl, by kernel_rfl⟩, ?_⟩ | refine ⟨⟨.inr (by kernel_rfl), by kernel_rfl, by kernel_rfl, by kernel_rfl⟩, ?_⟩ | (refine ⟨?_, ?_⟩; focus ((repeat' (first | (refine And.intro ?_ ?_) | (refine Or.inr ?_))); all_goals kernel_rfl))
    | refine AR_cond_t rfl ?_ | refine AR_cond_f rfl ?_ | (refine AR_cond rfl (fun hc => ?_) (fun hc => ?_) <;> (try rw [beq_iff_eq] at hc) <;> (try simp only [hc]))
    | (refine guarded_split (fun hb => ?_) (fun hb => ?_) <;> (try simp only [Bool.not_true, Bool.not_false] at hb) <;> simp only [go_sem, *, reduceIte, Nat.reduceEqDiff, Nat.reduceAdd, Nat.reduceLeDiff, Nat.reduceMul, Nat.reduceBEq, Nat.reduceLT, Nat.reduceSub, Int.reduceBEq, Int.reduceToNat, Int.reduceLE, Int.reduceEq])
    | (refine Call1_pure (c_tmCopy _ ha) ?_; simp only [go_sem, *, reduceIte, Nat.reduceEqDiff, Nat.reduceAdd, Nat.reduceLeDiff, Nat.reduceMul, Nat.reduceBEq, Nat.reduceLT, Nat.reduceSub, Int.reduceBEq, Int.reduceToNat, Int.reduceLE, Int.reduceEq])
    | (refine Call1_pure (c_tmCopy _ hb) ?_; simp only [go_sem, *, reduceIte, Nat.reduceEqDiff, Nat.reduceAdd, Nat.reduceLeDiff, Nat.reduceMul, Nat.reduceBEq, Nat.reduceLT, Nat.reduceSub, Int.reduceBEq, Int.reduceToNat, Int.reduceLE, Int.reduceEq])
    | (refine AR_fin hrel (by first | exact hin _ | simp only [go_sem, and_self]) (by repeat (first | exact Agree.refl _ | assumption | refine Agree.new ?_ (hgf0 _ _) | refine Agree.new ?_ (hfr' _ _))) ?_; simp only [go_sem, *, reduceIte, Nat.reduceEqDiff, Nat.reduceAdd, Nat.reduceLeDiff, Nat.reduceMul, Nat.reduceBEq, Nat.reduceLT, Nat.reduceSub, Int.reduceBEq, Int.reduceToNat, Int.reduceLE, Int.reduceEq]))
  all_goals simp [fmEq, Fm.mk_cells, Ty.mk_kind, Ty.mk_args]

theorem c_fmTwo (k : Int) (a b : Fm) (ha : FmW a) (hb : FmW b) : Pure Tryd.prog env 22 [.int .i64 k, .agg a.cells, .agg b.cells] (.agg (fmTwo k a b).cells) := by
  intro h
  refine ret_of_walk Tryd.func22 rfl (by kernel_rfl) follows (by kernel_rfl) ?_
  intro g0 w0 gen hrel hfr
  have hfr' := fresh_of hfr
  have hres : Tryd.f22.results.toList = [.cell 6 47] := rfl
  repeat' (first
    | refine AR_seq ?_ | refine AR_skip ?_ | refine AR_block ?_ | refine AR_block_end ?_ | refine AR_exit ?_ | refine AR_code_exit ?_ | refine AR_inv_exit ?_ | refine AR_block_hit ?_
    | refine AR_block_pass (by decide) ?_ | refine AR_ret ?_ | refine AR_fall ?_
    | (refine AR_region ?_; simp only [go_sem, *, reduceIte, Nat.reduceEqDiff, Nat.reduceAdd, Nat.reduceLeDiff, Nat.reduceMul, Nat.reduceBEq, Nat.reduceLT, Nat.reduceSub, Int.reduceBEq, Int.reduceToNat, Int.reduceLE, Int.reduceEq])
    | refine ⟨by kernel_rfl, ?_⟩ | refine ⟨.inr (by kernel_rfl), ?_⟩ | refine ⟨⟨.inr (by kernel_rfl), by kernel_rfl⟩, ?_⟩ | refine ⟨⟨.inr (by kernel_rfl), by kernel_rfl, by kernel_rfl⟩, ?_⟩ | refine ⟨⟨.inr (by kernel_rfl), by kernel_rfl, by kernel_rfl, by kernel_rfl⟩, ?_⟩ | (refine ⟨?_, ?_⟩; focus ((repeat' (first | (refine And.intro ?_ ?_) | (refine Or.inr ?_))); all_goals kernel_rfl))
    | refine AR_cond_t rfl ?_ | refine AR_cond_f rfl ?_ | (refine AR_cond rfl (fun hc => ?_) (fun hc => ?_) <;> (try rw [beq_iff_eq] at hc) <;> (try simp only [hc]))
    | (refine guarded_split (fun hb => ?_) (fun hb => ?_) <;> (try simp only [Bool.not_true, Bool.not_false] at hb) <;> simp only [go_sem, *, reduceIte, Nat.reduceEqDiff, Nat.reduceAdd, Nat.reduceLeDiff, Nat.reduceMul, Nat.reduceBEq, Nat.reduceLT, Nat.reduceSub, Int.reduceBEq, Int.reduceToNat, Int.reduceLE, Int.reduceEq])
    | (refine Call1_pure (c_fmCopy _ ha) ?_; simp only [go_sem, *, reduceIte, Nat.reduceEqDiff, Nat.reduceAdd, Nat.reduceLeDiff, Nat.reduceMul, Nat.reduceBEq, Nat.reduceLT, Nat.reduceSub, Int.reduceBEq, Int.reduceToNat, Int.reduceLE, Int.reduceEq])
    | (refine Call1_pure (c_fmCopy _ hb) ?_; simp only [go_sem, *, reduceIte, Nat.reduceEqDiff, Nat.reduceAdd, Nat.reduceLeDiff, Nat.reduceMul, Nat.reduceBEq, Nat.reduceLT, Nat.reduceSub, Int.reduceBEq, Int.reduceToNat, Int.reduceLE, Int.reduceEq])
    | (refine AR_fin hrel (by first | exact hin _ | simp only [go_sem, and_self]) (by repeat (first | exact Agree.refl _ | assumption | refine Agree.new ?_ (hgf0 _ _) | refine Agree.new ?_ (hfr' _ _))) ?_; simp only [go_sem, *, reduceIte, Nat.reduceEqDiff, Nat.reduceAdd, Nat.reduceLeDiff, Nat.reduceMul, Nat.reduceBEq, Nat.reduceLT, Nat.reduceSub, Int.reduceBEq, Int.reduceToNat, Int.reduceLE, Int.reduceEq]))
  all_goals simp [fmTwo, Fm.mk_cells, Ty.mk_kind, Ty.mk_args]

theorem c_fmQ (k : Int) (t : Ty) (a : Fm) (ht : TyW t) (ha : FmW a) : Pure Tryd.prog env 23 [.int .i64 k, .agg t.cells, .agg a.cells] (.agg (fmQ k t a).cells) := by
  intro h
  refine ret_of_walk Tryd.func23 rfl (by kernel_rfl) follows (by kernel_rfl) ?_
  intro g0 w0 gen hrel hfr
  have hfr' := fresh_of hfr
  have hres : Tryd.f23.results.toList = [.cell 6 47] := rfl
  repeat' (first
    | refine AR_seq ?_ | refine AR_skip ?_ | refine AR_block ?_ | refine AR_block_end ?_ | refine AR_exit ?_ | refine AR_code_exit ?_ | refine AR_inv_exit ?_ | refine AR_block_hit ?_
    | refine AR_block_pass (by decide) ?_ | refine AR_ret ?_ | refine AR_fall ?_
    | (refine AR_region ?_; simp only [go_sem, *, reduceIte, Nat.reduceEqDiff, Nat.reduceAdd, Nat.reduceLeDiff, Nat.reduceMul, Nat.reduceBEq, Nat.reduceLT, Nat.reduceSub, Int.reduceBEq, Int.reduceToNat, Int.reduceLE, Int.reduceEq])
    | refine ⟨by kernel_rfl, ?_⟩ | refine ⟨.inr (by kernel_rfl), ?_⟩ | refine ⟨⟨.inr (by kernel_rfl), by kernel_rfl⟩, ?_⟩ | refine ⟨⟨.inr (by kernel_rfl), by kernel_rfl, by kernel_rfl⟩, ?_⟩ | refine ⟨⟨.inr (by kernel_rfl), by kernel_rfl, by kernel_rfl, by kernel_rfl⟩, ?_⟩ | (refine ⟨?_, ?_⟩; focus ((repeat' (first | (refine And.intro ?_ ?_) | (refine Or.inr ?_))); all_goals kernel_rfl))
    | refine AR_cond_t rfl ?_ | refine AR_cond_f rfl ?_ | (refine AR_cond rfl (fun hc => ?_) (fun hc => ?_) <;> (try rw [beq_iff_eq] at hc) <;> (try simp only [hc]))
    | (refine guarded_split (fun hb => ?_) (fun hb => ?_) <;> (try simp only [Bool.not_true, Bool.not_false] at hb) <;> simp only [go_sem, *, reduceIte, Nat.reduceEqDiff, Nat.reduceAdd, Nat.reduceLeDiff, Nat.reduceMul, Nat.reduceBEq, Nat.reduceLT, Nat.reduceSub, Int.reduceBEq, Int.reduceToNat, Int.reduceLE, Int.reduceEq])
    | (refine Call1_pure (c_fmCopy _ ha) ?_; simp only [go_sem, *, reduceIte, Nat.reduceEqDiff, Nat.reduceAdd, Nat.reduceLeDiff, Nat.reduceMul, Nat.reduceBEq, Nat.reduceLT, Nat.reduceSub, Int.reduceBEq, Int.reduceToNat, Int.reduceLE, Int.reduceEq])
    | (refine Call1_pure (c_refCopy _ ht) ?_; simp only [go_sem, *, reduceIte, Nat.reduceEqDiff, Nat.reduceAdd, Nat.reduceLeDiff, Nat.reduceMul, Nat.reduceBEq, Nat.reduceLT, Nat.reduceSub, Int.reduceBEq, Int.reduceToNat, Int.reduceLE, Int.reduceEq])
    | (refine AR_fin hrel (by first | exact hin _ | simp only [go_sem, and_self]) (by repeat (first | exact Agree.refl _ | assumption | refine Agree.new ?_ (hgf0 _ _) | refine Agree.new ?_ (hfr' _ _))) ?_; simp only [go_sem, *, reduceIte, Nat.reduceEqDiff, Nat.reduceAdd, Nat.reduceLeDiff, Nat.reduceMul, Nat.reduceBEq, Nat.reduceLT, Nat.reduceSub, Int.reduceBEq, Int.reduceToNat, Int.reduceLE, Int.reduceEq]))
  all_goals simp [fmQ, Fm.mk_cells, Ty.mk_kind, Ty.mk_args]

theorem c_refTwo (a b : Ty) (ha : TyW a) (hb : TyW b) : Pure Tryd.prog env 35 [.agg a.cells, .agg b.cells] (.agg (tPair a b).cells) := by
  intro h
  refine ret_of_walk Tryd.func35 rfl (by kernel_rfl) follows (by kernel_rfl) ?_
  intro g0 w0 gen hrel hfr
  have hfr' := fresh_of hfr
  have hres : Tryd.f35.results.toList = [.cell 4 29] := rfl
  repeat' (first
    | refine AR_seq ?_ | refine AR_skip ?_ | refine AR_block ?_ | refine AR_block_end ?_ | refine AR_exit ?_ | refine AR_code_exit ?_ | refine AR_inv_exit ?_ | refine AR_block_hit ?_
    | refine AR_block_pass (by decide) ?_ | refine AR_ret ?_ | refine AR_fall ?_
    | (refine AR_region ?_; simp only [go_sem, *, reduceIte, Nat.reduceEqDiff, Nat.reduceAdd, Nat.reduceLeDiff, Nat.reduceMul, Nat.reduceBEq, Nat.reduceLT, Nat.reduceSub, Int.reduceBEq, Int.reduceToNat, Int.reduceLE, Int.reduceEq])
    | refine ⟨by kernel_rfl, ?_⟩ | refine ⟨.inr (by kernel_rfl), ?_⟩ | refine ⟨⟨.inr (by kernel_rfl), by kernel_rfl⟩, ?_⟩ | refine ⟨⟨.inr (by kernel_rfl), by kernel_rfl, by kernel_rfl⟩, ?_⟩ | refine ⟨⟨.inr (by kernel_rfl), by kernel_rfl, by kernel_rfl, by kernel_rfl⟩, ?_⟩ | (refine ⟨?_, ?_⟩; focus ((repeat' (first | (refine And.intro ?_ ?_) | (refine Or.inr ?_))); all_goals kernel_rfl))
    | refine AR_cond_t rfl ?_ | refine AR_cond_f rfl ?_ | (refine AR_cond rfl (fun hc => ?_) (fun hc => ?_) <;> (try rw [beq_iff_eq] at hc) <;> (try simp only [hc]))
    | (refine guarded_split (fun hb => ?_) (fun hb => ?_) <;> (try simp only [Bool.not_true, Bool.not_false] at hb) <;> simp only [go_sem, *, reduceIte, Nat.reduceEqDiff, Nat.reduceAdd, Nat.reduceLeDiff, Nat.reduceMul, Nat.reduceBEq, Nat.reduceLT, Nat.reduceSub, Int.reduceBEq, Int.reduceToNat, Int.reduceLE, Int.reduceEq])
    | (refine Call1_pure (c_refCopy _ ha) ?_; simp only [go_sem, *, reduceIte, Nat.reduceEqDiff, Nat.reduceAdd, Nat.reduceLeDiff, Nat.reduceMul, Nat.reduceBEq, Nat.reduceLT, Nat.reduceSub, Int.reduceBEq, Int.reduceToNat, Int.reduceLE, Int.reduceEq])
    | (refine Call1_pure (c_refCopy _ hb) ?_; simp only [go_sem, *, reduceIte, Nat.reduceEqDiff, Nat.reduceAdd, Nat.reduceLeDiff, Nat.reduceMul, Nat.reduceBEq, Nat.reduceLT, Nat.reduceSub, Int.reduceBEq, Int.reduceToNat, Int.reduceLE, Int.reduceEq])
    | (refine AR_fin hrel (by first | exact hin _ | simp only [go_sem, and_self]) (by repeat (first | exact Agree.refl _ | assumption | refine Agree.new ?_ (hgf0 _ _) | refine Agree.new ?_ (hfr' _ _))) ?_; simp only [go_sem, *, reduceIte, Nat.reduceEqDiff, Nat.reduceAdd, Nat.reduceLeDiff, Nat.reduceMul, Nat.reduceBEq, Nat.reduceLT, Nat.reduceSub, Int.reduceBEq, Int.reduceToNat, Int.reduceLE, Int.reduceEq]))
  all_goals simp [tPair, Ty.mk_cells]

theorem c_refFun (a b : Ty) (ha : TyW a) (hb : TyW b) : Pure Tryd.prog env 36 [.agg a.cells, .agg b.cells] (.agg (tFun a b).cells) := by
  intro h
  refine ret_of_walk Tryd.func36 rfl (by kernel_rfl) follows (by kernel_rfl) ?_
  intro g0 w0 gen hrel hfr
  have hfr' := fresh_of hfr
  have hres : Tryd.f36.results.toList = [.cell 4 29] := rfl
  repeat' (first
    | refine AR_seq ?_ | refine AR_skip ?_ | refine AR_block ?_ | refine AR_block_end ?_ | refine AR_exit ?_ | refine AR_code_exit ?_ | refine AR_inv_exit ?_ | refine AR_block_hit ?_
    | refine AR_block_pass (by decide) ?_ | refine AR_ret ?_ | refine AR_fall ?_
    | (refine AR_region ?_; simp only [go_sem, *, reduceIte, Nat.reduceEqDiff, Nat.reduceAdd, Nat.reduceLeDiff, Nat.reduceMul, Nat.reduceBEq, Nat.reduceLT, Nat.reduceSub, Int.reduceBEq, Int.reduceToNat, Int.reduceLE, Int.reduceEq])
    | refine ⟨by kernel_rfl, ?_⟩ | refine ⟨.inr (by kernel_rfl), ?_⟩ | refine ⟨⟨.inr (by kernel_rfl), by kernel_rfl⟩, ?_⟩ | refine ⟨⟨.inr (by kernel_rfl), by kernel_rfl, by kernel_rfl⟩, ?_⟩ | refine ⟨⟨.inr (by kernel_rfl), by kernel_rfl, by kernel_rfl, by kernel_rfl⟩, ?_⟩ | (refine ⟨?_, ?_⟩; focus ((repeat' (first | (refine And.intro ?_ ?_) | (refine Or.inr ?_))); all_goals kernel_rfl))
    | refine AR_cond_t rfl ?_ | refine AR_cond_f rfl ?_ | (refine AR_cond rfl (fun hc => ?_) (fun hc => ?_) <;> (try rw [beq_iff_eq] at hc) <;> (try simp only [hc]))
    | (refine guarded_split (fun hb => ?_) (fun hb => ?_) <;> (try simp only [Bool.not_true, Bool.not_false] at hb) <;> simp only [go_sem, *, reduceIte, Nat.reduceEqDiff, Nat.reduceAdd, Nat.reduceLeDiff, Nat.reduceMul, Nat.reduceBEq, Nat.reduceLT, Nat.reduceSub, Int.reduceBEq, Int.reduceToNat, Int.reduceLE, Int.reduceEq])
    | (refine Call1_pure (c_refCopy _ ha) ?_; simp only [go_sem, *, reduceIte, Nat.reduceEqDiff, Nat.reduceAdd, Nat.reduceLeDiff, Nat.reduceMul, Nat.reduceBEq, Nat.reduceLT, Nat.reduceSub, Int.reduceBEq, Int.reduceToNat, Int.reduceLE, Int.reduceEq])
    | (refine Call1_pure (c_refCopy _ hb) ?_; simp only [go_sem, *, reduceIte, Nat.reduceEqDiff, Nat.reduceAdd, Nat.reduceLeDiff, Nat.reduceMul, Nat.reduceBEq, Nat.reduceLT, Nat.reduceSub, Int.reduceBEq, Int.reduceToNat, Int.reduceLE, Int.reduceEq])
    | (refine AR_fin hrel (by first | exact hin _ | simp only [go_sem, and_self]) (by repeat (first | exact Agree.refl _ | assumption | refine Agree.new ?_ (hgf0 _ _) | refine Agree.new ?_ (hfr' _ _))) ?_; simp only [go_sem, *, reduceIte, Nat.reduceEqDiff, Nat.reduceAdd, Nat.reduceLeDiff, Nat.reduceMul, Nat.reduceBEq, Nat.reduceLT, Nat.reduceSub, Int.reduceBEq, Int.reduceToNat, Int.reduceLE, Int.reduceEq]))
  all_goals simp [tFun, Ty.mk_cells]

theorem c_Join (a b : Ty) (s t : Tm) : Pure Tryd.prog env 10 [.agg a.cells, .agg b.cells, .agg s.cells, .agg t.cells] (.agg (chJoin a b s t).cells) := by
  intro h
  refine ret_of_walk Tryd.func10 rfl (by kernel_rfl) follows (by kernel_rfl) ?_
  intro g0 w0 gen hrel hfr
  have hfr' := fresh_of hfr
  have hres : Tryd.f10.results.toList = [.cell 8 33] := rfl
  repeat' (first
    | refine AR_seq ?_ | refine AR_skip ?_ | refine AR_block ?_ | refine AR_block_end ?_ | refine AR_exit ?_ | refine AR_code_exit ?_ | refine AR_inv_exit ?_ | refine AR_block_hit ?_
    | refine AR_block_pass (by decide) ?_ | refine AR_ret ?_ | refine AR_fall ?_
    | (refine AR_region ?_; simp only [go_sem, *, reduceIte, Nat.reduceEqDiff, Nat.reduceAdd, Nat.reduceLeDiff, Nat.reduceMul, Nat.reduceBEq, Nat.reduceLT, Nat.reduceSub, Int.reduceBEq, Int.reduceToNat, Int.reduceLE, Int.reduceEq])
    | refine ⟨by kernel_rfl, ?_⟩ | refine ⟨.inr (by kernel_rfl), ?_⟩ | refine ⟨⟨.inr (by kernel_rfl), by kernel_rfl⟩, ?_⟩ | refine ⟨⟨.inr (by kernel_rfl), by kernel_rfl, by kernel_rfl⟩, ?_⟩ | refine ⟨⟨.inr (by kernel_rfl), by kernel_rfl, by kernel_rfl, by kernel_rfl⟩, ?_⟩ | (refine ⟨?_, ?_⟩; focus ((repeat' (first | (refine And.intro ?_ ?_) | (refine Or.inr ?_))); all_goals kernel_rfl))
    | refine AR_cond_t rfl ?_ | refine AR_cond_f rfl ?_ | (refine AR_cond rfl (fun hc => ?_) (fun hc => ?_) <;> (try rw [beq_iff_eq] at hc) <;> (try simp only [hc]))
    | (refine guarded_split (fun hb => ?_) (fun hb => ?_) <;> (try simp only [Bool.not_true, Bool.not_false] at hb) <;> simp only [go_sem, *, reduceIte, Nat.reduceEqDiff, Nat.reduceAdd, Nat.reduceLeDiff, Nat.reduceMul, Nat.reduceBEq, Nat.reduceLT, Nat.reduceSub, Int.reduceBEq, Int.reduceToNat, Int.reduceLE, Int.reduceEq])
    | (refine Call1_pure (c_chUnit _) ?_; simp only [go_sem, *, reduceIte, Nat.reduceEqDiff, Nat.reduceAdd, Nat.reduceLeDiff, Nat.reduceMul, Nat.reduceBEq, Nat.reduceLT, Nat.reduceSub, Int.reduceBEq, Int.reduceToNat, Int.reduceLE, Int.reduceEq])
    | (refine Call1_pure (c_chNode 10 [s, t]) ?_; simp only [go_sem, *, reduceIte, Nat.reduceEqDiff, Nat.reduceAdd, Nat.reduceLeDiff, Nat.reduceMul, Nat.reduceBEq, Nat.reduceLT, Nat.reduceSub, Int.reduceBEq, Int.reduceToNat, Int.reduceLE, Int.reduceEq])
    | (refine AR_fin hrel (by first | exact hin _ | simp only [go_sem, and_self]) (by repeat (first | exact Agree.refl _ | assumption | refine Agree.new ?_ (hgf0 _ _) | refine Agree.new ?_ (hfr' _ _))) ?_; simp only [go_sem, *, reduceIte, Nat.reduceEqDiff, Nat.reduceAdd, Nat.reduceLeDiff, Nat.reduceMul, Nat.reduceBEq, Nat.reduceLT, Nat.reduceSub, Int.reduceBEq, Int.reduceToNat, Int.reduceLE, Int.reduceEq]))
  all_goals simp [chJoin, *]

theorem c_part (k : Int) (a b : Ty) (t : Tm) : Pure Tryd.prog env 50 [.int .i64 k, .agg a.cells, .agg b.cells, .agg t.cells] (.agg (chPart k a b t).cells) := by
  intro h
  refine ret_of_walk Tryd.func50 rfl (by kernel_rfl) follows (by kernel_rfl) ?_
  intro g0 w0 gen hrel hfr
  have hfr' := fresh_of hfr
  have hres : Tryd.f50.results.toList = [.cell 8 33] := rfl
  repeat' (first
    | refine AR_seq ?_ | refine AR_skip ?_ | refine AR_block ?_ | refine AR_block_end ?_ | refine AR_exit ?_ | refine AR_code_exit ?_ | refine AR_inv_exit ?_ | refine AR_block_hit ?_
    | refine AR_block_pass (by decide) ?_ | refine AR_ret ?_ | refine AR_fall ?_
    | (refine AR_region ?_; simp only [go_sem, *, reduceIte, Nat.reduceEqDiff, Nat.reduceAdd, Nat.reduceLeDiff, Nat.reduceMul, Nat.reduceBEq, Nat.reduceLT, Nat.reduceSub, Int.reduceBEq, Int.reduceToNat, Int.reduceLE, Int.reduceEq])
    | refine ⟨by kernel_rfl, ?_⟩ | refine ⟨.inr (by kernel_rfl), ?_⟩ | refine ⟨⟨.inr (by kernel_rfl), by kernel_rfl⟩, ?_⟩ | refine ⟨⟨.inr (by kernel_rfl), by kernel_rfl, by kernel_rfl⟩, ?_⟩ | refine ⟨⟨.inr (by kernel_rfl), by kernel_rfl, by kernel_rfl, by kernel_rfl⟩, ?_⟩ | (refine ⟨?_, ?_⟩; focus ((repeat' (first | (refine And.intro ?_ ?_) | (refine Or.inr ?_))); all_goals kernel_rfl))
    | refine AR_cond_t rfl ?_ | refine AR_cond_f rfl ?_ | (refine AR_cond rfl (fun hc => ?_) (fun hc => ?_) <;> (try rw [beq_iff_eq] at hc) <;> (try simp only [hc]))
    | (refine guarded_split (fun hb => ?_) (fun hb => ?_) <;> (try simp only [Bool.not_true, Bool.not_false] at hb) <;> simp only [go_sem, *, reduceIte, Nat.reduceEqDiff, Nat.reduceAdd, Nat.reduceLeDiff, Nat.reduceMul, Nat.reduceBEq, Nat.reduceLT, Nat.reduceSub, Int.reduceBEq, Int.reduceToNat, Int.reduceLE, Int.reduceEq])
    | (refine Call1_pure (c_chUnit _) ?_; simp only [go_sem, *, reduceIte, Nat.reduceEqDiff, Nat.reduceAdd, Nat.reduceLeDiff, Nat.reduceMul, Nat.reduceBEq, Nat.reduceLT, Nat.reduceSub, Int.reduceBEq, Int.reduceToNat, Int.reduceLE, Int.reduceEq])
    | (refine Call1_pure (c_chNode k [t]) ?_; simp only [go_sem, *, reduceIte, Nat.reduceEqDiff, Nat.reduceAdd, Nat.reduceLeDiff, Nat.reduceMul, Nat.reduceBEq, Nat.reduceLT, Nat.reduceSub, Int.reduceBEq, Int.reduceToNat, Int.reduceLE, Int.reduceEq])
    | (refine Call1_pure (c_chNode 13 []) ?_; simp only [go_sem, *, reduceIte, Nat.reduceEqDiff, Nat.reduceAdd, Nat.reduceLeDiff, Nat.reduceMul, Nat.reduceBEq, Nat.reduceLT, Nat.reduceSub, Int.reduceBEq, Int.reduceToNat, Int.reduceLE, Int.reduceEq])
    | (refine AR_fin hrel (by first | exact hin _ | simp only [go_sem, and_self]) (by repeat (first | exact Agree.refl _ | assumption | refine Agree.new ?_ (hgf0 _ _) | refine Agree.new ?_ (hfr' _ _))) ?_; simp only [go_sem, *, reduceIte, Nat.reduceEqDiff, Nat.reduceAdd, Nat.reduceLeDiff, Nat.reduceMul, Nat.reduceBEq, Nat.reduceLT, Nat.reduceSub, Int.reduceBEq, Int.reduceToNat, Int.reduceLE, Int.reduceEq]))
  all_goals simp [chPart, *]

theorem c_Left (a b : Ty) (t : Tm) : Pure Tryd.prog env 14 [.agg a.cells, .agg b.cells, .agg t.cells] (.agg (chPart 11 a b t).cells) := by
  intro h
  refine ret_of_walk Tryd.func14 rfl (by kernel_rfl) follows (by kernel_rfl) ?_
  intro g0 w0 gen hrel hfr
  have hfr' := fresh_of hfr
  have hres : Tryd.f14.results.toList = [.cell 6 33] := rfl
  repeat' (first
    | refine AR_seq ?_ | refine AR_skip ?_ | refine AR_block ?_ | refine AR_block_end ?_ | refine AR_exit ?_ | refine AR_code_exit ?_ | refine AR_inv_exit ?_ | refine AR_block_hit ?_
    | refine AR_block_pass (by decide) ?_ | refine AR_ret ?_ | refine AR_fall ?_
    | (refine AR_region ?_; simp only [go_sem, *, reduceIte, Nat.reduceEqDiff, Nat.reduceAdd, Nat.reduceLeDiff, Nat.reduceMul, Nat.reduceBEq, Nat.reduceLT, Nat.reduceSub, Int.reduceBEq, Int.reduceToNat, Int.reduceLE, Int.reduceEq])
    | refine ⟨by kernel_rfl, ?_⟩ | refine ⟨.inr (by kernel_rfl), ?_⟩ | refine ⟨⟨.inr (by kernel_rfl), by kernel_rfl⟩, ?_⟩ | refine ⟨⟨.inr (by kernel_rfl), by kernel_rfl, by kernel_rfl⟩, ?_⟩ | refine ⟨⟨.inr (by kernel_rfl), by kernel_rfl, by kernel_rfl, by kernel_rfl⟩, ?_⟩ | (refine ⟨?_, ?_⟩; focus ((repeat' (first | (refine And.intro ?_ ?_) | (refine Or.inr ?_))); all_goals kernel_rfl))
    | refine AR_cond_t rfl ?_ | refine AR_cond_f rfl ?_ | (refine AR_cond rfl (fun hc => ?_) (fun hc => ?_) <;> (try rw [beq_iff_eq] at hc) <;> (try simp only [hc]))
    | (refine guarded_split (fun hb => ?_) (fun hb => ?_) <;> (try simp only [Bool.not_true, Bool.not_false] at hb) <;> simp only [go_sem, *, reduceIte, Nat.reduceEqDiff, Nat.reduceAdd, Nat.reduceLeDiff, Nat.reduceMul, Nat.reduceBEq, Nat.reduceLT, Nat.reduceSub, Int.reduceBEq, Int.reduceToNat, Int.reduceLE, Int.reduceEq])
    | (refine Call1_pure (c_part _ _ _ _) ?_; simp only [go_sem, *, reduceIte, Nat.reduceEqDiff, Nat.reduceAdd, Nat.reduceLeDiff, Nat.reduceMul, Nat.reduceBEq, Nat.reduceLT, Nat.reduceSub, Int.reduceBEq, Int.reduceToNat, Int.reduceLE, Int.reduceEq])
    | (refine AR_fin hrel (by first | exact hin _ | simp only [go_sem, and_self]) (by repeat (first | exact Agree.refl _ | assumption | refine Agree.new ?_ (hgf0 _ _) | refine Agree.new ?_ (hfr' _ _))) ?_; simp only [go_sem, *, reduceIte, Nat.reduceEqDiff, Nat.reduceAdd, Nat.reduceLeDiff, Nat.reduceMul, Nat.reduceBEq, Nat.reduceLT, Nat.reduceSub, Int.reduceBEq, Int.reduceToNat, Int.reduceLE, Int.reduceEq]))

theorem c_Right (a b : Ty) (t : Tm) : Pure Tryd.prog env 15 [.agg a.cells, .agg b.cells, .agg t.cells] (.agg (chPart 12 b a t).cells) := by
  intro h
  refine ret_of_walk Tryd.func15 rfl (by kernel_rfl) follows (by kernel_rfl) ?_
  intro g0 w0 gen hrel hfr
  have hfr' := fresh_of hfr
  have hres : Tryd.f15.results.toList = [.cell 6 33] := rfl
  repeat' (first
    | refine AR_seq ?_ | refine AR_skip ?_ | refine AR_block ?_ | refine AR_block_end ?_ | refine AR_exit ?_ | refine AR_code_exit ?_ | refine AR_inv_exit ?_ | refine AR_block_hit ?_
    | refine AR_block_pass (by decide) ?_ | refine AR_ret ?_ | refine AR_fall ?_
    | (refine AR_region ?_; simp only [go_sem, *, reduceIte, Nat.reduceEqDiff, Nat.reduceAdd, Nat.reduceLeDiff, Nat.reduceMul, Nat.reduceBEq, Nat.reduceLT, Nat.reduceSub, Int.reduceBEq, Int.reduceToNat, Int.reduceLE, Int.reduceEq])
    | refine ⟨by kernel_rfl, ?_⟩ | refine ⟨.inr (by kernel_rfl), ?_⟩ | refine ⟨⟨.inr (by kernel_rfl), by kernel_rfl⟩, ?_⟩ | refine ⟨⟨.inr (by kernel_rfl), by kernel_rfl, by kernel_rfl⟩, ?_⟩ | refine ⟨⟨.inr (by kernel_rfl), by kernel_rfl, by kernel_rfl, by kernel_rfl⟩, ?_⟩ | (refine ⟨?_, ?_⟩; focus ((repeat' (first | (refine And.intro ?_ ?_) | (refine Or.inr ?_))); all_goals kernel_rfl))
    | refine AR_cond_t rfl ?_ | refine AR_cond_f rfl ?_ | (refine AR_cond rfl (fun hc => ?_) (fun hc => ?_) <;> (try rw [beq_iff_eq] at hc) <;> (try simp only [hc]))
    | (refine guarded_split (fun hb => ?_) (fun hb => ?_) <;> (try simp only [Bool.not_true, Bool.not_false] at hb) <;> simp only [go_sem, *, reduceIte, Nat.reduceEqDiff, Nat.reduceAdd, Nat.reduceLeDiff, Nat.reduceMul, Nat.reduceBEq, Nat.reduceLT, Nat.reduceSub, Int.reduceBEq, Int.reduceToNat, Int.reduceLE, Int.reduceEq])
    | (refine Call1_pure (c_part _ _ _ _) ?_; simp only [go_sem, *, reduceIte, Nat.reduceEqDiff, Nat.reduceAdd, Nat.reduceLeDiff, Nat.reduceMul, Nat.reduceBEq, Nat.reduceLT, Nat.reduceSub, Int.reduceBEq, Int.reduceToNat, Int.reduceLE, Int.reduceEq])
    | (refine AR_fin hrel (by first | exact hin _ | simp only [go_sem, and_self]) (by repeat (first | exact Agree.refl _ | assumption | refine Agree.new ?_ (hgf0 _ _) | refine Agree.new ?_ (hfr' _ _))) ?_; simp only [go_sem, *, reduceIte, Nat.reduceEqDiff, Nat.reduceAdd, Nat.reduceLeDiff, Nat.reduceMul, Nat.reduceBEq, Nat.reduceLT, Nat.reduceSub, Int.reduceBEq, Int.reduceToNat, Int.reduceLE, Int.reduceEq]))

theorem c_Call (a b : Ty) (f t : Tm) : Pure Tryd.prog env 29 [.agg a.cells, .agg b.cells, .agg f.cells, .agg t.cells] (.agg (chCall a b f t).cells) := by
  intro h
  refine ret_of_walk Tryd.func29 rfl (by kernel_rfl) follows (by kernel_rfl) ?_
  intro g0 w0 gen hrel hfr
  have hfr' := fresh_of hfr
  have hres : Tryd.f29.results.toList = [.cell 8 33] := rfl
  repeat' (first
    | refine AR_seq ?_ | refine AR_skip ?_ | refine AR_block ?_ | refine AR_block_end ?_ | refine AR_exit ?_ | refine AR_code_exit ?_ | refine AR_inv_exit ?_ | refine AR_block_hit ?_
    | refine AR_block_pass (by decide) ?_ | refine AR_ret ?_ | refine AR_fall ?_
    | (refine AR_region ?_; simp only [go_sem, *, reduceIte, Nat.reduceEqDiff, Nat.reduceAdd, Nat.reduceLeDiff, Nat.reduceMul, Nat.reduceBEq, Nat.reduceLT, Nat.reduceSub, Int.reduceBEq, Int.reduceToNat, Int.reduceLE, Int.reduceEq])
    | refine ⟨by kernel_rfl, ?_⟩ | refine ⟨.inr (by kernel_rfl), ?_⟩ | refine ⟨⟨.inr (by kernel_rfl), by kernel_rfl⟩, ?_⟩ | refine ⟨⟨.inr (by kernel_rfl), by kernel_rfl, by kernel_rfl⟩, ?_⟩ | refine ⟨⟨.inr (by kernel_rfl), by kernel_rfl, by kernel_rfl, by kernel_rfl⟩, ?_⟩ | (refine ⟨?_, ?_⟩; focus ((repeat' (first | (refine And.intro ?_ ?_) | (refine Or.inr ?_))); all_goals kernel_rfl))
    | refine AR_cond_t rfl ?_ | refine AR_cond_f rfl ?_ | (refine AR_cond rfl (fun hc => ?_) (fun hc => ?_) <;> (try rw [beq_iff_eq] at hc) <;> (try simp only [hc]))
    | (refine guarded_split (fun hb => ?_) (fun hb => ?_) <;> (try simp only [Bool.not_true, Bool.not_false] at hb) <;> simp only [go_sem, *, reduceIte, Nat.reduceEqDiff, Nat.reduceAdd, Nat.reduceLeDiff, Nat.reduceMul, Nat.reduceBEq, Nat.reduceLT, Nat.reduceSub, Int.reduceBEq, Int.reduceToNat, Int.reduceLE, Int.reduceEq])
    | (refine Call1_pure (c_chUnit _) ?_; simp only [go_sem, *, reduceIte, Nat.reduceEqDiff, Nat.reduceAdd, Nat.reduceLeDiff, Nat.reduceMul, Nat.reduceBEq, Nat.reduceLT, Nat.reduceSub, Int.reduceBEq, Int.reduceToNat, Int.reduceLE, Int.reduceEq])
    | (refine Call1_pure (c_chNode 3 [f, t]) ?_; simp only [go_sem, *, reduceIte, Nat.reduceEqDiff, Nat.reduceAdd, Nat.reduceLeDiff, Nat.reduceMul, Nat.reduceBEq, Nat.reduceLT, Nat.reduceSub, Int.reduceBEq, Int.reduceToNat, Int.reduceLE, Int.reduceEq])
    | (refine Call1_pure (c_chNode 13 []) ?_; simp only [go_sem, *, reduceIte, Nat.reduceEqDiff, Nat.reduceAdd, Nat.reduceLeDiff, Nat.reduceMul, Nat.reduceBEq, Nat.reduceLT, Nat.reduceSub, Int.reduceBEq, Int.reduceToNat, Int.reduceLE, Int.reduceEq])
    | (refine AR_fin hrel (by first | exact hin _ | simp only [go_sem, and_self]) (by repeat (first | exact Agree.refl _ | assumption | refine Agree.new ?_ (hgf0 _ _) | refine Agree.new ?_ (hfr' _ _))) ?_; simp only [go_sem, *, reduceIte, Nat.reduceEqDiff, Nat.reduceAdd, Nat.reduceLeDiff, Nat.reduceMul, Nat.reduceBEq, Nat.reduceLT, Nat.reduceSub, Int.reduceBEq, Int.reduceToNat, Int.reduceLE, Int.reduceEq]))
  all_goals simp [chCall, *]

theorem c_Few (l : List Int) : Pure Tryd.prog env 6 [.sl .any (ints l)] (.bool (decide ((l.length : Int) ≤ 500))) := by
  intro h
  refine ret_of_walk Tryd.func6 rfl (by kernel_rfl) follows (by kernel_rfl) ?_
  intro g0 w0 gen hrel hfr
  have hfr' := fresh_of hfr
  have hres : Tryd.f6.results.toList = [.tmp 2] := rfl
  repeat' (first
    | refine AR_seq ?_ | refine AR_skip ?_ | refine AR_block ?_ | refine AR_block_end ?_ | refine AR_exit ?_ | refine AR_code_exit ?_ | refine AR_inv_exit ?_ | refine AR_block_hit ?_
    | refine AR_block_pass (by decide) ?_ | refine AR_ret ?_ | refine AR_fall ?_
    | (refine AR_region ?_; simp only [go_sem, *, reduceIte, Nat.reduceEqDiff, Nat.reduceAdd, Nat.reduceLeDiff, Nat.reduceMul, Nat.reduceBEq, Nat.reduceLT, Nat.reduceSub, Int.reduceBEq, Int.reduceToNat, Int.reduceLE, Int.reduceEq])
    | refine ⟨by kernel_rfl, ?_⟩ | refine ⟨.inr (by kernel_rfl), ?_⟩ | refine ⟨⟨.inr (by kernel_rfl), by kernel_rfl⟩, ?_⟩ | refine ⟨⟨.inr (by kernel_rfl), by kernel_rfl, by kernel_rfl⟩, ?_⟩ | refine ⟨⟨.inr (by kernel_rfl), by kernel_rfl, by kernel_rfl, by kernel_rfl⟩, ?_⟩ | (refine ⟨?_, ?_⟩; focus ((repeat' (first | (refine And.intro ?_ ?_) | (refine Or.inr ?_))); all_goals kernel_rfl))
    | refine AR_cond_t rfl ?_ | refine AR_cond_f rfl ?_ | (refine AR_cond rfl (fun hc => ?_) (fun hc => ?_) <;> (try rw [beq_iff_eq] at hc) <;> (try simp only [hc]))
    | (refine guarded_split (fun hb => ?_) (fun hb => ?_) <;> (try simp only [Bool.not_true, Bool.not_false] at hb) <;> simp only [go_sem, *, reduceIte, Nat.reduceEqDiff, Nat.reduceAdd, Nat.reduceLeDiff, Nat.reduceMul, Nat.reduceBEq, Nat.reduceLT, Nat.reduceSub, Int.reduceBEq, Int.reduceToNat, Int.reduceLE, Int.reduceEq])
    | (refine AR_fin hrel (by first | exact hin _ | simp only [go_sem, and_self]) (by repeat (first | exact Agree.refl _ | assumption | refine Agree.new ?_ (hgf0 _ _) | refine Agree.new ?_ (hfr' _ _))) ?_; simp only [go_sem, *, reduceIte, Nat.reduceEqDiff, Nat.reduceAdd, Nat.reduceLeDiff, Nat.reduceMul, Nat.reduceBEq, Nat.reduceLT, Nat.reduceSub, Int.reduceBEq, Int.reduceToNat, Int.reduceLE, Int.reduceEq]))

theorem c_Mod (n k : Int) (hk : k ≠ 0) : Pure Tryd.prog env 61 [.int .i64 n, .int .i64 k] (.int .i64 (modI n k)) := by
  intro h
  refine ret_of_walk Tryd.func61 rfl (by kernel_rfl) follows (by kernel_rfl) ?_
  intro g0 w0 gen hrel hfr
  have hfr' := fresh_of hfr
  have hres : Tryd.f61.results.toList = [.tmp 4] := rfl
  repeat' (first
    | refine AR_seq ?_ | refine AR_skip ?_ | refine AR_block ?_ | refine AR_block_end ?_ | refine AR_exit ?_ | refine AR_code_exit ?_ | refine AR_inv_exit ?_ | refine AR_block_hit ?_
    | refine AR_block_pass (by decide) ?_ | refine AR_ret ?_ | refine AR_fall ?_
    | (refine AR_region ?_; simp only [go_sem, *, reduceIte, Nat.reduceEqDiff, Nat.reduceAdd, Nat.reduceLeDiff, Nat.reduceMul, Nat.reduceBEq, Nat.reduceLT, Nat.reduceSub, Int.reduceBEq, Int.reduceToNat, Int.reduceLE, Int.reduceEq])
    | refine ⟨by kernel_rfl, ?_⟩ | refine ⟨.inr (by kernel_rfl), ?_⟩ | refine ⟨⟨.inr (by kernel_rfl), by kernel_rfl⟩, ?_⟩ | refine ⟨⟨.inr (by kernel_rfl), by kernel_rfl, by kernel_rfl⟩, ?_⟩ | refine ⟨⟨.inr (by kernel_rfl), by kernel_rfl, by kernel_rfl, by kernel_rfl⟩, ?_⟩ | (refine ⟨?_, ?_⟩; focus ((repeat' (first | (refine And.intro ?_ ?_) | (refine Or.inr ?_))); all_goals kernel_rfl))
    | refine AR_cond_t rfl ?_ | refine AR_cond_f rfl ?_ | (refine AR_cond rfl (fun hc => ?_) (fun hc => ?_) <;> (try rw [beq_iff_eq] at hc) <;> (try simp only [hc]))
    | (refine guarded_split (fun hb => ?_) (fun hb => ?_) <;> (try simp only [Bool.not_true, Bool.not_false] at hb) <;> simp only [go_sem, *, reduceIte, Nat.reduceEqDiff, Nat.reduceAdd, Nat.reduceLeDiff, Nat.reduceMul, Nat.reduceBEq, Nat.reduceLT, Nat.reduceSub, Int.reduceBEq, Int.reduceToNat, Int.reduceLE, Int.reduceEq])
    | (refine AR_fin hrel (by first | exact hin _ | simp only [go_sem, and_self]) (by repeat (first | exact Agree.refl _ | assumption | refine Agree.new ?_ (hgf0 _ _) | refine Agree.new ?_ (hfr' _ _))) ?_; simp only [go_sem, *, reduceIte, Nat.reduceEqDiff, Nat.reduceAdd, Nat.reduceLeDiff, Nat.reduceMul, Nat.reduceBEq, Nat.reduceLT, Nat.reduceSub, Int.reduceBEq, Int.reduceToNat, Int.reduceLE, Int.reduceEq]))
  all_goals simp [modI]

theorem c_limits (e : Int) : Pure Tryd.prog env 17 [.int .i64 e] (.bool (e == 4 || e == 5 || e == 3)) := by
  intro h
  refine ret_of_walk Tryd.func17 rfl (by kernel_rfl) follows (by kernel_rfl) ?_
  intro g0 w0 gen hrel hfr
  have hfr' := fresh_of hfr
  have hres : Tryd.f17.results.toList = [.tmp 2] := rfl
  repeat' (first
    | refine AR_seq ?_ | refine AR_skip ?_ | refine AR_block ?_ | refine AR_block_end ?_ | refine AR_exit ?_ | refine AR_code_exit ?_ | refine AR_inv_exit ?_ | refine AR_block_hit ?_
    | refine AR_block_pass (by decide) ?_ | refine AR_ret ?_ | refine AR_fall ?_
    | (refine AR_region ?_; simp only [go_sem, *, reduceIte, Nat.reduceEqDiff, Nat.reduceAdd, Nat.reduceLeDiff, Nat.reduceMul, Nat.reduceBEq, Nat.reduceLT, Nat.reduceSub, Int.reduceBEq, Int.reduceToNat, Int.reduceLE, Int.reduceEq])
    | refine ⟨by kernel_rfl, ?_⟩ | refine ⟨.inr (by kernel_rfl), ?_⟩ | refine ⟨⟨.inr (by kernel_rfl), by kernel_rfl⟩, ?_⟩ | refine ⟨⟨.inr (by kernel_rfl), by kernel_rfl, by kernel_rfl⟩, ?_⟩ | refine ⟨⟨.inr (by kernel_rfl), by kernel_rfl, by kernel_rfl, by kernel_rfl⟩, ?_⟩ | (refine ⟨?_, ?_⟩; focus ((repeat' (first | (refine And.intro ?_ ?_) | (refine Or.inr ?_))); all_goals kernel_rfl))
    | refine AR_cond_t rfl ?_ | refine AR_cond_f rfl ?_ | (refine AR_cond rfl (fun hc => ?_) (fun hc => ?_) <;> (try rw [beq_iff_eq] at hc) <;> (try simp only [hc]))
    | (refine guarded_split (fun hb => ?_) (fun hb => ?_) <;> (try simp only [Bool.not_true, Bool.not_false] at hb) <;> simp only [go_sem, *, reduceIte, Nat.reduceEqDiff, Nat.reduceAdd, Nat.reduceLeDiff, Nat.reduceMul, Nat.reduceBEq, Nat.reduceLT, Nat.reduceSub, Int.reduceBEq, Int.reduceToNat, Int.reduceLE, Int.reduceEq])
    | (refine AR_fin hrel (by first | exact hin _ | simp only [go_sem, and_self]) (by repeat (first | exact Agree.refl _ | assumption | refine Agree.new ?_ (hgf0 _ _) | refine Agree.new ?_ (hfr' _ _))) ?_; simp only [go_sem, *, reduceIte, Nat.reduceEqDiff, Nat.reduceAdd, Nat.reduceLeDiff, Nat.reduceMul, Nat.reduceBEq, Nat.reduceLT, Nat.reduceSub, Int.reduceBEq, Int.reduceToNat, Int.reduceLE, Int.reduceEq]))
  all_goals simp [*]

end Go.Proofs.YtoaiejpnenfpnaaDoor
