/-
  Walks: the law of bounded quantifiers.
-/
import Derived.Test.YtoaiejpnenfpnaaGreatDoorGt
set_option linter.unusedSimpArgs false
set_option linter.unusedVariables false
set_option maxRecDepth 20000
set_option maxHeartbeats 4000000
namespace Go.Proofs.YtoaiejpnenfpnaaGreatDoor
open Go GoAbs Go.Proofs

theorem c_ClassBounds (l : List Int) (all : Bool) : Pure Tryz.prog env 10 [.sl .any (ints l), .bool all] (.bool true) := by
  intro h
  have hF := c_Few l
  cases hf : decide ((l.length : Int) ≤ 500) with
  | false =>
    rw [hf] at hF
    clear hf
    refine ret_of_walk Tryz.func10 rfl (by kernel_rfl) follows (by kernel_rfl) ?_
    intro g0 w0 gen hrel hfr
    have hfr' := fresh_of hfr
    have hres : Tryz.f10.results.toList = [.tmp 4] := rfl
    repeat' (first
      | refine AR_seq ?_ | refine AR_skip ?_ | refine AR_block ?_ | refine AR_block_end ?_ | refine AR_exit ?_ | refine AR_code_exit ?_ | refine AR_inv_exit ?_ | refine AR_block_hit ?_
      | refine AR_block_pass (by decide) ?_ | refine AR_ret ?_ | refine AR_fall ?_
      | (refine ⟨?_, ?_⟩; focus ((repeat' (first | (refine And.intro ?_ ?_) | (refine Or.inr ?_))); all_goals kernel_rfl))
      | refine AR_cond_t rfl ?_ | refine AR_cond_f rfl ?_ | (refine AR_cond rfl (fun hc => ?_) (fun hc => ?_) <;> (try rw [beq_iff_eq] at hc) <;> (try simp only [hc]))
      | ((first | refine AR_region ?_ | (refine guarded_split (fun hb => ?_) (fun hb => ?_) <;> (try simp only [Bool.not_true, Bool.not_false] at hb)) | refine Call1_pure (hF) ?_ | refine Call1_pure (c_sane08) ?_ | refine AR_fin hrel (by first | exact hin _ | simp only [go_sem, and_self]) (by repeat (first | exact Agree.refl _ | assumption | refine Agree.new ?_ (hgf0 _ _) | refine Agree.new ?_ (hfr' _ _))) ?_) <;> simp only [go_sem, *, reduceIte, Nat.reduceEqDiff, Nat.reduceAdd, Nat.reduceLeDiff, Nat.reduceMul, Nat.reduceBEq, Nat.reduceLT, Nat.reduceSub, Int.reduceBEq, Int.reduceToNat, Int.reduceLE, Int.reduceEq]))
  | true =>
  rw [hf] at hF
  have hl : l.length ≤ 1000 := by simp at hf; omega
  clear hf
  obtain ⟨g, a0, hgm, hgl, hC⟩ := c_Context l hl 0
  have hgn := app_mk hgm (.nat (n := 1))
  obtain ⟨x, a1, mx, wx, hTx⟩ := c_Term l hl 2 g tNat a0 (mk_FH hgm) .nat (by rw [tyH_nat]; omega) (by rw [tyH_nat]; simp; omega) (by rw [tyH_nat]; omega)
  obtain ⟨f1, a2, m1, w1, hT1⟩ := c_Formula l hl 2 (by omega) (g ++ [tNat]) a1 (mk_FH hgn) (by simp; omega)
  have hr := nextD_range (l := l) (a := a2) (n := 2) (by omega) (by omega)
  have hX := c_Next l hl
  generalize hq : nextD l a2 2 = q at hr
  obtain ⟨c, a3⟩ := q
  have hc1 : (nextD l a2 2).1 = c := by rw [hq]
  have hc2 : (nextD l a2 2).2 = a3 := by rw [hq]
  simp only at hr
  obtain ⟨f2, a4, m2, w2, hT2⟩ := c_Decidable l hl 2 (by omega) (g ++ [tNat]) a3 hgn (by simp; omega)
  have p1 : FmG true f1 ∧ fmSz f1 ≤ 600 ∧ FmTy (g ++ [tNat]) f1 := ⟨m1.G (fun y hy => (hgn y hy).G (by omega)), by have := m1.sz (fun y hy => (hgn y hy).sz1); omega, m1.ty hgn⟩
  have p2 : FmG true f2 ∧ fmSz f2 ≤ 600 ∧ FmTy (g ++ [tNat]) f2 := ⟨(m2.all hgn (by simp; omega)).1, by have := (m2.all hgn (by simp; omega)).2.1; omega, m2.ty hgn (by simp; omega)⟩
  have hwk : weakLL (g.map Ty.cells ++ [tNat.cells]) = (g ++ [tNat]).map Ty.cells := by rw [← weakLL_Ty (g ++ [tNat])]; simp
  have b1 : g.length * 32 ≤ 140737488355328 := by omega
  have b2 : g.length ≤ 140737488355328 := by omega
  have b3 : (g.length + 1) * 32 ≤ 140737488355328 := by omega
  have b4 : g.length + 1 ≤ 140737488355328 := by omega
  have z : 0 + g.length = g.length := by omega
  have hN := c_New l
  have hall : (all == all) = true := by simp
  have key : ∀ f : Fm, FmW f → FmG true f ∧ fmSz f ≤ 600 ∧ FmTy (g ++ [tNat]) f → ∃ b : Fm, ∃ fd : Bool,
      Pure Tryz.prog env 55 [.bool all, .agg x.cells, .agg f.cells] (.tup [.agg b.cells, .int .i64 0]) ∧
      Pure Tryz.prog env 56 [.agg b.cells] (.tup [.bool all, .agg x.cells, .agg f.cells, .bool true]) ∧
      Pure Tryz.prog env 31 [.agg b.cells] (.tup [.bool fd, .int .i64 0]) ∧ Pure Tryz.prog env 31 [.agg f.cells] (.tup [.bool fd, .int .i64 0]) ∧
      Pure Tryz.prog env 30 [.agg b.cells] (.tup [.bool false, .int .i64 0]) ∧ Pure Tryz.prog env 40 [.agg x.cells, .agg x.cells] (.bool true) ∧
      Pure Tryz.prog env 22 [.agg f.cells, .agg f.cells] (.bool true) ∧ Pure Tryz.prog env 57 [.sl .any (g.map Ty.cells), .agg b.cells] (.int .i64 0) := by
    intro f wf ⟨gf, zf, tf⟩
    obtain ⟨e1, e2, e3, e4, e5, e6, e7, e8, e9, e10, e11⟩ := law_bounds (all := all) mx hgm hgl gf zf tf
    have wu := tmUp1_W x 0 wx
    have wb := bndF_W (all := all) wu wf
    have h1 := c_clsBounded all x wx e1 e2 e3 f wf gf (by omega)
    have h2 := c_clsBound all x e1 e2 e3 e4 f wf wb e5 wu
    have h3 := c_clsDecidable _ wb
    have h4 := c_clsDecidable f wf
    have h5 := c_Free _ wb
    have h6 := c_refTmSame x wx x wx
    have h7 := c_refFmSame f wf f wf
    rw [e6] at h3
    rw [e7] at h4
    rw [e8] at h5
    rw [Tm.same_refl] at h6
    rw [Fm.same_refl] at h7
    exact ⟨_, _, h1, h2, h3, h4, h5, h6, h7, c_fmTyped g (fun y hy => (hgm y hy).G (by omega)) (by omega) _ e9 e10 e11 wb⟩
  obtain ⟨bb1, fd1, k1⟩ := key f1 w1 p1
  obtain ⟨bb2, fd2, k2⟩ := key f2 w2 p2
  clear key p1 p2 hgm hgn mx wx m1 m2 w1 w2 hq hX
  obtain rfl | rfl : c = 0 ∨ c = 1 := by omega
  · obtain ⟨h1, h2, h3, h4, h5, h6, h7, h8⟩ := k2
    have hdd : (fd2 == fd2) = true := by simp
    clear k1 hr
    refine ret_of_walk Tryz.func10 rfl (by kernel_rfl) follows (by kernel_rfl) ?_
    intro g0 w0 gen hrel hfr
    have hfr' := fresh_of hfr
    have hres : Tryz.f10.results.toList = [.tmp 4] := rfl
    repeat' (first
      | refine AR_seq ?_ | refine AR_skip ?_ | refine AR_block ?_ | refine AR_block_end ?_ | refine AR_exit ?_ | refine AR_code_exit ?_ | refine AR_inv_exit ?_ | refine AR_block_hit ?_
      | refine AR_block_pass (by decide) ?_ | refine AR_ret ?_ | refine AR_fall ?_
      | (refine ⟨?_, ?_⟩; focus ((repeat' (first | (refine And.intro ?_ ?_) | (refine Or.inr ?_))); all_goals kernel_rfl))
      | refine AR_cond_t rfl ?_ | refine AR_cond_f rfl ?_ | (refine AR_cond rfl (fun hc => ?_) (fun hc => ?_) <;> (try rw [beq_iff_eq] at hc) <;> (try simp only [hc]))
      | ((first | refine AR_region ?_ | (refine guarded_split (fun hb => ?_) (fun hb => ?_) <;> (try simp only [Bool.not_true, Bool.not_false] at hb)) | refine Call1_pure (hF) ?_ | refine Call1_pure (c_sane08) ?_ | refine Call1_pure (c_refNat) ?_ | refine Call1_pure (h1) ?_ | refine Call1_pure (h2) ?_ | refine Call1_pure (h3) ?_ | refine Call1_pure (h4) ?_ | refine Call1_pure (h5) ?_ | refine Call1_pure (h6) ?_ | refine Call1_pure (h7) ?_ | refine Call1_pure (h8) ?_ | refine Call1_new ⟨gen, 1000, 0⟩ (hN) (by first | exact hfr' _ _ | simp only [go_sem, *, reduceIte, Nat.reduceEqDiff, Nat.reduceAdd, Nat.reduceLeDiff, Nat.reduceMul, Nat.reduceBEq, Nat.reduceLT, Nat.reduceSub, Int.reduceBEq, Int.reduceToNat, Int.reduceLE, Int.reduceEq]) ?_ | (refine Call1_turn (hC _) ?_ ?_; focus ((simp only [go_sem, *, reduceIte, Nat.reduceEqDiff, Nat.reduceAdd, Nat.reduceLeDiff, Nat.reduceMul, Nat.reduceBEq, Nat.reduceLT, Nat.reduceSub, Int.reduceBEq, Int.reduceToNat, Int.reduceLE, Int.reduceEq] <;> rfl); done)) | (refine Call1_turn (hTx _) ?_ ?_; focus ((simp only [go_sem, *, reduceIte, Nat.reduceEqDiff, Nat.reduceAdd, Nat.reduceLeDiff, Nat.reduceMul, Nat.reduceBEq, Nat.reduceLT, Nat.reduceSub, Int.reduceBEq, Int.reduceToNat, Int.reduceLE, Int.reduceEq] <;> rfl); done)) | (refine Call1_turn (hT1 _) ?_ ?_; focus ((simp only [go_sem, *, reduceIte, Nat.reduceEqDiff, Nat.reduceAdd, Nat.reduceLeDiff, Nat.reduceMul, Nat.reduceBEq, Nat.reduceLT, Nat.reduceSub, Int.reduceBEq, Int.reduceToNat, Int.reduceLE, Int.reduceEq] <;> rfl); done)) | (refine Call1_turn (hT2 _) ?_ ?_; focus ((simp only [go_sem, *, reduceIte, Nat.reduceEqDiff, Nat.reduceAdd, Nat.reduceLeDiff, Nat.reduceMul, Nat.reduceBEq, Nat.reduceLT, Nat.reduceSub, Int.reduceBEq, Int.reduceToNat, Int.reduceLE, Int.reduceEq] <;> rfl); done)) | refine Call1_turn (c_Next l hl _ _ _) (by simp only [go_sem, *, reduceIte, Nat.reduceEqDiff, Nat.reduceAdd, Nat.reduceLeDiff, Nat.reduceMul, Nat.reduceBEq, Nat.reduceLT, Nat.reduceSub, Int.reduceBEq, Int.reduceToNat, Int.reduceLE, Int.reduceEq] <;> rfl) ?_ | refine AR_fin hrel (by first | exact hin _ | simp only [go_sem, and_self]) (by repeat (first | exact Agree.refl _ | assumption | refine Agree.new ?_ (hgf0 _ _) | refine Agree.new ?_ (hfr' _ _))) ?_) <;> simp only [go_sem, *, reduceIte, Nat.reduceEqDiff, Nat.reduceAdd, Nat.reduceLeDiff, Nat.reduceMul, Nat.reduceBEq, Nat.reduceLT, Nat.reduceSub, Int.reduceBEq, Int.reduceToNat, Int.reduceLE, Int.reduceEq]))
  · obtain ⟨h1, h2, h3, h4, h5, h6, h7, h8⟩ := k1
    have hdd : (fd1 == fd1) = true := by simp
    clear k2 hr hT2
    refine ret_of_walk Tryz.func10 rfl (by kernel_rfl) follows (by kernel_rfl) ?_
    intro g0 w0 gen hrel hfr
    have hfr' := fresh_of hfr
    have hres : Tryz.f10.results.toList = [.tmp 4] := rfl
    repeat' (first
      | refine AR_seq ?_ | refine AR_skip ?_ | refine AR_block ?_ | refine AR_block_end ?_ | refine AR_exit ?_ | refine AR_code_exit ?_ | refine AR_inv_exit ?_ | refine AR_block_hit ?_
      | refine AR_block_pass (by decide) ?_ | refine AR_ret ?_ | refine AR_fall ?_
      | (refine ⟨?_, ?_⟩; focus ((repeat' (first | (refine And.intro ?_ ?_) | (refine Or.inr ?_))); all_goals kernel_rfl))
      | refine AR_cond_t rfl ?_ | refine AR_cond_f rfl ?_ | (refine AR_cond rfl (fun hc => ?_) (fun hc => ?_) <;> (try rw [beq_iff_eq] at hc) <;> (try simp only [hc]))
      | ((first | refine AR_region ?_ | (refine guarded_split (fun hb => ?_) (fun hb => ?_) <;> (try simp only [Bool.not_true, Bool.not_false] at hb)) | refine Call1_pure (hF) ?_ | refine Call1_pure (c_sane08) ?_ | refine Call1_pure (c_refNat) ?_ | refine Call1_pure (h1) ?_ | refine Call1_pure (h2) ?_ | refine Call1_pure (h3) ?_ | refine Call1_pure (h4) ?_ | refine Call1_pure (h5) ?_ | refine Call1_pure (h6) ?_ | refine Call1_pure (h7) ?_ | refine Call1_pure (h8) ?_ | refine Call1_new ⟨gen, 1000, 0⟩ (hN) (by first | exact hfr' _ _ | simp only [go_sem, *, reduceIte, Nat.reduceEqDiff, Nat.reduceAdd, Nat.reduceLeDiff, Nat.reduceMul, Nat.reduceBEq, Nat.reduceLT, Nat.reduceSub, Int.reduceBEq, Int.reduceToNat, Int.reduceLE, Int.reduceEq]) ?_ | (refine Call1_turn (hC _) ?_ ?_; focus ((simp only [go_sem, *, reduceIte, Nat.reduceEqDiff, Nat.reduceAdd, Nat.reduceLeDiff, Nat.reduceMul, Nat.reduceBEq, Nat.reduceLT, Nat.reduceSub, Int.reduceBEq, Int.reduceToNat, Int.reduceLE, Int.reduceEq] <;> rfl); done)) | (refine Call1_turn (hTx _) ?_ ?_; focus ((simp only [go_sem, *, reduceIte, Nat.reduceEqDiff, Nat.reduceAdd, Nat.reduceLeDiff, Nat.reduceMul, Nat.reduceBEq, Nat.reduceLT, Nat.reduceSub, Int.reduceBEq, Int.reduceToNat, Int.reduceLE, Int.reduceEq] <;> rfl); done)) | (refine Call1_turn (hT1 _) ?_ ?_; focus ((simp only [go_sem, *, reduceIte, Nat.reduceEqDiff, Nat.reduceAdd, Nat.reduceLeDiff, Nat.reduceMul, Nat.reduceBEq, Nat.reduceLT, Nat.reduceSub, Int.reduceBEq, Int.reduceToNat, Int.reduceLE, Int.reduceEq] <;> rfl); done)) | refine Call1_turn (c_Next l hl _ _ _) (by simp only [go_sem, *, reduceIte, Nat.reduceEqDiff, Nat.reduceAdd, Nat.reduceLeDiff, Nat.reduceMul, Nat.reduceBEq, Nat.reduceLT, Nat.reduceSub, Int.reduceBEq, Int.reduceToNat, Int.reduceLE, Int.reduceEq] <;> rfl) ?_ | refine AR_fin hrel (by first | exact hin _ | simp only [go_sem, and_self]) (by repeat (first | exact Agree.refl _ | assumption | refine Agree.new ?_ (hgf0 _ _) | refine Agree.new ?_ (hfr' _ _))) ?_) <;> simp only [go_sem, *, reduceIte, Nat.reduceEqDiff, Nat.reduceAdd, Nat.reduceLeDiff, Nat.reduceMul, Nat.reduceBEq, Nat.reduceLT, Nat.reduceSub, Int.reduceBEq, Int.reduceToNat, Int.reduceLE, Int.reduceEq]))
end Go.Proofs.YtoaiejpnenfpnaaGreatDoor
