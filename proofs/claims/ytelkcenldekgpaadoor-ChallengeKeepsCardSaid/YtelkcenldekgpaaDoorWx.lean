/-
  Walks: the sanity check of chapter 28; the law of negation.
-/
import Derived.Test.YtelkcenldekgpaaDoorWu
import Derived.Test.YtelkcenldekgpaaDoorWo
import Derived.Test.YtelkcenldekgpaaDoorAbsLA
set_option linter.unusedSimpArgs false
set_option linter.unusedVariables false
set_option maxRecDepth 20000
set_option maxHeartbeats 4000000
namespace Go.Proofs.YtelkcenldekgpaaDoor
open Go GoAbs Go.Proofs

def awF : Fm := fmQ 4 tNat (fmQ 5 tNat falseF)
theorem awF_W : FmW awF := fmQ_W tNat_W (fmQ_W tNat_W falseF_W)

theorem c_awake28 : Pure Tryd.prog env 7 [] (.bool true) := by
  intro h
  have z := tm0_W0 (k := 4)
  have e1 : awF.witness = (tFun tNat tNat, 0) := by kernel_rfl
  have e2 : awF.challenge = (tNat, 0) := by kernel_rfl
  have h0 := c_False
  have h1 := c_Witness awF awF_W
  have h2 := c_Challenge awF awF_W
  have e3 : chJoin tNat tNat (tm0 4 []) (tm0 4 []) = tm0 10 [tm0 4 [], tm0 4 []] := rfl
  have e4 : chJoin tNat tUnit (tm0 4 []) (tm0 13 []) = tm0 4 [] := rfl
  have h3 := c_Join tNat tNat (tm0 4 []) (tm0 4 [])
  have h4 := c_Join tNat tUnit (tm0 4 []) (tm0 13 [])
  have h5 := c_ref23Fun tNat tNat
  have h6 := c_refSame (tFun tNat tNat) (tFun_W tNat_W tNat_W) (tFun tNat tNat) (tFun_W tNat_W tNat_W)
  have h7 := c_Left tNat tNat (tm0 10 [tm0 4 [], tm0 4 []])
  have h8 := c_Right tNat tNat (tm0 10 [tm0 4 [], tm0 4 []])
  have h9 := c_Call tNat tNat (tm0 4 []) (tm0 4 [])
  have h10 := c_chPair tNat tUnit
  have h11 := c_chFun tNat tUnit
  have h12 := c_ref23Unit
  have e7 : chPart 11 tNat tNat (tm0 10 [tm0 4 [], tm0 4 []]) = tm0 11 [tm0 10 [tm0 4 [], tm0 4 []]] := rfl
  have e8 : chPart 12 tNat tNat (tm0 10 [tm0 4 [], tm0 4 []]) = tm0 12 [tm0 10 [tm0 4 [], tm0 4 []]] := rfl
  have e9 : chCall tNat tNat (tm0 4 []) (tm0 4 []) = tm0 3 [tm0 4 [], tm0 4 []] := rfl
  have e10 : chPair tNat tUnit = tNat := rfl
  have e11 : chFun tNat tUnit = tUnit := rfl
  rw [e1, tyErrV] at h1
  rw [e2, tyErrV] at h2
  rw [e3] at h3
  rw [e4] at h4
  rw [Ty.same_refl] at h6
  rw [e7] at h7
  rw [e8] at h8
  rw [e9] at h9
  rw [e10] at h10
  rw [e11] at h11
  simp only [awF, falseF, tNat, tUnit, tFun, tm0, fmQ, fmEq, Ty.mk_cells, Tm.mk_cells, Fm.mk_cells, Ty.mk_kind, Ty.mk_args, List.map_cons, List.map_nil] at h0 h1 h2 h3 h4 h5 h6 h7 h8 h9 h10 h11 h12
  clear e1 e2 e3 e4 e7 e8 e9 e10 e11 z
  refine ret_of_walk Tryd.func7 rfl (by kernel_rfl) follows (by kernel_rfl) ?_
  intro g0 w0 gen hrel hfr
  have hfr' := fresh_of hfr
  have hres : Tryd.f7.results.toList = [.tmp 0] := rfl
  repeat' (first
    | refine AR_seq ?_ | refine AR_skip ?_ | refine AR_block ?_ | refine AR_block_end ?_ | refine AR_exit ?_ | refine AR_code_exit ?_ | refine AR_inv_exit ?_ | refine AR_block_hit ?_
    | refine AR_block_pass (by decide) ?_ | refine AR_ret ?_
    | (refine AR_region ?_; simp only [go_sem, *, reduceIte, Nat.reduceEqDiff, Nat.reduceAdd, Nat.reduceLeDiff, Nat.reduceMul, Nat.reduceBEq, Nat.reduceLT, Nat.reduceSub, Int.reduceBEq, Int.reduceToNat, Int.reduceLE, Int.reduceEq])
    | refine ⟨by kernel_rfl, ?_⟩ | refine ⟨.inr (by kernel_rfl), ?_⟩ | refine ⟨⟨.inr (by kernel_rfl), by kernel_rfl⟩, ?_⟩ | refine ⟨⟨.inr (by kernel_rfl), by kernel_rfl, by kernel_rfl⟩, ?_⟩ | refine ⟨⟨.inr (by kernel_rfl), by kernel_rfl, by kernel_rfl, by kernel_rfl⟩, ?_⟩
    | refine AR_cond_t rfl ?_ | refine AR_cond_f rfl ?_ | (refine AR_cond rfl (fun hc => ?_) (fun hc => ?_) <;> (try rw [beq_iff_eq] at hc) <;> (try simp only [hc]))
    | (refine guarded_split (fun hb => ?_) (fun hb => ?_) <;> (try simp only [Bool.not_true, Bool.not_false] at hb) <;> simp only [go_sem, *, reduceIte, Nat.reduceEqDiff, Nat.reduceAdd, Nat.reduceLeDiff, Nat.reduceMul, Nat.reduceBEq, Nat.reduceLT, Nat.reduceSub, Int.reduceBEq, Int.reduceToNat, Int.reduceLE, Int.reduceEq])
    | (refine Call1_pure (h0) ?_; simp only [go_sem, *, reduceIte, Nat.reduceEqDiff, Nat.reduceAdd, Nat.reduceLeDiff, Nat.reduceMul, Nat.reduceBEq, Nat.reduceLT, Nat.reduceSub, Int.reduceBEq, Int.reduceToNat, Int.reduceLE, Int.reduceEq])
    | (refine Call1_pure (h1) ?_; simp only [go_sem, *, reduceIte, Nat.reduceEqDiff, Nat.reduceAdd, Nat.reduceLeDiff, Nat.reduceMul, Nat.reduceBEq, Nat.reduceLT, Nat.reduceSub, Int.reduceBEq, Int.reduceToNat, Int.reduceLE, Int.reduceEq])
    | (refine Call1_pure (h2) ?_; simp only [go_sem, *, reduceIte, Nat.reduceEqDiff, Nat.reduceAdd, Nat.reduceLeDiff, Nat.reduceMul, Nat.reduceBEq, Nat.reduceLT, Nat.reduceSub, Int.reduceBEq, Int.reduceToNat, Int.reduceLE, Int.reduceEq])
    | (refine Call1_pure (h3) ?_; simp only [go_sem, *, reduceIte, Nat.reduceEqDiff, Nat.reduceAdd, Nat.reduceLeDiff, Nat.reduceMul, Nat.reduceBEq, Nat.reduceLT, Nat.reduceSub, Int.reduceBEq, Int.reduceToNat, Int.reduceLE, Int.reduceEq])
    | (refine Call1_pure (h4) ?_; simp only [go_sem, *, reduceIte, Nat.reduceEqDiff, Nat.reduceAdd, Nat.reduceLeDiff, Nat.reduceMul, Nat.reduceBEq, Nat.reduceLT, Nat.reduceSub, Int.reduceBEq, Int.reduceToNat, Int.reduceLE, Int.reduceEq])
    | (refine Call1_pure (h5) ?_; simp only [go_sem, *, reduceIte, Nat.reduceEqDiff, Nat.reduceAdd, Nat.reduceLeDiff, Nat.reduceMul, Nat.reduceBEq, Nat.reduceLT, Nat.reduceSub, Int.reduceBEq, Int.reduceToNat, Int.reduceLE, Int.reduceEq])
    | (refine Call1_pure (h6) ?_; simp only [go_sem, *, reduceIte, Nat.reduceEqDiff, Nat.reduceAdd, Nat.reduceLeDiff, Nat.reduceMul, Nat.reduceBEq, Nat.reduceLT, Nat.reduceSub, Int.reduceBEq, Int.reduceToNat, Int.reduceLE, Int.reduceEq])
    | (refine Call1_pure (h7) ?_; simp only [go_sem, *, reduceIte, Nat.reduceEqDiff, Nat.reduceAdd, Nat.reduceLeDiff, Nat.reduceMul, Nat.reduceBEq, Nat.reduceLT, Nat.reduceSub, Int.reduceBEq, Int.reduceToNat, Int.reduceLE, Int.reduceEq])
    | (refine Call1_pure (h8) ?_; simp only [go_sem, *, reduceIte, Nat.reduceEqDiff, Nat.reduceAdd, Nat.reduceLeDiff, Nat.reduceMul, Nat.reduceBEq, Nat.reduceLT, Nat.reduceSub, Int.reduceBEq, Int.reduceToNat, Int.reduceLE, Int.reduceEq])
    | (refine Call1_pure (h9) ?_; simp only [go_sem, *, reduceIte, Nat.reduceEqDiff, Nat.reduceAdd, Nat.reduceLeDiff, Nat.reduceMul, Nat.reduceBEq, Nat.reduceLT, Nat.reduceSub, Int.reduceBEq, Int.reduceToNat, Int.reduceLE, Int.reduceEq])
    | (refine Call1_pure (h10) ?_; simp only [go_sem, *, reduceIte, Nat.reduceEqDiff, Nat.reduceAdd, Nat.reduceLeDiff, Nat.reduceMul, Nat.reduceBEq, Nat.reduceLT, Nat.reduceSub, Int.reduceBEq, Int.reduceToNat, Int.reduceLE, Int.reduceEq])
    | (refine Call1_pure (h11) ?_; simp only [go_sem, *, reduceIte, Nat.reduceEqDiff, Nat.reduceAdd, Nat.reduceLeDiff, Nat.reduceMul, Nat.reduceBEq, Nat.reduceLT, Nat.reduceSub, Int.reduceBEq, Int.reduceToNat, Int.reduceLE, Int.reduceEq])
    | (refine Call1_pure (h12) ?_; simp only [go_sem, *, reduceIte, Nat.reduceEqDiff, Nat.reduceAdd, Nat.reduceLeDiff, Nat.reduceMul, Nat.reduceBEq, Nat.reduceLT, Nat.reduceSub, Int.reduceBEq, Int.reduceToNat, Int.reduceLE, Int.reduceEq])
    | (refine AR_fin hrel (by first | exact hin _ | simp only [go_sem, and_self]) (by repeat (first | exact Agree.refl _ | assumption | refine Agree.new ?_ (hgf0 _ _) | refine Agree.new ?_ (hfr' _ _))) ?_; simp only [go_sem, *, reduceIte, Nat.reduceEqDiff, Nat.reduceAdd, Nat.reduceLeDiff, Nat.reduceMul, Nat.reduceBEq, Nat.reduceLT, Nat.reduceSub, Int.reduceBEq, Int.reduceToNat, Int.reduceLE, Int.reduceEq]))

theorem c_ChallengeNot (l : List Int) : Pure Tryd.prog env 6 [.sl .any (ints l)] (.bool true) := by
  intro h
  have hF := c_Few l
  cases hf : decide ((l.length : Int) ≤ 500) with
  | false =>
    rw [hf] at hF
    clear hf
    refine ret_of_walk Tryd.func6 rfl (by kernel_rfl) follows (by kernel_rfl) ?_
    intro g0 w0 gen hrel hfr
    have hfr' := fresh_of hfr
    have hres : Tryd.f6.results.toList = [.tmp 2] := rfl
    repeat' (first
      | refine AR_seq ?_ | refine AR_skip ?_ | refine AR_block ?_ | refine AR_block_end ?_ | refine AR_exit ?_ | refine AR_code_exit ?_ | refine AR_inv_exit ?_ | refine AR_block_hit ?_
      | refine AR_block_pass (by decide) ?_ | refine AR_ret ?_
      | (refine AR_region ?_; simp only [go_sem, *, reduceIte, Nat.reduceEqDiff, Nat.reduceAdd, Nat.reduceLeDiff, Nat.reduceMul, Nat.reduceBEq, Nat.reduceLT, Nat.reduceSub, Int.reduceBEq, Int.reduceToNat, Int.reduceLE, Int.reduceEq])
      | refine ⟨by kernel_rfl, ?_⟩ | refine ⟨.inr (by kernel_rfl), ?_⟩ | refine ⟨⟨.inr (by kernel_rfl), by kernel_rfl⟩, ?_⟩ | refine ⟨⟨.inr (by kernel_rfl), by kernel_rfl, by kernel_rfl⟩, ?_⟩ | refine ⟨⟨.inr (by kernel_rfl), by kernel_rfl, by kernel_rfl, by kernel_rfl⟩, ?_⟩
      | refine AR_cond_t rfl ?_ | refine AR_cond_f rfl ?_ | (refine AR_cond rfl (fun hc => ?_) (fun hc => ?_) <;> (try rw [beq_iff_eq] at hc) <;> (try simp only [hc]))
      | (refine guarded_split (fun hb => ?_) (fun hb => ?_) <;> (try simp only [Bool.not_true, Bool.not_false] at hb) <;> simp only [go_sem, *, reduceIte, Nat.reduceEqDiff, Nat.reduceAdd, Nat.reduceLeDiff, Nat.reduceMul, Nat.reduceBEq, Nat.reduceLT, Nat.reduceSub, Int.reduceBEq, Int.reduceToNat, Int.reduceLE, Int.reduceEq])
      | (refine Call1_pure (hF) ?_; simp only [go_sem, *, reduceIte, Nat.reduceEqDiff, Nat.reduceAdd, Nat.reduceLeDiff, Nat.reduceMul, Nat.reduceBEq, Nat.reduceLT, Nat.reduceSub, Int.reduceBEq, Int.reduceToNat, Int.reduceLE, Int.reduceEq])
      | (refine Call1_pure (c_awake28) ?_; simp only [go_sem, *, reduceIte, Nat.reduceEqDiff, Nat.reduceAdd, Nat.reduceLeDiff, Nat.reduceMul, Nat.reduceBEq, Nat.reduceLT, Nat.reduceSub, Int.reduceBEq, Int.reduceToNat, Int.reduceLE, Int.reduceEq])
      | (refine AR_fin hrel (by first | exact hin _ | simp only [go_sem, and_self]) (by repeat (first | exact Agree.refl _ | assumption | refine Agree.new ?_ (hgf0 _ _) | refine Agree.new ?_ (hfr' _ _))) ?_; simp only [go_sem, *, reduceIte, Nat.reduceEqDiff, Nat.reduceAdd, Nat.reduceLeDiff, Nat.reduceMul, Nat.reduceBEq, Nat.reduceLT, Nat.reduceSub, Int.reduceBEq, Int.reduceToNat, Int.reduceLE, Int.reduceEq]))
  | true =>
  rw [hf] at hF
  have hl : l.length ≤ 1000 := by simp at hf; omega
  obtain ⟨f, a1, hm, hw, hT⟩ := c_Pure l hl 3 (by omega) [] 0 (by simp) (by simp)
  have hG : FmG false f := hm.G (by simp)
  have hlaw := law_not hG
  have hE1 := hG.look0
  have hE2 := FmG.look0 (.two (.inr rfl) hG falseF_G : FmG false (fmTwo 3 f falseF))
  have hN := c_New l
  have hW2 : FmW (fmTwo 3 f falseF) := fmTwo_W hw falseF_W
  have h1 := c_Witness f hw
  have h2 := c_Challenge f hw
  have h3 := c_Witness _ hW2
  have h4 := c_Challenge _ hW2
  have h0 := c_False
  have hchW := Fm.look_W f hw
  have hchW2 := Fm.look_W _ hW2
  have h5 := c_chFun f.look.1.1 f.look.1.2
  have h6 := c_refSame (fmTwo 3 f falseF).look.1.1 hchW2.1 (chFun f.look.1.1 f.look.1.2) (chFun_W hchW.1 hchW.2)
  have h7 := c_refSame (fmTwo 3 f falseF).look.1.2 hchW2.2 f.look.1.1 hchW.1
  change Pure Tryd.prog env _ _ (.agg falseF.cells) at h0
  simp only [tyErrV, Fm.witness, Fm.challenge] at h1 h2 h3 h4
  generalize hu1 : f.look.1.1 = u1 at *
  generalize hu2 : f.look.1.2 = u2 at *
  generalize hu3 : f.look.2 = e1 at *
  generalize hu4 : (fmTwo 3 f falseF).look.1.1 = u4 at *
  generalize hu5 : (fmTwo 3 f falseF).look.1.2 = u5 at *
  generalize hu6 : (fmTwo 3 f falseF).look.2 = e2 at *
  rw [fmTwo, Fm.mk_cells] at h3 h4
  simp only [Ty.mk_kind, Ty.mk_args, List.map_cons, List.map_nil] at h3 h4 hT
  clear hu1 hu2 hu3 hu4 hu5 hu6 hm hw hG hW2 hchW hchW2 hf
  have n4 : ((4 : Int) != 0) = true := rfl
  have n0 : ((0 : Int) != 0) = false := rfl
  rcases hlaw with ⟨rfl, rfl, rfl, rfl⟩ | hlaw
  · rw [Ty.same_refl] at h6 h7
    refine ret_of_walk Tryd.func6 rfl (by kernel_rfl) follows (by kernel_rfl) ?_
    intro g0 w0 gen hrel hfr
    have hfr' := fresh_of hfr
    have hres : Tryd.f6.results.toList = [.tmp 2] := rfl
    repeat' (first
      | refine AR_seq ?_ | refine AR_skip ?_ | refine AR_block ?_ | refine AR_block_end ?_ | refine AR_exit ?_ | refine AR_code_exit ?_ | refine AR_inv_exit ?_ | refine AR_block_hit ?_
      | refine AR_block_pass (by decide) ?_ | refine AR_ret ?_
      | (refine AR_region ?_; simp only [go_sem, *, reduceIte, Nat.reduceEqDiff, Nat.reduceAdd, Nat.reduceLeDiff, Nat.reduceMul, Nat.reduceBEq, Nat.reduceLT, Nat.reduceSub, Int.reduceBEq, Int.reduceToNat, Int.reduceLE, Int.reduceEq])
      | refine ⟨by kernel_rfl, ?_⟩ | refine ⟨.inr (by kernel_rfl), ?_⟩ | refine ⟨⟨.inr (by kernel_rfl), by kernel_rfl⟩, ?_⟩ | refine ⟨⟨.inr (by kernel_rfl), by kernel_rfl, by kernel_rfl⟩, ?_⟩ | refine ⟨⟨.inr (by kernel_rfl), by kernel_rfl, by kernel_rfl, by kernel_rfl⟩, ?_⟩
      | refine AR_cond_t rfl ?_ | refine AR_cond_f rfl ?_ | (refine AR_cond rfl (fun hc => ?_) (fun hc => ?_) <;> (try rw [beq_iff_eq] at hc) <;> (try simp only [hc]))
      | (refine guarded_split (fun hb => ?_) (fun hb => ?_) <;> (try simp only [Bool.not_true, Bool.not_false] at hb) <;> simp only [go_sem, *, reduceIte, Nat.reduceEqDiff, Nat.reduceAdd, Nat.reduceLeDiff, Nat.reduceMul, Nat.reduceBEq, Nat.reduceLT, Nat.reduceSub, Int.reduceBEq, Int.reduceToNat, Int.reduceLE, Int.reduceEq])
      | (refine Call1_pure (hF) ?_; simp only [go_sem, *, reduceIte, Nat.reduceEqDiff, Nat.reduceAdd, Nat.reduceLeDiff, Nat.reduceMul, Nat.reduceBEq, Nat.reduceLT, Nat.reduceSub, Int.reduceBEq, Int.reduceToNat, Int.reduceLE, Int.reduceEq])
      | (refine Call1_pure (c_awake28) ?_; simp only [go_sem, *, reduceIte, Nat.reduceEqDiff, Nat.reduceAdd, Nat.reduceLeDiff, Nat.reduceMul, Nat.reduceBEq, Nat.reduceLT, Nat.reduceSub, Int.reduceBEq, Int.reduceToNat, Int.reduceLE, Int.reduceEq])
      | (refine Call1_pure (h0) ?_; simp only [go_sem, *, reduceIte, Nat.reduceEqDiff, Nat.reduceAdd, Nat.reduceLeDiff, Nat.reduceMul, Nat.reduceBEq, Nat.reduceLT, Nat.reduceSub, Int.reduceBEq, Int.reduceToNat, Int.reduceLE, Int.reduceEq])
      | (refine Call1_pure (h1) ?_; simp only [go_sem, *, reduceIte, Nat.reduceEqDiff, Nat.reduceAdd, Nat.reduceLeDiff, Nat.reduceMul, Nat.reduceBEq, Nat.reduceLT, Nat.reduceSub, Int.reduceBEq, Int.reduceToNat, Int.reduceLE, Int.reduceEq])
      | (refine Call1_pure (h2) ?_; simp only [go_sem, *, reduceIte, Nat.reduceEqDiff, Nat.reduceAdd, Nat.reduceLeDiff, Nat.reduceMul, Nat.reduceBEq, Nat.reduceLT, Nat.reduceSub, Int.reduceBEq, Int.reduceToNat, Int.reduceLE, Int.reduceEq])
      | (refine Call1_pure (h3) ?_; simp only [go_sem, *, reduceIte, Nat.reduceEqDiff, Nat.reduceAdd, Nat.reduceLeDiff, Nat.reduceMul, Nat.reduceBEq, Nat.reduceLT, Nat.reduceSub, Int.reduceBEq, Int.reduceToNat, Int.reduceLE, Int.reduceEq])
      | (refine Call1_pure (h4) ?_; simp only [go_sem, *, reduceIte, Nat.reduceEqDiff, Nat.reduceAdd, Nat.reduceLeDiff, Nat.reduceMul, Nat.reduceBEq, Nat.reduceLT, Nat.reduceSub, Int.reduceBEq, Int.reduceToNat, Int.reduceLE, Int.reduceEq])
      | (refine Call1_pure (h5) ?_; simp only [go_sem, *, reduceIte, Nat.reduceEqDiff, Nat.reduceAdd, Nat.reduceLeDiff, Nat.reduceMul, Nat.reduceBEq, Nat.reduceLT, Nat.reduceSub, Int.reduceBEq, Int.reduceToNat, Int.reduceLE, Int.reduceEq])
      | (refine Call1_pure (h6) ?_; simp only [go_sem, *, reduceIte, Nat.reduceEqDiff, Nat.reduceAdd, Nat.reduceLeDiff, Nat.reduceMul, Nat.reduceBEq, Nat.reduceLT, Nat.reduceSub, Int.reduceBEq, Int.reduceToNat, Int.reduceLE, Int.reduceEq])
      | (refine Call1_pure (h7) ?_; simp only [go_sem, *, reduceIte, Nat.reduceEqDiff, Nat.reduceAdd, Nat.reduceLeDiff, Nat.reduceMul, Nat.reduceBEq, Nat.reduceLT, Nat.reduceSub, Int.reduceBEq, Int.reduceToNat, Int.reduceLE, Int.reduceEq])
      | (refine Call1_new ⟨gen, 1000, 0⟩ (hN) (by first | exact hfr' _ _ | simp only [go_sem, *, reduceIte, Nat.reduceEqDiff, Nat.reduceAdd, Nat.reduceLeDiff, Nat.reduceMul, Nat.reduceBEq, Nat.reduceLT, Nat.reduceSub, Int.reduceBEq, Int.reduceToNat, Int.reduceLE, Int.reduceEq]) ?_; simp only [go_sem, *, reduceIte, Nat.reduceEqDiff, Nat.reduceAdd, Nat.reduceLeDiff, Nat.reduceMul, Nat.reduceBEq, Nat.reduceLT, Nat.reduceSub, Int.reduceBEq, Int.reduceToNat, Int.reduceLE, Int.reduceEq])
      | (refine Call1_turn (hT _) ?_ ?_; (focus ((simp only [go_sem, *, reduceIte, Nat.reduceEqDiff, Nat.reduceAdd, Nat.reduceLeDiff, Nat.reduceMul, Nat.reduceBEq, Nat.reduceLT, Nat.reduceSub, Int.reduceBEq, Int.reduceToNat, Int.reduceLE, Int.reduceEq] <;> rfl); done)); simp only [go_sem, *, reduceIte, Nat.reduceEqDiff, Nat.reduceAdd, Nat.reduceLeDiff, Nat.reduceMul, Nat.reduceBEq, Nat.reduceLT, Nat.reduceSub, Int.reduceBEq, Int.reduceToNat, Int.reduceLE, Int.reduceEq])
      | (refine AR_fin hrel (by first | exact hin _ | simp only [go_sem, and_self]) (by repeat (first | exact Agree.refl _ | assumption | refine Agree.new ?_ (hgf0 _ _) | refine Agree.new ?_ (hfr' _ _))) ?_; simp only [go_sem, *, reduceIte, Nat.reduceEqDiff, Nat.reduceAdd, Nat.reduceLeDiff, Nat.reduceMul, Nat.reduceBEq, Nat.reduceLT, Nat.reduceSub, Int.reduceBEq, Int.reduceToNat, Int.reduceLE, Int.reduceEq]))
  · have hl4 : Pure Tryd.prog env 24 [.int .i64 4] (.bool true) := c_limits 4
    have hl0 : Pure Tryd.prog env 24 [.int .i64 0] (.bool false) := c_limits 0
    rcases hE1 with rfl | rfl <;> rcases hE2 with rfl | rfl
    · simp at hlaw
    all_goals
      clear hlaw
      refine ret_of_walk Tryd.func6 rfl (by kernel_rfl) follows (by kernel_rfl) ?_
      intro g0 w0 gen hrel hfr
      have hfr' := fresh_of hfr
      have hres : Tryd.f6.results.toList = [.tmp 2] := rfl
      repeat' (first
        | refine AR_seq ?_ | refine AR_skip ?_ | refine AR_block ?_ | refine AR_block_end ?_ | refine AR_exit ?_ | refine AR_code_exit ?_ | refine AR_inv_exit ?_ | refine AR_block_hit ?_
        | refine AR_block_pass (by decide) ?_ | refine AR_ret ?_
        | (refine AR_region ?_; simp only [go_sem, *, reduceIte, Nat.reduceEqDiff, Nat.reduceAdd, Nat.reduceLeDiff, Nat.reduceMul, Nat.reduceBEq, Nat.reduceLT, Nat.reduceSub, Int.reduceBEq, Int.reduceToNat, Int.reduceLE, Int.reduceEq])
        | refine ⟨by kernel_rfl, ?_⟩ | refine ⟨.inr (by kernel_rfl), ?_⟩ | refine ⟨⟨.inr (by kernel_rfl), by kernel_rfl⟩, ?_⟩ | refine ⟨⟨.inr (by kernel_rfl), by kernel_rfl, by kernel_rfl⟩, ?_⟩ | refine ⟨⟨.inr (by kernel_rfl), by kernel_rfl, by kernel_rfl, by kernel_rfl⟩, ?_⟩
        | refine AR_cond_t rfl ?_ | refine AR_cond_f rfl ?_ | (refine AR_cond rfl (fun hc => ?_) (fun hc => ?_) <;> (try rw [beq_iff_eq] at hc) <;> (try simp only [hc]))
        | (refine guarded_split (fun hb => ?_) (fun hb => ?_) <;> (try simp only [Bool.not_true, Bool.not_false] at hb) <;> simp only [go_sem, *, reduceIte, Nat.reduceEqDiff, Nat.reduceAdd, Nat.reduceLeDiff, Nat.reduceMul, Nat.reduceBEq, Nat.reduceLT, Nat.reduceSub, Int.reduceBEq, Int.reduceToNat, Int.reduceLE, Int.reduceEq])
        | (refine Call1_pure (hF) ?_; simp only [go_sem, *, reduceIte, Nat.reduceEqDiff, Nat.reduceAdd, Nat.reduceLeDiff, Nat.reduceMul, Nat.reduceBEq, Nat.reduceLT, Nat.reduceSub, Int.reduceBEq, Int.reduceToNat, Int.reduceLE, Int.reduceEq])
        | (refine Call1_pure (c_awake28) ?_; simp only [go_sem, *, reduceIte, Nat.reduceEqDiff, Nat.reduceAdd, Nat.reduceLeDiff, Nat.reduceMul, Nat.reduceBEq, Nat.reduceLT, Nat.reduceSub, Int.reduceBEq, Int.reduceToNat, Int.reduceLE, Int.reduceEq])
        | (refine Call1_pure (hl4) ?_; simp only [go_sem, *, reduceIte, Nat.reduceEqDiff, Nat.reduceAdd, Nat.reduceLeDiff, Nat.reduceMul, Nat.reduceBEq, Nat.reduceLT, Nat.reduceSub, Int.reduceBEq, Int.reduceToNat, Int.reduceLE, Int.reduceEq])
        | (refine Call1_pure (hl0) ?_; simp only [go_sem, *, reduceIte, Nat.reduceEqDiff, Nat.reduceAdd, Nat.reduceLeDiff, Nat.reduceMul, Nat.reduceBEq, Nat.reduceLT, Nat.reduceSub, Int.reduceBEq, Int.reduceToNat, Int.reduceLE, Int.reduceEq])
        | (refine Call1_pure (h0) ?_; simp only [go_sem, *, reduceIte, Nat.reduceEqDiff, Nat.reduceAdd, Nat.reduceLeDiff, Nat.reduceMul, Nat.reduceBEq, Nat.reduceLT, Nat.reduceSub, Int.reduceBEq, Int.reduceToNat, Int.reduceLE, Int.reduceEq])
        | (refine Call1_pure (h1) ?_; simp only [go_sem, *, reduceIte, Nat.reduceEqDiff, Nat.reduceAdd, Nat.reduceLeDiff, Nat.reduceMul, Nat.reduceBEq, Nat.reduceLT, Nat.reduceSub, Int.reduceBEq, Int.reduceToNat, Int.reduceLE, Int.reduceEq])
        | (refine Call1_pure (h2) ?_; simp only [go_sem, *, reduceIte, Nat.reduceEqDiff, Nat.reduceAdd, Nat.reduceLeDiff, Nat.reduceMul, Nat.reduceBEq, Nat.reduceLT, Nat.reduceSub, Int.reduceBEq, Int.reduceToNat, Int.reduceLE, Int.reduceEq])
        | (refine Call1_pure (h3) ?_; simp only [go_sem, *, reduceIte, Nat.reduceEqDiff, Nat.reduceAdd, Nat.reduceLeDiff, Nat.reduceMul, Nat.reduceBEq, Nat.reduceLT, Nat.reduceSub, Int.reduceBEq, Int.reduceToNat, Int.reduceLE, Int.reduceEq])
        | (refine Call1_pure (h4) ?_; simp only [go_sem, *, reduceIte, Nat.reduceEqDiff, Nat.reduceAdd, Nat.reduceLeDiff, Nat.reduceMul, Nat.reduceBEq, Nat.reduceLT, Nat.reduceSub, Int.reduceBEq, Int.reduceToNat, Int.reduceLE, Int.reduceEq])
        | (refine Call1_pure (h5) ?_; simp only [go_sem, *, reduceIte, Nat.reduceEqDiff, Nat.reduceAdd, Nat.reduceLeDiff, Nat.reduceMul, Nat.reduceBEq, Nat.reduceLT, Nat.reduceSub, Int.reduceBEq, Int.reduceToNat, Int.reduceLE, Int.reduceEq])
        | (refine Call1_pure (h6) ?_; simp only [go_sem, *, reduceIte, Nat.reduceEqDiff, Nat.reduceAdd, Nat.reduceLeDiff, Nat.reduceMul, Nat.reduceBEq, Nat.reduceLT, Nat.reduceSub, Int.reduceBEq, Int.reduceToNat, Int.reduceLE, Int.reduceEq])
        | (refine Call1_pure (h7) ?_; simp only [go_sem, *, reduceIte, Nat.reduceEqDiff, Nat.reduceAdd, Nat.reduceLeDiff, Nat.reduceMul, Nat.reduceBEq, Nat.reduceLT, Nat.reduceSub, Int.reduceBEq, Int.reduceToNat, Int.reduceLE, Int.reduceEq])
        | (refine Call1_new ⟨gen, 1000, 0⟩ (hN) (by first | exact hfr' _ _ | simp only [go_sem, *, reduceIte, Nat.reduceEqDiff, Nat.reduceAdd, Nat.reduceLeDiff, Nat.reduceMul, Nat.reduceBEq, Nat.reduceLT, Nat.reduceSub, Int.reduceBEq, Int.reduceToNat, Int.reduceLE, Int.reduceEq]) ?_; simp only [go_sem, *, reduceIte, Nat.reduceEqDiff, Nat.reduceAdd, Nat.reduceLeDiff, Nat.reduceMul, Nat.reduceBEq, Nat.reduceLT, Nat.reduceSub, Int.reduceBEq, Int.reduceToNat, Int.reduceLE, Int.reduceEq])
        | (refine Call1_turn (hT _) ?_ ?_; (focus ((simp only [go_sem, *, reduceIte, Nat.reduceEqDiff, Nat.reduceAdd, Nat.reduceLeDiff, Nat.reduceMul, Nat.reduceBEq, Nat.reduceLT, Nat.reduceSub, Int.reduceBEq, Int.reduceToNat, Int.reduceLE, Int.reduceEq] <;> rfl); done)); simp only [go_sem, *, reduceIte, Nat.reduceEqDiff, Nat.reduceAdd, Nat.reduceLeDiff, Nat.reduceMul, Nat.reduceBEq, Nat.reduceLT, Nat.reduceSub, Int.reduceBEq, Int.reduceToNat, Int.reduceLE, Int.reduceEq])
        | (refine AR_fin hrel (by first | exact hin _ | simp only [go_sem, and_self]) (by repeat (first | exact Agree.refl _ | assumption | refine Agree.new ?_ (hgf0 _ _) | refine Agree.new ?_ (hfr' _ _))) ?_; simp only [go_sem, *, reduceIte, Nat.reduceEqDiff, Nat.reduceAdd, Nat.reduceLeDiff, Nat.reduceMul, Nat.reduceBEq, Nat.reduceLT, Nat.reduceSub, Int.reduceBEq, Int.reduceToNat, Int.reduceLE, Int.reduceEq]))
end Go.Proofs.YtelkcenldekgpaaDoor
