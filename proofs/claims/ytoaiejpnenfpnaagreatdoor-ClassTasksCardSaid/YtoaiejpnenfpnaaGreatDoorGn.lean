/-
  Walks: the law of tasks.
-/
import Derived.Test.YtoaiejpnenfpnaaGreatDoorGh
import Derived.Test.YtoaiejpnenfpnaaGreatDoorGi
import Derived.Test.YtoaiejpnenfpnaaGreatDoorGl
import Derived.Test.YtoaiejpnenfpnaaGreatDoorGm
set_option linter.unusedSimpArgs false
set_option linter.unusedVariables false
set_option maxRecDepth 20000
set_option maxHeartbeats 4000000
namespace Go.Proofs.YtoaiejpnenfpnaaGreatDoor
open Go GoAbs Go.Proofs

theorem c_Universal (f : Fm) (hf : FmW f) (he : fmErr f = 0) (hs : fmSz f ≤ 1000000) :
    Pure Tryz.prog env 23 [.agg f.cells] (.tup [.sl .any (f.univ.1.map Ty.cells), .agg f.univ.2.cells, .int .i64 0]) := by
  intro h
  have hC := c_fmCheck f hf
  rw [he] at hC
  have he' : (fmErr f != 0) = false := by rw [he]; rfl
  have hU := c_universal f hf (Fm.ok_good he') hs
  have hO := c_OwnFormula f.univ.2 (univ_good f hf (Fm.ok_good he')).1
  have n0 : ((0 : Int) != 0) = false := rfl
  clear hf he he' hs
  generalize f.univ = p at *
  refine ret_of_walk Tryz.func23 rfl (by kernel_rfl) follows (by kernel_rfl) ?_
  intro g0 w0 gen hrel hfr
  have hfr' := fresh_of hfr
  have hres : Tryz.f23.results.toList = [.tmp 2, .cell 3 35, .tmp 4] := rfl
  repeat' (first
    | refine AR_seq ?_ | refine AR_skip ?_ | refine AR_block ?_ | refine AR_block_end ?_ | refine AR_exit ?_ | refine AR_code_exit ?_ | refine AR_inv_exit ?_ | refine AR_block_hit ?_
    | refine AR_block_pass (by decide) ?_ | refine AR_ret ?_ | refine AR_fall ?_
    | (refine ⟨?_, ?_⟩; focus ((repeat' (first | (refine And.intro ?_ ?_) | (refine Or.inr ?_))); all_goals kernel_rfl))
    | refine AR_cond_t rfl ?_ | refine AR_cond_f rfl ?_ | (refine AR_cond rfl (fun hc => ?_) (fun hc => ?_) <;> (try rw [beq_iff_eq] at hc) <;> (try simp only [hc]))
    | ((first | refine AR_region ?_ | (refine guarded_split (fun hb => ?_) (fun hb => ?_) <;> (try simp only [Bool.not_true, Bool.not_false] at hb)) | refine Call1_pure (hC) ?_ | refine Call1_pure (hU) ?_ | refine Call1_pure (hO) ?_ | refine AR_fin hrel (by first | exact hin _ | simp only [go_sem, and_self]) (by repeat (first | exact Agree.refl _ | assumption | refine Agree.new ?_ (hgf0 _ _) | refine Agree.new ?_ (hfr' _ _))) ?_) <;> simp only [go_sem, *, reduceIte, Nat.reduceEqDiff, Nat.reduceAdd, Nat.reduceLeDiff, Nat.reduceMul, Nat.reduceBEq, Nat.reduceLT, Nat.reduceSub, Int.reduceBEq, Int.reduceToNat, Int.reduceLE, Int.reduceEq]))

theorem c_ClassTasks (l : List Int) : Pure Tryz.prog env 3 [.sl .any (ints l)] (.bool true) := by
  intro h
  have hF := c_Few l
  cases hf : decide ((l.length : Int) ≤ 500) with
  | false =>
    rw [hf] at hF
    clear hf
    refine ret_of_walk Tryz.func3 rfl (by kernel_rfl) follows (by kernel_rfl) ?_
    intro g0 w0 gen hrel hfr
    have hfr' := fresh_of hfr
    have hres : Tryz.f3.results.toList = [.tmp 2] := rfl
    repeat' (first
      | refine AR_seq ?_ | refine AR_skip ?_ | refine AR_block ?_ | refine AR_block_end ?_ | refine AR_exit ?_ | refine AR_code_exit ?_ | refine AR_inv_exit ?_ | refine AR_block_hit ?_
      | refine AR_block_pass (by decide) ?_ | refine AR_ret ?_ | refine AR_fall ?_
      | (refine ⟨?_, ?_⟩; focus ((repeat' (first | (refine And.intro ?_ ?_) | (refine Or.inr ?_))); all_goals kernel_rfl))
      | refine AR_cond_t rfl ?_ | refine AR_cond_f rfl ?_ | (refine AR_cond rfl (fun hc => ?_) (fun hc => ?_) <;> (try rw [beq_iff_eq] at hc) <;> (try simp only [hc]))
      | ((first | refine AR_region ?_ | (refine guarded_split (fun hb => ?_) (fun hb => ?_) <;> (try simp only [Bool.not_true, Bool.not_false] at hb)) | refine Call1_pure (hF) ?_ | refine Call1_pure (c_sane08) ?_ | refine AR_fin hrel (by first | exact hin _ | simp only [go_sem, and_self]) (by repeat (first | exact Agree.refl _ | assumption | refine Agree.new ?_ (hgf0 _ _) | refine Agree.new ?_ (hfr' _ _))) ?_) <;> simp only [go_sem, *, reduceIte, Nat.reduceEqDiff, Nat.reduceAdd, Nat.reduceLeDiff, Nat.reduceMul, Nat.reduceBEq, Nat.reduceLT, Nat.reduceSub, Int.reduceBEq, Int.reduceToNat, Int.reduceLE, Int.reduceEq]))
  | true =>
  rw [hf] at hF
  have hl : l.length ≤ 1000 := by simp at hf; omega
  obtain ⟨g, a0, hgm, hgl, hC⟩ := c_Context l hl 0
  have ms := mkType_Mk (l := l) 1 a0
  have hTs := fun d => c_Type l hl d 1 (by omega) a0
  generalize mkType l 1 a0 = q at ms hTs
  obtain ⟨s, a1⟩ := q
  simp only at ms hTs
  have hgn := app_mk hgm ms
  obtain ⟨b, a2, mb, wb, hTb⟩ := c_Decidable l hl 2 (by omega) (g ++ [s]) a1 hgn (by simp; omega)
  obtain ⟨gb, zb, db⟩ := mb.all hgn (by simp; omega)
  have hgG : ∀ y ∈ g, TyG y := fun y hy => (hgm y hy).G (by omega)
  have hgW : ∀ y ∈ g, TyW y := fun y hy => (hgm y hy).F.W
  have ws := ms.F.W
  obtain ⟨e1, e2, e3, e4⟩ := law_tasks hgG hgl (ms.G (by omega)) gb (by omega) db
  have wq := fmQ_W (k := 5) ws wb
  have wf := allF_W hgW wq
  have zf : fmSz (allF g (fmQ 5 s b)) ≤ 2000 := by rw [allF_sz, fmSz_q]; omega
  have h1 := c_Task _ wf (by omega)
  have h2 := c_Universal _ wf e3 (by omega)
  have h3 := c_Task _ (fmTwo_W (k := 2) wf wf) (by rw [fmSz_two]; omega)
  have h4 := c_fmTwo 2 _ _ wf wf
  have h5 := c_fmQ 5 s b ws wb
  rw [e1] at h1
  rw [e2] at h2
  rw [e4] at h3
  unfold taskV at h1 h3
  have h6 := c_refTySameAll g g (by omega) (by omega) hgW hgW
  have h7 := c_refSame s ws s ws
  have h8 := c_refFmSame b wb b wb
  have h9 := c_refFmSame _ wq _ wq
  rw [Ty.sameL_refl] at h6
  rw [Ty.same_refl] at h7
  rw [Fm.same_refl] at h8 h9
  have hst := fun (j : Nat) (x : Ty) (hx : g[j]? = some x) => allF_step (f := fmQ 5 s b) hx
  have hQ := fun (j : Nat) (x : Ty) (hx : g[j]? = some x) => c_fmQ 4 x (allF (g.drop (j + 1)) (fmQ 5 s b)) (hgW x (List.mem_of_getElem? hx)) (allF_W (fun y hy => hgW y (List.mem_of_mem_drop hy)) wq)
  have hd0 : allF (g.drop (g.length - 0)) (fmQ 5 s b) = fmQ 5 s b := by simp [allF]
  have hdn : allF (g.drop (g.length - g.length)) (fmQ 5 s b) = allF g (fmQ 5 s b) := by simp
  have hwk : weakLL (g.map Ty.cells ++ [s.cells]) = (g ++ [s]).map Ty.cells := by rw [← weakLL_Ty (g ++ [s])]; simp
  have b1 : g.length * 32 ≤ 140737488355328 := by omega
  have b2 : g.length ≤ 140737488355328 := by omega
  have b3 : (g.length + 1) * 32 ≤ 140737488355328 := by omega
  have b4 : g.length + 1 ≤ 140737488355328 := by omega
  have z : 0 + g.length = g.length := by omega
  have hw0 : IntKind.i64.wrap ((g.length : Int) - 1) = (g.length : Int) - 1 := wrap_eq rfl (by omega) (by omega)
  clear e1 e2 e3 e4 hgm hgn hgG hgW mb gb zb db ms hf wf zf wq wb
  generalize hfn : allF g (fmQ 5 s b) = fn at *
  clear hfn
  generalize fmTwo 2 fn fn = f2 at *
  generalize fmQ 5 s b = q5 at *
  have hN := c_New l
  refine ret_of_walk Tryz.func3 rfl (by kernel_rfl) follows (by kernel_rfl) ?_
  intro g0 w0 gen hrel hfr
  have hfr' := fresh_of hfr
  have hres : Tryz.f3.results.toList = [.tmp 2] := rfl
  repeat' (first
    | refine AR_seq ?_ | refine AR_skip ?_ | refine AR_block ?_ | refine AR_block_end ?_ | refine AR_exit ?_ | refine AR_code_exit ?_ | refine AR_inv_exit ?_ | refine AR_block_hit ?_
    | refine AR_block_pass (by decide) ?_ | refine AR_ret ?_ | refine AR_fall ?_
    | (refine ⟨?_, ?_⟩; focus ((repeat' (first | (refine And.intro ?_ ?_) | (refine Or.inr ?_))); all_goals kernel_rfl))
    | refine AR_cond_t rfl ?_ | refine AR_cond_f rfl ?_ | (refine AR_cond rfl (fun hc => ?_) (fun hc => ?_) <;> (try rw [beq_iff_eq] at hc) <;> (try simp only [hc]))
    | ((first | refine AR_region ?_ | (refine guarded_split (fun hb => ?_) (fun hb => ?_) <;> (try simp only [Bool.not_true, Bool.not_false] at hb)) | refine Call1_pure (hF) ?_ | refine Call1_pure (c_sane08) ?_ | refine Call1_pure (h5) ?_ | refine Call1_new ⟨gen, 1000, 0⟩ (hN) (by first | exact hfr' _ _ | simp only [go_sem, *, reduceIte, Nat.reduceEqDiff, Nat.reduceAdd, Nat.reduceLeDiff, Nat.reduceMul, Nat.reduceBEq, Nat.reduceLT, Nat.reduceSub, Int.reduceBEq, Int.reduceToNat, Int.reduceLE, Int.reduceEq]) ?_ | (refine Call1_turn (hC _) ?_ ?_; focus ((simp only [go_sem, *, reduceIte, Nat.reduceEqDiff, Nat.reduceAdd, Nat.reduceLeDiff, Nat.reduceMul, Nat.reduceBEq, Nat.reduceLT, Nat.reduceSub, Int.reduceBEq, Int.reduceToNat, Int.reduceLE, Int.reduceEq] <;> rfl); done)) | (refine Call1_turn (hTs _) ?_ ?_; focus ((simp only [go_sem, *, reduceIte, Nat.reduceEqDiff, Nat.reduceAdd, Nat.reduceLeDiff, Nat.reduceMul, Nat.reduceBEq, Nat.reduceLT, Nat.reduceSub, Int.reduceBEq, Int.reduceToNat, Int.reduceLE, Int.reduceEq] <;> rfl); done)) | (refine Call1_turn (hTb _) ?_ ?_; focus ((simp only [go_sem, *, reduceIte, Nat.reduceEqDiff, Nat.reduceAdd, Nat.reduceLeDiff, Nat.reduceMul, Nat.reduceBEq, Nat.reduceLT, Nat.reduceSub, Int.reduceBEq, Int.reduceToNat, Int.reduceLE, Int.reduceEq] <;> rfl); done))) <;> simp only [go_sem, *, reduceIte, Nat.reduceEqDiff, Nat.reduceAdd, Nat.reduceLeDiff, Nat.reduceMul, Nat.reduceBEq, Nat.reduceLT, Nat.reduceSub, Int.reduceBEq, Int.reduceToNat, Int.reduceLE, Int.reduceEq]))
  refine AR_loop_nat (fun i σ => σ.tm 8 = .int .i64 ((g.length : Int) - 1 - i) ∧ σ.tm 4 = .sl .any (g.map Ty.cells) ∧ σ.tm 5 = .ptr ⟨gen, 7, 2⟩ 0 ∧ σ.tm 6 = .ptr ⟨gen, 8, 7⟩ 0 ∧ σ.tm 7 = .ptr ⟨gen, 9, 3⟩ 0 ∧
    σ.h ⟨gen, 7, 2⟩ = some (.box s.cells) ∧ σ.h ⟨gen, 8, 7⟩ = some (.box b.cells) ∧ σ.h ⟨gen, 9, 3⟩ = some (.box (allF (g.drop (g.length - i)) q5).cells) ∧ Agree h σ.h) g.length ?_ ?_
  · simp only [go_sem, *, reduceIte, Nat.reduceEqDiff, Nat.reduceAdd, Nat.reduceLeDiff, Nat.reduceMul, Nat.reduceBEq, Nat.reduceLT, Nat.reduceSub, Int.reduceBEq, Int.reduceToNat, Int.reduceLE, Int.reduceEq]
    refine ⟨by simp, ?_⟩
    exact (by repeat (first | exact Agree.refl _ | assumption | refine Agree.new ?_ (hgf0 _ _) | refine Agree.new ?_ (hfr' _ _)))
  clear hC hTs hTb hN hd0
  intro i σ hi ⟨j1, j2, j3, j4, j5, j6, j7, j8, j9⟩
  have hw1 : IntKind.i64.wrap ((g.length : Int) - 1 - (i : Int) - 1) = (g.length : Int) - 1 - (i : Int) - 1 := wrap_eq rfl (by omega) (by omega)
  rcases Nat.lt_or_ge i g.length with hlt | hge
  · have hd : decide ((g.length : Int) - 1 - (i : Int) ≥ 0) = true := by simp; omega
    have e0 : g.length - (i + 1) + 1 = g.length - i := by omega
    obtain ⟨x, hx⟩ : ∃ x, g[g.length - (i + 1)]? = some x := ⟨_, List.getElem?_eq_getElem (by omega)⟩
    have hs1 := hst _ x hx
    have hq1 := hQ _ x hx
    rw [hs1] at hq1
    rw [e0] at hq1
    have e2 : ((g.length : Int) - 1 - (i : Int)).toNat = g.length - (i + 1) := by omega
    have e3 : 0 ≤ (g.length : Int) - 1 - (i : Int) := by omega
    have e4 : (g.length : Int) - 1 - ((i + 1 : Nat) : Int) = (g.length : Int) - 1 - (i : Int) - 1 := by omega
    clear hst hQ hs1 e0 hdn
    generalize allF (g.drop (g.length - i)) q5 = b' at *
    generalize allF (g.drop (g.length - (i + 1))) q5 = b'' at *
    repeat' (first
      | refine AR_seq ?_ | refine AR_skip ?_ | refine AR_block ?_ | refine AR_block_end ?_ | refine AR_exit ?_ | refine AR_code_exit ?_ | refine AR_inv_exit ?_ | refine AR_block_hit ?_
      | refine AR_block_pass (by decide) ?_ | refine AR_ret ?_ | refine AR_fall ?_
      | (refine ⟨?_, ?_⟩; focus ((repeat' (first | (refine And.intro ?_ ?_) | (refine Or.inr ?_))); all_goals kernel_rfl))
      | refine AR_cond_t rfl ?_ | refine AR_cond_f rfl ?_ | (refine AR_cond rfl (fun hc => ?_) (fun hc => ?_) <;> (try rw [beq_iff_eq] at hc) <;> (try simp only [hc]))
      | ((first | refine AR_region ?_ | (refine guarded_split (fun hb => ?_) (fun hb => ?_) <;> (try simp only [Bool.not_true, Bool.not_false] at hb)) | refine Call1_pure (hq1) ?_ | refine AR_inv ?_) <;> simp only [go_sem, *, reduceIte, Nat.reduceEqDiff, Nat.reduceAdd, Nat.reduceLeDiff, Nat.reduceMul, Nat.reduceBEq, Nat.reduceLT, Nat.reduceSub, Int.reduceBEq, Int.reduceToNat, Int.reduceLE, Int.reduceEq]))
    all_goals exact (by repeat (first | exact Agree.refl _ | assumption | refine Agree.new ?_ (hgf0 _ _) | refine Agree.new ?_ (hfr' _ _)))
  · have hd : decide ((g.length : Int) - 1 - (i : Int) ≥ 0) = false := by simp; omega
    obtain rfl : i = g.length := by omega
    rw [hdn] at j8
    clear hst hQ hdn hi hge
    refine AR_gen2 (fun gn hgl hgn => ?_)
    have hgf := fresh_of hgn
    have hgf0 : ∀ r i, h ⟨gn, r, i⟩ = none := fun r i => agree_fresh j9 (hgf r i)
    have eg1 := gen_lt hgl
    have eg2 := gen_lt' hgl
    have n0 : ((0 : Int) == 0) = true := rfl
    clear hgn
    repeat' (first
      | refine AR_seq ?_ | refine AR_skip ?_ | refine AR_block ?_ | refine AR_block_end ?_ | refine AR_exit ?_ | refine AR_code_exit ?_ | refine AR_inv_exit ?_ | refine AR_block_hit ?_
      | refine AR_block_pass (by decide) ?_ | refine AR_ret ?_ | refine AR_fall ?_
      | (refine ⟨?_, ?_⟩; focus ((repeat' (first | (refine And.intro ?_ ?_) | (refine Or.inr ?_))); all_goals kernel_rfl))
      | refine AR_cond_t rfl ?_ | refine AR_cond_f rfl ?_ | (refine AR_cond rfl (fun hc => ?_) (fun hc => ?_) <;> (try rw [beq_iff_eq] at hc) <;> (try simp only [hc]))
      | ((first | refine AR_region ?_ | (refine guarded_split (fun hb => ?_) (fun hb => ?_) <;> (try simp only [Bool.not_true, Bool.not_false] at hb)) | refine Call1_pure (h1) ?_ | refine Call1_pure (h2) ?_ | refine Call1_pure (h3) ?_ | refine Call1_pure (h4) ?_ | refine Call1_pure (h5) ?_ | refine Call1_pure (h6) ?_ | refine Call1_pure (h7) ?_ | refine Call1_pure (h8) ?_ | refine Call1_pure (h9) ?_ | refine AR_fin hrel (by first | exact hin _ | simp only [go_sem, and_self]) (by repeat (first | exact Agree.refl _ | assumption | refine Agree.new ?_ (hgf0 _ _) | refine Agree.new ?_ (hfr' _ _))) ?_) <;> simp only [go_sem, *, reduceIte, Nat.reduceEqDiff, Nat.reduceAdd, Nat.reduceLeDiff, Nat.reduceMul, Nat.reduceBEq, Nat.reduceLT, Nat.reduceSub, Int.reduceBEq, Int.reduceToNat, Int.reduceLE, Int.reduceEq]))
end Go.Proofs.YtoaiejpnenfpnaaGreatDoor
