/-
 Walks: the types of All in front, and tasks, of any formula.
-/
import Derived.Test.YtmbpmbofehmdaaaGreatDoorYc
import Derived.Test.YtmbpmbofehmdaaaGreatDoorMp
set_option linter.unusedSimpArgs false
set_option linter.unusedVariables false
set_option maxRecDepth 20000
set_option maxHeartbeats 4000000
namespace Go.Proofs.YtmbpmbofehmdaaaGreatDoor
open Go GoAbs Go.Proofs
theorem c_UniversalA (f : Fm) (hf : FmW f) (hs : fmSz f ≤ 1000000) : Pure Tryz.prog env 26 [.agg f.cells] (univG f) := by
 cases he : (fmErr f != 0) with
 | true =>
  intro h
  have hC := c_fmCheck f hf
  have hzf := zeroF_cells
  unfold univG
  rw [he]
  simp only [if_true]
  clear hf hs
  generalize fmErr f = e at *
  exact ek_ Tryz.func26 [.tmp 2, .cell 3 29, .tmp 4]
 | false =>
  have h0 : fmErr f = 0 := by simpa using he
  unfold univG
  rw [he]
  exact c_Universal f hf h0 hs
theorem c_r08UniversalA (f : Fm) (hf : FmW f) (hs : fmSz f ≤ 1000000) : Pure Tryz.prog env 27 [.agg f.cells] (univG f) := by
 cases he : (fmErr f != 0) with
 | true =>
  intro h
  have hC := c_refFmCheck f hf
  have hzf := zeroF_cells
  unfold univG
  rw [he]
  simp only [if_true]
  clear hf hs
  generalize fmErr f = e at *
  exact ek_ Tryz.func27 [.tmp 2, .cell 3 29, .tmp 4]
 | false =>
  have h0 : fmErr f = 0 := by simpa using he
  unfold univG
  rw [he]
  exact c_r08Universal f hf h0 hs
theorem univ_A : ∀ {f : Fm}, FmN f → FmG true f → FmN f.univ.2 ∧ FmG true f.univ.2 ∧ fmSz f.univ.2 ≤ fmSz f := by
 intro f
 induction f using Fm.ind with | h f ih => ?_
 intro hn hg
 by_cases k : (f.kind == 4) = true
 ·cases hg with
  | eq => cases k
  | two hk => rcases hk with rfl | rfl <;> cases k
  | @q k' s a hk hs ga =>
   rw [Fm.univ_4 k (show (fmQ k' s a).args = [a] from rfl)]
   obtain ⟨h1, h2, h3⟩ := ih a (by simp [fmQ, Fm.args]) (hn.arg (by simp [fmQ, Fm.args])) ga
   refine ⟨h1, h2, ?_⟩
   rw [fmSz_q]
   simp only
   omega
 ·rw [Fm.univ_n (by simpa using k)]
  exact ⟨hn, hg, Nat.le_refl _⟩
theorem c_r08TaskA {N : Nat} (hN : N ≤ 50000) (f : Fm) (hA : FmA N f) : Pure Tryz.prog env 29 [.agg f.cells] (taskV f.task) := by
 intro h
 have hU := c_r08UniversalA f hA.w (by have := hA.z; omega)
 have hzf := zeroF_cells
 have hzt : tZero.cells = [.int .i64 0, .sl .any []] := by simp [tZero, Ty.mk_cells]
 unfold taskV Fm.task
 unfold univG at hU
 cases he : (fmErr f != 0) with
 | true =>
  rw [he] at hU
  simp only [if_true] at hU
  simp only [if_true, List.map_nil]
  clear hA
  generalize fmErr f = e at *
  exact ek_ Tryz.func29 [.tmp 2, .cell 3 25, .cell 4 29, .tmp 5]
 | false =>
  rw [he] at hU
  simp only [Bool.false_eq_true, if_false] at hU
  have hg := Fm.ok_good he
  obtain ⟨wu, gu, wt⟩ := univ_good f hA.w hg
  obtain ⟨nu, gu', zu⟩ := univ_A hA.n (hA.g hg)
  have zf := hA.z
  have n0 : ((0 : Int) != 0) = false := rfl
  simp only [Bool.false_eq_true, if_false]
  clear he hg hA
  generalize f.univ = p at *
  obtain ⟨ul, uf⟩ := p
  simp only at hU wu gu wt nu gu' zu ⊢
  cases k : (uf.kind != 5) with
  | true =>
   simp only [Bool.true_or, if_true, List.map_nil]
   clear wu gu wt nu gu' zu
   exact ek_ Tryz.func29 [.tmp 2, .cell 3 25, .cell 4 29, .tmp 5]
  | false =>
   obtain ⟨a, ha, ga⟩ := Fm.good_q gu (.inr (.inl (by simpa using k)))
   have e0 : fa uf 0 = a := fa_at (by rw [ha]; rfl)
   have wa : FmW a := wu.arg (by rw [ha]; simp)
   have s1 := fmSz_arg (f := uf) (x := a) (by rw [ha]; simp)
   have hO := c_r08decN N (by omega) hN (gu'.argG (by rw [ha]; simp)) (nu.arg (by rw [ha]; simp)) ga wa
   have h1 := c_refCopy uf.type wu.ty
   have h2 := c_fmCopy a wa
   rw [e0]
   clear wu gu wt wa ga e0 nu gu' zu s1
   generalize a.fl.d = x at *
   cases x
   all_goals
    simp only [Bool.false_or, Bool.not_true, Bool.not_false, Bool.false_eq_true, if_true, if_false, List.map_nil]
    exact ek_ Tryz.func29 [.tmp 2, .cell 3 25, .cell 4 29, .tmp 5]
end Go.Proofs.YtmbpmbofehmdaaaGreatDoor
