/-
 Walks: the classes of a formula.
-/
import Derived.Test.YtmbpmbofehmdaaaGreatDoorGe
import Derived.Test.YtmbpmbofehmdaaaGreatDoorMb
set_option linter.unusedSimpArgs false
set_option linter.unusedVariables false
set_option maxRecDepth 20000
set_option maxHeartbeats 4000000
namespace Go.Proofs.YtmbpmbofehmdaaaGreatDoor
open Go GoAbs Go.Proofs
theorem c_valOf : ∀ (n : Nat) (f : Fm), fmSz f ≤ n → FmW f → f.good = true → Pure Tryz.prog env 62 [.agg f.cells] (.int .u8 f.fl.n) := by
 intro n
 induction n with
 | zero =>
  intro f hn; have : 1 ≤ fmSz f := by (cases f; rw [fmSz]; omega)
  omega
 | succ n ih =>
 intro f hn hf hg h
 have hk := Fm.good_kind hg
 have hw2 : IntKind.i64.wrap (((2 : Nat) : Int) - 1) = 1 := rfl
 have hw2' : IntKind.i64.wrap ((2 : Int) - 1) = 1 := rfl
 have hw1 : IntKind.i64.wrap (((1 : Nat) : Int) - 1) = 0 := rfl
 have hw1' : IntKind.i64.wrap ((1 : Int) - 1) = 0 := rfl
 obtain hk | hk | hk : f.kind = 1 ∨ (f.kind = 2 ∨ f.kind = 3) ∨ (f.kind = 4 ∨ f.kind = 5 ∨ f.kind = 6 ∨ f.kind = 7) := by omega
 ·rw [Fm.fl_1 hk, flag_eqn]
  clear ih hf hg hn
  exact ek_ Tryz.func62 [.tmp 2]
 ·obtain ⟨a, b, ha, ga, gb⟩ := Fm.good_two hg hk
  have la := fmSz_arg (f := f) (x := a) (by rw [ha]; simp)
  have lb := fmSz_arg (f := f) (x := b) (by rw [ha]; simp)
  have h1 := ih a (by omega) (hf.arg (by rw [ha]; simp)) ga
  have h2 := ih b (by omega) (hf.arg (by rw [ha]; simp)) gb
  rw [Fm.fl_2 hk ha]
  clear ih hf hg hn la lb ga gb
  generalize a.fl = fa at *
  generalize b.fl = fb at *
  rcases hk with hk | hk
  all_goals
   rw [hk]
   have hkk : ((2 : Int) == 2) = true := rfl
   have hkk' : ((3 : Int) == 2) = false := rfl
   exact ek_ Tryz.func62 [.tmp 2]
 ·obtain ⟨a, ha, ga⟩ := Fm.good_q hg hk
  have la := fmSz_arg (f := f) (x := a) (by rw [ha]; simp)
  have wa : FmW a := hf.arg (by rw [ha]; simp)
  have h1 := ih a (by omega) wa ga
  have hB := c_bound f hf hg hk
  have h4 : 4 ≤ f.kind := by omega
  cases hb : isBnd f with
  | false =>
   rw [boundV_no hb, zeroT_cells, zeroF_cells] at hB
   rw [Fm.fl_qn h4 ha hb]
   clear ih hf hg hn la ga wa hb h4
   generalize a.fl = fa at *
   rcases hk with hk | hk | hk | hk
   all_goals
    rw [hk]
    refine en_ Tryz.func62 [.tmp 2] fun g0 w0 gen hrel hfr hfr' hres => ?_
    first|refine wq_ ?_|exact wk_
    all_goals simp
  | true =>
   obtain ⟨x, y, hxy, hbb, gy⟩ := bnd_body ha ga hb
   have ly := fmSz_arg (f := a) (x := y) (by rw [hxy]; simp)
   have hy := ih y (by omega) (wa.arg (by rw [hxy]; simp)) gy
   rw [Fm.fl_qb h4 ha hb hxy]
   unfold boundV at hB
   rw [hb, if_pos rfl, hbb] at hB
   have hk' : f.kind = 4 ∨ f.kind = 5 := by
    rcases hk with hk | hk | hk | hk
    ·exact .inl hk
    ·exact .inr hk
    ·rw [bnd_k (.inl hk)] at hb; cases hb
    ·rw [bnd_k (.inr hk)] at hb; cases hb
   clear ih hf hg hn la ga wa hb h4 gy ly hk hxy hbb
   generalize a.fl = fa at *
   generalize y.fl = fy at *
   rcases hk' with hk | hk
   all_goals
    rw [hk] at hB ⊢
    refine en_ Tryz.func62 [.tmp 2] fun g0 w0 gen hrel hfr hfr' hres => ?_
    first|refine wq_ ?_|exact wk_
    all_goals simp
theorem c_has (f : Fm) (hf : FmW f) (k : Int) (hk : k = 1 ∨ k = 2 ∨ k = 4) : Pure Tryz.prog env 50 [.agg f.cells, .int .u8 k] (boolErrV (f.has k)) := by
 intro h
 have hC := c_fmCheck f hf
 unfold boolErrV Fm.has
 cases he : (fmErr f != 0) with
 | true =>
  simp only [if_true]
  clear hf hk
  generalize fmErr f = e at *
  exact ek_ Tryz.func50 [.tmp 4, .tmp 5]
 | false =>
  have h0 : fmErr f = 0 := by simpa using he
  have hO := c_valOf _ f (Nat.le_refl _) hf (Fm.ok_good he)
  simp only [Bool.false_eq_true, if_false]
  rw [h0] at hC
  have n0 : ((0 : Int) != 0) = false := rfl
  clear he h0 hf
  generalize f.fl = x at *
  obtain ⟨x1, x2, x3⟩ := x
  rcases hk with rfl | rfl | rfl
  ·cases x1
   all_goals
    refine en_ Tryz.func50 [.tmp 4, .tmp 5] fun g0 w0 gen hrel hfr hfr' hres => ?_
    first|refine wq_ ?_|exact wk_
    all_goals simp [Fl.n]
  ·cases x2
   all_goals
    refine en_ Tryz.func50 [.tmp 4, .tmp 5] fun g0 w0 gen hrel hfr hfr' hres => ?_
    first|refine wq_ ?_|exact wk_
    all_goals simp [Fl.n]
  ·cases x3
   all_goals
    refine en_ Tryz.func50 [.tmp 4, .tmp 5] fun g0 w0 gen hrel hfr hfr' hres => ?_
    first|refine wq_ ?_|exact wk_
    all_goals simp [Fl.n]
theorem c_Content (f : Fm) (hf : FmW f) : Pure Tryz.prog env 16 [.agg f.cells] (boolErrV (f.has 1)) := by
 intro h
 have h1 := c_has f hf 1 (.inl rfl)
 generalize f.has 1 = p at *
 exact ek_ Tryz.func16 [.tmp 2, .tmp 3]
theorem c_Free (f : Fm) (hf : FmW f) : Pure Tryz.prog env 18 [.agg f.cells] (boolErrV (f.has 2)) := by
 intro h
 have h1 := c_has f hf 2 (.inr (.inl rfl))
 generalize f.has 2 = p at *
 exact ek_ Tryz.func18 [.tmp 2, .tmp 3]
theorem c_clsDecidable (f : Fm) (hf : FmW f) : Pure Tryz.prog env 20 [.agg f.cells] (boolErrV (f.has 4)) := by
 intro h
 have h1 := c_has f hf 4 (.inr (.inr rfl))
 generalize f.has 4 = p at *
 exact ek_ Tryz.func20 [.tmp 2, .tmp 3]
end Go.Proofs.YtmbpmbofehmdaaaGreatDoor
