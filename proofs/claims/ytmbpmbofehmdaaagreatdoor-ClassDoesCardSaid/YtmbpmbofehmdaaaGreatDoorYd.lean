/-
 Walks: the parts of a bounded quantifier, of any formula.
-/
import Derived.Test.YtmbpmbofehmdaaaGreatDoorPg
import Derived.Test.YtmbpmbofehmdaaaGreatDoorGe
import Derived.Test.YtmbpmbofehmdaaaGreatDoorMn
import Derived.Test.YtmbpmbofehmdaaaGreatDoorMo
import Derived.Test.YtmbpmbofehmdaaaGreatDoorAbsDd
set_option linter.unusedSimpArgs false
set_option linter.unusedVariables false
set_option maxRecDepth 20000
set_option maxHeartbeats 4000000
namespace Go.Proofs.YtmbpmbofehmdaaaGreatDoor
open Go GoAbs Go.Proofs
theorem bndTerm_N {f : Fm} (wf : FmW f) (nf : FmN f) (zf : fmSz f ≤ 50000) (hg : f.good = true) (hk0 : f.kind = 4 ∨ f.kind = 5 ∨ f.kind = 6 ∨ f.kind = 7) (h : isBnd f = true) :
  TmW (bndTerm f) ∧ tPut (bndTerm f) 0 zeroT = (bndTerm f).up (-1) 1 ∧ FmW (bndBody f) := by
 obtain ⟨a, ha, ga⟩ := Fm.good_q hg hk0
 have h0 := h
 unfold isBnd bndHead at h
 simp only [Bool.and_eq_true, Bool.not_eq_true'] at h
 obtain ⟨⟨⟨⟨k0, k1⟩, k2⟩, k3⟩, k4⟩ := h
 have fa0 : fa f 0 = a := fa_at (by rw [ha]; rfl)
 rw [fa0] at k2 k3
 have hka : a.kind = 2 ∨ a.kind = 3 := by
  have := k2
  simp only [bne_eq_false_iff_eq] at this
  rw [this]
  split <;> simp
 obtain ⟨x, y, hx, gx, gy⟩ := Fm.good_two ga hka
 have fx0 : fa a 0 = x := fa_at (by rw [hx]; rfl)
 rw [fx0] at k3
 obtain ⟨u, v, hu, gu, gv⟩ := Fm.good_eqn gx (by simpa using k3)
 have e1 : bndSide f = u := by unfold bndSide; rw [fa0, fx0]; exact ft_at (by rw [hu]; rfl)
 unfold bndRest at k4
 simp only [Bool.and_eq_true, Bool.not_eq_true'] at k4
 obtain ⟨⟨k5, k6⟩, k7⟩ := k4
 rw [e1] at k5
 obtain ⟨p, q, hq, gp, gq⟩ := Tm.good_app gu (by simpa using k5)
 have e2 : bndTerm f = q := by unfold bndTerm; rw [e1]; exact ta_at (by rw [hq]; rfl)
 have wa : FmW a := wf.arg (by rw [ha]; simp)
 have wx : FmW x := wa.arg (by rw [hx]; simp)
 have wu : TmW u := wx.term (by rw [hu]; simp)
 have nq : TmN q := (((((nf.arg (x := a) (by rw [ha]; simp)).arg (x := x) (by rw [hx]; simp)).term (x := u) (by rw [hu]; simp)))).arg (by rw [hq]; simp)
 have s1 := fmSz_arg (f := f) (x := a) (by rw [ha]; simp)
 have s2 := fmSz_arg (f := a) (x := x) (by rw [hx]; simp)
 have s3 := fmSz_term (f := x) (x := u) (by rw [hu]; simp)
 have s4 := tmSz_arg (f := u) (x := q) (by rw [hq]; simp)
 rw [e2] at k6 ⊢
 refine ⟨wu.arg (by rw [hq]; simp), tPut_no gq nq (by omega) (by rw [has_count nq (by omega)]; exact k6), ?_⟩
 obtain ⟨x', y', hx', hb, _⟩ := bnd_body ha ga h0
 rw [hb]
 rw [hx] at hx'
 simp only [List.cons.injEq, and_true] at hx'
 obtain ⟨rfl, rfl⟩ := hx'
 exact wa.arg (by rw [hx]; simp)
theorem c_boundLow (f : Fm) (hk : f.kind = 1 ∨ f.kind = 2 ∨ f.kind = 3) : Pure Tryz.prog env 56 [.agg f.cells] (boundV f) := by
 intro h
 rw [boundV_no (bnd_low hk)]
 have hzt := zeroT_cells
 have hzf := zeroF_cells
 have hj := c_joint false
 have n1 : ((1 : Int) == 4) = false := rfl
 have n2 : ((2 : Int) == 4) = false := rfl
 have n3 : ((3 : Int) == 4) = false := rfl
 have m1 : ((1 : Int) != 5) = true := rfl
 have m2 : ((2 : Int) != 5) = true := rfl
 have m3 : ((3 : Int) != 5) = true := rfl
 rcases hk with hk | hk | hk
 all_goals
  exact ek_ Tryz.func56 [.tmp 2, .cell 3 31, .cell 4 29, .tmp 5]
theorem c_clsBoundA {N : Nat} (hN : N ≤ 50000) (f : Fm) (hA : FmA N f) : Pure Tryz.prog env 22 [.agg f.cells] (boundG f) := by
 intro h
 have h1 := c_fmCheck f hA.w
 have hzt := zeroT_cells
 have hzf := zeroF_cells
 unfold boundG
 cases he : (fmErr f != 0) with
 | true =>
  simp only [Bool.true_or, if_true]
  clear hA
  generalize fmErr f = e at *
  exact ek_ Tryz.func22 [.tmp 2, .cell 3 31, .cell 4 29, .tmp 5]
 | false =>
  have h0 : fmErr f = 0 := by simpa using he
  have hg := Fm.ok_good he
  rw [h0] at h1
  have n0 : ((0 : Int) != 0) = false := rfl
  have hB : Pure Tryz.prog env 56 [.agg f.cells] (boundV f) := by
   rcases Fm.good_kind hg with hk | hk | hk | hk | hk | hk | hk
   ·exact c_boundLow f (.inl hk)
   ·exact c_boundLow f (.inr (.inl hk))
   ·exact c_boundLow f (.inr (.inr hk))
   ·exact c_bound f hA.w hg (.inl hk)
   ·exact c_bound f hA.w hg (.inr (.inl hk))
   ·exact c_bound f hA.w hg (.inr (.inr (.inl hk)))
   ·exact c_bound f hA.w hg (.inr (.inr (.inr hk)))
  simp only [Bool.false_or]
  cases hb : isBnd f with
  | false =>
   rw [boundV_no hb] at hB
   simp only [Bool.not_false, if_true]
   clear hA he h0 hg
   exact ek_ Tryz.func22 [.tmp 2, .cell 3 31, .cell 4 29, .tmp 5]
  | true =>
   have hk : f.kind = 4 ∨ f.kind = 5 ∨ f.kind = 6 ∨ f.kind = 7 := by
    rcases Fm.good_kind hg with hk | hk | hk | hk | hk | hk | hk
    ·rw [bnd_low (.inl hk)] at hb; cases hb
    ·rw [bnd_low (.inr (.inl hk))] at hb; cases hb
    ·rw [bnd_low (.inr (.inr hk))] at hb; cases hb
    ·exact .inl hk
    ·exact .inr (.inl hk)
    ·exact .inr (.inr (.inl hk))
    ·exact .inr (.inr (.inr hk))
   obtain ⟨wt, et, wb⟩ := bndTerm_N hA.w hA.n (by have := hA.z; omega) hg hk hb
   have h3 := c_tPut (bndTerm f) wt 0 zeroT zeroT_W
   rw [et, zeroT_cells] at h3
   have h4 := c_OwnFormula (bndBody f) wb
   unfold boundV at hB
   rw [hb] at hB
   simp only [if_true] at hB
   simp only [Bool.not_true, Bool.false_eq_true, if_false]
   clear hA he h0 hg hk wt et wb hb
   generalize (bndTerm f).up (-1) 1 = q1 at *
   generalize bndTerm f = q at *
   generalize bndBody f = y at *
   generalize (f.kind == 4) = kb at *
   exact ek_ Tryz.func22 [.tmp 2, .cell 3 31, .cell 4 29, .tmp 5]
theorem c_r08boundLow (f : Fm) (hk : f.kind = 1 ∨ f.kind = 2 ∨ f.kind = 3) : Pure Tryz.prog env 59 [.agg f.cells] (boundV9 f) := by
 intro h
 rw [boundV9_no (bnd_low hk)]
 have hzt := zeroT_cells
 have hzf := zeroF_cells
 have n1 : ((1 : Int) == 4) = false := rfl
 have n2 : ((2 : Int) == 4) = false := rfl
 have n3 : ((3 : Int) == 4) = false := rfl
 have m1 : ((1 : Int) != 5) = true := rfl
 have m2 : ((2 : Int) != 5) = true := rfl
 have m3 : ((3 : Int) != 5) = true := rfl
 rcases hk with hk | hk | hk
 all_goals
  exact ek_ Tryz.func59 [.tmp 2, .cell 3 31, .cell 4 29, .tmp 5]
theorem c_r08BoundA {N : Nat} (hN : N ≤ 50000) (f : Fm) (hA : FmA N f) : Pure Tryz.prog env 23 [.agg f.cells] (boundG f) := by
 intro h
 have h1 := c_refFmCheck f hA.w
 have hzt := zeroT_cells
 have hzf := zeroF_cells
 unfold boundG
 cases he : (fmErr f != 0) with
 | true =>
  simp only [Bool.true_or, if_true]
  clear hA
  generalize fmErr f = e at *
  exact ek_ Tryz.func23 [.tmp 2, .cell 3 31, .cell 4 29, .tmp 5]
 | false =>
  have h0 : fmErr f = 0 := by simpa using he
  have hg := Fm.ok_good he
  rw [h0] at h1
  have n0 : ((0 : Int) != 0) = false := rfl
  have hQ := hA.n.hasQ (by have := hA.z; omega)
  have hB : Pure Tryz.prog env 59 [.agg f.cells] (boundV9 f) := by
   rcases Fm.good_kind hg with hk | hk | hk | hk | hk | hk | hk
   ·exact c_r08boundLow f (.inl hk)
   ·exact c_r08boundLow f (.inr (.inl hk))
   ·exact c_r08boundLow f (.inr (.inr hk))
   ·exact c_r08bound f hA.w hg (.inl hk) hQ
   ·exact c_r08bound f hA.w hg (.inr (.inl hk)) hQ
   ·exact c_r08bound f hA.w hg (.inr (.inr (.inl hk))) hQ
   ·exact c_r08bound f hA.w hg (.inr (.inr (.inr hk))) hQ
  simp only [Bool.false_or]
  clear hA he h0 hg hQ
  unfold boundV9 at hB
  cases hb : isBnd f with
  | false =>
   rw [hb] at hB
   simp only [Bool.false_eq_true, if_false] at hB
   simp only [Bool.not_false, if_true]
   exact ek_ Tryz.func23 [.tmp 2, .cell 3 31, .cell 4 29, .tmp 5]
  | true =>
   rw [hb] at hB
   simp only [if_true] at hB
   simp only [Bool.not_true, Bool.false_eq_true, if_false]
   clear hb
   generalize (bndTerm f).up (-1) 1 = q1 at *
   generalize bndBody f = y at *
   generalize (f.kind == 4) = kb at *
   exact ek_ Tryz.func23 [.tmp 2, .cell 3 31, .cell 4 29, .tmp 5]
end Go.Proofs.YtmbpmbofehmdaaaGreatDoor
