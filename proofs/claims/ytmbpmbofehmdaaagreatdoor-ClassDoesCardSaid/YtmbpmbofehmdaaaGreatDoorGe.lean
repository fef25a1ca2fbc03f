/-
 Walks: bounded quantifiers.
-/
import Derived.Test.YtmbpmbofehmdaaaGreatDoorMh
import Derived.Test.YtmbpmbofehmdaaaGreatDoorAbsD
set_option linter.unusedSimpArgs false
set_option linter.unusedVariables false
set_option maxRecDepth 20000
set_option maxHeartbeats 4000000
namespace Go.Proofs.YtmbpmbofehmdaaaGreatDoor
open Go GoAbs Go.Proofs
theorem boundV_no {f : Fm} (h : isBnd f = false) : boundV f = .tup [.bool false, .agg zeroT.cells, .agg zeroF.cells, .bool false] := by unfold boundV; rw [h]; rfl
theorem zeroT_cells : zeroT.cells = [.int .i64 0, .int .i64 0, .int .i64 0, .sl .any [], .sl .any []] := by simp [zeroT, Tm.mk_cells, Ty.mk_kind, Ty.mk_args]
theorem zeroF_cells : zeroF.cells = [.int .i64 0, .int .i64 0, .sl .any [], .sl .any [], .sl .any []] := by simp [zeroF, Fm.mk_cells, Ty.mk_kind, Ty.mk_args]
theorem c_bound (f : Fm) (hf : FmW f) (hg : f.good = true) (hk0 : f.kind = 4 ∨ f.kind = 5 ∨ f.kind = 6 ∨ f.kind = 7) : Pure Tryz.prog env 56 [.agg f.cells] (boundV f) := by
 intro h
 obtain ⟨a, ha, ga⟩ := Fm.good_q hg hk0
 have wa : FmW a := hf.arg (by rw [ha]; simp)
 have hb4 : ((4 : Int) != 4) = false := rfl
 have hb5 : ((5 : Int) != 5) = false := rfl
 have hb6 : ((6 : Int) != 5) = true := rfl
 have hb7 : ((7 : Int) != 5) = true := rfl
 have hzt := zeroT_cells
 have hzf := zeroF_cells
 obtain hk | hk | hk : f.kind = 4 ∨ f.kind = 5 ∨ (f.kind = 6 ∨ f.kind = 7) := by omega
 rotate_left 2
 ·rw [boundV_no (bnd_k hk)]
  have hJ := c_joint false
  simp only [Bool.false_eq_true, if_false] at hJ
  rcases hk with hk | hk
  all_goals
   clear hk0 ga wa hf hg
   exact ek_ Tryz.func56 [.tmp 2, .cell 3 31, .cell 4 29, .tmp 5]
 ·have hJ := c_joint true
  simp only [if_true] at hJ
  cases k1 : (f.type.kind != 1) with
  | true =>
   rw [boundV_no (bnd_ty k1)]
   clear hk0 ga wa hf hg
   exact ek_ Tryz.func56 [.tmp 2, .cell 3 31, .cell 4 29, .tmp 5]
  | false =>
  cases k2 : (a.kind != 3) with
  | true =>
   rw [boundV_no (bnd_a4 hk ha k2)]
   clear hk0 ga wa hf hg
   exact ek_ Tryz.func56 [.tmp 2, .cell 3 31, .cell 4 29, .tmp 5]
  | false =>
  have hka : a.kind = 3 := by simpa using k2
  obtain ⟨x, y, hx, gx, gy⟩ := Fm.good_two ga (.inr hka)
  have wx : FmW x := wa.arg (by rw [hx]; simp)
  cases k3 : (x.kind != 1) with
  | true =>
   rw [boundV_no (bnd_x ha hx k3)]
   clear hk0 ga wa hf hg gx gy wx hka
   exact ek_ Tryz.func56 [.tmp 2, .cell 3 31, .cell 4 29, .tmp 5]
  | false =>
  have hkx : x.kind = 1 := by simpa using k3
  obtain ⟨u, v, hu, gu, gv⟩ := Fm.good_eqn gx hkx
  have wu : TmW u := wx.term (by rw [hu]; simp)
  cases k4 : (u.kind != 3) with
  | true =>
   rw [boundV_no (bnd_u ha hx hu k4)]
   clear hk0 ga wa hf hg gx gy wx hka hkx wu gu gv
   exact ek_ Tryz.func56 [.tmp 2, .cell 3 31, .cell 4 29, .tmp 5]
  | false =>
  have hku : u.kind = 3 := by simpa using k4
  obtain ⟨p, q, hq, gp, gq⟩ := Tm.good_app gu hku
  have wq : TmW q := wu.arg (by rw [hq]; simp)
  have hC := c_tCount q wq 0
  have hL := c_less (tmVar 0) q
  have hV := c_tVar 0
  have hS := c_SameFormula x wx _ (lessF_W (tmVar_W 0) wq)
  cases k5 : decide (q.count 0 > 0) with
  | true =>
   rw [boundV_no (bnd_q ha hx hu hq k5)]
   clear hk0 ga wa hf hg gx gy wx hka hkx wu gu gv gp gq hku wq
   exact ek_ Tryz.func56 [.tmp 2, .cell 3 31, .cell 4 29, .tmp 5]
  | false =>
  cases k6 : Fm.same x (lessF (tmVar 0) q) with
  | false =>
   rw [boundV_no (bnd_s ha hx hu hq k6)]
   rw [k6] at hS
   clear hk0 ga wa hf hg gx gy wx hka hkx wu gu gv gp gq hku wq k6
   generalize lessF (tmVar 0) q = z at *
   exact ek_ Tryz.func56 [.tmp 2, .cell 3 31, .cell 4 29, .tmp 5]
  | true =>
   obtain ⟨e1, e2, e3⟩ := bnd_yes (.inl ⟨hk, k2⟩) k1 ha hx k3 hu k4 hq k5 k6
   unfold boundV
   rw [e1, e2, e3]
   rw [k6] at hS
   clear hk0 ga wa hf hg gx gy wx hka hkx wu gu gv gp gq hku wq k6 e1 e2 e3
   generalize lessF (tmVar 0) q = z at *
   exact ek_ Tryz.func56 [.tmp 2, .cell 3 31, .cell 4 29, .tmp 5]
 ·have hJ := c_joint false
  simp only [Bool.false_eq_true, if_false] at hJ
  cases k1 : (f.type.kind != 1) with
  | true =>
   rw [boundV_no (bnd_ty k1)]
   clear hk0 ga wa hf hg
   exact ek_ Tryz.func56 [.tmp 2, .cell 3 31, .cell 4 29, .tmp 5]
  | false =>
  cases k2 : (a.kind != 2) with
  | true =>
   rw [boundV_no (bnd_a5 hk ha k2)]
   clear hk0 ga wa hf hg
   exact ek_ Tryz.func56 [.tmp 2, .cell 3 31, .cell 4 29, .tmp 5]
  | false =>
  have hka : a.kind = 2 := by simpa using k2
  obtain ⟨x, y, hx, gx, gy⟩ := Fm.good_two ga (.inl hka)
  have wx : FmW x := wa.arg (by rw [hx]; simp)
  cases k3 : (x.kind != 1) with
  | true =>
   rw [boundV_no (bnd_x ha hx k3)]
   clear hk0 ga wa hf hg gx gy wx hka
   exact ek_ Tryz.func56 [.tmp 2, .cell 3 31, .cell 4 29, .tmp 5]
  | false =>
  have hkx : x.kind = 1 := by simpa using k3
  obtain ⟨u, v, hu, gu, gv⟩ := Fm.good_eqn gx hkx
  have wu : TmW u := wx.term (by rw [hu]; simp)
  cases k4 : (u.kind != 3) with
  | true =>
   rw [boundV_no (bnd_u ha hx hu k4)]
   clear hk0 ga wa hf hg gx gy wx hka hkx wu gu gv
   exact ek_ Tryz.func56 [.tmp 2, .cell 3 31, .cell 4 29, .tmp 5]
  | false =>
  have hku : u.kind = 3 := by simpa using k4
  obtain ⟨p, q, hq, gp, gq⟩ := Tm.good_app gu hku
  have wq : TmW q := wu.arg (by rw [hq]; simp)
  have hC := c_tCount q wq 0
  have hL := c_less (tmVar 0) q
  have hV := c_tVar 0
  have hS := c_SameFormula x wx _ (lessF_W (tmVar_W 0) wq)
  cases k5 : decide (q.count 0 > 0) with
  | true =>
   rw [boundV_no (bnd_q ha hx hu hq k5)]
   clear hk0 ga wa hf hg gx gy wx hka hkx wu gu gv gp gq hku wq
   exact ek_ Tryz.func56 [.tmp 2, .cell 3 31, .cell 4 29, .tmp 5]
  | false =>
  cases k6 : Fm.same x (lessF (tmVar 0) q) with
  | false =>
   rw [boundV_no (bnd_s ha hx hu hq k6)]
   rw [k6] at hS
   clear hk0 ga wa hf hg gx gy wx hka hkx wu gu gv gp gq hku wq k6
   generalize lessF (tmVar 0) q = z at *
   exact ek_ Tryz.func56 [.tmp 2, .cell 3 31, .cell 4 29, .tmp 5]
  | true =>
   obtain ⟨e1, e2, e3⟩ := bnd_yes (.inr ⟨hk, k2⟩) k1 ha hx k3 hu k4 hq k5 k6
   unfold boundV
   rw [e1, e2, e3]
   rw [k6] at hS
   clear hk0 ga wa hf hg gx gy wx hka hkx wu gu gv gp gq hku wq k6 e1 e2 e3
   generalize lessF (tmVar 0) q = z at *
   exact ek_ Tryz.func56 [.tmp 2, .cell 3 31, .cell 4 29, .tmp 5]
end Go.Proofs.YtmbpmbofehmdaaaGreatDoor
