/-
 Walks: bounded quantifiers, and whether a formula is decidable (the reference).
-/
import Derived.Test.YtmbpmbofehmdaaaGreatDoorMl
import Derived.Test.YtmbpmbofehmdaaaGreatDoorGf
import Derived.Test.YtmbpmbofehmdaaaGreatDoorGk
import Derived.Test.YtmbpmbofehmdaaaGreatDoorGm
import Derived.Test.YtmbpmbofehmdaaaGreatDoorAbsDd
set_option linter.unusedSimpArgs false
set_option linter.unusedVariables false
set_option maxRecDepth 20000
set_option maxHeartbeats 4000000
namespace Go.Proofs.YtmbpmbofehmdaaaGreatDoor
open Go GoAbs Go.Proofs
def boundV9 (f : Fm) : V := if isBnd f then .tup [.bool (f.kind == 4), .agg ((bndTerm f).up (-1) 1).cells, .agg (bndBody f).cells, .bool true]
 else .tup [.bool false, .agg zeroT.cells, .agg zeroF.cells, .bool false]
theorem boundV9_no {f : Fm} (h : isBnd f = false) : boundV9 f = .tup [.bool false, .agg zeroT.cells, .agg zeroF.cells, .bool false] := by unfold boundV9; rw [h]; rfl
theorem c_r08bound (f : Fm) (hf : FmW f) (hg : f.good = true) (hk0 : f.kind = 4 ∨ f.kind = 5 ∨ f.kind = 6 ∨ f.kind = 7)
  (hh : ∀ a x u q : Fm × Tm, a.1 ∈ f.args → x.1 ∈ a.1.args → u.2 ∈ x.1.terms → q.2 ∈ u.2.args → q.2.hasV 0 = decide (q.2.count 0 > 0)) : Pure Tryz.prog env 59 [.agg f.cells] (boundV9 f) := by
 intro h
 obtain ⟨a, ha, ga⟩ := Fm.good_q hg hk0
 have wa : FmW a := hf.arg (by rw [ha]; simp)
 have hb4 : ((4 : Int) != 4) = false := rfl
 have hb5 : ((5 : Int) != 5) = false := rfl
 have hb6 : ((6 : Int) != 5) = true := rfl
 have hb7 : ((7 : Int) != 5) = true := rfl
 have hc4 : ((5 : Int) == 4) = false := rfl
 have hc6 : ((6 : Int) == 4) = false := rfl
 have hc7 : ((7 : Int) == 4) = false := rfl
 have hzt := zeroT_cells
 have hzf := zeroF_cells
 obtain hk | hk | hk : f.kind = 4 ∨ f.kind = 5 ∨ (f.kind = 6 ∨ f.kind = 7) := by omega
 rotate_left 2
 ·rw [boundV9_no (bnd_k hk)]
  rcases hk with hk | hk
  all_goals
   clear hk0 ga wa hf hg hh
   exact ek_ Tryz.func59 [.tmp 2, .cell 3 31, .cell 4 29, .tmp 5]
 ·cases k1 : (f.type.kind != 1) with
  | true =>
   rw [boundV9_no (bnd_ty k1)]
   clear hk0 ga wa hf hg hh
   exact ek_ Tryz.func59 [.tmp 2, .cell 3 31, .cell 4 29, .tmp 5]
  | false =>
  cases k2 : (a.kind != 3) with
  | true =>
   rw [boundV9_no (bnd_a4 hk ha k2)]
   clear hk0 ga wa hf hg hh
   exact ek_ Tryz.func59 [.tmp 2, .cell 3 31, .cell 4 29, .tmp 5]
  | false =>
  have hka : a.kind = 3 := by simpa using k2
  obtain ⟨x, y, hx, gx, gy⟩ := Fm.good_two ga (.inr hka)
  have wx : FmW x := wa.arg (by rw [hx]; simp)
  have wy : FmW y := wa.arg (by rw [hx]; simp)
  cases k3 : (x.kind != 1) with
  | true =>
   rw [boundV9_no (bnd_x ha hx k3)]
   clear hk0 ga wa hf hg gx gy wx wy hka hh
   exact ek_ Tryz.func59 [.tmp 2, .cell 3 31, .cell 4 29, .tmp 5]
  | false =>
  have hkx : x.kind = 1 := by simpa using k3
  obtain ⟨u, v, hu, gu, gv⟩ := Fm.good_eqn gx hkx
  have wu : TmW u := wx.term (by rw [hu]; simp)
  cases k4 : (u.kind != 3) with
  | true =>
   rw [boundV9_no (bnd_u ha hx hu k4)]
   clear hk0 ga wa hf hg gx gy wx wy hka hkx wu gu gv hh
   exact ek_ Tryz.func59 [.tmp 2, .cell 3 31, .cell 4 29, .tmp 5]
  | false =>
  have hku : u.kind = 3 := by simpa using k4
  obtain ⟨p, q, hq, gp, gq⟩ := Tm.good_app gu hku
  have wq : TmW q := wu.arg (by rw [hq]; simp)
  have hC := c_r03Has q wq 0
  rw [hh (a, zeroT) (x, zeroT) (zeroF, u) (zeroF, q) (by rw [ha]; simp) (by rw [hx]; simp) (by rw [hu]; simp) (by rw [hq]; simp)] at hC
  have hL := c_less08 (tmVar 0) q (tmVar_W 0) wq
  have hV := c_Var 0
  have hS := c_refFmSame x wx _ (lessF_W (tmVar_W 0) wq)
  have hU := c_tmUp (-1) q wq 1
  have hD := c_tmCopy (q.up (-1) 1) (tm_upW (b := -1) q 1 wq)
  have hE := c_fmCopy y wy
  clear hh
  cases k5 : decide (q.count 0 > 0) with
  | true =>
   rw [boundV9_no (bnd_q ha hx hu hq k5)]
   rw [k5] at hC
   clear hk0 ga wa hf hg gx gy wx wy hka hkx wu gu gv gp gq hku wq hL hV hS hU hD hE
   exact ek_ Tryz.func59 [.tmp 2, .cell 3 31, .cell 4 29, .tmp 5]
  | false =>
  rw [k5] at hC
  cases k6 : Fm.same x (lessF (tmVar 0) q) with
  | false =>
   rw [boundV9_no (bnd_s ha hx hu hq k6)]
   rw [k6] at hS
   clear hk0 ga wa hf hg gx gy wx wy hka hkx wu gu gv gp gq hku wq k6 hU hD hE
   generalize lessF (tmVar 0) q = z at *
   exact ek_ Tryz.func59 [.tmp 2, .cell 3 31, .cell 4 29, .tmp 5]
  | true =>
   obtain ⟨e1, e2, e3⟩ := bnd_yes (.inl ⟨hk, k2⟩) k1 ha hx k3 hu k4 hq k5 k6
   unfold boundV9
   rw [e1, e2, e3]
   rw [k6] at hS
   clear hk0 ga wa hf hg gx gy wx wy hka hkx wu gu gv gp gq hku wq k6 e1 e2 e3
   generalize lessF (tmVar 0) q = z at *
   generalize q.up (-1) 1 = q' at *
   exact ek_ Tryz.func59 [.tmp 2, .cell 3 31, .cell 4 29, .tmp 5]
 ·cases k1 : (f.type.kind != 1) with
  | true =>
   rw [boundV9_no (bnd_ty k1)]
   clear hk0 ga wa hf hg hh
   exact ek_ Tryz.func59 [.tmp 2, .cell 3 31, .cell 4 29, .tmp 5]
  | false =>
  cases k2 : (a.kind != 2) with
  | true =>
   rw [boundV9_no (bnd_a5 hk ha k2)]
   clear hk0 ga wa hf hg hh
   exact ek_ Tryz.func59 [.tmp 2, .cell 3 31, .cell 4 29, .tmp 5]
  | false =>
  have hka : a.kind = 2 := by simpa using k2
  obtain ⟨x, y, hx, gx, gy⟩ := Fm.good_two ga (.inl hka)
  have wx : FmW x := wa.arg (by rw [hx]; simp)
  have wy : FmW y := wa.arg (by rw [hx]; simp)
  cases k3 : (x.kind != 1) with
  | true =>
   rw [boundV9_no (bnd_x ha hx k3)]
   clear hk0 ga wa hf hg gx gy wx wy hka hh
   exact ek_ Tryz.func59 [.tmp 2, .cell 3 31, .cell 4 29, .tmp 5]
  | false =>
  have hkx : x.kind = 1 := by simpa using k3
  obtain ⟨u, v, hu, gu, gv⟩ := Fm.good_eqn gx hkx
  have wu : TmW u := wx.term (by rw [hu]; simp)
  cases k4 : (u.kind != 3) with
  | true =>
   rw [boundV9_no (bnd_u ha hx hu k4)]
   clear hk0 ga wa hf hg gx gy wx wy hka hkx wu gu gv hh
   exact ek_ Tryz.func59 [.tmp 2, .cell 3 31, .cell 4 29, .tmp 5]
  | false =>
  have hku : u.kind = 3 := by simpa using k4
  obtain ⟨p, q, hq, gp, gq⟩ := Tm.good_app gu hku
  have wq : TmW q := wu.arg (by rw [hq]; simp)
  have hC := c_r03Has q wq 0
  rw [hh (a, zeroT) (x, zeroT) (zeroF, u) (zeroF, q) (by rw [ha]; simp) (by rw [hx]; simp) (by rw [hu]; simp) (by rw [hq]; simp)] at hC
  have hL := c_less08 (tmVar 0) q (tmVar_W 0) wq
  have hV := c_Var 0
  have hS := c_refFmSame x wx _ (lessF_W (tmVar_W 0) wq)
  have hU := c_tmUp (-1) q wq 1
  have hD := c_tmCopy (q.up (-1) 1) (tm_upW (b := -1) q 1 wq)
  have hE := c_fmCopy y wy
  clear hh
  cases k5 : decide (q.count 0 > 0) with
  | true =>
   rw [boundV9_no (bnd_q ha hx hu hq k5)]
   rw [k5] at hC
   clear hk0 ga wa hf hg gx gy wx wy hka hkx wu gu gv gp gq hku wq hL hV hS hU hD hE
   exact ek_ Tryz.func59 [.tmp 2, .cell 3 31, .cell 4 29, .tmp 5]
  | false =>
  rw [k5] at hC
  cases k6 : Fm.same x (lessF (tmVar 0) q) with
  | false =>
   rw [boundV9_no (bnd_s ha hx hu hq k6)]
   rw [k6] at hS
   clear hk0 ga wa hf hg gx gy wx wy hka hkx wu gu gv gp gq hku wq k6 hU hD hE
   generalize lessF (tmVar 0) q = z at *
   exact ek_ Tryz.func59 [.tmp 2, .cell 3 31, .cell 4 29, .tmp 5]
  | true =>
   obtain ⟨e1, e2, e3⟩ := bnd_yes (.inr ⟨hk, k2⟩) k1 ha hx k3 hu k4 hq k5 k6
   unfold boundV9
   rw [e1, e2, e3]
   rw [k6] at hS
   clear hk0 ga wa hf hg gx gy wx wy hka hkx wu gu gv gp gq hku wq k6 e1 e2 e3
   generalize lessF (tmVar 0) q = z at *
   generalize q.up (-1) 1 = q' at *
   exact ek_ Tryz.func59 [.tmp 2, .cell 3 31, .cell 4 29, .tmp 5]
end Go.Proofs.YtmbpmbofehmdaaaGreatDoor
