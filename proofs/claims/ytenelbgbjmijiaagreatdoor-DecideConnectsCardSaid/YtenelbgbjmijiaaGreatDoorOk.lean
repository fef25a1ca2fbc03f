/-
 Walks: deciding formulas: equations, conjunctions, implications.
-/
import Derived.Test.YtenelbgbjmijiaaGreatDoorOj
set_option linter.unusedSimpArgs false
set_option linter.unusedVariables false
set_option maxRecDepth 20000
set_option maxHeartbeats 4000000
namespace Go.Proofs.YtenelbgbjmijiaaGreatDoor
open Go GoAbs Go.Proofs
def eqR (w : Nat) (px py : Nat × Nat × Bool) : Bool × Nat × Int := if px.2.2 then (false, w, 5) else if py.2.2 then (false, w + px.2.1, 5) else (px.1 == py.1, w + px.2.1 + py.2.1, 0)
theorem c_trEq (d : GoAbs.Id) (lim w : Nat) (x y : Tm) (px py : Nat × Nat × Bool) (hl : lim ≤ 65536) (hw : w ≤ lim) (hx : NumIs (lim - w) x px) (bx : px.2.1 ≤ lim - w)
  (hy : px.2.2 = false → NumIs (lim - (w + px.2.1)) y py ∧ py.2.1 ≤ 65536) : TrT d lim (fmEq x y) w (eqR w px py).1 (eqR w px py).2.1 (eqR w px py).2.2 := by
 refine ⟨_, _, 261, c_ofEq x y, by rw [weak, weakL_app']; simp [weakL_Tm], by kernel_rfl, ?_⟩
 have hA := c_eNumber d w lim x px hw hl (by omega) hx
 have hB : px.2.2 = false → _ := fun h => c_eNumber d (w + px.2.1) lim y py (by omega) hl (hy h).2 (hy h).1
 clear hx hy
 obtain ⟨n1, u1, o1⟩ := px
 obtain ⟨n2, u2, o2⟩ := py
 have cx := Tm.cells_eq x
 have cy := Tm.cells_eq y
 unfold eqR
 cases o1 with
 | true =>
  simp only [if_true, Bool.not_true] at hA ⊢
  clear hB
  rw [cx] at hA
  rw [cx, cy]
  intro h hd
  unfold eb at *
  clear bx hw hl
  refine en Tryz.func261 [.tmp 4] rfl rfl fun g0 w0 gen hrel hfr hfr' hres => ?_
  have f1 := fresh_ne hfr hd
  have f2 := fresh_ne' hfr hd
  repeat' (first
   | exact agb (by assumption)
   | (first | refine wp rfl ?_ | refine spt rfl ?_ | refine spf rfl ?_ | (refine spl (fun hc => ?_) fun hc => ?_) <;> (try rw [beq_iff_eq] at hc) <;> try simp only [hc] | (refine gs (fun hb => ?_) fun hb => ?_) <;> try simp only [Bool.not_true, Bool.not_false] at hb | (refine ct (hA) ?_ ?_; focus ((simp only [go_sem, *] <;> rfl); done)) | refine finT hrel hd ?_ ?_ ?_ ?_ ?_) <;> try simp only [go_sem, *])
 | false =>
  replace hB := hB rfl
  simp only [Bool.false_eq_true, if_false, Bool.not_false] at hA hB ⊢
  have hq : ((n1 : Int) == (n2 : Int)) = (n1 == n2) := by
   by_cases h : n1 = n2
   ·subst h; simp
   ·rw [beq_eq_false_iff_ne.2 h, beq_eq_false_iff_ne.2 (by omega)]
  clear bx hw hl
  generalize w + u1 = w1 at *
  rw [cx] at hA
  rw [cx, cy]
  cases o2 with
  | true =>
   simp only [if_true, Bool.not_true] at hB ⊢
   rw [cy] at hB
   intro h hd
   unfold eb at *
   refine en Tryz.func261 [.tmp 4] rfl rfl fun g0 w0 gen hrel hfr hfr' hres => ?_
   have f1 := fresh_ne hfr hd
   have f2 := fresh_ne' hfr hd
   repeat' (first
    | exact agb (by assumption)
    | (first | refine wp rfl ?_ | refine spt rfl ?_ | refine spf rfl ?_ | (refine spl (fun hc => ?_) fun hc => ?_) <;> (try rw [beq_iff_eq] at hc) <;> try simp only [hc] | (refine gs (fun hb => ?_) fun hb => ?_) <;> try simp only [Bool.not_true, Bool.not_false] at hb | (refine ct (hA) ?_ ?_; focus ((simp only [go_sem, *] <;> rfl); done)) | (refine ct (hB) ?_ ?_; focus ((simp only [go_sem, *] <;> rfl); done)) | refine finT hrel hd ?_ ?_ ?_ ?_ ?_) <;> try simp only [go_sem, *])
  | false =>
   simp only [Bool.false_eq_true, if_false, Bool.not_false] at hB ⊢
   generalize w1 + u2 = w2 at *
   rw [cy] at hB
   intro h hd
   unfold eb at *
   refine en Tryz.func261 [.tmp 4] rfl rfl fun g0 w0 gen hrel hfr hfr' hres => ?_
   have f1 := fresh_ne hfr hd
   have f2 := fresh_ne' hfr hd
   repeat' (first
    | exact agb (by assumption)
    | (first | refine wp rfl ?_ | refine spt rfl ?_ | refine spf rfl ?_ | (refine spl (fun hc => ?_) fun hc => ?_) <;> (try rw [beq_iff_eq] at hc) <;> try simp only [hc] | (refine gs (fun hb => ?_) fun hb => ?_) <;> try simp only [Bool.not_true, Bool.not_false] at hb | (refine ct (hA) ?_ ?_; focus ((simp only [go_sem, *] <;> rfl); done)) | (refine ct (hB) ?_ ?_; focus ((simp only [go_sem, *] <;> rfl); done)) | refine finT hrel hd ?_ ?_ ?_ ?_ ?_) <;> try simp only [go_sem, *])
theorem c_trAnd (d : GoAbs.Id) (lim w : Nat) (x y : Fm) (a b : Bool × Nat × Int) (hx : TrT d lim x w a.1 a.2.1 a.2.2) (he : a.1 = true → a.2.2 = 0) (hy : a.1 = true → TrT d lim y a.2.1 b.1 b.2.1 b.2.2) :
  TrT d lim (fmTwo 2 x y) w (if a.1 then b else a).1 (if a.1 then b else a).2.1 (if a.1 then b else a).2.2 := by
 refine ⟨_, _, 281, c_ofTwo 2 (.inl rfl) x y, by rw [weak, weakL_app']; simp [weakL_Fm], by kernel_rfl, ?_⟩
 obtain ⟨a1, wa, ea⟩ := a
 obtain ⟨b1, wb, eb'⟩ := b
 obtain ⟨T1, u1, k1, p1, q1, m1, t1⟩ := hx
 have cx := Fm.cells_eq x
 have cy := Fm.cells_eq y
 cases a1 with
 | true =>
  obtain ⟨T2, u2, k2, p2, q2, m2, t2⟩ := hy rfl
  obtain rfl : ea = 0 := he rfl
  clear hy he
  simp only [if_true] at *
  rw [cx] at p1
  rw [cy] at p2
  rw [cx, cy]
  intro h hd
  unfold eb at *
  refine en Tryz.func281 [.tmp 4] rfl rfl fun g0 w0 gen hrel hfr hfr' hres => ?_
  have f1 := fresh_ne hfr hd
  have f2 := fresh_ne' hfr hd
  repeat' (first
   | exact agb (by assumption)
   | (first | refine wp rfl ?_ | (refine gs (fun hb => ?_) fun hb => ?_) <;> try simp only [Bool.not_true, Bool.not_false] at hb | refine cp (p1) ?_ | refine cp (p2) ?_ | refine invThen_at (m1) ?_ | refine invThen_at (m2) ?_ | (refine ct (t1) ?_ ?_; focus ((simp only [go_sem, *] <;> rfl); done)) | (refine ct (t2) ?_ ?_; focus ((simp only [go_sem, *] <;> rfl); done)) | refine finT hrel hd ?_ ?_ ?_ ?_ ?_) <;> try simp only [go_sem, *])
 | false =>
  clear hy he
  simp only [Bool.false_eq_true, if_false] at *
  rw [cx] at p1
  rw [cx, cy]
  intro h hd
  unfold eb at *
  refine en Tryz.func281 [.tmp 4] rfl rfl fun g0 w0 gen hrel hfr hfr' hres => ?_
  have f1 := fresh_ne hfr hd
  have f2 := fresh_ne' hfr hd
  repeat' (first
   | exact agb (by assumption)
   | (first | refine wp rfl ?_ | (refine gs (fun hb => ?_) fun hb => ?_) <;> try simp only [Bool.not_true, Bool.not_false] at hb | refine cp (p1) ?_ | refine invThen_at (m1) ?_ | (refine ct (t1) ?_ ?_; focus ((simp only [go_sem, *] <;> rfl); done)) | refine finT hrel hd ?_ ?_ ?_ ?_ ?_) <;> try simp only [go_sem, *])
def impR (a b : Bool × Nat × Int) : Bool × Nat × Int := if a.2.2 != 0 || !a.1 then (a.2.2 == 0, a.2.1, a.2.2) else b
theorem c_trImp (d : GoAbs.Id) (lim w : Nat) (x y : Fm) (a b : Bool × Nat × Int) (hx : TrT d lim x w a.1 a.2.1 a.2.2) (hy : a.2.2 = 0 → a.1 = true → TrT d lim y a.2.1 b.1 b.2.1 b.2.2) :
  TrT d lim (fmTwo 3 x y) w (impR a b).1 (impR a b).2.1 (impR a b).2.2 := by
 refine ⟨_, _, 282, c_ofTwo 3 (.inr rfl) x y, by rw [weak, weakL_app']; simp [weakL_Fm], by kernel_rfl, ?_⟩
 obtain ⟨a1, wa, ea⟩ := a
 obtain ⟨b1, wb, eb'⟩ := b
 obtain ⟨T1, u1, k1, p1, q1, m1, t1⟩ := hx
 have cx := Fm.cells_eq x
 have cy := Fm.cells_eq y
 unfold impR
 simp only at *
 cases h0 : (ea != 0) with
 | true =>
  have h1 : (ea == 0) = false := by simpa using h0
  clear hy
  simp only [Bool.true_or, if_true, h1]
  rw [cx] at p1
  rw [cx, cy]
  intro h hd
  unfold eb at *
  refine en Tryz.func282 [.tmp 4] rfl rfl fun g0 w0 gen hrel hfr hfr' hres => ?_
  have f1 := fresh_ne hfr hd
  have f2 := fresh_ne' hfr hd
  repeat' (first
   | exact agb (by assumption)
   | (first | refine wp rfl ?_ | refine spt rfl ?_ | refine spf rfl ?_ | (refine spl (fun hc => ?_) fun hc => ?_) <;> (try rw [beq_iff_eq] at hc) <;> try simp only [hc] | (refine gs (fun hb => ?_) fun hb => ?_) <;> try simp only [Bool.not_true, Bool.not_false] at hb | refine cp (p1) ?_ | refine invThen_at (m1) ?_ | (refine ct (t1) ?_ ?_; focus ((simp only [go_sem, *] <;> rfl); done)) | refine finT hrel hd ?_ ?_ ?_ ?_ ?_) <;> try simp only [go_sem, *])
 | false =>
  obtain rfl : ea = 0 := by simpa using h0
  cases a1 with
  | true =>
   obtain ⟨T2, u2, k2, p2, q2, m2, t2⟩ := hy rfl rfl
   clear hy
   simp only [Bool.not_true, Bool.or_self, Bool.false_eq_true, if_false] at *
   rw [cx] at p1
   rw [cy] at p2
   rw [cx, cy]
   intro h hd
   unfold eb at *
   refine en Tryz.func282 [.tmp 4] rfl rfl fun g0 w0 gen hrel hfr hfr' hres => ?_
   have f1 := fresh_ne hfr hd
   have f2 := fresh_ne' hfr hd
   repeat' (first
    | exact agb (by assumption)
    | (first | refine wp rfl ?_ | refine spt rfl ?_ | refine spf rfl ?_ | (refine spl (fun hc => ?_) fun hc => ?_) <;> (try rw [beq_iff_eq] at hc) <;> try simp only [hc] | (refine gs (fun hb => ?_) fun hb => ?_) <;> try simp only [Bool.not_true, Bool.not_false] at hb | refine cp (p1) ?_ | refine cp (p2) ?_ | refine invThen_at (m1) ?_ | refine invThen_at (m2) ?_ | (refine ct (t1) ?_ ?_; focus ((simp only [go_sem, *] <;> rfl); done)) | (refine ct (t2) ?_ ?_; focus ((simp only [go_sem, *] <;> rfl); done)) | refine finT hrel hd ?_ ?_ ?_ ?_ ?_) <;> try simp only [go_sem, *])
  | false =>
   clear hy
   have h1 : ((0 : Int) == 0) = true := rfl
   simp only [Bool.not_false, Bool.or_true, if_true, h1] at *
   rw [cx] at p1
   rw [cx, cy]
   intro h hd
   unfold eb at *
   refine en Tryz.func282 [.tmp 4] rfl rfl fun g0 w0 gen hrel hfr hfr' hres => ?_
   have f1 := fresh_ne hfr hd
   have f2 := fresh_ne' hfr hd
   repeat' (first
    | exact agb (by assumption)
    | (first | refine wp rfl ?_ | refine spt rfl ?_ | refine spf rfl ?_ | (refine spl (fun hc => ?_) fun hc => ?_) <;> (try rw [beq_iff_eq] at hc) <;> try simp only [hc] | (refine gs (fun hb => ?_) fun hb => ?_) <;> try simp only [Bool.not_true, Bool.not_false] at hb | refine cp (p1) ?_ | refine invThen_at (m1) ?_ | (refine ct (t1) ?_ ?_; focus ((simp only [go_sem, *] <;> rfl); done)) | refine finT hrel hd ?_ ?_ ?_ ?_ ?_) <;> try simp only [go_sem, *])
end Go.Proofs.YtenelbgbjmijiaaGreatDoor
