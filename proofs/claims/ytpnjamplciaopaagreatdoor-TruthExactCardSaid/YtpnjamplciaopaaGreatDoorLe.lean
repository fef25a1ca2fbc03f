/-
 Walks: characteristic terms of formulas (the program).
-/
import Derived.Test.YtpnjamplciaopaaGreatDoorLd
set_option linter.unusedSimpArgs false
set_option linter.unusedVariables false
set_option maxRecDepth 20000
set_option maxHeartbeats 4000000
namespace Go.Proofs.YtpnjamplciaopaaGreatDoor
open Go GoAbs Go.Proofs
theorem zT_cells2 : zeroT.cells = [.int .i64 0, .int .i64 0, .int .i64 0, .sl .any [], .sl .any []] := by simp [zeroT, Tm.mk_cells, Ty.mk_kind, Ty.mk_args]
theorem z4_cells : (tm0 4 []).cells = [.int .i64 4, .int .i64 0, .int .i64 0, .sl .any [], .sl .any []] := by simp [tm0, Tm.mk_cells, Ty.mk_kind, Ty.mk_args]
theorem one_cells : oneT.cells = [.int .i64 5, .int .i64 0, .int .i64 0, .sl .any [], .sl .any [[.int .i64 4, .int .i64 0, .int .i64 0, .sl .any [], .sl .any []]]] := by simp [oneT, tm0, Tm.mk_cells, Ty.mk_kind, Ty.mk_args]
theorem c_trEq (x y : Tm) (hx : TmG x) (hy : TmG y) (zx : tmSz x ≤ 4096) (zy : tmSz y ≤ 4096) (wx : TmW x) (wy : TmW y) :
  Pure Tryz.prog env 51 [.agg (fmEq x y).cells] (tmErrV (cutT (eqT x y))) := by
 have hA := c_Apply x y [x, y] rfl hx hy zx zy wx wy
 simp only [List.map_cons, List.map_nil] at hA
 rw [← eqT_apply hx hy zx zy]
 have hw : TmW (applyT x y).1 := by
  unfold applyT; split
  ·exact zeroT_W
  ·exact tm0_W2 (tm0_W2 distT_W wx) wy
 have hC := c_trChoose tNat (applyT x y).1 (tm0 4 []) oneT tNat_W hw tm0_W0 oneT_W tm0_W0
 rw [z4_cells, one_cells] at hC
 have e : (fmEq x y).cells = [.int .i64 1, .int .i64 0, .sl .any [], .sl .any [x.cells, y.cells], .sl .any []] := by rw [fmEq, Fm.mk_cells]; rfl
 rw [e]
 have n0 : ((0 : Int) != 0) = false := rfl
 have hD := c_vDist
 have hN := c_scNat
 clear e hx hy zx zy wx wy hw
 generalize applyT x y = p at *
 obtain ⟨p1, p2⟩ := p
 simp only at hC
 unfold tmErrV at hA
 simp only at hA
 intro h
 cases q : (p2 != 0) with
 | true =>
  have hz := zT_cells2
  simp only [if_true, tmErrV]
  clear hC n0
  refine en Tryz.func51 [.cell 2 31, .tmp 3] rfl rfl fun g0 w0 gen hrel hfr hfr' hres => ?_
  repeat' (first
   | (refine ⟨?_, ?_⟩; focus ((repeat' (first | refine And.intro ?_ ?_ | refine Or.inr ?_)); all_goals kernel_rfl))
   | exact hin _ | exact agf (by assumption)
   | (first | refine wp rfl ?_ | refine spt rfl ?_ | refine spf rfl ?_ | (refine spl (fun hc => ?_) fun hc => ?_) <;> (try rw [beq_iff_eq] at hc) <;> try simp only [hc] | refine cp (hD) ?_ | refine cp (hA) ?_ | refine finF hrel ?_ ?_ ?_) <;> try simp only [go_sem, *])
 | false =>
  have q0 : p2 = 0 := by simpa using q
  subst q0
  simp only [Bool.false_eq_true, if_false]
  generalize bldT (chooseT tNat p1 ((tm0 4 []).sl 2 0) oneT) = r at *
  obtain ⟨r1, r2⟩ := r
  unfold tmErrV at *
  simp only at *
  refine en Tryz.func51 [.cell 2 31, .tmp 3] rfl rfl fun g0 w0 gen hrel hfr hfr' hres => ?_
  repeat' (first
   | (refine ⟨?_, ?_⟩; focus ((repeat' (first | refine And.intro ?_ ?_ | refine Or.inr ?_)); all_goals kernel_rfl))
   | exact hin _ | exact agf (by assumption)
   | (first | refine wp rfl ?_ | refine spt rfl ?_ | refine spf rfl ?_ | (refine spl (fun hc => ?_) fun hc => ?_) <;> (try rw [beq_iff_eq] at hc) <;> try simp only [hc] | refine cp (hD) ?_ | refine cp (hA) ?_ | refine cp (hN) ?_ | refine cp (hC) ?_ | refine finF hrel ?_ ?_ ?_) <;> try simp only [go_sem, *])
theorem c_trTwo (k : Int) (hk : k = 2 ∨ k = 3) (a b : Fm) (x y : Tm × Int) (hx : x.2 = 0 → TmG x.1 ∧ tmSz x.1 ≤ 4096) (hy : y.2 = 0 → TmG y.1 ∧ tmSz y.1 ≤ 4096 ∧ y.1.least 300000000 = true) (wx : TmW x.1) (wy : TmW y.1)
  (h1 : Pure Tryz.prog env 51 [.agg a.cells] (tmErrV x)) (h2 : Pure Tryz.prog env 51 [.agg b.cells] (tmErrV y)) :
  Pure Tryz.prog env 51 [.agg (fmTwo k a b).cells] (tmErrV (twoT k x y)) := by
 have e : (fmTwo k a b).cells = [.int .i64 k, .int .i64 0, .sl .any [], .sl .any [], .sl .any [a.cells, b.cells]] := by rw [fmTwo, Fm.mk_cells]; rfl
 rw [e]
 clear e
 have hz := zT_cells2
 have hN := c_scNat
 obtain ⟨x1, x2⟩ := x
 obtain ⟨y1, y2⟩ := y
 unfold tmErrV at h1 h2
 simp only at *
 intro h
 have k1 : (k == 1) = false := by rcases hk with rfl | rfl <;> rfl
 cases q : (x2 != 0) with
 | true =>
  unfold twoT
  simp only [q, if_true, tmErrV]
  clear hx hy wx wy
  refine en Tryz.func51 [.cell 2 31, .tmp 3] rfl rfl fun g0 w0 gen hrel hfr hfr' hres => ?_
  repeat' (first
   | (refine ⟨?_, ?_⟩; focus ((repeat' (first | refine And.intro ?_ ?_ | refine Or.inr ?_)); all_goals kernel_rfl))
   | exact hin _ | exact agf (by assumption)
   | (first | refine wp rfl ?_ | refine spt rfl ?_ | refine spf rfl ?_ | (refine spl (fun hc => ?_) fun hc => ?_) <;> (try rw [beq_iff_eq] at hc) <;> try simp only [hc] | refine cp (h1) ?_ | refine finF hrel ?_ ?_ ?_) <;> try simp only [go_sem, *])
 | false =>
 have q0 : x2 = 0 := by simpa using q
 subst q0
 cases q2 : (y2 != 0) with
 | true =>
  unfold twoT
  simp only [q, q2, if_true, Bool.false_eq_true, if_false, tmErrV]
  clear hx hy wx wy
  refine en Tryz.func51 [.cell 2 31, .tmp 3] rfl rfl fun g0 w0 gen hrel hfr hfr' hres => ?_
  repeat' (first
   | (refine ⟨?_, ?_⟩; focus ((repeat' (first | refine And.intro ?_ ?_ | refine Or.inr ?_)); all_goals kernel_rfl))
   | exact hin _ | exact agf (by assumption)
   | (first | refine wp rfl ?_ | refine spt rfl ?_ | refine spf rfl ?_ | (refine spl (fun hc => ?_) fun hc => ?_) <;> (try rw [beq_iff_eq] at hc) <;> try simp only [hc] | refine cp (h1) ?_ | refine cp (h2) ?_ | refine finF hrel ?_ ?_ ?_) <;> try simp only [go_sem, *])
 | false =>
 have q0 : y2 = 0 := by simpa using q2
 subst q0
 obtain ⟨gx, zx⟩ := hx rfl
 obtain ⟨gy, zy, ly⟩ := hy rfl
 have hC := c_trChoose tNat x1 y1 (elseT k) tNat_W wx wy elseT_W (by
  rw [sl_up (b := 2) (by omega) (by omega) _ gy (Nat.le_refl _) (least_mono (by omega) _ ly) 0 (by omega) (by omega)]; exact tm_upW _ _ wy)
 rw [two_choose (k := k) (x := (x1, 0)) (y := (y1, 0)) gx gy zx zy ly rfl rfl] at hC
 generalize twoT k (x1, 0) (y1, 0) = r at *
 obtain ⟨r1, r2⟩ := r
 unfold tmErrV at *
 simp only at *
 clear gx gy zx zy ly wx wy hx hy
 rcases hk with rfl | rfl
 ·rw [show elseT 2 = tm0 4 [] from rfl, z4_cells] at hC
  refine en Tryz.func51 [.cell 2 31, .tmp 3] rfl rfl fun g0 w0 gen hrel hfr hfr' hres => ?_
  repeat' (first
   | (refine ⟨?_, ?_⟩; focus ((repeat' (first | refine And.intro ?_ ?_ | refine Or.inr ?_)); all_goals kernel_rfl))
   | exact hin _ | exact agf (by assumption)
   | (first | refine wp rfl ?_ | refine spt rfl ?_ | refine spf rfl ?_ | (refine spl (fun hc => ?_) fun hc => ?_) <;> (try rw [beq_iff_eq] at hc) <;> try simp only [hc] | refine cp (h1) ?_ | refine cp (h2) ?_ | refine cp (hN) ?_ | refine cp (hC) ?_ | refine finF hrel ?_ ?_ ?_) <;> try simp only [go_sem, *])
 ·rw [show elseT 3 = oneT from rfl, one_cells] at hC
  refine en Tryz.func51 [.cell 2 31, .tmp 3] rfl rfl fun g0 w0 gen hrel hfr hfr' hres => ?_
  repeat' (first
   | (refine ⟨?_, ?_⟩; focus ((repeat' (first | refine And.intro ?_ ?_ | refine Or.inr ?_)); all_goals kernel_rfl))
   | exact hin _ | exact agf (by assumption)
   | (first | refine wp rfl ?_ | refine spt rfl ?_ | refine spf rfl ?_ | (refine spl (fun hc => ?_) fun hc => ?_) <;> (try rw [beq_iff_eq] at hc) <;> try simp only [hc] | refine cp (h1) ?_ | refine cp (h2) ?_ | refine cp (hN) ?_ | refine cp (hC) ?_ | refine finF hrel ?_ ?_ ?_) <;> try simp only [go_sem, *])
theorem c_trOf {u : Bool} {f : Fm} (hG : FmG u f) : FmW f → f.mfree = true → fmSz f ≤ 4096 → f.least 268435456 = true → Pure Tryz.prog env 51 [.agg f.cells] (tmErrV f.tr) := by
 induction hG with
 | @eq x y hx hy =>
  intro hw _ hz _
  rw [fmSz_eq] at hz
  rw [tr_eqn]
  exact c_trEq x y hx hy (by omega) (by omega) (hw.term (by simp [fmEq, Fm.terms])) (hw.term (by simp [fmEq, Fm.terms]))
 | @two k a b hk ga gb ih1 ih2 =>
  intro hw hm hz hl
  rw [fmSz_two] at hz
  rw [tr_two]
  obtain ⟨m1, m2⟩ := mfree_two' hm
  obtain ⟨l1, l2⟩ := least_two' hl
  have wa : FmW a := hw.arg (by simp [fmTwo, Fm.args])
  have wb : FmW b := hw.arg (by simp [fmTwo, Fm.args])
  refine c_trTwo k hk a b a.tr b.tr (fun e => ?_) (fun e => ?_) (tr_W ga wa m1) (tr_W gb wb m2) (ih1 wa m1 (by omega) l1) (ih2 wb m2 (by omega) l2)
  ·obtain ⟨t1, t2, _⟩ := tr_G ga m1 (by omega) 268435456 (by omega) (by omega) l1 e
   exact ⟨t1, t2⟩
  ·obtain ⟨t1, t2, t3⟩ := tr_G gb m2 (by omega) 268435456 (by omega) (by omega) l2 e
   exact ⟨t1, t2, least_mono (by omega) _ t3⟩
 | q hk _ _ _ => intro _ hm; rw [mfree_q' (FmG.qk hk)] at hm; cases hm
/-- truth.Term of any formula. -/
theorem c_trTerm {u : Bool} (f : Fm) (hw : FmW f) (hG : fmErr f = 0 → FmG u f ∧ fmSz f ≤ 4096) (hfar : f.far = !f.least 268435456) : Pure Tryz.prog env 19 [.agg f.cells] (tmErrV (trF f)) := by
 intro h
 have h1 := c_fmCheck f hw
 have h2 := c_mFree f hw
 have h3 := c_FarFormula f hw
 rw [hfar] at h3
 have hz := zT_cells2
 have n0 : ((0 : Int) != 0) = false := rfl
 unfold trF
 cases q : (fmErr f != 0) with
 | true =>
  simp only [if_true, tmErrV]
  clear hG hfar hw
  refine en Tryz.func19 [.cell 2 31, .tmp 3] rfl rfl fun g0 w0 gen hrel hfr hfr' hres => ?_
  repeat' (first
   | exact hin _ | exact agf (by assumption)
   | (first | refine wp rfl ?_ | refine spt rfl ?_ | refine spf rfl ?_ | (refine spl (fun hc => ?_) fun hc => ?_) <;> (try rw [beq_iff_eq] at hc) <;> try simp only [hc] | refine cp (h1) ?_ | refine finF hrel ?_ ?_ ?_) <;> try simp only [go_sem, *])
 | false =>
 have q0 : fmErr f = 0 := by simpa using q
 obtain ⟨g, z⟩ := hG q0
 rw [q0] at h1
 simp only [Bool.false_eq_true, if_false]
 cases q1 : f.mfree with
 | false =>
  rw [q1] at h2
  simp only [Bool.not_false, if_true, tmErrV]
  clear hG hfar hw
  refine en Tryz.func19 [.cell 2 31, .tmp 3] rfl rfl fun g0 w0 gen hrel hfr hfr' hres => ?_
  repeat' (first
   | exact hin _ | exact agf (by assumption)
   | (first | refine wp rfl ?_ | refine spt rfl ?_ | refine spf rfl ?_ | (refine spl (fun hc => ?_) fun hc => ?_) <;> (try rw [beq_iff_eq] at hc) <;> try simp only [hc] | refine cp (h1) ?_ | refine cp (h2) ?_ | refine finF hrel ?_ ?_ ?_) <;> try simp only [go_sem, *])
 | true =>
 rw [q1] at h2
 simp only [Bool.not_true, Bool.false_eq_true, if_false]
 cases q2 : f.least 268435456 with
 | false =>
  rw [q2] at h3
  simp only [Bool.not_false, if_true, tmErrV] at h3 ⊢
  clear hG hfar hw
  refine en Tryz.func19 [.cell 2 31, .tmp 3] rfl rfl fun g0 w0 gen hrel hfr hfr' hres => ?_
  repeat' (first
   | exact hin _ | exact agf (by assumption)
   | (first | refine wp rfl ?_ | refine spt rfl ?_ | refine spf rfl ?_ | (refine spl (fun hc => ?_) fun hc => ?_) <;> (try rw [beq_iff_eq] at hc) <;> try simp only [hc] | refine cp (h1) ?_ | refine cp (h2) ?_ | refine cp (h3) ?_ | refine finF hrel ?_ ?_ ?_) <;> try simp only [go_sem, *])
 | true =>
 rw [q2] at h3
 have h4 := c_trOf g hw q1 z q2
 simp only [Bool.not_true, Bool.false_eq_true, if_false] at h3 ⊢
 clear hG hfar hw g z
 generalize f.tr = r at *
 obtain ⟨r1, r2⟩ := r
 unfold tmErrV at *
 simp only at *
 refine en Tryz.func19 [.cell 2 31, .tmp 3] rfl rfl fun g0 w0 gen hrel hfr hfr' hres => ?_
 repeat' (first
  | exact hin _ | exact agf (by assumption)
  | (first | refine wp rfl ?_ | refine spt rfl ?_ | refine spf rfl ?_ | (refine spl (fun hc => ?_) fun hc => ?_) <;> (try rw [beq_iff_eq] at hc) <;> try simp only [hc] | refine cp (h1) ?_ | refine cp (h2) ?_ | refine cp (h3) ?_ | refine cp (h4) ?_ | refine finF hrel ?_ ?_ ?_) <;> try simp only [go_sem, *])
end Go.Proofs.YtpnjamplciaopaaGreatDoor
