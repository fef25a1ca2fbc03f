/-
 Walks: characteristic terms of formulas (the reference).
-/
import Derived.Test.YtpnjamplciaopaaGreatDoorLf
set_option linter.unusedSimpArgs false
set_option linter.unusedVariables false
set_option maxRecDepth 20000
set_option maxHeartbeats 4000000
namespace Go.Proofs.YtpnjamplciaopaaGreatDoor
open Go GoAbs Go.Proofs
theorem zT_cells2' : zeroT.cells = [.int .i64 0, .int .i64 0, .int .i64 0, .sl .any [], .sl .any []] := by simp [zeroT, Tm.mk_cells, Ty.mk_kind, Ty.mk_args]
theorem c_r30Eq (x y : Tm) (wx : TmW x) (wy : TmW y) :
  Pure Tryz.prog env 55 [.agg (fmEq x y).cells] (tmErrV (cutT (eqT x y))) := by
 have hA := c_r24App distT x
 have hB := c_r24App (tm0 3 [distT, x]) y
 have hC := c_r30choose tNat (tm0 3 [tm0 3 [distT, x], y]) (tm0 4 []) oneT tm0_W0
 have hl : (tmLift (tm0 4 []) 0 2).1 = tm0 4 [] := by kernel_rfl
 rw [hl, show chooseT tNat (tm0 3 [tm0 3 [distT, x], y]) (tm0 4 []) oneT = eqT x y from rfl] at hC
 have hK := c_r30cut (eqT x y) (eqT_W wx wy)
 have e : (fmEq x y).cells = [.int .i64 1, .int .i64 0, .sl .any [], .sl .any [x.cells, y.cells], .sl .any []] := by rw [fmEq, Fm.mk_cells]; rfl
 rw [e]
 have h4 := c_r24Node 4 []
 have hD := c_r05Dist
 have hN := c_ref23Nat
 have h1 := c_r30one
 simp only [List.map_nil] at h4
 clear e wx wy hl
 generalize cutT (eqT x y) = r at *
 obtain ⟨r1, r2⟩ := r
 unfold tmErrV at *
 simp only at *
 intro h
 refine en Tryz.func55 [.cell 2 31, .tmp 3] rfl rfl fun g0 w0 gen hrel hfr hfr' hres => ?_
 repeat' (first
  | (refine ⟨?_, ?_⟩; focus ((repeat' (first | refine And.intro ?_ ?_ | refine Or.inr ?_)); all_goals kernel_rfl))
  | exact hin _ | exact agf (by assumption)
  | (first | refine wp rfl ?_ | refine spt rfl ?_ | refine spf rfl ?_ | (refine spl (fun hc => ?_) fun hc => ?_) <;> (try rw [beq_iff_eq] at hc) <;> try simp only [hc] | refine cp (h4) ?_ | refine cp (hD) ?_ | refine cp (hA) ?_ | refine cp (hB) ?_ | refine cp (hN) ?_ | refine cp (h1) ?_ | refine cp (hC) ?_ | refine cp (hK) ?_ | refine finF hrel ?_ ?_ ?_) <;> try simp only [go_sem, *])
theorem c_r30Two (k : Int) (hk : k = 2 ∨ k = 3) (a b : Fm) (x y : Tm × Int) (hx : x.2 = 0 → TmG x.1 ∧ tmSz x.1 ≤ 4096) (hy : y.2 = 0 → TmG y.1 ∧ tmSz y.1 ≤ 4096 ∧ y.1.least 300000000 = true) (wx : TmW x.1) (wy : TmW y.1)
  (h1 : Pure Tryz.prog env 55 [.agg a.cells] (tmErrV x)) (h2 : Pure Tryz.prog env 55 [.agg b.cells] (tmErrV y)) :
  Pure Tryz.prog env 55 [.agg (fmTwo k a b).cells] (tmErrV (twoT k x y)) := by
 have e : (fmTwo k a b).cells = [.int .i64 k, .int .i64 0, .sl .any [], .sl .any [], .sl .any [a.cells, b.cells]] := by rw [fmTwo, Fm.mk_cells]; rfl
 rw [e]
 clear e
 have hz := zT_cells2'
 have hN := c_ref23Nat
 have h4 := c_r24Node 4 []
 have ho := c_r30one
 simp only [List.map_nil] at h4
 obtain ⟨x1, x2⟩ := x
 obtain ⟨y1, y2⟩ := y
 unfold tmErrV at h1 h2
 simp only at *
 intro h
 have k1 : (k == 1) = false := by rcases hk with rfl | rfl <;> rfl
 cases q : (x2 != 0) with
 | true =>
  unfold twoT
  simp only [q, if_true, tmErrV]
  clear hx hy wx wy
  refine en Tryz.func55 [.cell 2 31, .tmp 3] rfl rfl fun g0 w0 gen hrel hfr hfr' hres => ?_
  repeat' (first
   | (refine ⟨?_, ?_⟩; focus ((repeat' (first | refine And.intro ?_ ?_ | refine Or.inr ?_)); all_goals kernel_rfl))
   | exact hin _ | exact agf (by assumption)
   | (first | refine wp rfl ?_ | refine spt rfl ?_ | refine spf rfl ?_ | (refine spl (fun hc => ?_) fun hc => ?_) <;> (try rw [beq_iff_eq] at hc) <;> try simp only [hc] | refine cp (h4) ?_ | refine cp (h1) ?_ | refine finF hrel ?_ ?_ ?_) <;> try simp only [go_sem, *])
 | false =>
 have q0 : x2 = 0 := by simpa using q
 subst q0
 cases q2 : (y2 != 0) with
 | true =>
  unfold twoT
  simp only [q, q2, if_true, Bool.false_eq_true, if_false, tmErrV]
  clear hx hy wx wy
  refine en Tryz.func55 [.cell 2 31, .tmp 3] rfl rfl fun g0 w0 gen hrel hfr hfr' hres => ?_
  repeat' (first
   | (refine ⟨?_, ?_⟩; focus ((repeat' (first | refine And.intro ?_ ?_ | refine Or.inr ?_)); all_goals kernel_rfl))
   | exact hin _ | exact agf (by assumption)
   | (first | refine wp rfl ?_ | refine spt rfl ?_ | refine spf rfl ?_ | (refine spl (fun hc => ?_) fun hc => ?_) <;> (try rw [beq_iff_eq] at hc) <;> try simp only [hc] | refine cp (h4) ?_ | refine cp (h1) ?_ | refine cp (h2) ?_ | refine finF hrel ?_ ?_ ?_) <;> try simp only [go_sem, *])
 | false =>
 have q0 : y2 = 0 := by simpa using q2
 subst q0
 obtain ⟨gx, zx⟩ := hx rfl
 obtain ⟨gy, zy, ly⟩ := hy rfl
 have hC := c_r30choose tNat x1 y1 (elseT k) wy
 have hl : (tmLift y1 0 2).1 = y1.up 2 0 := by
  unfold tmLift
  rw [gy.err0 zy, if_neg (by simp), if_neg (by simp [least_mono (show (300000000 : Int) ≤ 536870912 by omega) _ ly])]
 rw [hl] at hC
 have hK := c_r30cut (chooseT tNat x1 (y1.up 2 0) (elseT k)) (chooseT_W tNat_W wx (tm_upW _ _ wy) elseT_W)
 have hs : cutT (chooseT tNat x1 (y1.up 2 0) (elseT k)) = twoT k (x1, 0) (y1, 0) := by simp [twoT]
 rw [hs] at hK
 generalize twoT k (x1, 0) (y1, 0) = r at *
 obtain ⟨r1, r2⟩ := r
 unfold tmErrV at *
 simp only at *
 clear gx gy zx zy ly wx wy hx hy hl hs
 rcases hk with rfl | rfl
 ·rw [show elseT 2 = tm0 4 [] from rfl] at hC hK
  refine en Tryz.func55 [.cell 2 31, .tmp 3] rfl rfl fun g0 w0 gen hrel hfr hfr' hres => ?_
  repeat' (first
   | (refine ⟨?_, ?_⟩; focus ((repeat' (first | refine And.intro ?_ ?_ | refine Or.inr ?_)); all_goals kernel_rfl))
   | exact hin _ | exact agf (by assumption)
   | (first | refine wp rfl ?_ | refine spt rfl ?_ | refine spf rfl ?_ | (refine spl (fun hc => ?_) fun hc => ?_) <;> (try rw [beq_iff_eq] at hc) <;> try simp only [hc] | refine cp (h4) ?_ | refine cp (h1) ?_ | refine cp (h2) ?_ | refine cp (hN) ?_ | refine cp (hC) ?_ | refine cp (hK) ?_ | refine finF hrel ?_ ?_ ?_) <;> try simp only [go_sem, *])
 ·rw [show elseT 3 = oneT from rfl] at hC hK
  refine en Tryz.func55 [.cell 2 31, .tmp 3] rfl rfl fun g0 w0 gen hrel hfr hfr' hres => ?_
  repeat' (first
   | (refine ⟨?_, ?_⟩; focus ((repeat' (first | refine And.intro ?_ ?_ | refine Or.inr ?_)); all_goals kernel_rfl))
   | exact hin _ | exact agf (by assumption)
   | (first | refine wp rfl ?_ | refine spt rfl ?_ | refine spf rfl ?_ | (refine spl (fun hc => ?_) fun hc => ?_) <;> (try rw [beq_iff_eq] at hc) <;> try simp only [hc] | refine cp (h4) ?_ | refine cp (h1) ?_ | refine cp (h2) ?_ | refine cp (ho) ?_ | refine cp (hN) ?_ | refine cp (hC) ?_ | refine cp (hK) ?_ | refine finF hrel ?_ ?_ ?_) <;> try simp only [go_sem, *])
theorem c_r30Of {u : Bool} {f : Fm} (hG : FmG u f) : FmW f → f.mfree = true → fmSz f ≤ 4096 → f.least 268435456 = true → Pure Tryz.prog env 55 [.agg f.cells] (tmErrV f.tr) := by
 induction hG with
 | @eq x y hx hy =>
  intro hw _ hz _
  rw [fmSz_eq] at hz
  rw [tr_eqn]
  exact c_r30Eq x y (hw.term (by simp [fmEq, Fm.terms])) (hw.term (by simp [fmEq, Fm.terms]))
 | @two k a b hk ga gb ih1 ih2 =>
  intro hw hm hz hl
  rw [fmSz_two] at hz
  rw [tr_two]
  obtain ⟨m1, m2⟩ := mfree_two' hm
  obtain ⟨l1, l2⟩ := least_two' hl
  have wa : FmW a := hw.arg (by simp [fmTwo, Fm.args])
  have wb : FmW b := hw.arg (by simp [fmTwo, Fm.args])
  refine c_r30Two k hk a b a.tr b.tr (fun e => ?_) (fun e => ?_) (tr_W ga wa m1) (tr_W gb wb m2) (ih1 wa m1 (by omega) l1) (ih2 wb m2 (by omega) l2)
  ·obtain ⟨t1, t2, _⟩ := tr_G ga m1 (by omega) 268435456 (by omega) (by omega) l1 e
   exact ⟨t1, t2⟩
  ·obtain ⟨t1, t2, t3⟩ := tr_G gb m2 (by omega) 268435456 (by omega) (by omega) l2 e
   exact ⟨t1, t2, least_mono (by omega) _ t3⟩
 | q hk _ _ _ => intro _ hm; rw [mfree_q' (FmG.qk hk)] at hm; cases hm
/-- ref30.Term of any formula. -/
theorem c_r30Term {u : Bool} (f : Fm) (hw : FmW f) (hG : fmErr f = 0 → FmG u f ∧ fmSz f ≤ 4096) : Pure Tryz.prog env 20 [.agg f.cells] (tmErrV (trF f)) := by
 intro h
 have h1 := c_refFmCheck f hw
 have h2 := c_r29Free f hw
 have h3 := c_LargeFormula f hw
 have hz := zT_cells2'
 have n0 : ((0 : Int) != 0) = false := rfl
 unfold trF
 cases q : (fmErr f != 0) with
 | true =>
  simp only [if_true, tmErrV]
  clear hG hw
  refine en Tryz.func20 [.cell 2 31, .tmp 3] rfl rfl fun g0 w0 gen hrel hfr hfr' hres => ?_
  repeat' (first
   | exact hin _ | exact agf (by assumption)
   | (first | refine wp rfl ?_ | refine spt rfl ?_ | refine spf rfl ?_ | (refine spl (fun hc => ?_) fun hc => ?_) <;> (try rw [beq_iff_eq] at hc) <;> try simp only [hc] | refine cp (h1) ?_ | refine finF hrel ?_ ?_ ?_) <;> try simp only [go_sem, *])
 | false =>
 have q0 : fmErr f = 0 := by simpa using q
 obtain ⟨g, z⟩ := hG q0
 rw [q0] at h1
 simp only [Bool.false_eq_true, if_false]
 cases q1 : f.mfree with
 | false =>
  rw [q1] at h2
  simp only [Bool.not_false, if_true, tmErrV]
  clear hG hw
  refine en Tryz.func20 [.cell 2 31, .tmp 3] rfl rfl fun g0 w0 gen hrel hfr hfr' hres => ?_
  repeat' (first
   | exact hin _ | exact agf (by assumption)
   | (first | refine wp rfl ?_ | refine spt rfl ?_ | refine spf rfl ?_ | (refine spl (fun hc => ?_) fun hc => ?_) <;> (try rw [beq_iff_eq] at hc) <;> try simp only [hc] | refine cp (h1) ?_ | refine cp (h2) ?_ | refine finF hrel ?_ ?_ ?_) <;> try simp only [go_sem, *])
 | true =>
 rw [q1] at h2
 simp only [Bool.not_true, Bool.false_eq_true, if_false]
 cases q2 : f.least 268435456 with
 | false =>
  rw [q2] at h3
  simp only [Bool.not_false, if_true, tmErrV] at h3 ⊢
  clear hG hw
  refine en Tryz.func20 [.cell 2 31, .tmp 3] rfl rfl fun g0 w0 gen hrel hfr hfr' hres => ?_
  repeat' (first
   | exact hin _ | exact agf (by assumption)
   | (first | refine wp rfl ?_ | refine spt rfl ?_ | refine spf rfl ?_ | (refine spl (fun hc => ?_) fun hc => ?_) <;> (try rw [beq_iff_eq] at hc) <;> try simp only [hc] | refine cp (h1) ?_ | refine cp (h2) ?_ | refine cp (h3) ?_ | refine finF hrel ?_ ?_ ?_) <;> try simp only [go_sem, *])
 | true =>
 rw [q2] at h3
 have h4 := c_r30Of g hw q1 z q2
 simp only [Bool.not_true, Bool.false_eq_true, if_false] at h3 ⊢
 clear hG hw g z
 generalize f.tr = r at *
 obtain ⟨r1, r2⟩ := r
 unfold tmErrV at *
 simp only at *
 refine en Tryz.func20 [.cell 2 31, .tmp 3] rfl rfl fun g0 w0 gen hrel hfr hfr' hres => ?_
 repeat' (first
  | exact hin _ | exact agf (by assumption)
  | (first | refine wp rfl ?_ | refine spt rfl ?_ | refine spf rfl ?_ | (refine spl (fun hc => ?_) fun hc => ?_) <;> (try rw [beq_iff_eq] at hc) <;> try simp only [hc] | refine cp (h1) ?_ | refine cp (h2) ?_ | refine cp (h3) ?_ | refine cp (h4) ?_ | refine finF hrel ?_ ?_ ?_) <;> try simp only [go_sem, *])
end Go.Proofs.YtpnjamplciaopaaGreatDoor
