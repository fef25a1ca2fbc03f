/-
  Walks: what it means that a term realizes a formula.
-/
import Derived.Test.YtjpheflnapmdcaaGreatDoorIb
import Derived.Test.YtjpheflnapmdcaaGreatDoorHe
set_option linter.unusedSimpArgs false
set_option linter.unusedVariables false
set_option maxRecDepth 20000
set_option maxHeartbeats 4000000
namespace Go.Proofs.YtjpheflnapmdcaaGreatDoor
open Go GoAbs Go.Proofs

theorem rlPart_W {b : Bool} {k : Int} {t : Tm} (h : TmW t) : TmW (rlPart b k t) := by
  unfold rlPart; split
  · exact tm0_W1 h
  · exact h
theorem rlUp_W {b : Bool} {t : Tm} (h : TmW t) : TmW (rlUp b t) := by
  unfold rlUp rlCall; split
  · exact tm0_W2 (sl_W _ _ h) (tmVar_W _)
  · exact sl_W _ _ h
theorem rlBuild_W {k : Int} {s : Ty} (hs : TyW s) {x : Fm × Int} (hx : FmW x.1) : FmW (rlBuild k s x).1 := by
  unfold rlBuild
  repeat' split
  · exact zeroF_W'
  · exact zeroF_W'
  · exact .mk _ _ _ _ hs (by simp) (by simp) (by simp) (by simp [hx])
theorem CtOk_W {p : Ty × Int} (h : CtOk p) : TyW p.1 := by
  rcases h with ⟨_, h⟩ | rfl
  · exact h.1.W
  · exact tZero_W
theorem cty_W {f : Fm} (hC : FmC f) : TyW f.cty.1 := by
  unfold Fm.cty; split
  · exact tZero_W
  · exact CtOk_W hC.ok.1
theorem rlOf_W : ∀ (n : Nat) (f : Fm) (t : Tm), FmC f → FmW f → TmW t → FmW (rlOf n f t).1
  | 0, _, _, _, _, _ => zeroF_W'
  | n + 1, f, t, hC, hf, ht => by
    have hg : ∀ i, (f.args.getD i zeroF ∈ f.args) ∨ f.args.getD i zeroF = zeroF := fun i => by
      rw [List.getD_eq_getElem?_getD]
      cases hh : f.args[i]? with
      | none => exact .inr rfl
      | some x => exact .inl (List.mem_of_getElem? hh)
    have hC2 : ∀ i, i < f.args.length → FmC (f.args.getD i zeroF) ∧ FmW (f.args.getD i zeroF) := fun i hi => by
      rw [List.getD_eq_getElem?_getD, List.getElem?_eq_getElem hi]
      have hm : f.args[i] ∈ f.args := List.getElem_mem hi
      exact ⟨hC.arg hm, hf.arg hm⟩
    have hl : ((f.kind == 2) = true → 2 ≤ f.args.length) ∧ ((f.kind == 3) = true → 2 ≤ f.args.length) ∧ ((f.kind == 4 || f.kind == 6 || f.kind == 7) = true → 1 ≤ f.args.length) ∧ ((f.kind == 5) = true → 1 ≤ f.args.length) := by
      cases hC with
      | eq => simp [Fm.kind]
      | two hk _ _ => rcases hk with rfl | rfl <;> simp [Fm.kind, Fm.args]
      | q hk _ _ => rcases hk with rfl | rfl | rfl | rfl <;> simp [Fm.kind, Fm.args]
    obtain ⟨l2, l3, l4, l5⟩ := hl
    rw [rlOf]
    split
    · exact zeroF_W'
    split
    · rename_i h; have h2 := l2 h
      obtain ⟨a1, a2⟩ := hC2 0 (by omega)
      obtain ⟨b1, b2⟩ := hC2 1 (by omega)
      exact mTwo_W (rlOf_W n _ _ a1 a2 (rlPart_W ht)) (rlOf_W n _ _ b1 b2 (rlPart_W ht))
    split
    · rename_i h; have h2 := l3 h
      obtain ⟨a1, a2⟩ := hC2 0 (by omega)
      obtain ⟨b1, b2⟩ := hC2 1 (by omega)
      unfold rlImp
      repeat' split
      · exact mTwo_W (rlOf_W n _ _ a1 a2 ht) (rlOf_W n _ _ b1 b2 ht)
      · exact zeroF_W'
      · exact rlBuild_W (cty_W a1) (mTwo_W (rlOf_W n _ _ (a1.ev _) (slf_W _ _ a2) (tmVar_W _)) (rlOf_W n _ _ (b1.ev _) (slf_W _ _ b2) (rlUp_W ht)))
    split
    · rename_i h; have h2 := l4 h
      obtain ⟨a1, a2⟩ := hC2 0 (by omega)
      exact rlBuild_W hf.ty (rlOf_W n _ _ a1 a2 (rlUp_W ht))
    split
    · rename_i h; have h2 := l5 h
      obtain ⟨a1, a2⟩ := hC2 0 (by omega)
      unfold rlEx
      split
      · exact zeroF_W'
      · exact rlOf_W n _ _ (a1.ev _) (fsp_W (rlPart_W ht) _ _ a2) (rlPart_W ht)
    · exact hf

theorem c_ctType (f : Fm) (hC : FmC f) (hf : FmW f) : Pure Tryz.prog env 249 [.agg f.cells] (tyErrV f.cty) := by
  intro h
  have h1 := c_fmCheck f hf
  obtain ⟨v, hv, hin, h2⟩ := c_ctOf hC hf
  have ho := hC.ok
  have hz := tZero_cells
  have n0 : ((0 : Int) != 0) = false := rfl
  have n4 : ((4 : Int) != 0) = true := rfl
  have hu : tUnit.cells = [.int .i64 5, .sl .any []] := by simp [tUnit, Ty.mk_cells]
  unfold Fm.cty
  generalize fmErr f = e at *
  cases q1 : (e != 0) with
  | true =>
    simp only [if_true, tyErrV, hz]
    clear h2 hin hv ho
    refine en Tryz.func249 [.cell 2 25, .tmp 3] rfl rfl fun g0 w0 gen hrel hfr hfr' hres => ?_
    repeat' (first
      | exact hin _ | exact agf (by assumption)
      | (first | refine wp rfl ?_ | refine spt rfl ?_ | refine spf rfl ?_ | (refine spl (fun hc => ?_) fun hc => ?_) <;> (try rw [beq_iff_eq] at hc) <;> try simp only [hc] | refine cp (h1) ?_ | refine finF hrel ?_ ?_ ?_) <;> try simp only [go_sem, *])
  | false =>
  simp only [Bool.false_eq_true, if_false]
  rcases hv with ⟨e0, rfl⟩ | ⟨e4, x, b, hx, rfl⟩
  · have hp : f.ct = (f.ct.1, 0) := by rw [← e0]
    cases qc : f.fl.c with
    | true =>
      rw [qc] at h2
      simp only [if_true] at h2
      rw [hp]
      simp only [tyErrV]
      have hin2 : ∀ S, InV S (V.tup [.agg f.ct.1.cells, .int .i64 0]) := fun S => by simp [InV, InL, InL_Ty]
      clear hin ho
      generalize f.ct.1 = y at *
      refine en Tryz.func249 [.cell 2 25, .tmp 3] rfl rfl fun g0 w0 gen hrel hfr hfr' hres => ?_
      repeat' (first
        | exact hin _ | exact agf (by assumption)
        | (first | refine wp rfl ?_ | refine spt rfl ?_ | refine spf rfl ?_ | (refine spl (fun hc => ?_) fun hc => ?_) <;> (try rw [beq_iff_eq] at hc) <;> try simp only [hc] | refine cp (h1) ?_ | refine cp (h2) ?_ | refine finF hrel ?_ ?_ ?_) <;> try simp only [go_sem, *])
    | false =>
      rw [ho.2 qc]
      rw [qc] at h2
      simp only [Bool.false_eq_true, if_false, hz] at h2
      simp only [tyErrV, hu]
      clear hin ho
      refine en Tryz.func249 [.cell 2 25, .tmp 3] rfl rfl fun g0 w0 gen hrel hfr hfr' hres => ?_
      repeat' (first
        | exact hin _ | exact agf (by assumption)
        | (first | refine wp rfl ?_ | refine spt rfl ?_ | refine spf rfl ?_ | (refine spl (fun hc => ?_) fun hc => ?_) <;> (try rw [beq_iff_eq] at hc) <;> try simp only [hc] | refine cp (h1) ?_ | refine cp (h2) ?_ | refine finF hrel ?_ ?_ ?_) <;> try simp only [go_sem, *])
  · rw [e4]
    simp only [tyErrV, hz]
    clear hin ho
    refine en Tryz.func249 [.cell 2 25, .tmp 3] rfl rfl fun g0 w0 gen hrel hfr hfr' hres => ?_
    repeat' (first
      | exact hin _ | exact agf (by assumption)
      | (first | refine wp rfl ?_ | refine spt rfl ?_ | refine spf rfl ?_ | (refine spl (fun hc => ?_) fun hc => ?_) <;> (try rw [beq_iff_eq] at hc) <;> try simp only [hc] | refine cp (h1) ?_ | refine cp (h2) ?_ | refine finF hrel ?_ ?_ ?_) <;> try simp only [go_sem, *])

theorem c_rlImp (r : Fm → Tm → Fm × Int) (f a b : Fm) (hmap : f.args.map Fm.cells = [a.cells, b.cells]) (ca : FmC a) (wa : FmW a) (wb : FmW b) (t : Tm) (ht : TmW t) (hrW : ∀ x y, FmC x → FmW x → TmW y → FmW (r x y).1) (cb : FmC b)
    (H1 : Pure Tryz.prog env 148 [.agg a.cells, .agg t.cells] (fmErrV (r a t)))
    (H2 : Pure Tryz.prog env 148 [.agg b.cells, .agg t.cells] (fmErrV (r b t)))
    (H3 : Pure Tryz.prog env 148 [.agg (a.slf 1).cells, .agg (tmVar 0).cells] (fmErrV (r (a.slf 1) (tmVar 0))))
    (H4 : ∀ u, TmW u → Pure Tryz.prog env 148 [.agg (b.slf 1).cells, .agg u.cells] (fmErrV (r (b.slf 1) u))) :
    Pure Tryz.prog env 213 [.agg f.cells, .agg t.cells] (fmErrV (rlImp r a b t)) := by
  intro h
  have k1 := c_hc a wa
  have k2 := c_hc b wb
  have k3 := c_ctType a ca wa
  have k4 := c_LiftFormula a wa 1
  have k5 := c_LiftFormula b wb 1
  have k6 := c_sLift 1 t ht 0
  have k7 := c_rlCall t ht
  have k8 := c_scVar 0
  have hin : ∀ S, InV S (fmErrV (rlImp r a b t)) := fun S => by simp [fmErrV, InV, InL, InL_Fm]
  have sa : FmW (a.slf 1) := slf_W _ _ wa
  have sb : FmW (b.slf 1) := slf_W _ _ wb
  have sca : FmC (a.slf 1) := ca.ev _
  have scb : FmC (b.slf 1) := cb.ev _
  unfold rlImp at hin ⊢
  cases q1 : a.hc with
  | false =>
    rw [q1] at k1 hin
    simp only [Bool.not_false, if_true] at hin ⊢
    have k9 := c_rlTwo 3 _ _ a b t t (hrW _ _ ca wa ht) (hrW _ _ cb wb ht) H1 H2
    clear k2 k3 k4 k5 k6 k7 k8 H1 H2 H3 H4 hrW
    generalize mTwo 3 (r a t) (r b t) = p at *
    obtain ⟨pf, pe⟩ := p
    simp only [fmErrV] at k9 hin ⊢
    refine en Tryz.func213 [.cell 4 29, .tmp 5] rfl rfl fun g0 w0 gen hrel hfr hfr' hres => ?_
    repeat' (first
      | (refine ⟨?_, ?_⟩; focus ((repeat' (first | refine And.intro ?_ ?_ | refine Or.inr ?_)); all_goals kernel_rfl))
      | exact hin _ | exact agf (by assumption)
      | (first | refine wp rfl ?_ | refine spt rfl ?_ | refine spf rfl ?_ | (refine spl (fun hc => ?_) fun hc => ?_) <;> (try rw [beq_iff_eq] at hc) <;> try simp only [hc] | refine cp (k1) ?_ | refine cp (k9) ?_ | refine finF hrel ?_ ?_ ?_) <;> try simp only [go_sem, *])
  | true =>
  rw [q1] at k1 hin
  simp only [Bool.not_true, Bool.false_eq_true, if_false] at hin ⊢
  have cw := cty_W ca
  generalize a.cty = c at *
  obtain ⟨cT, ce⟩ := c
  simp only [tyErrV] at k3 hin cw ⊢
  cases q2 : (ce != 0) with
  | true =>
    simp only [if_true, fmErrV, zeroF, Fm.mk_cells, Ty.mk_kind, Ty.mk_args, List.map_nil]
    clear k2 k4 k5 k6 k7 k8 H1 H2 H3 H4 hin hrW
    refine en Tryz.func213 [.cell 4 29, .tmp 5] rfl rfl fun g0 w0 gen hrel hfr hfr' hres => ?_
    repeat' (first
      | (refine ⟨?_, ?_⟩; focus ((repeat' (first | refine And.intro ?_ ?_ | refine Or.inr ?_)); all_goals kernel_rfl))
      | exact hin _ | exact agf (by assumption)
      | (first | refine wp rfl ?_ | refine spt rfl ?_ | refine spf rfl ?_ | (refine spl (fun hc => ?_) fun hc => ?_) <;> (try rw [beq_iff_eq] at hc) <;> try simp only [hc] | refine cp (k1) ?_ | refine cp (k3) ?_ | refine finF hrel ?_ ?_ ?_) <;> try simp only [go_sem, *])
  | false =>
  rw [q2] at hin
  simp only [Bool.false_eq_true, if_false] at hin ⊢
  have hu : TmW (rlUp b.hc t) := rlUp_W ht
  have k9 := c_rlTwo 3 _ _ (a.slf 1) (b.slf 1) (tmVar 0) (rlUp b.hc t) (hrW _ _ sca sa (tmVar_W 0)) (hrW _ _ scb sb hu) H3 (H4 _ hu)
  have wM : FmW (mTwo 3 (r (a.slf 1) (tmVar 0)) (r (b.slf 1) (rlUp b.hc t))).1 := mTwo_W (hrW _ _ sca sa (tmVar_W 0)) (hrW _ _ scb sb hu)
  clear H1 H2 H3 H4 hrW
  generalize mTwo 3 (r (a.slf 1) (tmVar 0)) (r (b.slf 1) (rlUp b.hc t)) = p at *
  obtain ⟨pf, pe⟩ := p
  simp only [fmErrV] at k9 wM
  have k10 := c_rlBuild 4 cT [pf] cw (by simp) (by simp [wM])
  have e1 : Fm.mk 4 cT [] [pf] = fmQ 4 cT pf := rfl
  rw [e1] at k10
  simp only [List.map_cons, List.map_nil] at k10
  unfold rlBuild at hin ⊢
  simp only at hin ⊢
  generalize a.slf 1 = a1 at *
  generalize b.slf 1 = b1 at *
  generalize tmVar 0 = v0 at *
  unfold rlUp at *
  cases q4 : b.hc with
  | true =>
    rw [q4] at k2 k9
    simp only [if_true] at k9
    generalize rlCall t = u at *
    cases q3 : (pe != 0) with
    | true =>
      clear k10 hin hu
      simp only [if_true, fmErrV, zeroF, Fm.mk_cells, Ty.mk_kind, Ty.mk_args, List.map_nil]
      refine en Tryz.func213 [.cell 4 29, .tmp 5] rfl rfl fun g0 w0 gen hrel hfr hfr' hres => ?_
      repeat' (first
        | (refine ⟨?_, ?_⟩; focus ((repeat' (first | refine And.intro ?_ ?_ | refine Or.inr ?_)); all_goals kernel_rfl))
        | exact hin _ | exact agf (by assumption)
        | (first | refine wp rfl ?_ | refine spt rfl ?_ | refine spf rfl ?_ | (refine spl (fun hc => ?_) fun hc => ?_) <;> (try rw [beq_iff_eq] at hc) <;> try simp only [hc] | refine cp (k1) ?_ | refine cp (k2) ?_ | refine cp (k3) ?_ | refine cp (k4) ?_ | refine cp (k5) ?_ | refine cp (k6) ?_ | refine cp (k7) ?_ | refine cp (k8) ?_ | refine cp (k9) ?_ | refine finF hrel ?_ ?_ ?_) <;> try simp only [go_sem, *])
    | false =>
      rw [q3] at hin
      simp only [Bool.false_eq_true, if_false] at hin ⊢
      clear hu
      generalize (if decide ((fmQ 4 cT pf).szW > 4096) = true then (zeroF, (4 : Int)) else (fmQ 4 cT pf, 0)) = z at *
      obtain ⟨zf, ze⟩ := z
      simp only [fmErrV] at k10 hin ⊢
      refine en Tryz.func213 [.cell 4 29, .tmp 5] rfl rfl fun g0 w0 gen hrel hfr hfr' hres => ?_
      repeat' (first
        | (refine ⟨?_, ?_⟩; focus ((repeat' (first | refine And.intro ?_ ?_ | refine Or.inr ?_)); all_goals kernel_rfl))
        | exact hin _ | exact agf (by assumption)
        | (first | refine wp rfl ?_ | refine spt rfl ?_ | refine spf rfl ?_ | (refine spl (fun hc => ?_) fun hc => ?_) <;> (try rw [beq_iff_eq] at hc) <;> try simp only [hc] | refine cp (k1) ?_ | refine cp (k2) ?_ | refine cp (k3) ?_ | refine cp (k4) ?_ | refine cp (k5) ?_ | refine cp (k6) ?_ | refine cp (k7) ?_ | refine cp (k8) ?_ | refine cp (k9) ?_ | refine cp (k10) ?_ | refine finF hrel ?_ ?_ ?_) <;> try simp only [go_sem, *])
  | false =>
    rw [q4] at k2 k9
    simp only [Bool.false_eq_true, if_false] at k9
    generalize t.sl 1 0 = u at *
    clear k7
    cases q3 : (pe != 0) with
    | true =>
      clear k10 hin hu
      simp only [if_true, fmErrV, zeroF, Fm.mk_cells, Ty.mk_kind, Ty.mk_args, List.map_nil]
      refine en Tryz.func213 [.cell 4 29, .tmp 5] rfl rfl fun g0 w0 gen hrel hfr hfr' hres => ?_
      repeat' (first
        | (refine ⟨?_, ?_⟩; focus ((repeat' (first | refine And.intro ?_ ?_ | refine Or.inr ?_)); all_goals kernel_rfl))
        | exact hin _ | exact agf (by assumption)
        | (first | refine wp rfl ?_ | refine spt rfl ?_ | refine spf rfl ?_ | (refine spl (fun hc => ?_) fun hc => ?_) <;> (try rw [beq_iff_eq] at hc) <;> try simp only [hc] | refine cp (k1) ?_ | refine cp (k2) ?_ | refine cp (k3) ?_ | refine cp (k4) ?_ | refine cp (k5) ?_ | refine cp (k6) ?_ | refine cp (k8) ?_ | refine cp (k9) ?_ | refine finF hrel ?_ ?_ ?_) <;> try simp only [go_sem, *])
    | false =>
      rw [q3] at hin
      simp only [Bool.false_eq_true, if_false] at hin ⊢
      clear hu
      generalize (if decide ((fmQ 4 cT pf).szW > 4096) = true then (zeroF, (4 : Int)) else (fmQ 4 cT pf, 0)) = z at *
      obtain ⟨zf, ze⟩ := z
      simp only [fmErrV] at k10 hin ⊢
      refine en Tryz.func213 [.cell 4 29, .tmp 5] rfl rfl fun g0 w0 gen hrel hfr hfr' hres => ?_
      repeat' (first
        | (refine ⟨?_, ?_⟩; focus ((repeat' (first | refine And.intro ?_ ?_ | refine Or.inr ?_)); all_goals kernel_rfl))
        | exact hin _ | exact agf (by assumption)
        | (first | refine wp rfl ?_ | refine spt rfl ?_ | refine spf rfl ?_ | (refine spl (fun hc => ?_) fun hc => ?_) <;> (try rw [beq_iff_eq] at hc) <;> try simp only [hc] | refine cp (k1) ?_ | refine cp (k2) ?_ | refine cp (k3) ?_ | refine cp (k4) ?_ | refine cp (k5) ?_ | refine cp (k6) ?_ | refine cp (k8) ?_ | refine cp (k9) ?_ | refine cp (k10) ?_ | refine finF hrel ?_ ?_ ?_) <;> try simp only [go_sem, *])
end Go.Proofs.YtjpheflnapmdcaaGreatDoor
