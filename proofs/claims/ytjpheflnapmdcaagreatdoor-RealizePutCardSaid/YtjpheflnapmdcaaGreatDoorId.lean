/-
  Walks: what it means that a term realizes a formula, as a whole.
-/
import Derived.Test.YtjpheflnapmdcaaGreatDoorIc
set_option linter.unusedSimpArgs false
set_option linter.unusedVariables false
set_option maxRecDepth 20000
set_option maxHeartbeats 4000000
namespace Go.Proofs.YtjpheflnapmdcaaGreatDoor
open Go GoAbs Go.Proofs

theorem c_rlEx (r : Fm → Tm → Fm × Int) (f a : Fm) (hmap : f.args.map Fm.cells = [a.cells]) (wa : FmW a) (t : Tm) (ht : TmW t)
    (H : ∀ x y, TmW x → TmW y → Pure Tryz.prog env 148 [.agg (a.sp x).cells, .agg y.cells] (fmErrV (r (a.sp x) y))) :
    Pure Tryz.prog env 216 [.agg f.cells, .agg t.cells] (fmErrV (rlEx r a t)) := by
  intro h
  have k1 := c_hc a wa
  have k2 := c_rlPart1 11 t
  have k3 := c_rlPart1 12 t
  have k4 := c_exists a wa
  have hx : TmW (rlPart a.hc 11 t) := rlPart_W ht
  have hy : TmW (rlPart a.hc 12 t) := rlPart_W ht
  have k5 := c_Nodes _ hx
  have k6 := c_Grown a wa _ hx
  have k7 := c_PutFormula a wa _ hx
  have k8 := H _ _ hx hy
  have hw : IntKind.i64.wrap (a.grown (rlPart a.hc 11 t) - a.exs) = subW (a.grown (rlPart a.hc 11 t)) a.exs := rfl
  have hin : ∀ S, InV S (fmErrV (r (a.sp (rlPart a.hc 11 t)) (rlPart a.hc 12 t))) := fun S => by simp [fmErrV, InV, InL, InL_Fm]
  unfold rlEx
  clear H
  generalize r (a.sp (rlPart a.hc 11 t)) (rlPart a.hc 12 t) = p at *
  obtain ⟨pf, pe⟩ := p
  simp only [fmErrV] at k8 hin
  generalize a.sp (rlPart a.hc 11 t) = g at *
  generalize a.grown (rlPart a.hc 11 t) = n1 at *
  generalize a.exs = n2 at *
  generalize subW n1 n2 = n3 at *
  generalize (rlPart a.hc 11 t).szW = n4 at *
  unfold rlPart at *
  clear hx hy
  cases q0 : a.hc with
  | true =>
    rw [q0] at k1 k5 k6 k7 k8
    simp only [if_true] at k5 k6 k7 k8
    generalize tm0 11 [t] = x at *
    generalize tm0 12 [t] = y at *
    cases q1 : decide (n4 > 4096) with
    | true =>
      simp only [Bool.true_or, if_true, fmErrV, zeroF, Fm.mk_cells, Ty.mk_kind, Ty.mk_args, List.map_nil]
      clear hin k4 k6 k7 k8
      refine en Tryz.func216 [.cell 4 29, .tmp 5] rfl rfl fun g0 w0 gen hrel hfr hfr' hres => ?_
      repeat' (first
        | (refine ⟨?_, ?_⟩; focus ((repeat' (first | refine And.intro ?_ ?_ | refine Or.inr ?_)); all_goals kernel_rfl))
        | exact hin _ | exact agf (by assumption)
        | (first | refine wp rfl ?_ | refine spt rfl ?_ | refine spf rfl ?_ | (refine spl (fun hc => ?_) fun hc => ?_) <;> (try rw [beq_iff_eq] at hc) <;> try simp only [hc] | (refine gs (fun hb => ?_) fun hb => ?_) <;> try simp only [Bool.not_true, Bool.not_false] at hb | refine cp (k1) ?_ | refine cp (k2) ?_ | refine cp (k3) ?_ | refine cp (k5) ?_ | refine finF hrel ?_ ?_ ?_) <;> try simp only [go_sem, *])
    | false =>
    cases q2 : decide (n3 > 4096) with
    | true =>
      simp only [Bool.false_or, if_true, fmErrV, zeroF, Fm.mk_cells, Ty.mk_kind, Ty.mk_args, List.map_nil]
      clear hin k7 k8
      refine en Tryz.func216 [.cell 4 29, .tmp 5] rfl rfl fun g0 w0 gen hrel hfr hfr' hres => ?_
      repeat' (first
        | (refine ⟨?_, ?_⟩; focus ((repeat' (first | refine And.intro ?_ ?_ | refine Or.inr ?_)); all_goals kernel_rfl))
        | exact hin _ | exact agf (by assumption)
        | (first | refine wp rfl ?_ | refine spt rfl ?_ | refine spf rfl ?_ | (refine spl (fun hc => ?_) fun hc => ?_) <;> (try rw [beq_iff_eq] at hc) <;> try simp only [hc] | (refine gs (fun hb => ?_) fun hb => ?_) <;> try simp only [Bool.not_true, Bool.not_false] at hb | refine cp (k1) ?_ | refine cp (k2) ?_ | refine cp (k3) ?_ | refine cp (k5) ?_ | refine cp (k6) ?_ | refine cp (k4) ?_ | refine finF hrel ?_ ?_ ?_) <;> try simp only [go_sem, *])
    | false =>
      simp only [Bool.or_false, Bool.false_eq_true, if_false, fmErrV]
      refine en Tryz.func216 [.cell 4 29, .tmp 5] rfl rfl fun g0 w0 gen hrel hfr hfr' hres => ?_
      repeat' (first
        | (refine ⟨?_, ?_⟩; focus ((repeat' (first | refine And.intro ?_ ?_ | refine Or.inr ?_)); all_goals kernel_rfl))
        | exact hin _ | exact agf (by assumption)
        | (first | refine wp rfl ?_ | refine spt rfl ?_ | refine spf rfl ?_ | (refine spl (fun hc => ?_) fun hc => ?_) <;> (try rw [beq_iff_eq] at hc) <;> try simp only [hc] | (refine gs (fun hb => ?_) fun hb => ?_) <;> try simp only [Bool.not_true, Bool.not_false] at hb | refine cp (k1) ?_ | refine cp (k2) ?_ | refine cp (k3) ?_ | refine cp (k5) ?_ | refine cp (k6) ?_ | refine cp (k4) ?_ | refine cp (k7) ?_ | refine cp (k8) ?_ | refine finF hrel ?_ ?_ ?_) <;> try simp only [go_sem, *])
  | false =>
    rw [q0] at k1 k5 k6 k7 k8
    simp only [Bool.false_eq_true, if_false] at k5 k6 k7 k8
    clear k2 k3
    cases q1 : decide (n4 > 4096) with
    | true =>
      simp only [Bool.true_or, if_true, fmErrV, zeroF, Fm.mk_cells, Ty.mk_kind, Ty.mk_args, List.map_nil]
      clear hin k4 k6 k7 k8
      refine en Tryz.func216 [.cell 4 29, .tmp 5] rfl rfl fun g0 w0 gen hrel hfr hfr' hres => ?_
      repeat' (first
        | (refine ⟨?_, ?_⟩; focus ((repeat' (first | refine And.intro ?_ ?_ | refine Or.inr ?_)); all_goals kernel_rfl))
        | exact hin _ | exact agf (by assumption)
        | (first | refine wp rfl ?_ | refine spt rfl ?_ | refine spf rfl ?_ | (refine spl (fun hc => ?_) fun hc => ?_) <;> (try rw [beq_iff_eq] at hc) <;> try simp only [hc] | (refine gs (fun hb => ?_) fun hb => ?_) <;> try simp only [Bool.not_true, Bool.not_false] at hb | refine cp (k1) ?_ | refine cp (k5) ?_ | refine finF hrel ?_ ?_ ?_) <;> try simp only [go_sem, *])
    | false =>
    cases q2 : decide (n3 > 4096) with
    | true =>
      simp only [Bool.false_or, if_true, fmErrV, zeroF, Fm.mk_cells, Ty.mk_kind, Ty.mk_args, List.map_nil]
      clear hin k7 k8
      refine en Tryz.func216 [.cell 4 29, .tmp 5] rfl rfl fun g0 w0 gen hrel hfr hfr' hres => ?_
      repeat' (first
        | (refine ⟨?_, ?_⟩; focus ((repeat' (first | refine And.intro ?_ ?_ | refine Or.inr ?_)); all_goals kernel_rfl))
        | exact hin _ | exact agf (by assumption)
        | (first | refine wp rfl ?_ | refine spt rfl ?_ | refine spf rfl ?_ | (refine spl (fun hc => ?_) fun hc => ?_) <;> (try rw [beq_iff_eq] at hc) <;> try simp only [hc] | (refine gs (fun hb => ?_) fun hb => ?_) <;> try simp only [Bool.not_true, Bool.not_false] at hb | refine cp (k1) ?_ | refine cp (k5) ?_ | refine cp (k6) ?_ | refine cp (k4) ?_ | refine finF hrel ?_ ?_ ?_) <;> try simp only [go_sem, *])
    | false =>
      simp only [Bool.or_false, Bool.false_eq_true, if_false, fmErrV]
      refine en Tryz.func216 [.cell 4 29, .tmp 5] rfl rfl fun g0 w0 gen hrel hfr hfr' hres => ?_
      repeat' (first
        | (refine ⟨?_, ?_⟩; focus ((repeat' (first | refine And.intro ?_ ?_ | refine Or.inr ?_)); all_goals kernel_rfl))
        | exact hin _ | exact agf (by assumption)
        | (first | refine wp rfl ?_ | refine spt rfl ?_ | refine spf rfl ?_ | (refine spl (fun hc => ?_) fun hc => ?_) <;> (try rw [beq_iff_eq] at hc) <;> try simp only [hc] | (refine gs (fun hb => ?_) fun hb => ?_) <;> try simp only [Bool.not_true, Bool.not_false] at hb | refine cp (k1) ?_ | refine cp (k5) ?_ | refine cp (k6) ?_ | refine cp (k4) ?_ | refine cp (k7) ?_ | refine cp (k8) ?_ | refine finF hrel ?_ ?_ ?_) <;> try simp only [go_sem, *])

theorem c_rlOf : ∀ (n : Nat) (f : Fm), fdp f ≤ n → FmC f → FmW f → ∀ t : Tm, TmW t → Pure Tryz.prog env 148 [.agg f.cells, .agg t.cells] (fmErrV (rlOf n f t)) := by
  intro n
  induction n with
  | zero => intro f hd; have := (show 1 ≤ fdp f by (cases f; rw [fdp]; omega)); omega
  | succ n ih =>
    intro f hd hC hf t ht h
    have h1 := c_Nodes t ht
    have hin0 : ∀ S, InV S (fmErrV (rlOf (n + 1) f t)) := fun S => by simp [fmErrV, InV, InL, InL_Fm]
    cases q1 : decide (t.szW > 4096) with
    | true =>
      rw [rlOf, q1]
      simp only [if_true, fmErrV, zeroF, Fm.mk_cells, Ty.mk_kind, Ty.mk_args, List.map_nil]
      clear hin0
      refine en Tryz.func148 [.cell 4 29, .tmp 5] rfl rfl fun g0 w0 gen hrel hfr hfr' hres => ?_
      repeat' (first
        | (refine ⟨?_, ?_⟩; focus ((repeat' (first | refine And.intro ?_ ?_ | refine Or.inr ?_)); all_goals kernel_rfl))
        | exact hin _ | exact agf (by assumption)
        | (first | refine wp rfl ?_ | refine spt rfl ?_ | refine spf rfl ?_ | (refine spl (fun hc => ?_) fun hc => ?_) <;> (try rw [beq_iff_eq] at hc) <;> try simp only [hc] | (refine gs (fun hb => ?_) fun hb => ?_) <;> try simp only [Bool.not_true, Bool.not_false] at hb | refine cp (h1) ?_ | refine finF hrel ?_ ?_ ?_) <;> try simp only [go_sem, *])
    | false =>
    have hm := rlOf_else (n := n) (f := f) (t := t) (by simpa using q1)
    rw [hm] at hin0 ⊢
    clear hm
    have evW : ∀ {x : Fm}, FmW x → FmW (x.slf 1) := fun h => slf_W _ _ h
    have evd : ∀ {x : Fm}, fdp (x.slf 1) = fdp x := fun {x} => fdp_ev _ _
    cases hC with
    | @eq ty l =>
      have hk : (Fm.mk 1 ty l []).kind = 1 := rfl
      change ∀ S, InV S (fmErrV (Fm.mk 1 ty l [], 0)) at hin0
      show Ret _ _ _ _ h (fmErrV (Fm.mk 1 ty l [], 0)) h
      simp only [fmErrV] at hin0 ⊢
      clear ih hd hf evW evd
      generalize Fm.mk 1 ty l [] = f at *
      refine en Tryz.func148 [.cell 4 29, .tmp 5] rfl rfl fun g0 w0 gen hrel hfr hfr' hres => ?_
      repeat' (first
        | (refine ⟨?_, ?_⟩; focus ((repeat' (first | refine And.intro ?_ ?_ | refine Or.inr ?_)); all_goals kernel_rfl))
        | exact hin _ | exact agf (by assumption)
        | (first | refine wp rfl ?_ | refine spt rfl ?_ | refine spf rfl ?_ | (refine spl (fun hc => ?_) fun hc => ?_) <;> (try rw [beq_iff_eq] at hc) <;> try simp only [hc] | (refine gs (fun hb => ?_) fun hb => ?_) <;> try simp only [Bool.not_true, Bool.not_false] at hb | refine cp (h1) ?_ | refine finF hrel ?_ ?_ ?_) <;> try simp only [go_sem, *])
    | @two k ty l a b hk ca cb =>
      have da : fdp a ≤ n ∧ fdp b ≤ n := by
        have x1 := fdp_arg (f := .mk k ty l [a, b]) (x := a) (by simp [Fm.args])
        have x2 := fdp_arg (f := .mk k ty l [a, b]) (x := b) (by simp [Fm.args])
        omega
      have wa : FmW a := hf.arg (x := a) (by simp [Fm.args])
      have wb : FmW b := hf.arg (x := b) (by simp [Fm.args])
      have hmap : (Fm.mk k ty l [a, b]).args.map Fm.cells = [a.cells, b.cells] := rfl
      have hkk : (Fm.mk k ty l [a, b]).kind = k := rfl
      rcases hk with rfl | rfl
      · change ∀ S, InV S (fmErrV (rlAnd (rlOf n) a b t)) at hin0
        show Ret _ _ _ _ h (fmErrV (rlAnd (rlOf n) a b t)) h
        unfold rlAnd at hin0 ⊢
        have k1 := c_hc a wa
        have k2 := c_hc b wb
        have k3 := c_rlPart1 11 t
        have k4 := c_rlPart1 12 t
        have x1 : TmW (rlPart (a.hc && b.hc) 11 t) := rlPart_W ht
        have x2 : TmW (rlPart (a.hc && b.hc) 12 t) := rlPart_W ht
        have k5 := c_rlTwo 2 _ _ a b _ _ (rlOf_W n a _ ca wa x1) (rlOf_W n b _ cb wb x2) (ih a da.1 ca wa _ x1) (ih b da.2 cb wb _ x2)
        clear ih hf evW evd x1 x2
        generalize mTwo 2 (rlOf n a (rlPart (a.hc && b.hc) 11 t)) (rlOf n b (rlPart (a.hc && b.hc) 12 t)) = p at *
        obtain ⟨pf, pe⟩ := p
        simp only [fmErrV] at k5 hin0 ⊢
        unfold rlPart at k5
        generalize tm0 11 [t] = x at *
        generalize tm0 12 [t] = y at *
        generalize a.hc = ha at *
        generalize b.hc = hb at *
        generalize Fm.mk 2 ty l [a, b] = f at *
        cases ha <;> cases hb <;> simp only [Bool.and_self, Bool.and_true, Bool.and_false, Bool.false_eq_true, if_true, if_false] at k5
        all_goals
          refine en Tryz.func148 [.cell 4 29, .tmp 5] rfl rfl fun g0 w0 gen hrel hfr hfr' hres => ?_
          repeat' (first
            | (refine ⟨?_, ?_⟩; focus ((repeat' (first | refine And.intro ?_ ?_ | refine Or.inr ?_)); all_goals kernel_rfl))
            | exact hin _ | exact agf (by assumption)
            | (first | refine wp rfl ?_ | refine spt rfl ?_ | refine spf rfl ?_ | (refine spl (fun hc => ?_) fun hc => ?_) <;> (try rw [beq_iff_eq] at hc) <;> try simp only [hc] | (refine gs (fun hb => ?_) fun hb => ?_) <;> try simp only [Bool.not_true, Bool.not_false] at hb | refine cp (h1) ?_ | refine cp (k1) ?_ | refine cp (k2) ?_ | refine cp (k3) ?_ | refine cp (k4) ?_ | refine cp (k5) ?_ | refine finF hrel ?_ ?_ ?_) <;> try simp only [go_sem, *])
      · change ∀ S, InV S (fmErrV (rlImp (rlOf n) a b t)) at hin0
        show Ret _ _ _ _ h (fmErrV (rlImp (rlOf n) a b t)) h
        have k5 := c_rlImp (rlOf n) (Fm.mk 3 ty l [a, b]) a b hmap ca wa wb t ht (fun x y hx wx wy => rlOf_W n x y hx wx wy) cb (ih a da.1 ca wa t ht) (ih b da.2 cb wb t ht)
          (ih (a.slf 1) (by rw [evd]; exact da.1) (ca.ev _) (evW wa) _ (tmVar_W _)) (fun u hu => ih (b.slf 1) (by rw [evd]; exact da.2) (cb.ev _) (evW wb) _ hu)
        clear ih hf evW evd
        generalize rlImp (rlOf n) a b t = p at *
        obtain ⟨pf, pe⟩ := p
        simp only [fmErrV] at k5 hin0 ⊢
        generalize Fm.mk 3 ty l [a, b] = f at *
        refine en Tryz.func148 [.cell 4 29, .tmp 5] rfl rfl fun g0 w0 gen hrel hfr hfr' hres => ?_
        repeat' (first
          | (refine ⟨?_, ?_⟩; focus ((repeat' (first | refine And.intro ?_ ?_ | refine Or.inr ?_)); all_goals kernel_rfl))
          | exact hin _ | exact agf (by assumption)
          | (first | refine wp rfl ?_ | refine spt rfl ?_ | refine spf rfl ?_ | (refine spl (fun hc => ?_) fun hc => ?_) <;> (try rw [beq_iff_eq] at hc) <;> try simp only [hc] | (refine gs (fun hb => ?_) fun hb => ?_) <;> try simp only [Bool.not_true, Bool.not_false] at hb | refine cp (h1) ?_ | refine cp (k5) ?_ | refine finF hrel ?_ ?_ ?_) <;> try simp only [go_sem, *])
    | @q k ty l a hk hs ca =>
      have da : fdp a ≤ n := by
        have x1 := fdp_arg (f := .mk k ty l [a]) (x := a) (by simp [Fm.args])
        omega
      have wa : FmW a := hf.arg (x := a) (by simp [Fm.args])
      have hmap : (Fm.mk k ty l [a]).args.map Fm.cells = [a.cells] := rfl
      have hkk : (Fm.mk k ty l [a]).kind = k := rfl
      have hty : (Fm.mk k ty l [a]).type = ty := rfl
      have key : ∀ (k' : Int) (b : Bool), ∃ (pf x : Fm) (pe e : Int), rlBuild k' ty (rlOf n a (rlUp b t)) = (pf, pe) ∧ Pure Tryz.prog env 148 [.agg a.cells, .agg (rlUp b t).cells] (.tup [.agg x.cells, .int .i64 e]) ∧
          ((e != 0) = true → pf = zeroF ∧ pe = e) ∧ ((e != 0) = false → Pure Tryz.prog env 215 [.int .i64 k', .agg ty.cells, .sl .any [x.cells]] (.tup [.agg pf.cells, .int .i64 pe])) := by
        intro k' b
        have k9 := ih a da ca wa _ (rlUp_W (b := b) ht)
        have wx := rlOf_W n a _ ca wa (rlUp_W (b := b) ht)
        generalize rlOf n a (rlUp b t) = z at *
        obtain ⟨x, e⟩ := z
        have k10 := c_rlBuild k' ty [x] hs.1.W (by simp) (by simpa using wx)
        simp only [List.map_cons, List.map_nil] at k10
        generalize hpq : rlBuild k' ty (x, e) = p
        obtain ⟨pf, pe⟩ := p
        unfold rlBuild at hpq
        refine ⟨pf, x, pe, e, rfl, k9, fun he => ?_, fun he => ?_⟩
        · simp only [he, if_true, Prod.mk.injEq] at hpq
          exact ⟨hpq.1.symm, hpq.2.symm⟩
        · simp only [he, Bool.false_eq_true, if_false] at hpq
          have k11 : Pure Tryz.prog env 215 [.int .i64 k', .agg ty.cells, .sl .any [x.cells]] (fmErrV (pf, pe)) := by rw [← hpq]; exact k10
          exact k11
      have hz : zeroF.cells = [.int .i64 0, .int .i64 0, .sl .any [], .sl .any [], .sl .any []] := by simp [zeroF, Fm.mk_cells, Ty.mk_kind, Ty.mk_args]
      have kU := c_sLift 1 t ht 0
      have kC := c_rlCall t ht
      rcases hk with rfl | rfl | rfl | rfl
      · have k1 := c_hc a wa
        change ∀ S, InV S (fmErrV (rlBuild 4 ty (rlOf n a (rlUp a.hc t)))) at hin0
        show Ret _ _ _ _ h (fmErrV (rlBuild 4 ty (rlOf n a (rlUp a.hc t)))) h
        obtain ⟨pf, x, pe, e, e1, k9, kE, kO⟩ := key 4 a.hc
        rw [e1] at hin0 ⊢
        simp only [fmErrV] at hin0 ⊢
        clear key ih hf evW evd e1 ca wa
        unfold rlUp at k9
        generalize rlCall t = u1 at *
        generalize t.sl 1 0 = u2 at *
        generalize a.hc = ha at *
        generalize Fm.mk 4 ty l [a] = f at *
        subst hty
        cases ha <;> simp only [Bool.false_eq_true, if_true, if_false] at k9
        all_goals
          cases he : (e != 0) with
          | true =>
            obtain ⟨rfl, rfl⟩ := kE he
            rw [hz] at hin0 ⊢
            clear kO
            refine en Tryz.func148 [.cell 4 29, .tmp 5] rfl rfl fun g0 w0 gen hrel hfr hfr' hres => ?_
            repeat' (first
              | (refine ⟨?_, ?_⟩; focus ((repeat' (first | refine And.intro ?_ ?_ | refine Or.inr ?_)); all_goals kernel_rfl))
              | exact hin _ | exact agf (by assumption)
              | (first | refine wp rfl ?_ | refine spt rfl ?_ | refine spf rfl ?_ | (refine spl (fun hc => ?_) fun hc => ?_) <;> (try rw [beq_iff_eq] at hc) <;> try simp only [hc] | (refine gs (fun hb => ?_) fun hb => ?_) <;> try simp only [Bool.not_true, Bool.not_false] at hb | refine cp (h1) ?_ | refine cp (k1) ?_ | refine cp (kU) ?_ | refine cp (kC) ?_ | refine cp (k9) ?_ | refine finF hrel ?_ ?_ ?_) <;> try simp only [go_sem, *])
          | false =>
            have k10 := kO he
            clear kO kE
            refine en Tryz.func148 [.cell 4 29, .tmp 5] rfl rfl fun g0 w0 gen hrel hfr hfr' hres => ?_
            repeat' (first
              | (refine ⟨?_, ?_⟩; focus ((repeat' (first | refine And.intro ?_ ?_ | refine Or.inr ?_)); all_goals kernel_rfl))
              | exact hin _ | exact agf (by assumption)
              | (first | refine wp rfl ?_ | refine spt rfl ?_ | refine spf rfl ?_ | (refine spl (fun hc => ?_) fun hc => ?_) <;> (try rw [beq_iff_eq] at hc) <;> try simp only [hc] | (refine gs (fun hb => ?_) fun hb => ?_) <;> try simp only [Bool.not_true, Bool.not_false] at hb | refine cp (h1) ?_ | refine cp (k1) ?_ | refine cp (kU) ?_ | refine cp (kC) ?_ | refine cp (k9) ?_ | refine cp (k10) ?_ | refine finF hrel ?_ ?_ ?_) <;> try simp only [go_sem, *])
      · change ∀ S, InV S (fmErrV (rlEx (rlOf n) a t)) at hin0
        show Ret _ _ _ _ h (fmErrV (rlEx (rlOf n) a t)) h
        have k5 := c_rlEx (rlOf n) (Fm.mk 5 ty l [a]) a hmap wa t ht (fun x y hx hy => ih (a.sp x) (by unfold Fm.sp; rw [fdp_ev]; exact da) (ca.ev _) (fsp_W hx _ _ wa) _ hy)
        clear ih hf evW evd key kU kC
        generalize rlEx (rlOf n) a t = p at *
        obtain ⟨pf, pe⟩ := p
        simp only [fmErrV] at k5 hin0 ⊢
        generalize Fm.mk 5 ty l [a] = f at *
        refine en Tryz.func148 [.cell 4 29, .tmp 5] rfl rfl fun g0 w0 gen hrel hfr hfr' hres => ?_
        repeat' (first
          | (refine ⟨?_, ?_⟩; focus ((repeat' (first | refine And.intro ?_ ?_ | refine Or.inr ?_)); all_goals kernel_rfl))
          | exact hin _ | exact agf (by assumption)
          | (first | refine wp rfl ?_ | refine spt rfl ?_ | refine spf rfl ?_ | (refine spl (fun hc => ?_) fun hc => ?_) <;> (try rw [beq_iff_eq] at hc) <;> try simp only [hc] | (refine gs (fun hb => ?_) fun hb => ?_) <;> try simp only [Bool.not_true, Bool.not_false] at hb | refine cp (h1) ?_ | refine cp (k5) ?_ | refine finF hrel ?_ ?_ ?_) <;> try simp only [go_sem, *])
      · change ∀ S, InV S (fmErrV (rlBuild 4 ty (rlOf n a (rlUp false t)))) at hin0
        show Ret _ _ _ _ h (fmErrV (rlBuild 4 ty (rlOf n a (rlUp false t)))) h
        obtain ⟨pf, x, pe, e, e1, k9, kE, kO⟩ := key 4 false
        rw [e1] at hin0 ⊢
        simp only [fmErrV] at hin0 ⊢
        clear key ih hf evW evd e1 ca wa kC
        unfold rlUp at k9
        simp only [Bool.false_eq_true, if_false] at k9
        generalize t.sl 1 0 = u2 at *
        generalize Fm.mk 6 ty l [a] = f at *
        subst hty
        cases he : (e != 0) with
        | true =>
          obtain ⟨rfl, rfl⟩ := kE he
          rw [hz] at hin0 ⊢
          clear kO
          refine en Tryz.func148 [.cell 4 29, .tmp 5] rfl rfl fun g0 w0 gen hrel hfr hfr' hres => ?_
          repeat' (first
            | (refine ⟨?_, ?_⟩; focus ((repeat' (first | refine And.intro ?_ ?_ | refine Or.inr ?_)); all_goals kernel_rfl))
            | exact hin _ | exact agf (by assumption)
            | (first | refine wp rfl ?_ | refine spt rfl ?_ | refine spf rfl ?_ | (refine spl (fun hc => ?_) fun hc => ?_) <;> (try rw [beq_iff_eq] at hc) <;> try simp only [hc] | (refine gs (fun hb => ?_) fun hb => ?_) <;> try simp only [Bool.not_true, Bool.not_false] at hb | refine cp (h1) ?_ | refine cp (kU) ?_ | refine cp (k9) ?_ | refine finF hrel ?_ ?_ ?_) <;> try simp only [go_sem, *])
        | false =>
          have k10 := kO he
          clear kO kE
          refine en Tryz.func148 [.cell 4 29, .tmp 5] rfl rfl fun g0 w0 gen hrel hfr hfr' hres => ?_
          repeat' (first
            | (refine ⟨?_, ?_⟩; focus ((repeat' (first | refine And.intro ?_ ?_ | refine Or.inr ?_)); all_goals kernel_rfl))
            | exact hin _ | exact agf (by assumption)
            | (first | refine wp rfl ?_ | refine spt rfl ?_ | refine spf rfl ?_ | (refine spl (fun hc => ?_) fun hc => ?_) <;> (try rw [beq_iff_eq] at hc) <;> try simp only [hc] | (refine gs (fun hb => ?_) fun hb => ?_) <;> try simp only [Bool.not_true, Bool.not_false] at hb | refine cp (h1) ?_ | refine cp (kU) ?_ | refine cp (k9) ?_ | refine cp (k10) ?_ | refine finF hrel ?_ ?_ ?_) <;> try simp only [go_sem, *])
      · change ∀ S, InV S (fmErrV (rlBuild 7 ty (rlOf n a (rlUp false t)))) at hin0
        show Ret _ _ _ _ h (fmErrV (rlBuild 7 ty (rlOf n a (rlUp false t)))) h
        obtain ⟨pf, x, pe, e, e1, k9, kE, kO⟩ := key 7 false
        rw [e1] at hin0 ⊢
        simp only [fmErrV] at hin0 ⊢
        clear key ih hf evW evd e1 ca wa kC
        unfold rlUp at k9
        simp only [Bool.false_eq_true, if_false] at k9
        generalize t.sl 1 0 = u2 at *
        generalize Fm.mk 7 ty l [a] = f at *
        subst hty
        cases he : (e != 0) with
        | true =>
          obtain ⟨rfl, rfl⟩ := kE he
          rw [hz] at hin0 ⊢
          clear kO
          refine en Tryz.func148 [.cell 4 29, .tmp 5] rfl rfl fun g0 w0 gen hrel hfr hfr' hres => ?_
          repeat' (first
            | (refine ⟨?_, ?_⟩; focus ((repeat' (first | refine And.intro ?_ ?_ | refine Or.inr ?_)); all_goals kernel_rfl))
            | exact hin _ | exact agf (by assumption)
            | (first | refine wp rfl ?_ | refine spt rfl ?_ | refine spf rfl ?_ | (refine spl (fun hc => ?_) fun hc => ?_) <;> (try rw [beq_iff_eq] at hc) <;> try simp only [hc] | (refine gs (fun hb => ?_) fun hb => ?_) <;> try simp only [Bool.not_true, Bool.not_false] at hb | refine cp (h1) ?_ | refine cp (kU) ?_ | refine cp (k9) ?_ | refine finF hrel ?_ ?_ ?_) <;> try simp only [go_sem, *])
        | false =>
          have k10 := kO he
          clear kO kE
          refine en Tryz.func148 [.cell 4 29, .tmp 5] rfl rfl fun g0 w0 gen hrel hfr hfr' hres => ?_
          repeat' (first
            | (refine ⟨?_, ?_⟩; focus ((repeat' (first | refine And.intro ?_ ?_ | refine Or.inr ?_)); all_goals kernel_rfl))
            | exact hin _ | exact agf (by assumption)
            | (first | refine wp rfl ?_ | refine spt rfl ?_ | refine spf rfl ?_ | (refine spl (fun hc => ?_) fun hc => ?_) <;> (try rw [beq_iff_eq] at hc) <;> try simp only [hc] | (refine gs (fun hb => ?_) fun hb => ?_) <;> try simp only [Bool.not_true, Bool.not_false] at hb | refine cp (h1) ?_ | refine cp (kU) ?_ | refine cp (k9) ?_ | refine cp (k10) ?_ | refine finF hrel ?_ ?_ ?_) <;> try simp only [go_sem, *])

theorem c_rlF (f : Fm) (hC : FmC f) (hf : FmW f) (t : Tm) (ht : TmW t) : Pure Tryz.prog env 67 [.agg f.cells, .agg t.cells] (fmErrV (rlF f t)) := by
  intro h
  have h1 := c_fmCheck f hf
  have h2 := c_termsCheck t ht
  have h3 := c_FarFormula f hf
  have h4 := c_Far t ht
  have h5 := c_hc f hf
  have h6 := c_scUnit
  have wt : TmW (if f.hc then t else tm0 13 []) := by split; exact ht; exact tm0_W0
  have h7 := c_rlOf _ f (Nat.le_refl _) hC hf _ wt
  have hin : ∀ S, InV S (fmErrV (rlOf (fdp f) f (if f.hc then t else tm0 13 []))) := fun S => by simp [fmErrV, InV, InL, InL_Fm]
  unfold rlF
  clear wt
  generalize rlOf (fdp f) f (if f.hc then t else tm0 13 []) = r at *
  obtain ⟨rf, re⟩ := r
  simp only [fmErrV] at h7 hin
  generalize fmErr f = e1 at *
  generalize tmErr t = e2 at *
  generalize f.far = b1 at *
  generalize (!t.least 268435456) = b2 at *
  cases q1 : (e1 != 0) with
  | true =>
    clear h7 hin
    simp only [if_true, fmErrV, zeroF, Fm.mk_cells, Ty.mk_kind, Ty.mk_args, List.map_nil]
    refine en Tryz.func67 [.cell 4 29, .tmp 5] rfl rfl fun g0 w0 gen hrel hfr hfr' hres => ?_
    repeat' (first
      | exact hin _ | exact agf (by assumption)
      | (first | refine wp rfl ?_ | refine spt rfl ?_ | refine spf rfl ?_ | (refine spl (fun hc => ?_) fun hc => ?_) <;> (try rw [beq_iff_eq] at hc) <;> try simp only [hc] | (refine gs (fun hb => ?_) fun hb => ?_) <;> try simp only [Bool.not_true, Bool.not_false] at hb | refine cp (h1) ?_ | refine finF hrel ?_ ?_ ?_) <;> try simp only [go_sem, *])
  | false =>
  cases q2 : (e2 != 0) with
  | true =>
    clear h7 hin
    simp only [Bool.false_eq_true, if_false, if_true, fmErrV, zeroF, Fm.mk_cells, Ty.mk_kind, Ty.mk_args, List.map_nil]
    refine en Tryz.func67 [.cell 4 29, .tmp 5] rfl rfl fun g0 w0 gen hrel hfr hfr' hres => ?_
    repeat' (first
      | exact hin _ | exact agf (by assumption)
      | (first | refine wp rfl ?_ | refine spt rfl ?_ | refine spf rfl ?_ | (refine spl (fun hc => ?_) fun hc => ?_) <;> (try rw [beq_iff_eq] at hc) <;> try simp only [hc] | (refine gs (fun hb => ?_) fun hb => ?_) <;> try simp only [Bool.not_true, Bool.not_false] at hb | refine cp (h1) ?_ | refine cp (h2) ?_ | refine finF hrel ?_ ?_ ?_) <;> try simp only [go_sem, *])
  | false =>
  cases b1
  case true =>
    clear h7 hin
    simp only [Bool.false_eq_true, if_false, if_true, Bool.true_or, fmErrV, zeroF, Fm.mk_cells, Ty.mk_kind, Ty.mk_args, List.map_nil]
    refine en Tryz.func67 [.cell 4 29, .tmp 5] rfl rfl fun g0 w0 gen hrel hfr hfr' hres => ?_
    repeat' (first
      | exact hin _ | exact agf (by assumption)
      | (first | refine wp rfl ?_ | refine spt rfl ?_ | refine spf rfl ?_ | (refine spl (fun hc => ?_) fun hc => ?_) <;> (try rw [beq_iff_eq] at hc) <;> try simp only [hc] | (refine gs (fun hb => ?_) fun hb => ?_) <;> try simp only [Bool.not_true, Bool.not_false] at hb | refine cp (h1) ?_ | refine cp (h2) ?_ | refine cp (h3) ?_ | refine finF hrel ?_ ?_ ?_) <;> try simp only [go_sem, *])
  cases b2
  case true =>
    clear h7 hin
    simp only [Bool.false_eq_true, if_false, if_true, Bool.or_true, fmErrV, zeroF, Fm.mk_cells, Ty.mk_kind, Ty.mk_args, List.map_nil]
    refine en Tryz.func67 [.cell 4 29, .tmp 5] rfl rfl fun g0 w0 gen hrel hfr hfr' hres => ?_
    repeat' (first
      | exact hin _ | exact agf (by assumption)
      | (first | refine wp rfl ?_ | refine spt rfl ?_ | refine spf rfl ?_ | (refine spl (fun hc => ?_) fun hc => ?_) <;> (try rw [beq_iff_eq] at hc) <;> try simp only [hc] | (refine gs (fun hb => ?_) fun hb => ?_) <;> try simp only [Bool.not_true, Bool.not_false] at hb | refine cp (h1) ?_ | refine cp (h2) ?_ | refine cp (h3) ?_ | refine cp (h4) ?_ | refine finF hrel ?_ ?_ ?_) <;> try simp only [go_sem, *])
  simp only [Bool.false_eq_true, if_false, Bool.or_self, fmErrV]
  generalize f.hc = hb at *
  cases hb
  · simp only [Bool.false_eq_true, if_false] at h7
    generalize tm0 13 [] = u at *
    refine en Tryz.func67 [.cell 4 29, .tmp 5] rfl rfl fun g0 w0 gen hrel hfr hfr' hres => ?_
    repeat' (first
      | exact hin _ | exact agf (by assumption)
      | (first | refine wp rfl ?_ | refine spt rfl ?_ | refine spf rfl ?_ | (refine spl (fun hc => ?_) fun hc => ?_) <;> (try rw [beq_iff_eq] at hc) <;> try simp only [hc] | (refine gs (fun hb => ?_) fun hb => ?_) <;> try simp only [Bool.not_true, Bool.not_false] at hb | refine cp (h1) ?_ | refine cp (h2) ?_ | refine cp (h3) ?_ | refine cp (h4) ?_ | refine cp (h5) ?_ | refine cp (h6) ?_ | refine cp (h7) ?_ | refine finF hrel ?_ ?_ ?_) <;> try simp only [go_sem, *])
  · simp only [if_true] at h7
    refine en Tryz.func67 [.cell 4 29, .tmp 5] rfl rfl fun g0 w0 gen hrel hfr hfr' hres => ?_
    repeat' (first
      | exact hin _ | exact agf (by assumption)
      | (first | refine wp rfl ?_ | refine spt rfl ?_ | refine spf rfl ?_ | (refine spl (fun hc => ?_) fun hc => ?_) <;> (try rw [beq_iff_eq] at hc) <;> try simp only [hc] | (refine gs (fun hb => ?_) fun hb => ?_) <;> try simp only [Bool.not_true, Bool.not_false] at hb | refine cp (h1) ?_ | refine cp (h2) ?_ | refine cp (h3) ?_ | refine cp (h4) ?_ | refine cp (h5) ?_ | refine cp (h6) ?_ | refine cp (h7) ?_ | refine finF hrel ?_ ?_ ?_) <;> try simp only [go_sem, *])
end Go.Proofs.YtjpheflnapmdcaaGreatDoor
