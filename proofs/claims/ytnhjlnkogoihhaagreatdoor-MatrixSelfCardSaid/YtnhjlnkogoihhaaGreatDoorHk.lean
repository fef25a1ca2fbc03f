/-
  Walks: the law of MatrixSelf.
-/
import Derived.Test.YtnhjlnkogoihhaaGreatDoorHi
import Derived.Test.YtnhjlnkogoihhaaGreatDoorHj
import Derived.Test.YtnhjlnkogoihhaaGreatDoorWz
set_option linter.unusedSimpArgs false
set_option linter.unusedVariables false
set_option maxRecDepth 20000
set_option maxHeartbeats 4000000
namespace Go.Proofs.YtnhjlnkogoihhaaGreatDoor
open Go GoAbs Go.Proofs

theorem c_MatrixSelf (l : List Int) (w c : Tm) : Pure Tryz.prog env 11 [.sl .any (ints l), .agg w.cells, .agg c.cells] (.bool true) := by
  intro h
  have hF := c_Few l
  cases hf : decide ((l.length : Int) ≤ 500) with
  | false =>
    rw [hf] at hF
    clear hf
    refine enter Tryz.func11 [.tmp 6] rfl (by kernel_rfl) follows (by kernel_rfl) rfl fun g0 w0 gen hrel hfr hfr' hres => ?_
    repeat' (first
      | (refine ⟨?_, ?_⟩; focus ((repeat' (first | refine And.intro ?_ ?_ | refine Or.inr ?_)); all_goals kernel_rfl))
      | exact hin _ | exact agf (by assumption)
      | (first | refine wp rfl ?_ | refine spt rfl ?_ | refine spf rfl ?_ | (refine spl (fun hc => ?_) fun hc => ?_) <;> (try rw [beq_iff_eq] at hc) <;> try simp only [hc] | (refine guarded_split (fun hb => ?_) fun hb => ?_) <;> try simp only [Bool.not_true, Bool.not_false] at hb | refine Call1_pure (hF) ?_ | refine Call1_pure (c_awake29) ?_ | refine finF hrel ?_ ?_ ?_) <;> try simp only [go_sem, *])
  | true =>
  rw [hf] at hF
  have hl : l.length ≤ 1000 := by simp at hf; omega
  clear hf
  have hC := c_sumCount
  have hT := c_sumTerm [w, c] (by simp)
  have hS := c_sumFew (sumTm 0 [w, c])
  have hW := sumTm_W [w, c] 0
  simp only [List.map_cons, List.map_nil] at hT
  generalize sumTm 0 [w, c] = S at *
  cases hs : decide ((S : Int) ≤ 20000) with
  | false =>
    rw [hs] at hS
    clear hs hW
    refine enter Tryz.func11 [.tmp 6] rfl (by kernel_rfl) follows (by kernel_rfl) rfl fun g0 w0 gen hrel hfr hfr' hres => ?_
    repeat' (first
      | (refine ⟨?_, ?_⟩; focus ((repeat' (first | refine And.intro ?_ ?_ | refine Or.inr ?_)); all_goals kernel_rfl))
      | exact hin _ | exact agf (by assumption)
      | (first | refine wp rfl ?_ | refine spt rfl ?_ | refine spf rfl ?_ | (refine spl (fun hc => ?_) fun hc => ?_) <;> (try rw [beq_iff_eq] at hc) <;> try simp only [hc] | (refine guarded_split (fun hb => ?_) fun hb => ?_) <;> try simp only [Bool.not_true, Bool.not_false] at hb | refine Call1_pure (hF) ?_ | refine Call1_pure (c_awake29) ?_ | refine Call1_pure (hC) ?_ | refine Call1_pure (hT) ?_ | refine Call1_pure (hS) ?_ | refine finF hrel ?_ ?_ ?_) <;> try simp only [go_sem, *])
  | true =>
  rw [hs] at hS
  have hW' := hW (by simp at hs; omega)
  have wW := hW' w (by simp)
  have cW := hW' c (by simp)
  clear hs hW hW'
  obtain ⟨x, y, a1, hx, hy, wf, Tf⟩ := c_Decidable0 l hl 0
  have hr := nextD_range (l := l) (a := a1) (n := 2) (by omega) (by omega)
  generalize hq : nextD l a1 2 = q at hr
  obtain ⟨k, a2⟩ := q
  have hc1 : (nextD l a1 2).1 = k := by rw [hq]
  have hc2 : (nextD l a1 2).2 = a2 := by rw [hq]
  simp only at hr
  obtain ⟨x', y', a3, hx', hy', wg, Tg⟩ := c_Decidable0 l hl a2
  have hN := c_New l
  clear hq
  have gx := hx.G (by simp) .nat
  have gy := hy.G (by simp) .nat
  have gx' := hx'.G (by simp) .nat
  have gy' := hy'.G (by simp) .nat
  have n2 := tySz_nat
  have b1 : bndT 1 1 = 49 := rfl
  have zx := (hx.sz (M := 1) (by omega) (by simp) (by omega)).1
  have zy := (hy.sz (M := 1) (by omega) (by simp) (by omega)).1
  have zx' := (hx'.sz (M := 1) (by omega) (by simp) (by omega)).1
  have zy' := (hy'.sz (M := 1) (by omega) (by simp) (by omega)).1
  have lx := hx.least (M := 1) (m := 268435456) (by omega) (by omega) (by simp) (by omega) (by simp; omega)
  have ly := hy.least (M := 1) (m := 268435456) (by omega) (by omega) (by simp) (by omega) (by simp; omega)
  have lx' := hx'.least (M := 1) (m := 268435456) (by omega) (by omega) (by simp) (by omega) (by simp; omega)
  have ly' := hy'.least (M := 1) (m := 268435456) (by omega) (by omega) (by simp) (by omega) (by simp; omega)
  have law : ∀ (k : Int) (W C : Tm), k = 2 ∨ k = 3 → tmErr W = 0 → tmErr C = 0 → W.least 268435456 = true → C.least 268435456 = true → TmW W → TmW C →
      Pure Tryz.prog env 70 [.agg [.int .i64 k, .int .i64 0, .sl .any [], .sl .any [], .sl .any [(fmEq x y).cells, (fmEq x' y').cells]], .agg W.cells, .agg C.cells] (.tup [.agg [.int .i64 k, .int .i64 0, .sl .any [], .sl .any [], .sl .any [(fmEq x y).cells, (fmEq x' y').cells]], .int .i64 0]) := by
    intro k W C hk e1 e2 e3 e4 wW wC
    have h1 := c_matF (fmTwo k (fmEq x y) (fmEq x' y')) (fmTwo_W wf wg) W C wW wC
    rw [law_matSelf hk gx gy gx' gy' (by omega) (by omega) (by omega) (by omega) (by simpa using lx) (by simpa using ly) (by simpa using lx') (by simpa using ly') e1 e2 e3 e4] at h1
    rw [fmErrV, fmTwo, Fm.mk_cells] at h1
    simpa only [Ty.mk_kind, Ty.mk_args, List.map_cons, List.map_nil] using h1
  have same : ∀ k : Int, Pure Tryz.prog env 58 [.agg [.int .i64 k, .int .i64 0, .sl .any [], .sl .any [], .sl .any [(fmEq x y).cells, (fmEq x' y').cells]], .agg [.int .i64 k, .int .i64 0, .sl .any [], .sl .any [], .sl .any [(fmEq x y).cells, (fmEq x' y').cells]]] (.bool true) := by
    intro k
    have h1 := c_refFmSame (fmTwo k (fmEq x y) (fmEq x' y')) (fmTwo_W wf wg) (fmTwo k (fmEq x y) (fmEq x' y')) (fmTwo_W wf wg)
    rw [Fm.same_refl, fmTwo, Fm.mk_cells] at h1
    simpa only [Ty.mk_kind, Ty.mk_args, List.map_cons, List.map_nil] using h1
  have k1 := c_tmCheck w wW
  have k2 := c_tmCheck c cW
  have k3 := c_Large w wW
  have k4 := c_Large c cW
  have hU := c_r24Unit
  have uu := fun k hk => law k (tm0 13 []) (tm0 13 []) hk (by kernel_rfl) (by kernel_rfl) (by kernel_rfl) (by kernel_rfl) tm0_W0 tm0_W0
  have ww := fun k hk => law k w c hk
  clear law gx gy gx' gy' zx zy zx' zy' lx ly lx' ly' hx hy hx' hy' b1 n2
  generalize fmEq x y = F1 at *
  generalize fmEq x' y' = F2 at *
  generalize tm0 13 [] = un at *
  obtain rfl | rfl : k = 0 ∨ k = 1 := by omega
  ·
    have hZ := same 2
    have hM0 := uu 2 (.inl rfl)
    have hM1 := ww 2 (.inl rfl)
    clear uu ww same
    cases q1 : (tmErr w != 0) with
    | true =>
      have hM := hM0
      clear hM0 hM1
      refine enter Tryz.func11 [.tmp 6] rfl (by kernel_rfl) follows (by kernel_rfl) rfl fun g0 w0 gen hrel hfr hfr' hres => ?_
      repeat' (first
        | (refine ⟨?_, ?_⟩; focus ((repeat' (first | refine And.intro ?_ ?_ | refine Or.inr ?_)); all_goals kernel_rfl))
        | exact hin _ | exact agf (by assumption)
        | (first | refine wp rfl ?_ | refine spt rfl ?_ | refine spf rfl ?_ | (refine spl (fun hc => ?_) fun hc => ?_) <;> (try rw [beq_iff_eq] at hc) <;> try simp only [hc] | (refine guarded_split (fun hb => ?_) fun hb => ?_) <;> try simp only [Bool.not_true, Bool.not_false] at hb | refine Call1_pure (hF) ?_ | refine Call1_pure (c_awake29) ?_ | refine Call1_pure (hC) ?_ | refine Call1_pure (hT) ?_ | refine Call1_pure (hS) ?_ | refine Call1_new ⟨gen, 1000, 0⟩ (hN) (by first | exact hfr' _ _ | simp only [go_sem, *]) ?_ | (refine Call1_turn (Tf _) ?_ ?_; focus ((simp only [go_sem, *] <;> rfl); done)) | (refine Call1_turn (Tg _) ?_ ?_; focus ((simp only [go_sem, *] <;> rfl); done)) | refine Call1_turn (c_Next l hl _ _ _) (by simp only [go_sem, *] <;> rfl) ?_ | refine Call1_pure (k1) ?_ | refine Call1_pure (k2) ?_ | refine Call1_pure (k3) ?_ | refine Call1_pure (k4) ?_ | refine Call1_pure (hU) ?_ | refine Call1_pure (hM) ?_ | refine Call1_pure (hZ) ?_ | refine finF hrel ?_ ?_ ?_) <;> try simp only [go_sem, *])
    | false =>
    cases q2 : (tmErr c != 0) with
    | true =>
      have hM := hM0
      clear hM0 hM1
      refine enter Tryz.func11 [.tmp 6] rfl (by kernel_rfl) follows (by kernel_rfl) rfl fun g0 w0 gen hrel hfr hfr' hres => ?_
      repeat' (first
        | (refine ⟨?_, ?_⟩; focus ((repeat' (first | refine And.intro ?_ ?_ | refine Or.inr ?_)); all_goals kernel_rfl))
        | exact hin _ | exact agf (by assumption)
        | (first | refine wp rfl ?_ | refine spt rfl ?_ | refine spf rfl ?_ | (refine spl (fun hc => ?_) fun hc => ?_) <;> (try rw [beq_iff_eq] at hc) <;> try simp only [hc] | (refine guarded_split (fun hb => ?_) fun hb => ?_) <;> try simp only [Bool.not_true, Bool.not_false] at hb | refine Call1_pure (hF) ?_ | refine Call1_pure (c_awake29) ?_ | refine Call1_pure (hC) ?_ | refine Call1_pure (hT) ?_ | refine Call1_pure (hS) ?_ | refine Call1_new ⟨gen, 1000, 0⟩ (hN) (by first | exact hfr' _ _ | simp only [go_sem, *]) ?_ | (refine Call1_turn (Tf _) ?_ ?_; focus ((simp only [go_sem, *] <;> rfl); done)) | (refine Call1_turn (Tg _) ?_ ?_; focus ((simp only [go_sem, *] <;> rfl); done)) | refine Call1_turn (c_Next l hl _ _ _) (by simp only [go_sem, *] <;> rfl) ?_ | refine Call1_pure (k1) ?_ | refine Call1_pure (k2) ?_ | refine Call1_pure (k3) ?_ | refine Call1_pure (k4) ?_ | refine Call1_pure (hU) ?_ | refine Call1_pure (hM) ?_ | refine Call1_pure (hZ) ?_ | refine finF hrel ?_ ?_ ?_) <;> try simp only [go_sem, *])
    | false =>
    cases q3 : w.least 268435456 with
    | false =>
      rw [q3, Bool.not_false] at k3
      have hM := hM0
      clear hM0 hM1
      refine enter Tryz.func11 [.tmp 6] rfl (by kernel_rfl) follows (by kernel_rfl) rfl fun g0 w0 gen hrel hfr hfr' hres => ?_
      repeat' (first
        | (refine ⟨?_, ?_⟩; focus ((repeat' (first | refine And.intro ?_ ?_ | refine Or.inr ?_)); all_goals kernel_rfl))
        | exact hin _ | exact agf (by assumption)
        | (first | refine wp rfl ?_ | refine spt rfl ?_ | refine spf rfl ?_ | (refine spl (fun hc => ?_) fun hc => ?_) <;> (try rw [beq_iff_eq] at hc) <;> try simp only [hc] | (refine guarded_split (fun hb => ?_) fun hb => ?_) <;> try simp only [Bool.not_true, Bool.not_false] at hb | refine Call1_pure (hF) ?_ | refine Call1_pure (c_awake29) ?_ | refine Call1_pure (hC) ?_ | refine Call1_pure (hT) ?_ | refine Call1_pure (hS) ?_ | refine Call1_new ⟨gen, 1000, 0⟩ (hN) (by first | exact hfr' _ _ | simp only [go_sem, *]) ?_ | (refine Call1_turn (Tf _) ?_ ?_; focus ((simp only [go_sem, *] <;> rfl); done)) | (refine Call1_turn (Tg _) ?_ ?_; focus ((simp only [go_sem, *] <;> rfl); done)) | refine Call1_turn (c_Next l hl _ _ _) (by simp only [go_sem, *] <;> rfl) ?_ | refine Call1_pure (k1) ?_ | refine Call1_pure (k2) ?_ | refine Call1_pure (k3) ?_ | refine Call1_pure (k4) ?_ | refine Call1_pure (hU) ?_ | refine Call1_pure (hM) ?_ | refine Call1_pure (hZ) ?_ | refine finF hrel ?_ ?_ ?_) <;> try simp only [go_sem, *])
    | true =>
    rw [q3, Bool.not_true] at k3
    cases q4 : c.least 268435456 with
    | false =>
      rw [q4, Bool.not_false] at k4
      have hM := hM0
      clear hM0 hM1
      refine enter Tryz.func11 [.tmp 6] rfl (by kernel_rfl) follows (by kernel_rfl) rfl fun g0 w0 gen hrel hfr hfr' hres => ?_
      repeat' (first
        | (refine ⟨?_, ?_⟩; focus ((repeat' (first | refine And.intro ?_ ?_ | refine Or.inr ?_)); all_goals kernel_rfl))
        | exact hin _ | exact agf (by assumption)
        | (first | refine wp rfl ?_ | refine spt rfl ?_ | refine spf rfl ?_ | (refine spl (fun hc => ?_) fun hc => ?_) <;> (try rw [beq_iff_eq] at hc) <;> try simp only [hc] | (refine guarded_split (fun hb => ?_) fun hb => ?_) <;> try simp only [Bool.not_true, Bool.not_false] at hb | refine Call1_pure (hF) ?_ | refine Call1_pure (c_awake29) ?_ | refine Call1_pure (hC) ?_ | refine Call1_pure (hT) ?_ | refine Call1_pure (hS) ?_ | refine Call1_new ⟨gen, 1000, 0⟩ (hN) (by first | exact hfr' _ _ | simp only [go_sem, *]) ?_ | (refine Call1_turn (Tf _) ?_ ?_; focus ((simp only [go_sem, *] <;> rfl); done)) | (refine Call1_turn (Tg _) ?_ ?_; focus ((simp only [go_sem, *] <;> rfl); done)) | refine Call1_turn (c_Next l hl _ _ _) (by simp only [go_sem, *] <;> rfl) ?_ | refine Call1_pure (k1) ?_ | refine Call1_pure (k2) ?_ | refine Call1_pure (k3) ?_ | refine Call1_pure (k4) ?_ | refine Call1_pure (hU) ?_ | refine Call1_pure (hM) ?_ | refine Call1_pure (hZ) ?_ | refine finF hrel ?_ ?_ ?_) <;> try simp only [go_sem, *])
    | true =>
    rw [q4, Bool.not_true] at k4
    have hM := hM1 (by simpa using q1) (by simpa using q2) q3 q4 wW cW
    clear hM0 hM1
    refine enter Tryz.func11 [.tmp 6] rfl (by kernel_rfl) follows (by kernel_rfl) rfl fun g0 w0 gen hrel hfr hfr' hres => ?_
    repeat' (first
      | (refine ⟨?_, ?_⟩; focus ((repeat' (first | refine And.intro ?_ ?_ | refine Or.inr ?_)); all_goals kernel_rfl))
      | exact hin _ | exact agf (by assumption)
      | (first | refine wp rfl ?_ | refine spt rfl ?_ | refine spf rfl ?_ | (refine spl (fun hc => ?_) fun hc => ?_) <;> (try rw [beq_iff_eq] at hc) <;> try simp only [hc] | (refine guarded_split (fun hb => ?_) fun hb => ?_) <;> try simp only [Bool.not_true, Bool.not_false] at hb | refine Call1_pure (hF) ?_ | refine Call1_pure (c_awake29) ?_ | refine Call1_pure (hC) ?_ | refine Call1_pure (hT) ?_ | refine Call1_pure (hS) ?_ | refine Call1_new ⟨gen, 1000, 0⟩ (hN) (by first | exact hfr' _ _ | simp only [go_sem, *]) ?_ | (refine Call1_turn (Tf _) ?_ ?_; focus ((simp only [go_sem, *] <;> rfl); done)) | (refine Call1_turn (Tg _) ?_ ?_; focus ((simp only [go_sem, *] <;> rfl); done)) | refine Call1_turn (c_Next l hl _ _ _) (by simp only [go_sem, *] <;> rfl) ?_ | refine Call1_pure (k1) ?_ | refine Call1_pure (k2) ?_ | refine Call1_pure (k3) ?_ | refine Call1_pure (k4) ?_ | refine Call1_pure (hU) ?_ | refine Call1_pure (hM) ?_ | refine Call1_pure (hZ) ?_ | refine finF hrel ?_ ?_ ?_) <;> try simp only [go_sem, *])
  ·
    have hZ := same 3
    have hM0 := uu 3 (.inr rfl)
    have hM1 := ww 3 (.inr rfl)
    clear uu ww same
    cases q1 : (tmErr w != 0) with
    | true =>
      have hM := hM0
      clear hM0 hM1
      refine enter Tryz.func11 [.tmp 6] rfl (by kernel_rfl) follows (by kernel_rfl) rfl fun g0 w0 gen hrel hfr hfr' hres => ?_
      repeat' (first
        | (refine ⟨?_, ?_⟩; focus ((repeat' (first | refine And.intro ?_ ?_ | refine Or.inr ?_)); all_goals kernel_rfl))
        | exact hin _ | exact agf (by assumption)
        | (first | refine wp rfl ?_ | refine spt rfl ?_ | refine spf rfl ?_ | (refine spl (fun hc => ?_) fun hc => ?_) <;> (try rw [beq_iff_eq] at hc) <;> try simp only [hc] | (refine guarded_split (fun hb => ?_) fun hb => ?_) <;> try simp only [Bool.not_true, Bool.not_false] at hb | refine Call1_pure (hF) ?_ | refine Call1_pure (c_awake29) ?_ | refine Call1_pure (hC) ?_ | refine Call1_pure (hT) ?_ | refine Call1_pure (hS) ?_ | refine Call1_new ⟨gen, 1000, 0⟩ (hN) (by first | exact hfr' _ _ | simp only [go_sem, *]) ?_ | (refine Call1_turn (Tf _) ?_ ?_; focus ((simp only [go_sem, *] <;> rfl); done)) | (refine Call1_turn (Tg _) ?_ ?_; focus ((simp only [go_sem, *] <;> rfl); done)) | refine Call1_turn (c_Next l hl _ _ _) (by simp only [go_sem, *] <;> rfl) ?_ | refine Call1_pure (k1) ?_ | refine Call1_pure (k2) ?_ | refine Call1_pure (k3) ?_ | refine Call1_pure (k4) ?_ | refine Call1_pure (hU) ?_ | refine Call1_pure (hM) ?_ | refine Call1_pure (hZ) ?_ | refine finF hrel ?_ ?_ ?_) <;> try simp only [go_sem, *])
    | false =>
    cases q2 : (tmErr c != 0) with
    | true =>
      have hM := hM0
      clear hM0 hM1
      refine enter Tryz.func11 [.tmp 6] rfl (by kernel_rfl) follows (by kernel_rfl) rfl fun g0 w0 gen hrel hfr hfr' hres => ?_
      repeat' (first
        | (refine ⟨?_, ?_⟩; focus ((repeat' (first | refine And.intro ?_ ?_ | refine Or.inr ?_)); all_goals kernel_rfl))
        | exact hin _ | exact agf (by assumption)
        | (first | refine wp rfl ?_ | refine spt rfl ?_ | refine spf rfl ?_ | (refine spl (fun hc => ?_) fun hc => ?_) <;> (try rw [beq_iff_eq] at hc) <;> try simp only [hc] | (refine guarded_split (fun hb => ?_) fun hb => ?_) <;> try simp only [Bool.not_true, Bool.not_false] at hb | refine Call1_pure (hF) ?_ | refine Call1_pure (c_awake29) ?_ | refine Call1_pure (hC) ?_ | refine Call1_pure (hT) ?_ | refine Call1_pure (hS) ?_ | refine Call1_new ⟨gen, 1000, 0⟩ (hN) (by first | exact hfr' _ _ | simp only [go_sem, *]) ?_ | (refine Call1_turn (Tf _) ?_ ?_; focus ((simp only [go_sem, *] <;> rfl); done)) | (refine Call1_turn (Tg _) ?_ ?_; focus ((simp only [go_sem, *] <;> rfl); done)) | refine Call1_turn (c_Next l hl _ _ _) (by simp only [go_sem, *] <;> rfl) ?_ | refine Call1_pure (k1) ?_ | refine Call1_pure (k2) ?_ | refine Call1_pure (k3) ?_ | refine Call1_pure (k4) ?_ | refine Call1_pure (hU) ?_ | refine Call1_pure (hM) ?_ | refine Call1_pure (hZ) ?_ | refine finF hrel ?_ ?_ ?_) <;> try simp only [go_sem, *])
    | false =>
    cases q3 : w.least 268435456 with
    | false =>
      rw [q3, Bool.not_false] at k3
      have hM := hM0
      clear hM0 hM1
      refine enter Tryz.func11 [.tmp 6] rfl (by kernel_rfl) follows (by kernel_rfl) rfl fun g0 w0 gen hrel hfr hfr' hres => ?_
      repeat' (first
        | (refine ⟨?_, ?_⟩; focus ((repeat' (first | refine And.intro ?_ ?_ | refine Or.inr ?_)); all_goals kernel_rfl))
        | exact hin _ | exact agf (by assumption)
        | (first | refine wp rfl ?_ | refine spt rfl ?_ | refine spf rfl ?_ | (refine spl (fun hc => ?_) fun hc => ?_) <;> (try rw [beq_iff_eq] at hc) <;> try simp only [hc] | (refine guarded_split (fun hb => ?_) fun hb => ?_) <;> try simp only [Bool.not_true, Bool.not_false] at hb | refine Call1_pure (hF) ?_ | refine Call1_pure (c_awake29) ?_ | refine Call1_pure (hC) ?_ | refine Call1_pure (hT) ?_ | refine Call1_pure (hS) ?_ | refine Call1_new ⟨gen, 1000, 0⟩ (hN) (by first | exact hfr' _ _ | simp only [go_sem, *]) ?_ | (refine Call1_turn (Tf _) ?_ ?_; focus ((simp only [go_sem, *] <;> rfl); done)) | (refine Call1_turn (Tg _) ?_ ?_; focus ((simp only [go_sem, *] <;> rfl); done)) | refine Call1_turn (c_Next l hl _ _ _) (by simp only [go_sem, *] <;> rfl) ?_ | refine Call1_pure (k1) ?_ | refine Call1_pure (k2) ?_ | refine Call1_pure (k3) ?_ | refine Call1_pure (k4) ?_ | refine Call1_pure (hU) ?_ | refine Call1_pure (hM) ?_ | refine Call1_pure (hZ) ?_ | refine finF hrel ?_ ?_ ?_) <;> try simp only [go_sem, *])
    | true =>
    rw [q3, Bool.not_true] at k3
    cases q4 : c.least 268435456 with
    | false =>
      rw [q4, Bool.not_false] at k4
      have hM := hM0
      clear hM0 hM1
      refine enter Tryz.func11 [.tmp 6] rfl (by kernel_rfl) follows (by kernel_rfl) rfl fun g0 w0 gen hrel hfr hfr' hres => ?_
      repeat' (first
        | (refine ⟨?_, ?_⟩; focus ((repeat' (first | refine And.intro ?_ ?_ | refine Or.inr ?_)); all_goals kernel_rfl))
        | exact hin _ | exact agf (by assumption)
        | (first | refine wp rfl ?_ | refine spt rfl ?_ | refine spf rfl ?_ | (refine spl (fun hc => ?_) fun hc => ?_) <;> (try rw [beq_iff_eq] at hc) <;> try simp only [hc] | (refine guarded_split (fun hb => ?_) fun hb => ?_) <;> try simp only [Bool.not_true, Bool.not_false] at hb | refine Call1_pure (hF) ?_ | refine Call1_pure (c_awake29) ?_ | refine Call1_pure (hC) ?_ | refine Call1_pure (hT) ?_ | refine Call1_pure (hS) ?_ | refine Call1_new ⟨gen, 1000, 0⟩ (hN) (by first | exact hfr' _ _ | simp only [go_sem, *]) ?_ | (refine Call1_turn (Tf _) ?_ ?_; focus ((simp only [go_sem, *] <;> rfl); done)) | (refine Call1_turn (Tg _) ?_ ?_; focus ((simp only [go_sem, *] <;> rfl); done)) | refine Call1_turn (c_Next l hl _ _ _) (by simp only [go_sem, *] <;> rfl) ?_ | refine Call1_pure (k1) ?_ | refine Call1_pure (k2) ?_ | refine Call1_pure (k3) ?_ | refine Call1_pure (k4) ?_ | refine Call1_pure (hU) ?_ | refine Call1_pure (hM) ?_ | refine Call1_pure (hZ) ?_ | refine finF hrel ?_ ?_ ?_) <;> try simp only [go_sem, *])
    | true =>
    rw [q4, Bool.not_true] at k4
    have hM := hM1 (by simpa using q1) (by simpa using q2) q3 q4 wW cW
    clear hM0 hM1
    refine enter Tryz.func11 [.tmp 6] rfl (by kernel_rfl) follows (by kernel_rfl) rfl fun g0 w0 gen hrel hfr hfr' hres => ?_
    repeat' (first
      | (refine ⟨?_, ?_⟩; focus ((repeat' (first | refine And.intro ?_ ?_ | refine Or.inr ?_)); all_goals kernel_rfl))
      | exact hin _ | exact agf (by assumption)
      | (first | refine wp rfl ?_ | refine spt rfl ?_ | refine spf rfl ?_ | (refine spl (fun hc => ?_) fun hc => ?_) <;> (try rw [beq_iff_eq] at hc) <;> try simp only [hc] | (refine guarded_split (fun hb => ?_) fun hb => ?_) <;> try simp only [Bool.not_true, Bool.not_false] at hb | refine Call1_pure (hF) ?_ | refine Call1_pure (c_awake29) ?_ | refine Call1_pure (hC) ?_ | refine Call1_pure (hT) ?_ | refine Call1_pure (hS) ?_ | refine Call1_new ⟨gen, 1000, 0⟩ (hN) (by first | exact hfr' _ _ | simp only [go_sem, *]) ?_ | (refine Call1_turn (Tf _) ?_ ?_; focus ((simp only [go_sem, *] <;> rfl); done)) | (refine Call1_turn (Tg _) ?_ ?_; focus ((simp only [go_sem, *] <;> rfl); done)) | refine Call1_turn (c_Next l hl _ _ _) (by simp only [go_sem, *] <;> rfl) ?_ | refine Call1_pure (k1) ?_ | refine Call1_pure (k2) ?_ | refine Call1_pure (k3) ?_ | refine Call1_pure (k4) ?_ | refine Call1_pure (hU) ?_ | refine Call1_pure (hM) ?_ | refine Call1_pure (hZ) ?_ | refine finF hrel ?_ ?_ ?_) <;> try simp only [go_sem, *])
end Go.Proofs.YtnhjlnkogoihhaaGreatDoor
