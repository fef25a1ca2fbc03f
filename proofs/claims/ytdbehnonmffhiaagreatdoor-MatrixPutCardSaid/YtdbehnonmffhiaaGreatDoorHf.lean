/-
  Walks: matrix.Formula.
-/
import Derived.Test.YtdbehnonmffhiaaGreatDoorHe
set_option linter.unusedSimpArgs false
set_option linter.unusedVariables false
set_option maxRecDepth 20000
set_option maxHeartbeats 4000000
namespace Go.Proofs.YtdbehnonmffhiaaGreatDoor
open Go GoAbs Go.Proofs

theorem look_nodes {f : Fm} (h : f.look.2 = 0) : f.nodes ≠ none := by
  refine Fm.ok_nodes ?_
  unfold Fm.look at h
  split at h
  · rename_i e; simpa using e
  · exact h

theorem c_matF (f : Fm) (hf : FmW f) (w c : Tm) (hw : TmW w) (hc : TmW c) : Pure Tryz.prog env 11 [.agg f.cells, .agg w.cells, .agg c.cells] (fmErrV (matF f w c)) := by
  intro h
  have h1 := c_Witness f hf
  have h2 := c_Challenge f hf
  simp only [tyErrV, Fm.witness, Fm.challenge] at h1 h2
  have h3 := c_termsCheck w hw
  have h4 := c_termsCheck c hc
  have h5 := c_FarFormula f hf
  have h6 := c_Far w hw
  have h7 := c_Far c hc
  have h8 : f.look.2 = 0 → Pure Tryz.prog env 39 [.agg f.cells, .agg w.cells, .agg c.cells] (fmErrV (mOf (fdp f) f w c)) :=
    fun e => c_mOf _ f (Nat.le_refl _) (FmA.of_nodes f (look_nodes e)) hf w c hw hc
  have hin : ∀ S, InV S (fmErrV (mOf (fdp f) f w c)) := fun S => by simp [fmErrV, InV, InL, InL_Fm]
  unfold matF
  generalize mOf (fdp f) f w c = r at *
  obtain ⟨rf, re⟩ := r
  simp only [fmErrV] at h8 hin
  generalize f.look.2 = e at *
  generalize f.look.1.1 = a at *
  generalize f.look.1.2 = b at *
  generalize tmErr w = ew at *
  generalize tmErr c = ec at *
  generalize f.far = b1 at *
  generalize (!w.least 268435456) = b2 at *
  generalize (!c.least 268435456) = b3 at *
  cases q1 : (e != 0) with
  | true =>
    clear h8 hin
    simp only [if_true, fmErrV, zeroF, Fm.mk_cells, Ty.mk_kind, Ty.mk_args, List.map_nil]
    refine enter Tryz.func11 [.cell 6 35, .tmp 7] rfl (by kernel_rfl) follows (by kernel_rfl) rfl fun g0 w0 gen hrel hfr hfr' hres => ?_
    repeat' (first
      | exact hin _ | exact agf (by assumption)
      | (first | refine wp rfl ?_ | refine spt rfl ?_ | refine spf rfl ?_ | (refine spl (fun hc => ?_) fun hc => ?_) <;> (try rw [beq_iff_eq] at hc) <;> try simp only [hc] | (refine guarded_split (fun hb => ?_) fun hb => ?_) <;> try simp only [Bool.not_true, Bool.not_false] at hb | refine Call1_pure (h1) ?_ | refine finF hrel ?_ ?_ ?_) <;> try simp only [go_sem, *])
  | false =>
  have h8' := h8 (by simpa using q1)
  clear h8
  cases q2 : (ew != 0) with
  | true =>
    clear h8' hin
    simp only [Bool.false_eq_true, if_false, if_true, fmErrV, zeroF, Fm.mk_cells, Ty.mk_kind, Ty.mk_args, List.map_nil]
    refine enter Tryz.func11 [.cell 6 35, .tmp 7] rfl (by kernel_rfl) follows (by kernel_rfl) rfl fun g0 w0 gen hrel hfr hfr' hres => ?_
    repeat' (first
      | exact hin _ | exact agf (by assumption)
      | (first | refine wp rfl ?_ | refine spt rfl ?_ | refine spf rfl ?_ | (refine spl (fun hc => ?_) fun hc => ?_) <;> (try rw [beq_iff_eq] at hc) <;> try simp only [hc] | (refine guarded_split (fun hb => ?_) fun hb => ?_) <;> try simp only [Bool.not_true, Bool.not_false] at hb | refine Call1_pure (h1) ?_ | refine Call1_pure (h2) ?_ | refine Call1_pure (h3) ?_ | refine finF hrel ?_ ?_ ?_) <;> try simp only [go_sem, *])
  | false =>
  cases q3 : (ec != 0) with
  | true =>
    clear h8' hin
    simp only [Bool.false_eq_true, if_false, if_true, fmErrV, zeroF, Fm.mk_cells, Ty.mk_kind, Ty.mk_args, List.map_nil]
    refine enter Tryz.func11 [.cell 6 35, .tmp 7] rfl (by kernel_rfl) follows (by kernel_rfl) rfl fun g0 w0 gen hrel hfr hfr' hres => ?_
    repeat' (first
      | exact hin _ | exact agf (by assumption)
      | (first | refine wp rfl ?_ | refine spt rfl ?_ | refine spf rfl ?_ | (refine spl (fun hc => ?_) fun hc => ?_) <;> (try rw [beq_iff_eq] at hc) <;> try simp only [hc] | (refine guarded_split (fun hb => ?_) fun hb => ?_) <;> try simp only [Bool.not_true, Bool.not_false] at hb | refine Call1_pure (h1) ?_ | refine Call1_pure (h2) ?_ | refine Call1_pure (h3) ?_ | refine Call1_pure (h4) ?_ | refine finF hrel ?_ ?_ ?_) <;> try simp only [go_sem, *])
  | false =>
  cases b1
  case true =>
    clear h8' hin
    simp only [Bool.false_eq_true, if_false, if_true, Bool.true_or, fmErrV, zeroF, Fm.mk_cells, Ty.mk_kind, Ty.mk_args, List.map_nil]
    refine enter Tryz.func11 [.cell 6 35, .tmp 7] rfl (by kernel_rfl) follows (by kernel_rfl) rfl fun g0 w0 gen hrel hfr hfr' hres => ?_
    repeat' (first
      | exact hin _ | exact agf (by assumption)
      | (first | refine wp rfl ?_ | refine spt rfl ?_ | refine spf rfl ?_ | (refine spl (fun hc => ?_) fun hc => ?_) <;> (try rw [beq_iff_eq] at hc) <;> try simp only [hc] | (refine guarded_split (fun hb => ?_) fun hb => ?_) <;> try simp only [Bool.not_true, Bool.not_false] at hb | refine Call1_pure (h1) ?_ | refine Call1_pure (h2) ?_ | refine Call1_pure (h3) ?_ | refine Call1_pure (h4) ?_ | refine Call1_pure (h5) ?_ | refine finF hrel ?_ ?_ ?_) <;> try simp only [go_sem, *])
  cases b2
  case true =>
    clear h8' hin
    simp only [Bool.false_eq_true, if_false, if_true, Bool.true_or, Bool.or_true, fmErrV, zeroF, Fm.mk_cells, Ty.mk_kind, Ty.mk_args, List.map_nil]
    refine enter Tryz.func11 [.cell 6 35, .tmp 7] rfl (by kernel_rfl) follows (by kernel_rfl) rfl fun g0 w0 gen hrel hfr hfr' hres => ?_
    repeat' (first
      | exact hin _ | exact agf (by assumption)
      | (first | refine wp rfl ?_ | refine spt rfl ?_ | refine spf rfl ?_ | (refine spl (fun hc => ?_) fun hc => ?_) <;> (try rw [beq_iff_eq] at hc) <;> try simp only [hc] | (refine guarded_split (fun hb => ?_) fun hb => ?_) <;> try simp only [Bool.not_true, Bool.not_false] at hb | refine Call1_pure (h1) ?_ | refine Call1_pure (h2) ?_ | refine Call1_pure (h3) ?_ | refine Call1_pure (h4) ?_ | refine Call1_pure (h5) ?_ | refine Call1_pure (h6) ?_ | refine finF hrel ?_ ?_ ?_) <;> try simp only [go_sem, *])
  cases b3
  case true =>
    clear h8' hin
    simp only [Bool.false_eq_true, if_false, if_true, Bool.true_or, Bool.or_true, fmErrV, zeroF, Fm.mk_cells, Ty.mk_kind, Ty.mk_args, List.map_nil]
    refine enter Tryz.func11 [.cell 6 35, .tmp 7] rfl (by kernel_rfl) follows (by kernel_rfl) rfl fun g0 w0 gen hrel hfr hfr' hres => ?_
    repeat' (first
      | exact hin _ | exact agf (by assumption)
      | (first | refine wp rfl ?_ | refine spt rfl ?_ | refine spf rfl ?_ | (refine spl (fun hc => ?_) fun hc => ?_) <;> (try rw [beq_iff_eq] at hc) <;> try simp only [hc] | (refine guarded_split (fun hb => ?_) fun hb => ?_) <;> try simp only [Bool.not_true, Bool.not_false] at hb | refine Call1_pure (h1) ?_ | refine Call1_pure (h2) ?_ | refine Call1_pure (h3) ?_ | refine Call1_pure (h4) ?_ | refine Call1_pure (h5) ?_ | refine Call1_pure (h6) ?_ | refine Call1_pure (h7) ?_ | refine finF hrel ?_ ?_ ?_) <;> try simp only [go_sem, *])
  simp only [Bool.false_eq_true, if_false, Bool.or_self, fmErrV]
  refine enter Tryz.func11 [.cell 6 35, .tmp 7] rfl (by kernel_rfl) follows (by kernel_rfl) rfl fun g0 w0 gen hrel hfr hfr' hres => ?_
  repeat' (first
    | exact hin _ | exact agf (by assumption)
    | (first | refine wp rfl ?_ | refine spt rfl ?_ | refine spf rfl ?_ | (refine spl (fun hc => ?_) fun hc => ?_) <;> (try rw [beq_iff_eq] at hc) <;> try simp only [hc] | (refine guarded_split (fun hb => ?_) fun hb => ?_) <;> try simp only [Bool.not_true, Bool.not_false] at hb | refine Call1_pure (h1) ?_ | refine Call1_pure (h2) ?_ | refine Call1_pure (h3) ?_ | refine Call1_pure (h4) ?_ | refine Call1_pure (h5) ?_ | refine Call1_pure (h6) ?_ | refine Call1_pure (h7) ?_ | refine Call1_pure (h8') ?_ | refine finF hrel ?_ ?_ ?_) <;> try simp only [go_sem, *])
end Go.Proofs.YtdbehnonmffhiaaGreatDoor
