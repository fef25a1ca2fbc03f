/-
  Walks: the matrix of a formula.
-/
import Derived.Test.YtdbehnonmffhiaaGreatDoorHc
import Derived.Test.YtdbehnonmffhiaaGreatDoorWe
set_option linter.unusedSimpArgs false
set_option linter.unusedVariables false
set_option maxRecDepth 20000
set_option maxHeartbeats 4000000
namespace Go.Proofs.YtdbehnonmffhiaaGreatDoor
open Go GoAbs Go.Proofs

theorem zeroF_W' : FmW zeroF := .mk _ _ _ _ tZero_W (by simp) (by simp) (by simp) (by simp)

theorem c_mTwo (k : Int) (x y : Fm × Int) (a b : Fm) (v c w d : Tm) (hx : FmW x.1) (hy : FmW y.1)
    (h1 : Pure Tryz.prog env 39 [.agg a.cells, .agg v.cells, .agg c.cells] (fmErrV x))
    (h2 : Pure Tryz.prog env 39 [.agg b.cells, .agg w.cells, .agg d.cells] (fmErrV y)) :
    Pure Tryz.prog env 72 [.int .i64 k, .agg a.cells, .agg v.cells, .agg c.cells, .agg b.cells, .agg w.cells, .agg d.cells] (fmErrV (mTwo k x y)) := by
  intro h
  obtain ⟨xf, xe⟩ := x
  obtain ⟨yf, ye⟩ := y
  simp only [fmErrV] at h1 h2 hx hy
  unfold mTwo
  have hin : ∀ S, InV S (fmErrV (mTwo k (xf, xe) (yf, ye))) := fun S => by simp [fmErrV, InV, InL, InL_Fm]
  have hS := c_Size (fmTwo k xf yf) (fmTwo_W hx hy)
  rw [fmTwo, Fm.mk_cells] at hS
  simp only [Ty.mk_kind, Ty.mk_args, List.map_nil, List.map_cons] at hS
  simp only
  cases q1 : (xe != 0) with
  | true =>
    clear hS
    simp only [if_true, fmErrV, zeroF, Fm.mk_cells, Ty.mk_kind, Ty.mk_args, List.map_nil]
    refine enter Tryz.func72 [.cell 14 35, .tmp 15] rfl (by kernel_rfl) follows (by kernel_rfl) rfl fun g0 w0 gen hrel hfr hfr' hres => ?_
    repeat' (first
      | exact hin _ | exact agf (by assumption)
      | (first | refine wp rfl ?_ | refine spt rfl ?_ | refine spf rfl ?_ | (refine spl (fun hc => ?_) fun hc => ?_) <;> (try rw [beq_iff_eq] at hc) <;> try simp only [hc] | refine Call1_pure (h1) ?_ | refine Call1_pure (h2) ?_ | refine finF hrel ?_ ?_ ?_) <;> try simp only [go_sem, *])
  | false =>
  cases q2 : (ye != 0) with
  | true =>
    clear hS
    simp only [if_true, Bool.false_eq_true, if_false, fmErrV, zeroF, Fm.mk_cells, Ty.mk_kind, Ty.mk_args, List.map_nil]
    refine enter Tryz.func72 [.cell 14 35, .tmp 15] rfl (by kernel_rfl) follows (by kernel_rfl) rfl fun g0 w0 gen hrel hfr hfr' hres => ?_
    repeat' (first
      | exact hin _ | exact agf (by assumption)
      | (first | refine wp rfl ?_ | refine spt rfl ?_ | refine spf rfl ?_ | (refine spl (fun hc => ?_) fun hc => ?_) <;> (try rw [beq_iff_eq] at hc) <;> try simp only [hc] | refine Call1_pure (h1) ?_ | refine Call1_pure (h2) ?_ | refine finF hrel ?_ ?_ ?_) <;> try simp only [go_sem, *])
  | false =>
  cases q3 : decide ((fmTwo k xf yf).szW > 4096) with
  | true =>
    have q3' : decide ((Fm.mk k (.mk 0 []) [] [xf, yf]).szW > 4096) = true := q3
    clear q3
    simp only [if_true, Bool.false_eq_true, if_false, fmErrV, zeroF, Fm.mk_cells, Ty.mk_kind, Ty.mk_args, List.map_nil]
    refine enter Tryz.func72 [.cell 14 35, .tmp 15] rfl (by kernel_rfl) follows (by kernel_rfl) rfl fun g0 w0 gen hrel hfr hfr' hres => ?_
    repeat' (first
      | exact hin _ | exact agf (by assumption)
      | (first | refine wp rfl ?_ | refine spt rfl ?_ | refine spf rfl ?_ | (refine spl (fun hc => ?_) fun hc => ?_) <;> (try rw [beq_iff_eq] at hc) <;> try simp only [hc] | refine Call1_pure (h1) ?_ | refine Call1_pure (h2) ?_ | refine Call1_pure (hS) ?_ | refine finF hrel ?_ ?_ ?_) <;> try simp only [go_sem, *])
  | false =>
    have q3' : decide ((Fm.mk k (.mk 0 []) [] [xf, yf]).szW > 4096) = false := q3
    clear q3
    simp only [Bool.false_eq_true, if_false, fmErrV, fmTwo, Fm.mk_cells, Ty.mk_kind, Ty.mk_args, List.map_nil, List.map_cons]
    refine enter Tryz.func72 [.cell 14 35, .tmp 15] rfl (by kernel_rfl) follows (by kernel_rfl) rfl fun g0 w0 gen hrel hfr hfr' hres => ?_
    repeat' (first
      | exact hin _ | exact agf (by assumption)
      | (first | refine wp rfl ?_ | refine spt rfl ?_ | refine spf rfl ?_ | (refine spl (fun hc => ?_) fun hc => ?_) <;> (try rw [beq_iff_eq] at hc) <;> try simp only [hc] | refine Call1_pure (h1) ?_ | refine Call1_pure (h2) ?_ | refine Call1_pure (hS) ?_ | refine finF hrel ?_ ?_ ?_) <;> try simp only [go_sem, *])

theorem fsp_W {s : Tm} (hs : TmW s) : ∀ (f : Fm) (d : Int), FmW f → FmW (f.ev (fun t b => tmSp s 0 t b) d) := by
  intro f
  induction f using Fm.ind with | h f ih => ?_
  intro d hf
  rw [Fm.ev_eq]
  refine .mk _ _ _ _ hf.ty (by rw [List.length_map]; exact hf.tlen) ?_ (by rw [List.length_map]; exact hf.len) ?_
  · intro x hx
    obtain ⟨y, hy, rfl⟩ := List.mem_map.1 hx
    exact sp_W hs _ _ (hf.term hy)
  · intro x hx
    obtain ⟨y, hy, rfl⟩ := List.mem_map.1 hx
    exact ih y hy _ (hf.arg hy)

theorem c_mWith (r : Fm → Tm → Tm → Fm × Int) (body : Fm) (x w c : Tm) (hb : FmW body) (hx : TmW x)
    (h1 : Pure Tryz.prog env 39 [.agg (body.sp x).cells, .agg w.cells, .agg c.cells] (fmErrV (r (body.sp x) w c))) :
    Pure Tryz.prog env 77 [.agg body.cells, .agg x.cells, .agg w.cells, .agg c.cells] (fmErrV (mWith r body x w c)) := by
  intro h
  unfold mWith
  have h2 := c_Nodes x hx
  have h3 := c_Grown body hb x hx
  have h4 := c_quantifiers body hb
  have h5 := c_PutFormula body hb x hx
  have hw : IntKind.i64.wrap (body.grown x - body.qs) = subW (body.grown x) body.qs := rfl
  have hin : ∀ S, InV S (fmErrV (r (body.sp x) w c)) := fun S => by simp [fmErrV, InV, InL, InL_Fm]
  generalize r (body.sp x) w c = p at *
  obtain ⟨pf, pe⟩ := p
  simp only [fmErrV] at h1 hin
  generalize body.sp x = g at *
  generalize body.grown x = n1 at *
  generalize body.qs = n2 at *
  generalize subW n1 n2 = n3 at *
  cases q1 : decide (x.szW > 4096) with
  | true =>
    simp only [Bool.true_or, if_true, fmErrV, zeroF, Fm.mk_cells, Ty.mk_kind, Ty.mk_args, List.map_nil]
    clear hin h3 h4 h5 h1
    refine enter Tryz.func77 [.cell 8 35, .tmp 9] rfl (by kernel_rfl) follows (by kernel_rfl) rfl fun g0 w0 gen hrel hfr hfr' hres => ?_
    repeat' (first
      | (refine ⟨?_, ?_⟩; focus ((repeat' (first | refine And.intro ?_ ?_ | refine Or.inr ?_)); all_goals kernel_rfl))
      | exact hin _ | exact agf (by assumption)
      | (first | refine wp rfl ?_ | refine spt rfl ?_ | refine spf rfl ?_ | (refine spl (fun hc => ?_) fun hc => ?_) <;> (try rw [beq_iff_eq] at hc) <;> try simp only [hc] | (refine guarded_split (fun hb => ?_) fun hb => ?_) <;> try simp only [Bool.not_true, Bool.not_false] at hb | refine Call1_pure (h2) ?_ | refine finF hrel ?_ ?_ ?_) <;> try simp only [go_sem, *])
  | false =>
  cases q2 : decide (n3 > 4096) with
  | true =>
    simp only [Bool.false_or, if_true, fmErrV, zeroF, Fm.mk_cells, Ty.mk_kind, Ty.mk_args, List.map_nil]
    clear hin h5 h1
    refine enter Tryz.func77 [.cell 8 35, .tmp 9] rfl (by kernel_rfl) follows (by kernel_rfl) rfl fun g0 w0 gen hrel hfr hfr' hres => ?_
    repeat' (first
      | (refine ⟨?_, ?_⟩; focus ((repeat' (first | refine And.intro ?_ ?_ | refine Or.inr ?_)); all_goals kernel_rfl))
      | exact hin _ | exact agf (by assumption)
      | (first | refine wp rfl ?_ | refine spt rfl ?_ | refine spf rfl ?_ | (refine spl (fun hc => ?_) fun hc => ?_) <;> (try rw [beq_iff_eq] at hc) <;> try simp only [hc] | (refine guarded_split (fun hb => ?_) fun hb => ?_) <;> try simp only [Bool.not_true, Bool.not_false] at hb | refine Call1_pure (h2) ?_ | refine Call1_pure (h3) ?_ | refine Call1_pure (h4) ?_ | refine finF hrel ?_ ?_ ?_) <;> try simp only [go_sem, *])
  | false =>
    simp only [Bool.or_false, Bool.false_eq_true, if_false, fmErrV]
    refine enter Tryz.func77 [.cell 8 35, .tmp 9] rfl (by kernel_rfl) follows (by kernel_rfl) rfl fun g0 w0 gen hrel hfr hfr' hres => ?_
    repeat' (first
      | (refine ⟨?_, ?_⟩; focus ((repeat' (first | refine And.intro ?_ ?_ | refine Or.inr ?_)); all_goals kernel_rfl))
      | exact hin _ | exact agf (by assumption)
      | (first | refine wp rfl ?_ | refine spt rfl ?_ | refine spf rfl ?_ | (refine spl (fun hc => ?_) fun hc => ?_) <;> (try rw [beq_iff_eq] at hc) <;> try simp only [hc] | (refine guarded_split (fun hb => ?_) fun hb => ?_) <;> try simp only [Bool.not_true, Bool.not_false] at hb | refine Call1_pure (h2) ?_ | refine Call1_pure (h3) ?_ | refine Call1_pure (h4) ?_ | refine Call1_pure (h5) ?_ | refine Call1_pure (h1) ?_ | refine finF hrel ?_ ?_ ?_) <;> try simp only [go_sem, *])
end Go.Proofs.YtdbehnonmffhiaaGreatDoor
