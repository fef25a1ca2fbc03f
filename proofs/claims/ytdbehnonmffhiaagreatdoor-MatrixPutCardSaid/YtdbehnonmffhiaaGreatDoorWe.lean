/-
  Walks: makers without loops.
-/
import Derived.Test.YtdbehnonmffhiaaGreatDoorWc
set_option linter.unusedSimpArgs false
set_option linter.unusedVariables false
set_option maxRecDepth 20000
namespace Go.Proofs.YtdbehnonmffhiaaGreatDoor
open Go GoAbs Go.Proofs

theorem c_Var (i : Int) : Pure Tryz.prog env 23 [.int .i64 i] (.agg (tmVar i).cells) := by
  intro h
  refine enter Tryz.func23 [.cell 2 37] rfl (by kernel_rfl) follows (by kernel_rfl) rfl fun g0 w0 gen hrel hfr hfr' hres => ?_
  repeat' (first
    | exact hin _ | exact agf (by assumption)
    | (first | refine wp rfl ?_ | refine finF hrel ?_ ?_ ?_) <;> try simp only [go_sem, *])
  all_goals simp [tmVar, Tm.mk_cells, Ty.mk_kind, Ty.mk_args]

theorem c_Eq (a b : Tm) (ha : TmW a) (hb : TmW b) : Pure Tryz.prog env 59 [.agg a.cells, .agg b.cells] (.agg (fmEq a b).cells) := by
  intro h
  refine enter Tryz.func59 [.cell 4 35] rfl (by kernel_rfl) follows (by kernel_rfl) rfl fun g0 w0 gen hrel hfr hfr' hres => ?_
  repeat' (first
    | (refine ⟨?_, ?_⟩; focus ((repeat' (first | refine And.intro ?_ ?_ | refine Or.inr ?_)); all_goals kernel_rfl))
    | exact hin _ | exact agf (by assumption)
    | (first | refine wp rfl ?_ | refine Call1_pure (c_tmCopy _ ha) ?_ | refine Call1_pure (c_tmCopy _ hb) ?_ | refine finF hrel ?_ ?_ ?_) <;> try simp only [go_sem, *])
  all_goals simp [fmEq, Fm.mk_cells, Ty.mk_kind, Ty.mk_args]

theorem c_fmTwo (k : Int) (a b : Fm) (ha : FmW a) (hb : FmW b) : Pure Tryz.prog env 57 [.int .i64 k, .agg a.cells, .agg b.cells] (.agg (fmTwo k a b).cells) := by
  intro h
  refine enter Tryz.func57 [.cell 6 35] rfl (by kernel_rfl) follows (by kernel_rfl) rfl fun g0 w0 gen hrel hfr hfr' hres => ?_
  repeat' (first
    | (refine ⟨?_, ?_⟩; focus ((repeat' (first | refine And.intro ?_ ?_ | refine Or.inr ?_)); all_goals kernel_rfl))
    | exact hin _ | exact agf (by assumption)
    | (first | refine wp rfl ?_ | refine Call1_pure (c_fmCopy _ ha) ?_ | refine Call1_pure (c_fmCopy _ hb) ?_ | refine finF hrel ?_ ?_ ?_) <;> try simp only [go_sem, *])
  all_goals simp [fmTwo, Fm.mk_cells, Ty.mk_kind, Ty.mk_args]

theorem c_fmQ (k : Int) (t : Ty) (a : Fm) (ht : TyW t) (ha : FmW a) : Pure Tryz.prog env 58 [.int .i64 k, .agg t.cells, .agg a.cells] (.agg (fmQ k t a).cells) := by
  intro h
  refine enter Tryz.func58 [.cell 6 35] rfl (by kernel_rfl) follows (by kernel_rfl) rfl fun g0 w0 gen hrel hfr hfr' hres => ?_
  repeat' (first
    | (refine ⟨?_, ?_⟩; focus ((repeat' (first | refine And.intro ?_ ?_ | refine Or.inr ?_)); all_goals kernel_rfl))
    | exact hin _ | exact agf (by assumption)
    | (first | refine wp rfl ?_ | refine Call1_pure (c_fmCopy _ ha) ?_ | refine Call1_pure (c_refCopy _ ht) ?_ | refine finF hrel ?_ ?_ ?_) <;> try simp only [go_sem, *])
  all_goals simp [fmQ, Fm.mk_cells, Ty.mk_kind, Ty.mk_args]

theorem c_refTwo (a b : Ty) (ha : TyW a) (hb : TyW b) : Pure Tryz.prog env 55 [.agg a.cells, .agg b.cells] (.agg (tPair a b).cells) := by
  intro h
  refine enter Tryz.func55 [.cell 4 30] rfl (by kernel_rfl) follows (by kernel_rfl) rfl fun g0 w0 gen hrel hfr hfr' hres => ?_
  repeat' (first
    | (refine ⟨?_, ?_⟩; focus ((repeat' (first | refine And.intro ?_ ?_ | refine Or.inr ?_)); all_goals kernel_rfl))
    | exact hin _ | exact agf (by assumption)
    | (first | refine wp rfl ?_ | refine Call1_pure (c_refCopy _ ha) ?_ | refine Call1_pure (c_refCopy _ hb) ?_ | refine finF hrel ?_ ?_ ?_) <;> try simp only [go_sem, *])
  all_goals simp [tPair, Ty.mk_cells]

theorem c_refFun (a b : Ty) (ha : TyW a) (hb : TyW b) : Pure Tryz.prog env 56 [.agg a.cells, .agg b.cells] (.agg (tFun a b).cells) := by
  intro h
  refine enter Tryz.func56 [.cell 4 30] rfl (by kernel_rfl) follows (by kernel_rfl) rfl fun g0 w0 gen hrel hfr hfr' hres => ?_
  repeat' (first
    | (refine ⟨?_, ?_⟩; focus ((repeat' (first | refine And.intro ?_ ?_ | refine Or.inr ?_)); all_goals kernel_rfl))
    | exact hin _ | exact agf (by assumption)
    | (first | refine wp rfl ?_ | refine Call1_pure (c_refCopy _ ha) ?_ | refine Call1_pure (c_refCopy _ hb) ?_ | refine finF hrel ?_ ?_ ?_) <;> try simp only [go_sem, *])
  all_goals simp [tFun, Ty.mk_cells]

theorem c_part (k : Int) (a b : Ty) (t : Tm) : Pure Tryz.prog env 92 [.int .i64 k, .agg a.cells, .agg b.cells, .agg t.cells] (.agg (chPart k a b t).cells) := by
  intro h
  refine enter Tryz.func92 [.cell 8 37] rfl (by kernel_rfl) follows (by kernel_rfl) rfl fun g0 w0 gen hrel hfr hfr' hres => ?_
  repeat' (first
    | exact hin _ | exact agf (by assumption)
    | (first | refine wp rfl ?_ | refine spt rfl ?_ | refine spf rfl ?_ | (refine spl (fun hc => ?_) fun hc => ?_) <;> (try rw [beq_iff_eq] at hc) <;> try simp only [hc] | refine Call1_pure (c_chUnit _) ?_ | refine Call1_pure (c_chNode k [t]) ?_ | refine Call1_pure (c_chNode 13 []) ?_ | refine finF hrel ?_ ?_ ?_) <;> try simp only [go_sem, *])
  all_goals simp [chPart, *]

theorem c_Left (a b : Ty) (t : Tm) : Pure Tryz.prog env 73 [.agg a.cells, .agg b.cells, .agg t.cells] (.agg (chPart 11 a b t).cells) := by
  intro h
  refine enter Tryz.func73 [.cell 6 37] rfl (by kernel_rfl) follows (by kernel_rfl) rfl fun g0 w0 gen hrel hfr hfr' hres => ?_
  repeat' (first
    | exact hin _ | exact agf (by assumption)
    | (first | refine wp rfl ?_ | refine Call1_pure (c_part _ _ _ _) ?_ | refine finF hrel ?_ ?_ ?_) <;> try simp only [go_sem, *])

theorem c_Right (a b : Ty) (t : Tm) : Pure Tryz.prog env 74 [.agg a.cells, .agg b.cells, .agg t.cells] (.agg (chPart 12 b a t).cells) := by
  intro h
  refine enter Tryz.func74 [.cell 6 37] rfl (by kernel_rfl) follows (by kernel_rfl) rfl fun g0 w0 gen hrel hfr hfr' hres => ?_
  repeat' (first
    | exact hin _ | exact agf (by assumption)
    | (first | refine wp rfl ?_ | refine Call1_pure (c_part _ _ _ _) ?_ | refine finF hrel ?_ ?_ ?_) <;> try simp only [go_sem, *])

theorem c_Call (a b : Ty) (f t : Tm) : Pure Tryz.prog env 76 [.agg a.cells, .agg b.cells, .agg f.cells, .agg t.cells] (.agg (chCall a b f t).cells) := by
  intro h
  refine enter Tryz.func76 [.cell 8 37] rfl (by kernel_rfl) follows (by kernel_rfl) rfl fun g0 w0 gen hrel hfr hfr' hres => ?_
  repeat' (first
    | exact hin _ | exact agf (by assumption)
    | (first | refine wp rfl ?_ | refine spt rfl ?_ | refine spf rfl ?_ | (refine spl (fun hc => ?_) fun hc => ?_) <;> (try rw [beq_iff_eq] at hc) <;> try simp only [hc] | refine Call1_pure (c_chUnit _) ?_ | refine Call1_pure (c_chNode 3 [f, t]) ?_ | refine Call1_pure (c_chNode 13 []) ?_ | refine finF hrel ?_ ?_ ?_) <;> try simp only [go_sem, *])
  all_goals simp [chCall, *]

theorem c_Few (l : List Int) : Pure Tryz.prog env 5 [.sl .any (ints l)] (.bool (decide ((l.length : Int) ≤ 500))) := by
  intro h
  refine enter Tryz.func5 [.tmp 2] rfl (by kernel_rfl) follows (by kernel_rfl) rfl fun g0 w0 gen hrel hfr hfr' hres => ?_
  repeat' (first
    | exact hin _ | exact agf (by assumption)
    | (first | refine wp rfl ?_ | refine finF hrel ?_ ?_ ?_) <;> try simp only [go_sem, *])

theorem c_Mod (n k : Int) (hk : k ≠ 0) : Pure Tryz.prog env 53 [.int .i64 n, .int .i64 k] (.int .i64 (modI n k)) := by
  intro h
  refine enter Tryz.func53 [.tmp 4] rfl (by kernel_rfl) follows (by kernel_rfl) rfl fun g0 w0 gen hrel hfr hfr' hres => ?_
  repeat' (first
    | exact hin _ | exact agf (by assumption)
    | (first | refine wp rfl ?_ | refine finF hrel ?_ ?_ ?_) <;> try simp only [go_sem, *])
  all_goals simp [modI]

end Go.Proofs.YtdbehnonmffhiaaGreatDoor
