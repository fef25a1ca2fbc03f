/-
  Walks: makers without loops.
-/
import Derived.Test.YtnhjlnkogoihhaaGreatDoorWc
set_option linter.unusedSimpArgs false
set_option linter.unusedVariables false
set_option maxRecDepth 20000
namespace Go.Proofs.YtnhjlnkogoihhaaGreatDoor
open Go GoAbs Go.Proofs

theorem c_Var (i : Int) : Pure Tryz.prog env 97 [.int .i64 i] (.agg (tmVar i).cells) := by
  intro h
  refine enter Tryz.func97 [.cell 2 31] rfl (by kernel_rfl) follows (by kernel_rfl) rfl fun g0 w0 gen hrel hfr hfr' hres => ?_
  repeat' (first
    | exact hin _ | exact agf (by assumption)
    | (first | refine wp rfl ?_ | refine finF hrel ?_ ?_ ?_) <;> try simp only [go_sem, *])
  all_goals simp [tmVar, Tm.mk_cells, Ty.mk_kind, Ty.mk_args]

theorem c_Eq (a b : Tm) (ha : TmW a) (hb : TmW b) : Pure Tryz.prog env 84 [.agg a.cells, .agg b.cells] (.agg (fmEq a b).cells) := by
  intro h
  refine enter Tryz.func84 [.cell 4 29] rfl (by kernel_rfl) follows (by kernel_rfl) rfl fun g0 w0 gen hrel hfr hfr' hres => ?_
  repeat' (first
    | (refine ⟨?_, ?_⟩; focus ((repeat' (first | refine And.intro ?_ ?_ | refine Or.inr ?_)); all_goals kernel_rfl))
    | exact hin _ | exact agf (by assumption)
    | (first | refine wp rfl ?_ | refine Call1_pure (c_tmCopy _ ha) ?_ | refine Call1_pure (c_tmCopy _ hb) ?_ | refine finF hrel ?_ ?_ ?_) <;> try simp only [go_sem, *])
  all_goals simp [fmEq, Fm.mk_cells, Ty.mk_kind, Ty.mk_args]

theorem c_fmTwo (k : Int) (a b : Fm) (ha : FmW a) (hb : FmW b) : Pure Tryz.prog env 82 [.int .i64 k, .agg a.cells, .agg b.cells] (.agg (fmTwo k a b).cells) := by
  intro h
  refine enter Tryz.func82 [.cell 6 29] rfl (by kernel_rfl) follows (by kernel_rfl) rfl fun g0 w0 gen hrel hfr hfr' hres => ?_
  repeat' (first
    | (refine ⟨?_, ?_⟩; focus ((repeat' (first | refine And.intro ?_ ?_ | refine Or.inr ?_)); all_goals kernel_rfl))
    | exact hin _ | exact agf (by assumption)
    | (first | refine wp rfl ?_ | refine Call1_pure (c_fmCopy _ ha) ?_ | refine Call1_pure (c_fmCopy _ hb) ?_ | refine finF hrel ?_ ?_ ?_) <;> try simp only [go_sem, *])
  all_goals simp [fmTwo, Fm.mk_cells, Ty.mk_kind, Ty.mk_args]

theorem c_fmQ (k : Int) (t : Ty) (a : Fm) (ht : TyW t) (ha : FmW a) : Pure Tryz.prog env 48 [.int .i64 k, .agg t.cells, .agg a.cells] (.agg (fmQ k t a).cells) := by
  intro h
  refine enter Tryz.func48 [.cell 6 29] rfl (by kernel_rfl) follows (by kernel_rfl) rfl fun g0 w0 gen hrel hfr hfr' hres => ?_
  repeat' (first
    | (refine ⟨?_, ?_⟩; focus ((repeat' (first | refine And.intro ?_ ?_ | refine Or.inr ?_)); all_goals kernel_rfl))
    | exact hin _ | exact agf (by assumption)
    | (first | refine wp rfl ?_ | refine Call1_pure (c_fmCopy _ ha) ?_ | refine Call1_pure (c_refCopy _ ht) ?_ | refine finF hrel ?_ ?_ ?_) <;> try simp only [go_sem, *])
  all_goals simp [fmQ, Fm.mk_cells, Ty.mk_kind, Ty.mk_args]

theorem c_refTwo (a b : Ty) (ha : TyW a) (hb : TyW b) : Pure Tryz.prog env 94 [.agg a.cells, .agg b.cells] (.agg (tPair a b).cells) := by
  intro h
  refine enter Tryz.func94 [.cell 4 25] rfl (by kernel_rfl) follows (by kernel_rfl) rfl fun g0 w0 gen hrel hfr hfr' hres => ?_
  repeat' (first
    | (refine ⟨?_, ?_⟩; focus ((repeat' (first | refine And.intro ?_ ?_ | refine Or.inr ?_)); all_goals kernel_rfl))
    | exact hin _ | exact agf (by assumption)
    | (first | refine wp rfl ?_ | refine Call1_pure (c_refCopy _ ha) ?_ | refine Call1_pure (c_refCopy _ hb) ?_ | refine finF hrel ?_ ?_ ?_) <;> try simp only [go_sem, *])
  all_goals simp [tPair, Ty.mk_cells]

theorem c_refFun (a b : Ty) (ha : TyW a) (hb : TyW b) : Pure Tryz.prog env 95 [.agg a.cells, .agg b.cells] (.agg (tFun a b).cells) := by
  intro h
  refine enter Tryz.func95 [.cell 4 25] rfl (by kernel_rfl) follows (by kernel_rfl) rfl fun g0 w0 gen hrel hfr hfr' hres => ?_
  repeat' (first
    | (refine ⟨?_, ?_⟩; focus ((repeat' (first | refine And.intro ?_ ?_ | refine Or.inr ?_)); all_goals kernel_rfl))
    | exact hin _ | exact agf (by assumption)
    | (first | refine wp rfl ?_ | refine Call1_pure (c_refCopy _ ha) ?_ | refine Call1_pure (c_refCopy _ hb) ?_ | refine finF hrel ?_ ?_ ?_) <;> try simp only [go_sem, *])
  all_goals simp [tFun, Ty.mk_cells]

theorem c_part (k : Int) (a b : Ty) (t : Tm) : Pure Tryz.prog env 250 [.int .i64 k, .agg a.cells, .agg b.cells, .agg t.cells] (.agg (chPart k a b t).cells) := by
  intro h
  refine enter Tryz.func250 [.cell 8 31] rfl (by kernel_rfl) follows (by kernel_rfl) rfl fun g0 w0 gen hrel hfr hfr' hres => ?_
  repeat' (first
    | exact hin _ | exact agf (by assumption)
    | (first | refine wp rfl ?_ | refine spt rfl ?_ | refine spf rfl ?_ | (refine spl (fun hc => ?_) fun hc => ?_) <;> (try rw [beq_iff_eq] at hc) <;> try simp only [hc] | refine Call1_pure (c_chUnit _) ?_ | refine Call1_pure (c_chNode k [t]) ?_ | refine Call1_pure (c_chNode 13 []) ?_ | refine finF hrel ?_ ?_ ?_) <;> try simp only [go_sem, *])
  all_goals simp [chPart, *]

theorem c_Left (a b : Ty) (t : Tm) : Pure Tryz.prog env 213 [.agg a.cells, .agg b.cells, .agg t.cells] (.agg (chPart 11 a b t).cells) := by
  intro h
  refine enter Tryz.func213 [.cell 6 31] rfl (by kernel_rfl) follows (by kernel_rfl) rfl fun g0 w0 gen hrel hfr hfr' hres => ?_
  repeat' (first
    | exact hin _ | exact agf (by assumption)
    | (first | refine wp rfl ?_ | refine Call1_pure (c_part _ _ _ _) ?_ | refine finF hrel ?_ ?_ ?_) <;> try simp only [go_sem, *])

theorem c_Right (a b : Ty) (t : Tm) : Pure Tryz.prog env 214 [.agg a.cells, .agg b.cells, .agg t.cells] (.agg (chPart 12 b a t).cells) := by
  intro h
  refine enter Tryz.func214 [.cell 6 31] rfl (by kernel_rfl) follows (by kernel_rfl) rfl fun g0 w0 gen hrel hfr hfr' hres => ?_
  repeat' (first
    | exact hin _ | exact agf (by assumption)
    | (first | refine wp rfl ?_ | refine Call1_pure (c_part _ _ _ _) ?_ | refine finF hrel ?_ ?_ ?_) <;> try simp only [go_sem, *])

theorem c_Call (a b : Ty) (f t : Tm) : Pure Tryz.prog env 216 [.agg a.cells, .agg b.cells, .agg f.cells, .agg t.cells] (.agg (chCall a b f t).cells) := by
  intro h
  refine enter Tryz.func216 [.cell 8 31] rfl (by kernel_rfl) follows (by kernel_rfl) rfl fun g0 w0 gen hrel hfr hfr' hres => ?_
  repeat' (first
    | exact hin _ | exact agf (by assumption)
    | (first | refine wp rfl ?_ | refine spt rfl ?_ | refine spf rfl ?_ | (refine spl (fun hc => ?_) fun hc => ?_) <;> (try rw [beq_iff_eq] at hc) <;> try simp only [hc] | refine Call1_pure (c_chUnit _) ?_ | refine Call1_pure (c_chNode 3 [f, t]) ?_ | refine Call1_pure (c_chNode 13 []) ?_ | refine finF hrel ?_ ?_ ?_) <;> try simp only [go_sem, *])
  all_goals simp [chCall, *]

theorem c_Few (l : List Int) : Pure Tryz.prog env 14 [.sl .any (ints l)] (.bool (decide ((l.length : Int) ≤ 500))) := by
  intro h
  refine enter Tryz.func14 [.tmp 2] rfl (by kernel_rfl) follows (by kernel_rfl) rfl fun g0 w0 gen hrel hfr hfr' hres => ?_
  repeat' (first
    | exact hin _ | exact agf (by assumption)
    | (first | refine wp rfl ?_ | refine finF hrel ?_ ?_ ?_) <;> try simp only [go_sem, *])

theorem c_Mod (n k : Int) (hk : k ≠ 0) : Pure Tryz.prog env 113 [.int .i64 n, .int .i64 k] (.int .i64 (modI n k)) := by
  intro h
  refine enter Tryz.func113 [.tmp 4] rfl (by kernel_rfl) follows (by kernel_rfl) rfl fun g0 w0 gen hrel hfr hfr' hres => ?_
  repeat' (first
    | exact hin _ | exact agf (by assumption)
    | (first | refine wp rfl ?_ | refine finF hrel ?_ ?_ ?_) <;> try simp only [go_sem, *])
  all_goals simp [modI]

end Go.Proofs.YtnhjlnkogoihhaaGreatDoor
