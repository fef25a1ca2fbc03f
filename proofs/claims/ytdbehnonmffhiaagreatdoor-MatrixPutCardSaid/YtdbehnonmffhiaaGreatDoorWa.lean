/-
  Walks: the small functions.
-/
import Derived.Test.YtdbehnonmffhiaaGreatDoorBase
import Derived.Test.YtdbehnonmffhiaaGreatDoorAbsB
set_option linter.unusedSimpArgs false
set_option linter.unusedVariables false
set_option maxRecDepth 20000
namespace Go.Proofs.YtdbehnonmffhiaaGreatDoor
open Go GoAbs Go.Proofs

def env : Nat → Option (List V)
  | 0 => some [.int .i64 0, .int .i64 0, .int .i64 1, .int .i64 2, .int .i64 0, .int .i64 1, .int .i64 3, .int .i64 0, .int .i64 2, .int .i64 3, .int .i64 2, .int .i64 1, .int .i64 1, .int .i64 0]
  | _ => none

theorem c_refNat : Pure Tryz.prog env 27 [] (.agg tNat.cells) := by
  intro h
  refine enter Tryz.func27 [.cell 0 30] rfl (by kernel_rfl) follows (by kernel_rfl) rfl fun g0 w0 gen hrel hfr hfr' hres => ?_
  repeat' (first
    | exact hin _ | exact agf (by assumption)
    | (first | refine wp rfl ?_ | refine finF hrel ?_ ?_ ?_) <;> try simp only [go_sem, *])
  rfl

theorem c_refList : Pure Tryz.prog env 29 [] (.agg tList.cells) := by
  intro h
  refine enter Tryz.func29 [.cell 0 30] rfl (by kernel_rfl) follows (by kernel_rfl) rfl fun g0 w0 gen hrel hfr hfr' hres => ?_
  repeat' (first
    | exact hin _ | exact agf (by assumption)
    | (first | refine wp rfl ?_ | refine finF hrel ?_ ?_ ?_) <;> try simp only [go_sem, *])
  rfl

theorem c_refUnit : Pure Tryz.prog env 54 [] (.agg tUnit.cells) := by
  intro h
  refine enter Tryz.func54 [.cell 0 30] rfl (by kernel_rfl) follows (by kernel_rfl) rfl fun g0 w0 gen hrel hfr hfr' hres => ?_
  repeat' (first
    | exact hin _ | exact agf (by assumption)
    | (first | refine wp rfl ?_ | refine finF hrel ?_ ?_ ?_) <;> try simp only [go_sem, *])
  rfl

theorem c_ref23Unit : Pure Tryz.prog env 103 [] (.agg tUnit.cells) := by
  intro h
  refine enter Tryz.func103 [.cell 0 30] rfl (by kernel_rfl) follows (by kernel_rfl) rfl fun g0 w0 gen hrel hfr hfr' hres => ?_
  repeat' (first
    | exact hin _ | exact agf (by assumption)
    | (first | refine wp rfl ?_ | refine finF hrel ?_ ?_ ?_) <;> try simp only [go_sem, *])
  rfl

theorem c_ref23Nat : Pure Tryz.prog env 18 [] (.agg tNat.cells) := by
  intro h
  refine enter Tryz.func18 [.cell 0 30] rfl (by kernel_rfl) follows (by kernel_rfl) rfl fun g0 w0 gen hrel hfr hfr' hres => ?_
  repeat' (first
    | exact hin _ | exact agf (by assumption)
    | (first | refine wp rfl ?_ | refine finF hrel ?_ ?_ ?_) <;> try simp only [go_sem, *])
  rfl

theorem c_playNat : Pure Tryz.prog env 8 [] (.agg tNat.cells) := by
  intro h
  refine enter Tryz.func8 [.cell 0 30] rfl (by kernel_rfl) follows (by kernel_rfl) rfl fun g0 w0 gen hrel hfr hfr' hres => ?_
  repeat' (first
    | exact hin _ | exact agf (by assumption)
    | (first | refine wp rfl ?_ | refine Call1_pure (c_ref23Nat) ?_ | refine finF hrel ?_ ?_ ?_) <;> try simp only [go_sem, *])
  all_goals simp [tNat, Ty.mk_cells, Ty.mk_kind, Ty.mk_args]

theorem c_ref23Fun (a b : Ty) : Pure Tryz.prog env 120 [.agg a.cells, .agg b.cells] (.agg (tFun a b).cells) := by
  intro h
  refine enter Tryz.func120 [.cell 4 30] rfl (by kernel_rfl) follows (by kernel_rfl) rfl fun g0 w0 gen hrel hfr hfr' hres => ?_
  repeat' (first
    | exact hin _ | exact agf (by assumption)
    | (first | refine wp rfl ?_ | refine finF hrel ?_ ?_ ?_) <;> try simp only [go_sem, *])
  all_goals simp [tFun, Ty.mk_cells]

theorem c_chNone : Pure Tryz.prog env 94 [] (.agg tUnit.cells) := by
  intro h
  refine enter Tryz.func94 [.cell 0 30] rfl (by kernel_rfl) follows (by kernel_rfl) rfl fun g0 w0 gen hrel hfr hfr' hres => ?_
  repeat' (first
    | exact hin _ | exact agf (by assumption)
    | (first | refine wp rfl ?_ | refine finF hrel ?_ ?_ ?_) <;> try simp only [go_sem, *])
  rfl

theorem c_chUnit (t : Ty) : Pure Tryz.prog env 93 [.agg t.cells] (.bool (t.kind == 5)) := by
  intro h
  refine enter Tryz.func93 [.tmp 2] rfl (by kernel_rfl) follows (by kernel_rfl) rfl fun g0 w0 gen hrel hfr hfr' hres => ?_
  repeat' (first
    | exact hin _ | exact agf (by assumption)
    | (first | refine wp rfl ?_ | refine finF hrel ?_ ?_ ?_) <;> try simp only [go_sem, *])

theorem c_chPair (a b : Ty) : Pure Tryz.prog env 107 [.agg a.cells, .agg b.cells] (.agg (chPair a b).cells) := by
  intro h
  refine enter Tryz.func107 [.cell 4 30] rfl (by kernel_rfl) follows (by kernel_rfl) rfl fun g0 w0 gen hrel hfr hfr' hres => ?_
  repeat' (first
    | exact hin _ | exact agf (by assumption)
    | (first | refine wp rfl ?_ | refine spt rfl ?_ | refine spf rfl ?_ | (refine spl (fun hc => ?_) fun hc => ?_) <;> (try rw [beq_iff_eq] at hc) <;> try simp only [hc] | refine Call1_pure (c_chUnit _) ?_ | refine finF hrel ?_ ?_ ?_) <;> try simp only [go_sem, *])
  all_goals simp [chPair, tPair, Ty.mk_cells, *]

theorem c_chFun (a b : Ty) : Pure Tryz.prog env 75 [.agg a.cells, .agg b.cells] (.agg (chFun a b).cells) := by
  intro h
  refine enter Tryz.func75 [.cell 4 30] rfl (by kernel_rfl) follows (by kernel_rfl) rfl fun g0 w0 gen hrel hfr hfr' hres => ?_
  repeat' (first
    | exact hin _ | exact agf (by assumption)
    | (first | refine wp rfl ?_ | refine spt rfl ?_ | refine spf rfl ?_ | (refine spl (fun hc => ?_) fun hc => ?_) <;> (try rw [beq_iff_eq] at hc) <;> try simp only [hc] | refine Call1_pure (c_chUnit _) ?_ | refine Call1_pure (c_chNone) ?_ | refine finF hrel ?_ ?_ ?_) <;> try simp only [go_sem, *])
  all_goals simp [chFun, tFun, Ty.mk_cells, *]

theorem c_chNode (k : Int) (l : List Tm) : Pure Tryz.prog env 95 [.int .i64 k, .sl .any (l.map Tm.cells)] (.agg (tm0 k l).cells) := by
  intro h
  refine enter Tryz.func95 [.cell 4 37] rfl (by kernel_rfl) follows (by kernel_rfl) rfl fun g0 w0 gen hrel hfr hfr' hres => ?_
  repeat' (first
    | exact hin _ | exact agf (by assumption)
    | (first | refine wp rfl ?_ | refine finF hrel ?_ ?_ ?_) <;> try simp only [go_sem, *])
  all_goals simp [tm0, Tm.mk_cells, Ty.mk_kind, Ty.mk_args]

end Go.Proofs.YtdbehnonmffhiaaGreatDoor
