/-
  Walks: the sanity check of chapter 28; the law of negation.
-/
import Derived.Test.YteopcebaeojjkaaDoorMd
import Derived.Test.YteopcebaeojjkaaDoorWo
import Derived.Test.YteopcebaeojjkaaDoorAbsD
set_option linter.unusedSimpArgs false
set_option linter.unusedVariables false
set_option maxRecDepth 20000
set_option maxHeartbeats 4000000
namespace Go.Proofs.YteopcebaeojjkaaDoor
open Go GoAbs Go.Proofs

def awF : Fm := fmQ 4 tNat (fmQ 5 tNat falseF)
theorem awF_W : FmW awF := fmQ_W tNat_W (fmQ_W tNat_W falseF_W)

theorem c_awake28 : Pure Tryd.prog env 4 [] (.bool true) := by
  intro h
  have z := tm0_W0 (k := 4)
  have e1 : awF.witness = (tFun tNat tNat, 0) := by kernel_rfl
  have e2 : awF.challenge = (tNat, 0) := by kernel_rfl
  have h0 := c_False
  have h1 := c_Witness awF awF_W
  have h2 := c_Challenge awF awF_W
  have e3 : chJoin tNat tNat (tm0 4 []) (tm0 4 []) = tm0 10 [tm0 4 [], tm0 4 []] := rfl
  have e4 : chJoin tNat tUnit (tm0 4 []) (tm0 13 []) = tm0 4 [] := rfl
  have h3 := c_Join tNat tNat (tm0 4 []) (tm0 4 [])
  have h4 := c_Join tNat tUnit (tm0 4 []) (tm0 13 [])
  have h5 := c_ref23Fun tNat tNat
  have h6 := c_refSame (tFun tNat tNat) (tFun_W tNat_W tNat_W) (tFun tNat tNat) (tFun_W tNat_W tNat_W)
  have h7 := c_Left tNat tNat (tm0 10 [tm0 4 [], tm0 4 []])
  have h8 := c_Right tNat tNat (tm0 10 [tm0 4 [], tm0 4 []])
  have h9 := c_Call tNat tNat (tm0 4 []) (tm0 4 [])
  have h10 := c_chPair tNat tUnit
  have h11 := c_chFun tNat tUnit
  have h12 := c_ref23Unit
  have e7 : chPart 11 tNat tNat (tm0 10 [tm0 4 [], tm0 4 []]) = tm0 11 [tm0 10 [tm0 4 [], tm0 4 []]] := rfl
  have e8 : chPart 12 tNat tNat (tm0 10 [tm0 4 [], tm0 4 []]) = tm0 12 [tm0 10 [tm0 4 [], tm0 4 []]] := rfl
  have e9 : chCall tNat tNat (tm0 4 []) (tm0 4 []) = tm0 3 [tm0 4 [], tm0 4 []] := rfl
  have e10 : chPair tNat tUnit = tNat := rfl
  have e11 : chFun tNat tUnit = tUnit := rfl
  rw [e1, tyErrV] at h1
  rw [e2, tyErrV] at h2
  rw [e3] at h3
  rw [e4] at h4
  rw [Ty.same_refl] at h6
  rw [e7] at h7
  rw [e8] at h8
  rw [e9] at h9
  rw [e10] at h10
  rw [e11] at h11
  simp only [awF, falseF, tNat, tUnit, tFun, tm0, fmQ, fmEq, Ty.mk_cells, Tm.mk_cells, Fm.mk_cells, Ty.mk_kind, Ty.mk_args, List.map_cons, List.map_nil] at h0 h1 h2 h3 h4 h5 h6 h7 h8 h9 h10 h11 h12
  clear e1 e2 e3 e4 e7 e8 e9 e10 e11 z
  refine en Tryd.func4 [.tmp 0] rfl rfl fun g0 w0 gen hrel hfr hfr' hres => ?_
  repeat' (first
    | (refine ⟨?_, ?_⟩; focus ((repeat' (first | refine And.intro ?_ ?_ | refine Or.inr ?_)); all_goals kernel_rfl))
    | exact hin _ | exact agf (by assumption)
    | (first | refine wp rfl ?_ | (refine gs (fun hb => ?_) fun hb => ?_) <;> try simp only [Bool.not_true, Bool.not_false] at hb | refine cp (h0) ?_ | refine cp (h1) ?_ | refine cp (h2) ?_ | refine cp (h3) ?_ | refine cp (h4) ?_ | refine cp (h5) ?_ | refine cp (h6) ?_ | refine cp (h7) ?_ | refine cp (h8) ?_ | refine cp (h9) ?_ | refine cp (h10) ?_ | refine cp (h11) ?_ | refine cp (h12) ?_ | refine finF hrel ?_ ?_ ?_) <;> try simp only [go_sem, *])

end Go.Proofs.YteopcebaeojjkaaDoor
