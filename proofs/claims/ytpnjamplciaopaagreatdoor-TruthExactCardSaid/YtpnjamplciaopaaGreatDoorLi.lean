/-
 Walks: the sanity check of the chapter of truth; formulas without quantifiers out of the deck; their truth (the reference).
-/
import Derived.Test.YtpnjamplciaopaaGreatDoorLh
import Derived.Test.YtpnjamplciaopaaGreatDoorLc
import Derived.Test.YtpnjamplciaopaaGreatDoorMd
import Derived.Test.YtpnjamplciaopaaGreatDoorAbsD
import Derived.Test.YtpnjamplciaopaaGreatDoorGb
import Derived.Test.YtpnjamplciaopaaGreatDoorMb
import Derived.Test.YtpnjamplciaopaaGreatDoorMa
import Derived.Test.YtpnjamplciaopaaGreatDoorGq
import Derived.Test.YtpnjamplciaopaaGreatDoorVc
import Derived.Test.YtpnjamplciaopaaGreatDoorGy
import Derived.Test.YtpnjamplciaopaaGreatDoorGi
import Derived.Test.YtpnjamplciaopaaGreatDoorGl
import Derived.Test.YtpnjamplciaopaaGreatDoorGm
import Derived.Test.YtpnjamplciaopaaGreatDoorWv
import Derived.Test.YtpnjamplciaopaaGreatDoorAbsDc
set_option linter.unusedSimpArgs false
set_option linter.unusedVariables false
set_option maxRecDepth 20000
set_option maxHeartbeats 4000000
namespace Go.Proofs.YtpnjamplciaopaaGreatDoor
open Go GoAbs Go.Proofs
theorem ev_false : (ev 500 501 0 (eqT (tm0 4 []) oneT) []).map (fun p => (p.1.num, p.2.2)) = some (0, false) := by kernel_rfl
theorem c_awake30 : Pure Tryz.prog env 8 [] (.bool true) := by
 have h1 := c_False
 rw [show fmEq (tm0 4 []) (tm0 5 [tm0 4 []]) = botF from rfl] at h1
 have h2 := c_trTerm (u := true) botF (fmEq_W tm0_W0 oneT_W) (fun _ => ⟨botF_C.gd, by rw [botF_sz]; omega⟩) (by kernel_rfl)
 rw [botF_C.trF (by rw [botF_sz]; omega), botF_tr] at h2
 obtain ⟨r, u, hr, hn⟩ : ∃ r u, ev 500 501 0 (eqT (tm0 4 []) oneT) [] = some (r, u, false) ∧ r.num = 0 := by
  have := ev_false
  cases h : ev 500 501 0 (eqT (tm0 4 []) oneT) [] with
  | none => rw [h] at this; cases this
  | some p =>
   obtain ⟨r, u, o⟩ := p
   rw [h] at this
   simp only [Option.map_some, Option.some.injEq, Prod.mk.injEq] at this
   obtain ⟨h1, rfl⟩ := this
   exact ⟨r, u, rfl, h1⟩
 have hz : tmSz (eqT (tm0 4 []) oneT) ≤ 4096 := by rw [eqT_sz, tmSz_0, oneT, tmSz_1, tmSz_0]; omega
 have h3 := c_Eval0 (w := 500) (by omega) (eqT_ty (.num 0) oneT_ty) (eqT_G (.t0 ar4 rfl) oneT_G) hz (eqT_W tm0_W0 oneT_W) hr
 have gz : tmErr (tm0 4 []) = 0 → TmG (tm0 4 []) ∧ tmSz (tm0 4 []) ≤ 4096 := fun _ => ⟨.t0 ar4 rfl, by rw [tmSz_0]; omega⟩
 have h4 := c_trIf tNat (tm0 4 []) (tm0 4 []) (tm0 4 []) tNat_W tm0_W0 tm0_W0 tm0_W0 (fun _ => .nat) gz gz gz
 rw [if_zero] at h4
 have hk : (chooseT tNat (tm0 4 []) (tm0 4 []) (tm0 4 [])).kind = 6 := rfl
 rw [z4_cells, show tNat.cells = [.int .i64 1, .sl .any []] by simp [tNat, Ty.mk_cells]] at h4
 have n0 : ((0 : Int) == 0) = true := rfl
 clear gz hz hr
 unfold evalV valN at h3
 rw [hn] at h3
 simp only [Bool.false_eq_true, if_false] at h3
 replace h3 : Pure Tryz.prog env 30 [.agg (eqT (tm0 4 []) oneT).cells, .int .i64 500] (.tup [.agg [.int .i64 1, .int .i64 0, .sl .any [], .sl .any []], .int .i64 u, .int .i64 0]) := h3
 generalize chooseT tNat (tm0 4 []) (tm0 4 []) (tm0 4 []) = T at *
 generalize eqT (tm0 4 []) oneT = T2 at *
 generalize botF = F at *
 unfold tmErrV at *
 simp only at *
 intro h
 refine en Tryz.func8 [.tmp 0] rfl rfl fun g0 w0 gen hrel hfr hfr' hres => ?_
 repeat' (first
  | exact hin _ | exact agf (by assumption)
  | (first | refine wp rfl ?_ | (refine gs (fun hb => ?_) fun hb => ?_) <;> try simp only [Bool.not_true, Bool.not_false] at hb | refine cp (h1) ?_ | refine cp (h2) ?_ | refine cp (h3) ?_ | refine cp (h4) ?_ | refine finF hrel ?_ ?_ ?_) <;> try simp only [go_sem, *])
end Go.Proofs.YtpnjamplciaopaaGreatDoor
