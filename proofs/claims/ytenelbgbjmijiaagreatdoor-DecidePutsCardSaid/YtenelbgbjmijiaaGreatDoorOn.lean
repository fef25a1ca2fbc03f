/-
 Walks: the law that And, Imp and Not are what they are among truth values.
-/
import Derived.Test.YtenelbgbjmijiaaGreatDoorMi
import Derived.Test.YtenelbgbjmijiaaGreatDoorGk
import Derived.Test.YtenelbgbjmijiaaGreatDoorGl
import Derived.Test.YtenelbgbjmijiaaGreatDoorVc
import Derived.Test.YtenelbgbjmijiaaGreatDoorAbsDb
set_option linter.unusedSimpArgs false
set_option linter.unusedVariables false
set_option maxRecDepth 20000
set_option maxHeartbeats 4000000
namespace Go.Proofs.YtenelbgbjmijiaaGreatDoor
open Go GoAbs Go.Proofs
theorem less_dc (m n : Nat) (hm : m ≤ 100) (hn : n ≤ 100) : Dc [] (lessF (numT m) (numT n)) ∧ fmSz (lessF (numT m) (numT n)) = m + n + 23 := by
 refine ⟨.eq (.t2 ar3 rfl (.t2 ar3 rfl subT_G (.t1 ar5 rfl (numT_G m))) (numT_G n)) (.t0 ar4 rfl) ?_ (HasTy.num 0), ?_⟩
 ·exact .n2 .app (.n2 .app HasTy.sub (HasTy.num (m + 1))) (HasTy.num n)
 ·rw [lessF_sz, tmSz_num, tmSz_num]; omega
theorem c_sane09 : Pure Tryz.prog env 42 [] (.bool true) := by
 obtain ⟨k1, z1⟩ := less_dc 1 2 (by omega) (by omega)
 obtain ⟨k2, z2⟩ := less_dc 2 2 (by omega) (by omega)
 have h1 := c_Num 1 (by omega)
 have h2 := c_Num 2 (by omega)
 have h3 := c_Less08 (numT 1) (numT 2) (numT_W 1) (numT_W 2)
 have h4 := c_Less08 (numT 2) (numT 2) (numT_W 2) (numT_W 2)
 rw [show lessR (numT 1) (numT 2) = (lessF (numT 1) (numT 2), 0) by kernel_rfl] at h3
 rw [show lessR (numT 2) (numT 2) = (lessF (numT 2) (numT 2), 0) by kernel_rfl] at h4
 have h5 := c_decTruth k1 (by omega) 1000 (by omega)
 have h6 := c_decTruth k2 (by omega) 1000 (by omega)
 have e1 : (fun a : Ans => (a.1, a.2.2, decide ((a.2.1 : Int) > 0))) (dT 1000 (fdp (lessF (numT 1) (numT 2))) 0 (lessF (numT 1) (numT 2))) = (true, 0, true) := by kernel_rfl
 have e2 : (fun a : Ans => (a.1, a.2.2, decide ((a.2.1 : Int) > 0))) (dT 1000 (fdp (lessF (numT 2) (numT 2))) 0 (lessF (numT 2) (numT 2))) = (false, 0, true) := by kernel_rfl
 generalize dT 1000 (fdp (lessF (numT 1) (numT 2))) 0 (lessF (numT 1) (numT 2)) = a1 at *
 generalize dT 1000 (fdp (lessF (numT 2) (numT 2))) 0 (lessF (numT 2) (numT 2)) = a2 at *
 obtain ⟨b1, w1, r1⟩ := a1
 obtain ⟨b2, w2, r2⟩ := a2
 simp only [Prod.mk.injEq] at e1 e2
 obtain ⟨rfl, rfl, q1⟩ := e1
 obtain ⟨rfl, rfl, q2⟩ := e2
 unfold fmErrV at h3 h4
 unfold decV at h5 h6
 simp only [bne_self_eq_false, Bool.false_eq_true, if_false] at h3 h4 h5 h6
 replace h1 : Pure Tryz.prog env 51 [.int .i64 1] (.agg (numT 1).cells) := h1
 replace h2 : Pure Tryz.prog env 51 [.int .i64 2] (.agg (numT 2).cells) := h2
 replace h5 : Pure Tryz.prog env 44 [.agg (lessF (numT 1) (numT 2)).cells, .int .i64 1000] (.tup [.bool true, .int .i64 w1, .int .i64 0]) := h5
 replace h6 : Pure Tryz.prog env 44 [.agg (lessF (numT 2) (numT 2)).cells, .int .i64 1000] (.tup [.bool false, .int .i64 w2, .int .i64 0]) := h6
 clear k1 k2 z1 z2
 generalize lessF (numT 1) (numT 2) = f1 at *
 generalize lessF (numT 2) (numT 2) = f2 at *
 generalize numT 1 = t1 at *
 generalize numT 2 = t2 at *
 intro h
 refine en Tryz.func42 [.tmp 0] rfl rfl fun g0 w0 gen hrel hfr hfr' hres => ?_
 repeat' (first
  |exact hin _|exact agf (by assumption)
  | (first|refine wp rfl ?_|(refine gs (fun hb => ?_) fun hb => ?_) <;> try simp only [Bool.not_true, Bool.not_false] at hb|refine cp h1 ?_|refine cp h2 ?_|refine cp h3 ?_|refine cp h4 ?_|refine cp h5 ?_|refine cp h6 ?_|refine finF hrel ?_ ?_ ?_)<;>try simp only [go_sem, *])
end Go.Proofs.YtenelbgbjmijiaaGreatDoor
