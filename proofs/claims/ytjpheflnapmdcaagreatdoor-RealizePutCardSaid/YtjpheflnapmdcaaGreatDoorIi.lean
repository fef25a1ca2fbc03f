/-
  Walks: the sanity check of chapter 24; the law of RealizeNone.
-/
import Derived.Test.YtjpheflnapmdcaaGreatDoorIh
import Derived.Test.YtjpheflnapmdcaaGreatDoorIf
import Derived.Test.YtjpheflnapmdcaaGreatDoorGr
import Derived.Test.YtjpheflnapmdcaaGreatDoorGf
import Derived.Test.YtjpheflnapmdcaaGreatDoorMa
import Derived.Test.YtjpheflnapmdcaaGreatDoorVa
import Derived.Test.YtjpheflnapmdcaaGreatDoorVb
import Derived.Test.YtjpheflnapmdcaaGreatDoorMc
import Derived.Test.YtjpheflnapmdcaaGreatDoorAbsD
import Derived.Test.YtjpheflnapmdcaaGreatDoorVc
import Derived.Test.YtjpheflnapmdcaaGreatDoorGy
import Derived.Test.YtjpheflnapmdcaaGreatDoorGi
import Derived.Test.YtjpheflnapmdcaaGreatDoorVd
import Derived.Test.YtjpheflnapmdcaaGreatDoorMd
import Derived.Test.YtjpheflnapmdcaaGreatDoorGm
import Derived.Test.YtjpheflnapmdcaaGreatDoorWv
set_option linter.unusedSimpArgs false
set_option linter.unusedVariables false
set_option maxRecDepth 20000
set_option maxHeartbeats 4000000
namespace Go.Proofs.YtjpheflnapmdcaaGreatDoor
open Go GoAbs Go.Proofs

def aw24 : Fm := fmQ 4 tNat (fmQ 5 tNat (fmEq (tmVar 0) (tm0 5 [tmVar 1])))
theorem aw24_W : FmW aw24 := fmQ_W tNat_W (fmQ_W tNat_W (fmEq_W (tmVar_W _) (tm0_W1 (tmVar_W _))))
theorem aw24_Mk : MkFm true 2 [] aw24 :=
  .q (.inl rfl) .nat (.q (.inr (.inl rfl)) .nat (.eq (.var (i := 0) (by simp) rfl) (.succ (.var (i := 1) (by simp) rfl))))

theorem c_awake24 : Pure Tryz.prog env 65 [] (.bool true) := by
  intro h
  have h1 := c_rlF aw24 (aw24_Mk.G (by simp)).C aw24_W (tmVar 3) (tmVar_W _)
  have e1 : rlF aw24 (tmVar 3) = (fmQ 4 tNat (fmEq (tm0 3 [tmVar 4, tmVar 0]) (tm0 5 [tmVar 0])), 0) := by kernel_rfl
  rw [e1] at h1
  have h2 := c_rSequent [] [aw24] (by simp [aw24_W, aw24_Mk]) (by simp) (by simp) (by simp)
  have e2 : rseq [] [aw24] = some ([.mk 4 [tNat, tNat]], [fmQ 4 tNat (fmEq (tm0 3 [tmVar 1, tmVar 0]) (tm0 5 [tmVar 0]))]) := by kernel_rfl
  rw [e2] at h2
  simp only [rseqV, fmErrV, aw24, tNat, tm0, tmVar, fmQ, fmEq, Ty.mk_cells, Tm.mk_cells, Fm.mk_cells, Ty.mk_kind, Ty.mk_args, List.map_cons, List.map_nil] at h1 h2
  clear e1 e2
  refine en Tryz.func65 [.tmp 0] rfl rfl fun g0 w0 gen hrel hfr hfr' hres => ?_
  repeat' (first
    | exact hin _ | exact agf (by assumption)
    | (first | refine wp rfl ?_ | (refine gs (fun hb => ?_) fun hb => ?_) <;> try simp only [Bool.not_true, Bool.not_false] at hb | refine cp (h1) ?_ | refine cp (h2) ?_ | refine finF hrel ?_ ?_ ?_) <;> try simp only [go_sem, *])
  all_goals (simp at hb)

theorem hgF40 {g : List Ty} (hg : ∀ y ∈ g, MkTy 1 y) : ∀ y ∈ g, TyF y ∧ tyH y ≤ 40 := fun y hy => ⟨(hg y hy).F, by have := (hg y hy).H; omega⟩
theorem cty_G {u : Bool} {f : Fm} (hG : FmG u f) (h : f.cty.2 = 0) : TyG f.cty.1 := by
  have he : f.cty = f.ct := by
    unfold Fm.cty at h ⊢
    split at h
    · rename_i h1
      simp only [bne_iff_ne] at h1
      exact absurd h h1
    · rename_i h1
      rw [if_neg h1]
  rw [he] at h ⊢
  rcases hG.C.ok.1 with ⟨_, h'⟩ | h'
  · exact h'
  · rw [h'] at h; cases h

end Go.Proofs.YtjpheflnapmdcaaGreatDoor
