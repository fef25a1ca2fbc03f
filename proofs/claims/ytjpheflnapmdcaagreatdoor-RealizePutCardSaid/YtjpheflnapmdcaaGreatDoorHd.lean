/-
  Walks: the matrix of a formula.
-/
import Derived.Test.YtjpheflnapmdcaaGreatDoorHc
import Derived.Test.YtjpheflnapmdcaaGreatDoorMa
set_option linter.unusedSimpArgs false
set_option linter.unusedVariables false
set_option maxRecDepth 20000
set_option maxHeartbeats 4000000
namespace Go.Proofs.YtjpheflnapmdcaaGreatDoor
open Go GoAbs Go.Proofs

theorem zeroF_W' : FmW zeroF := .mk _ _ _ _ tZero_W (by simp) (by simp) (by simp) (by simp)

theorem fsp_W {s : Tm} (hs : TmW s) : ∀ (f : Fm) (d : Int), FmW f → FmW (f.ev (fun t b => tmSp s 0 t b) d) := by
  intro f
  induction f using Fm.ind with | h f ih => ?_
  intro d hf
  rw [Fm.ev_eq]
  refine .mk _ _ _ _ hf.ty (by rw [List.length_map]; exact hf.tlen) ?_ (by rw [List.length_map]; exact hf.len) ?_
  · intro x hx
    obtain ⟨y, hy, rfl⟩ := List.mem_map.1 hx
    exact sp_W hs _ _ (hf.term hy)
  · intro x hx
    obtain ⟨y, hy, rfl⟩ := List.mem_map.1 hx
    exact ih y hy _ (hf.arg hy)

end Go.Proofs.YtjpheflnapmdcaaGreatDoor
