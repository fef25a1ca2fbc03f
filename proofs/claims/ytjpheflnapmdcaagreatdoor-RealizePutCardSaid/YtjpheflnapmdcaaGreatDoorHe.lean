/-
  Walks: the matrix of a formula, as a whole.
-/
import Derived.Test.YtjpheflnapmdcaaGreatDoorHd
set_option linter.unusedSimpArgs false
set_option linter.unusedVariables false
set_option maxRecDepth 20000
set_option maxHeartbeats 4000000
namespace Go.Proofs.YtjpheflnapmdcaaGreatDoor
open Go GoAbs Go.Proofs

/-- Formulas with as many parts as their kinds say. -/
inductive FmA : Fm → Prop
  | mk {k : Int} {t : Ty} {l : List Tm} {a : List Fm} (h2 : (k == 2 || k == 3) = true → a.length = 2) (h1 : (k == 4 || k == 5) = true → a.length = 1) (hr : ∀ x ∈ a, FmA x) : FmA (.mk k t l a)
theorem FmA.ev {F : Tm → Int → Tm} : ∀ (f : Fm) (b : Int), FmA f → FmA (f.ev F b) := by
  intro f
  induction f using Fm.ind with | h f ih => ?_
  intro b hf
  rw [Fm.ev_eq]
  cases hf with
  | @mk k t l a h2 h1 hr =>
    refine .mk (fun h => by rw [List.length_map]; exact h2 h) (fun h => by rw [List.length_map]; exact h1 h) ?_
    intro x hx
    obtain ⟨y, hy, rfl⟩ := List.mem_map.1 hx
    exact ih y hy _ (hr y hy)
theorem fdp_map {g : Fm → Fm} : ∀ l : List Fm, (∀ x ∈ l, fdp (g x) = fdp x) → fdpL (l.map g) = fdpL l
  | [], _ => rfl
  | x :: l, h => by rw [List.map_cons, fdpL, fdpL, h x (by simp), fdp_map l (fun y hy => h y (by simp [hy]))]
theorem fdp_ev {F : Tm → Int → Tm} : ∀ (f : Fm) (b : Int), fdp (f.ev F b) = fdp f := by
  intro f
  induction f using Fm.ind with | h f ih => ?_
  intro b
  rw [Fm.ev_eq]
  cases f with | mk k t l a =>
  rw [fdp, fdp]
  simp only [Fm.args] at ih ⊢
  rw [fdp_map a (fun x hx => ih x hx _)]

theorem mTwo_W {k : Int} {x y : Fm × Int} (hx : FmW x.1) (hy : FmW y.1) : FmW (mTwo k x y).1 := by
  unfold mTwo
  repeat' split
  · exact zeroF_W'
  · exact zeroF_W'
  · exact zeroF_W'
  · exact fmTwo_W hx hy
end Go.Proofs.YtjpheflnapmdcaaGreatDoor
