/-
 Walks: sameness of types, terms and formulas (tree).
-/
import Derived.Test.YtpnjamplciaopaaGreatDoorMa
import Derived.Test.YtpnjamplciaopaaGreatDoorAbsD
set_option linter.unusedSimpArgs false
set_option linter.unusedVariables false
set_option maxRecDepth 20000
set_option maxHeartbeats 4000000
namespace Go.Proofs.YtpnjamplciaopaaGreatDoor
open Go GoAbs Go.Proofs
theorem ne_of_beq {a b : Int} {r : Bool} (h : (a == b) = r) : (a != b) = !r := by simp [bne, h]
theorem sameTmL_len : ∀ {l l' : List Tm}, Tm.sameL l l' = true → l.length = l'.length
 | [], [], _ => rfl
 | a :: l, b :: l', h => by simp only [Tm.sameL, Bool.and_eq_true] at h; simp [sameTmL_len h.2]
 | [], _ :: _, h => by simp [Tm.sameL] at h
 | _ :: _, [], h => by simp [Tm.sameL] at h
theorem sameTmL_ne {l l' : List Tm} (h : ((l.length : Int) == (l'.length : Int)) = false) : Tm.sameL l l' = false := by
 cases e : Tm.sameL l l' with
 | true => rw [sameTmL_len e] at h; simp at h
 | false => rfl
theorem get_same {α β : Type} {l : List α} {l' : List β} (h : ((l.length : Int) == (l'.length : Int)) = true) : ∀ (i : Nat) (x : α), l[i]? = some x → ∃ y, l'[i]? = some y := by
 intro i x hx
 have := (List.getElem?_eq_some_iff.1 hx).1
 simp at h
 exact ⟨_, List.getElem?_eq_getElem (by omega)⟩
end Go.Proofs.YtpnjamplciaopaaGreatDoor
