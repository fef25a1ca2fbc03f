/-
  Walks: equations out of the deck.
-/
import Derived.Test.YtpnjamplciaopaaGreatDoorMd
import Derived.Test.YtpnjamplciaopaaGreatDoorAbsD
set_option linter.unusedSimpArgs false
set_option linter.unusedVariables false
set_option maxRecDepth 20000
set_option maxHeartbeats 4000000
namespace Go.Proofs.YtpnjamplciaopaaGreatDoor
open Go GoAbs Go.Proofs

theorem c_Decidable0 (l : List Int) (hl : l.length ≤ 1000) (a : Nat) :
    ∃ x y a', MkTm 1 [] tNat x ∧ MkTm 1 [] tNat y ∧ FmW (fmEq x y) ∧ ∀ d, Turns Tryz.prog env 18 [.ptr d 0, .sl .any [], .int .i64 0] d (.box (deckC l a)) (.agg (fmEq x y).cells) (.box (deckC l a')) := by
  obtain ⟨x, a1, hx, wx, Tx⟩ := c_Term l hl 1 [] tNat a (by simp) .nat (by rw [tyH_nat]; omega) (by rw [tyH_nat]; simp) (by rw [tyH_nat]; omega)
  obtain ⟨y, a2, hy, wy, Ty⟩ := c_Term l hl 1 [] tNat a1 (by simp) .nat (by rw [tyH_nat]; omega) (by rw [tyH_nat]; simp) (by rw [tyH_nat]; omega)
  refine ⟨x, y, a2, hx, hy, fmEq_W wx wy, ?_⟩
  simp only [List.map_nil] at Tx Ty
  have hz : decide ((0 : Int) > 0) = false := rfl
  intro d h hd
  refine en Tryz.func18 [.cell 6 29] rfl rfl fun g0 w0 gen hrel hfr hfr' hres => ?_
  have f1 := fresh_ne hfr hd
  have f2 := fresh_ne' hfr hd
  repeat' (first
    | (refine ⟨?_, ?_⟩; focus ((repeat' (first | refine And.intro ?_ ?_ | refine Or.inr ?_)); all_goals kernel_rfl))
    | exact agb (by assumption)
    | (first | refine wp rfl ?_ | refine spt rfl ?_ | refine spf rfl ?_ | (refine spl (fun hc => ?_) fun hc => ?_) <;> (try rw [beq_iff_eq] at hc) <;> try simp only [hc] | refine cp (c_refNat) ?_ | refine cp (c_Eq _ _ wx wy) ?_ | (refine ct (Tx d) ?_ ?_; focus ((simp only [go_sem, *] <;> rfl); done)) | (refine ct (Ty d) ?_ ?_; focus ((simp only [go_sem, *] <;> rfl); done)) | refine finT hrel hd ?_ ?_ ?_ ?_ ?_) <;> try simp only [go_sem, *])

end Go.Proofs.YtpnjamplciaopaaGreatDoor
