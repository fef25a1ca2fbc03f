/-
 Walks: several parts in one text.
-/
import Derived.Test.YteaijonkbbkkjaaGreatDoorMc
import Derived.Test.YteaijonkbbkkjaaGreatDoorAbsDd
set_option linter.unusedSimpArgs false
set_option linter.unusedVariables false
set_option maxRecDepth 20000
set_option maxHeartbeats 4000000
namespace Go.Proofs.YteaijonkbbkkjaaGreatDoor
open Go GoAbs Go.Proofs
theorem c_Plain (l : List Int) (hl : l.length ≤ 1000) (a : Nat) : ∃ t a', PlainTy t ∧ ∀ d, Turns Tryz.prog env 9 [.ptr d 0] d (.box (deckC l a)) (.agg t.cells) (.box (deckC l a')) := by
 have hr := nextD_range (l := l) (a := a) (n := 6) (by omega) (by omega)
 have hX := c_Next l hl
 have ht := c_refTwo tNat tList tNat_W tList_W
 have ht2 := c_refTwo tNat tNat tNat_W tNat_W
 generalize hq : nextD l a 6 = q at hr
 obtain ⟨c, a1⟩ := q
 have hN : ∀ d, Turns Tryz.prog env 20 [.ptr d 0, .int .i64 6] d (.box (deckC l a)) (.int .i64 c) (.box (deckC l a1)) := fun d => by
  have := hX d a 6
  rw [hq] at this
  exact this
 clear hX hq hl
 simp only at hr
 obtain rfl | rfl | rfl | rfl | rfl | rfl : c = 0 ∨ c = 1 ∨ c = 2 ∨ c = 3 ∨ c = 4 ∨ c = 5 := by omega
 ·refine ⟨tNat, a1, .inl rfl, fun d h hd => ?_⟩
  clear ht ht2
  refine en_ Tryz.func9 [.cell 2 27] fun g0 w0 gen hrel hfr hfr' hres => ?_
  have f1 := fresh_ne hfr hd
  have f2 := fresh_ne' hfr hd
  repeat' (first
   |exact agb (by assumption)
   | (first|refine wp rfl ?_|refine spt rfl ?_|refine spf rfl ?_|(refine spl (fun hc => ?_) fun hc => ?_) <;> (try rw [beq_iff_eq] at hc) <;> try simp only [hc]|refine cp c_refNat ?_|(refine ct (hN _) ?_ ?_; focus ((simp only [go_sem, *] <;> rfl); done))|refine finT hrel hd ?_ ?_ ?_ ?_ ?_)<;>try simp only [go_sem, *])
 ·refine ⟨tNat, a1, .inl rfl, fun d h hd => ?_⟩
  clear ht ht2
  refine en_ Tryz.func9 [.cell 2 27] fun g0 w0 gen hrel hfr hfr' hres => ?_
  have f1 := fresh_ne hfr hd
  have f2 := fresh_ne' hfr hd
  repeat' (first
   |exact agb (by assumption)
   | (first|refine wp rfl ?_|refine spt rfl ?_|refine spf rfl ?_|(refine spl (fun hc => ?_) fun hc => ?_) <;> (try rw [beq_iff_eq] at hc) <;> try simp only [hc]|refine cp c_refNat ?_|(refine ct (hN _) ?_ ?_; focus ((simp only [go_sem, *] <;> rfl); done))|refine finT hrel hd ?_ ?_ ?_ ?_ ?_)<;>try simp only [go_sem, *])
 ·refine ⟨tList, a1, .inr (.inl rfl), fun d h hd => ?_⟩
  clear ht ht2
  refine en_ Tryz.func9 [.cell 2 27] fun g0 w0 gen hrel hfr hfr' hres => ?_
  have f1 := fresh_ne hfr hd
  have f2 := fresh_ne' hfr hd
  repeat' (first
   |exact agb (by assumption)
   | (first|refine wp rfl ?_|refine spt rfl ?_|refine spf rfl ?_|(refine spl (fun hc => ?_) fun hc => ?_) <;> (try rw [beq_iff_eq] at hc) <;> try simp only [hc]|refine cp c_refList ?_|(refine ct (hN _) ?_ ?_; focus ((simp only [go_sem, *] <;> rfl); done))|refine finT hrel hd ?_ ?_ ?_ ?_ ?_)<;>try simp only [go_sem, *])
 ·refine ⟨tUnit, a1, .inr (.inr (.inl rfl)), fun d h hd => ?_⟩
  clear ht ht2
  refine en_ Tryz.func9 [.cell 2 27] fun g0 w0 gen hrel hfr hfr' hres => ?_
  have f1 := fresh_ne hfr hd
  have f2 := fresh_ne' hfr hd
  repeat' (first
   |exact agb (by assumption)
   | (first|refine wp rfl ?_|refine spt rfl ?_|refine spf rfl ?_|(refine spl (fun hc => ?_) fun hc => ?_) <;> (try rw [beq_iff_eq] at hc) <;> try simp only [hc]|refine cp c_refUnit ?_|(refine ct (hN _) ?_ ?_; focus ((simp only [go_sem, *] <;> rfl); done))|refine finT hrel hd ?_ ?_ ?_ ?_ ?_)<;>try simp only [go_sem, *])
 ·refine ⟨tPair tNat tList, a1, .inr (.inr (.inr (.inl rfl))), fun d h hd => ?_⟩
  clear ht2
  refine en_ Tryz.func9 [.cell 2 27] fun g0 w0 gen hrel hfr hfr' hres => ?_
  have f1 := fresh_ne hfr hd
  have f2 := fresh_ne' hfr hd
  repeat' (first
   |exact agb (by assumption)
   | (first|refine wp rfl ?_|refine spt rfl ?_|refine spf rfl ?_|(refine spl (fun hc => ?_) fun hc => ?_) <;> (try rw [beq_iff_eq] at hc) <;> try simp only [hc]|refine cp c_refNat ?_|refine cp c_refList ?_|refine cp ht ?_|(refine ct (hN _) ?_ ?_; focus ((simp only [go_sem, *] <;> rfl); done))|refine finT hrel hd ?_ ?_ ?_ ?_ ?_)<;>try simp only [go_sem, *])
 ·refine ⟨tPair tNat tNat, a1, .inr (.inr (.inr (.inr rfl))), fun d h hd => ?_⟩
  clear ht
  refine en_ Tryz.func9 [.cell 2 27] fun g0 w0 gen hrel hfr hfr' hres => ?_
  have f1 := fresh_ne hfr hd
  have f2 := fresh_ne' hfr hd
  repeat' (first
   |exact agb (by assumption)
   | (first|refine wp rfl ?_|refine spt rfl ?_|refine spf rfl ?_|(refine spl (fun hc => ?_) fun hc => ?_) <;> (try rw [beq_iff_eq] at hc) <;> try simp only [hc]|refine cp c_refNat ?_|refine cp ht2 ?_|(refine ct (hN _) ?_ ?_; focus ((simp only [go_sem, *] <;> rfl); done))|refine finT hrel hd ?_ ?_ ?_ ?_ ?_)<;>try simp only [go_sem, *])
end Go.Proofs.YteaijonkbbkkjaaGreatDoor
