/-
 Walks: formulas out of the deck (Formula).
-/
import Derived.Test.YtmbpmbofehmdaaaGreatDoorWt
set_option linter.unusedSimpArgs false
set_option linter.unusedVariables false
set_option maxRecDepth 20000
set_option maxHeartbeats 4000000
namespace Go.Proofs.YtmbpmbofehmdaaaGreatDoor
open Go GoAbs Go.Proofs
theorem c_Formula (l : List Int) (hl : l.length ≤ 1000) : ∀ (n : Nat), n ≤ 100 → ∀ (g : List Ty) (a : Nat), (∀ y ∈ g, TyF y ∧ tyH y ≤ 40) → g.length + n ≤ 800 →
  ∃ f a', MkFm true n g f ∧ FmW f ∧ ∀ d, Turns Tryz.prog env 10 [.ptr d 0, .sl .any (g.map Ty.cells), .int .i64 n] d (.box (deckC l a)) (.agg f.cells) (.box (deckC l a')) := by
 intro n
 have heq : ∀ (g : List Ty) (a : Nat), (∀ y ∈ g, TyF y ∧ tyH y ≤ 40) → g.length ≤ 800 → ∃ x y a1 a2, MkTm 1 g tNat x ∧ MkTm 1 g tNat y ∧ TmW x ∧ TmW y ∧
   (∀ d, Turns Tryz.prog env 32 [.ptr d 0, .sl .any (g.map Ty.cells), .agg tNat.cells, .int .i64 1] d (.box (deckC l a)) (.agg x.cells) (.box (deckC l a1))) ∧
   (∀ d, Turns Tryz.prog env 32 [.ptr d 0, .sl .any (g.map Ty.cells), .agg tNat.cells, .int .i64 1] d (.box (deckC l a1)) (.agg y.cells) (.box (deckC l a2))) := by
  intro g a hg hb
  obtain ⟨x, a1, hx, wx, Tx⟩ := c_Term l hl 1 g tNat a hg .nat (by rw [tyH_nat]; omega) (by rw [tyH_nat]; simp; omega) (by rw [tyH_nat]; omega)
  obtain ⟨y, a2, hy, wy, Ty⟩ := c_Term l hl 1 g tNat a1 hg .nat (by rw [tyH_nat]; omega) (by rw [tyH_nat]; simp; omega) (by rw [tyH_nat]; omega)
  exact ⟨x, y, a1, a2, hx, hy, wx, wy, Tx, Ty⟩
 induction n with
 | zero =>
  intro _ g a hg hb
  have hz : decide (((0 : Nat) : Int) > 0) = false := rfl
  obtain ⟨x, y, ax, ay, kx, ky, wx, wy, Tx, Ty⟩ := heq g a hg (by omega)
  refine ⟨_, ay, .eq kx ky, fmEq_W wx wy, ?_⟩
  clear heq hg
  intro d h hd
  refine en_ Tryz.func10 [.cell 6 29] fun g0 w0 gen hrel hfr hfr' hres => ?_
  have f1 := fresh_ne hfr hd
  have f2 := fresh_ne' hfr hd
  repeat' (first
   |(refine ⟨?_,?_⟩; focus ((repeat' (first|refine ⟨?_,?_⟩|refine .inr ?_)); all_goals kernel_rfl))
   |exact agb (by assumption)
   | (first|refine wp rfl ?_|refine spt rfl ?_|refine spf rfl ?_|(refine spl (fun hc => ?_) fun hc => ?_) <;> (try rw [beq_iff_eq] at hc) <;> try simp only [hc]|refine cp c_refNat ?_|refine cp (c_Eq _ _ wx wy) ?_|(refine ct (Tx d) ?_ ?_; focus ((simp only [go_sem, *] <;> rfl); done))|(refine ct (Ty d) ?_ ?_; focus ((simp only [go_sem, *] <;> rfl); done))|refine finT hrel hd ?_ ?_ ?_ ?_ ?_)<;>try simp only [go_sem, *])
 | succ n ih =>
  intro hn g a hg hb
  have hz : decide (((n + 1 : Nat) : Int) > 0) = true := by simp <;> omega
  have hw : IntKind.i64.wrap (((n + 1 : Nat) : Int) - 1) = (n : Int) := wrap_eq (by omega) (by omega) (by omega)
  have ih := ih (by omega)
  have hr := nextD_range (l := l) (a := a) (n := 9) (by omega) (by omega)
  generalize hq : nextD l a 9 = q at hr
  obtain ⟨c, a1⟩ := q
  have hc1 : (nextD l a 9).1 = c := by rw [hq]
  have hc2 : (nextD l a 9).2 = a1 := by rw [hq]
  simp only at hr
  obtain rfl | rfl | rfl | rfl | rfl | rfl | rfl | hge : c = 0 ∨ c = 1 ∨ c = 2 ∨ c = 3 ∨ c = 4 ∨ c = 5 ∨ c = 6 ∨ 7 ≤ c := by omega
  ·
   obtain ⟨x, ax, kx, wx, Tx⟩ := ih g a1 hg (by omega)
   obtain ⟨y, ay, ky, wy, Ty⟩ := ih g ax hg (by omega)
   refine ⟨_, ay, .two (k := 2) (by omega) kx ky, fmTwo_W wx wy, ?_⟩
   clear heq hg ih hq hr
   intro d h hd
   refine en_ Tryz.func10 [.cell 6 29] fun g0 w0 gen hrel hfr hfr' hres => ?_
   have f1 := fresh_ne hfr hd
   have f2 := fresh_ne' hfr hd
   repeat' (first
    |(refine ⟨?_,?_⟩; focus ((repeat' (first|refine ⟨?_,?_⟩|refine .inr ?_)); all_goals kernel_rfl))
    |exact agb (by assumption)
    | (first|refine wp rfl ?_|refine spt rfl ?_|refine spf rfl ?_|(refine spl (fun hc => ?_) fun hc => ?_) <;> (try rw [beq_iff_eq] at hc) <;> try simp only [hc]|refine cp (c_fmTwo 2 _ _ wx wy) ?_|(refine ct (Tx d) ?_ ?_; focus ((simp only [go_sem, *] <;> rfl); done))|(refine ct (Ty d) ?_ ?_; focus ((simp only [go_sem, *] <;> rfl); done))|refine ct (c_Next l hl d _ _) (by simp only [go_sem, *] <;> rfl) ?_|refine finT hrel hd ?_ ?_ ?_ ?_ ?_)<;>try simp only [go_sem, *])
  ·
   obtain ⟨x, ax, kx, wx, Tx⟩ := ih g a1 hg (by omega)
   obtain ⟨y, ay, ky, wy, Ty⟩ := ih g ax hg (by omega)
   refine ⟨_, ay, .two (k := 3) (by omega) kx ky, fmTwo_W wx wy, ?_⟩
   clear heq hg ih hq hr
   intro d h hd
   refine en_ Tryz.func10 [.cell 6 29] fun g0 w0 gen hrel hfr hfr' hres => ?_
   have f1 := fresh_ne hfr hd
   have f2 := fresh_ne' hfr hd
   repeat' (first
    |(refine ⟨?_,?_⟩; focus ((repeat' (first|refine ⟨?_,?_⟩|refine .inr ?_)); all_goals kernel_rfl))
    |exact agb (by assumption)
    | (first|refine wp rfl ?_|refine spt rfl ?_|refine spf rfl ?_|(refine spl (fun hc => ?_) fun hc => ?_) <;> (try rw [beq_iff_eq] at hc) <;> try simp only [hc]|refine cp (c_fmTwo 3 _ _ wx wy) ?_|(refine ct (Tx d) ?_ ?_; focus ((simp only [go_sem, *] <;> rfl); done))|(refine ct (Ty d) ?_ ?_; focus ((simp only [go_sem, *] <;> rfl); done))|refine ct (c_Next l hl d _ _) (by simp only [go_sem, *] <;> rfl) ?_|refine finT hrel hd ?_ ?_ ?_ ?_ ?_)<;>try simp only [go_sem, *])
  ·
   obtain ⟨x, ax, kx, wx, Tx⟩ := ih g a1 hg (by omega)
   obtain ⟨y, ay, ky, wy, Ty⟩ := ih g ax hg (by omega)
   refine ⟨_, ay, .two (k := 3) (by omega) kx ky, fmTwo_W wx wy, ?_⟩
   clear heq hg ih hq hr
   intro d h hd
   refine en_ Tryz.func10 [.cell 6 29] fun g0 w0 gen hrel hfr hfr' hres => ?_
   have f1 := fresh_ne hfr hd
   have f2 := fresh_ne' hfr hd
   repeat' (first
    |(refine ⟨?_,?_⟩; focus ((repeat' (first|refine ⟨?_,?_⟩|refine .inr ?_)); all_goals kernel_rfl))
    |exact agb (by assumption)
    | (first|refine wp rfl ?_|refine spt rfl ?_|refine spf rfl ?_|(refine spl (fun hc => ?_) fun hc => ?_) <;> (try rw [beq_iff_eq] at hc) <;> try simp only [hc]|refine cp (c_fmTwo 3 _ _ wx wy) ?_|(refine ct (Tx d) ?_ ?_; focus ((simp only [go_sem, *] <;> rfl); done))|(refine ct (Ty d) ?_ ?_; focus ((simp only [go_sem, *] <;> rfl); done))|refine ct (c_Next l hl d _ _) (by simp only [go_sem, *] <;> rfl) ?_|refine finT hrel hd ?_ ?_ ?_ ?_ ?_)<;>try simp only [go_sem, *])
  ·
   have hs := mkType_Mk (l := l) 1 a1
   have hsT := c_Type l hl
   have hsH := hs.H
   generalize hq2 : mkType l 1 a1 = q at hs hsH
   obtain ⟨s, a2⟩ := q
   have hs1 : (mkType l 1 a1).1 = s := by rw [hq2]
   have hs2 : (mkType l 1 a1).2 = a2 := by rw [hq2]
   simp only at hs hsH
   have hsF := hs.F
   have hsW := hsF.W
   have hT0 : ∀ d, Turns Tryz.prog env 15 [.ptr d 0, .int .i64 1] d (.box (deckC l a1)) (.agg s.cells) (.box (deckC l a2)) := fun d => by have := hsT d 1 (by omega) a1; rw [hs1, hs2] at this; exact this
   clear hsT hs1 hs2 hq2
   have hL := c_longer g [s] (by omega) (by simp)
   simp only [List.map_cons, List.map_nil] at hL
   obtain ⟨x, ax, kx, wx, Tx⟩ := ih (g ++ [s]) a2 (by intro y hy; rcases List.mem_append.1 hy with hy | hy; exact hg y hy; simp at hy; subst hy; exact ⟨hsF, by omega⟩) (by simp; omega)
   refine ⟨_, ax, .q (k := 4) (.inl rfl) (hs.up (by simp)) kx, fmQ_W hsW wx, ?_⟩
   clear heq hg ih hq hr
   intro d h hd
   refine en_ Tryz.func10 [.cell 6 29] fun g0 w0 gen hrel hfr hfr' hres => ?_
   have f1 := fresh_ne hfr hd
   have f2 := fresh_ne' hfr hd
   repeat' (first
    |(refine ⟨?_,?_⟩; focus ((repeat' (first|refine ⟨?_,?_⟩|refine .inr ?_)); all_goals kernel_rfl))
    |exact agb (by assumption)
    | (first|refine wp rfl ?_|refine spt rfl ?_|refine spf rfl ?_|(refine spl (fun hc => ?_) fun hc => ?_) <;> (try rw [beq_iff_eq] at hc) <;> try simp only [hc]|refine cp hL ?_|refine cp (c_fmQ 4 _ _ hsW wx) ?_|(refine ct (hT0 d) ?_ ?_; focus ((simp only [go_sem, *] <;> rfl); done))|(refine ct (Tx d) ?_ ?_; focus ((simp only [go_sem, *] <;> rfl); done))|refine ct (c_Next l hl d _ _) (by simp only [go_sem, *] <;> rfl) ?_|refine finT hrel hd ?_ ?_ ?_ ?_ ?_)<;>try simp only [go_sem, *])
  ·
   have hs := mkType_Mk (l := l) 1 a1
   have hsT := c_Type l hl
   have hsH := hs.H
   generalize hq2 : mkType l 1 a1 = q at hs hsH
   obtain ⟨s, a2⟩ := q
   have hs1 : (mkType l 1 a1).1 = s := by rw [hq2]
   have hs2 : (mkType l 1 a1).2 = a2 := by rw [hq2]
   simp only at hs hsH
   have hsF := hs.F
   have hsW := hsF.W
   have hT0 : ∀ d, Turns Tryz.prog env 15 [.ptr d 0, .int .i64 1] d (.box (deckC l a1)) (.agg s.cells) (.box (deckC l a2)) := fun d => by have := hsT d 1 (by omega) a1; rw [hs1, hs2] at this; exact this
   clear hsT hs1 hs2 hq2
   have hL := c_longer g [s] (by omega) (by simp)
   simp only [List.map_cons, List.map_nil] at hL
   obtain ⟨x, ax, kx, wx, Tx⟩ := ih (g ++ [s]) a2 (by intro y hy; rcases List.mem_append.1 hy with hy | hy; exact hg y hy; simp at hy; subst hy; exact ⟨hsF, by omega⟩) (by simp; omega)
   refine ⟨_, ax, .q (k := 4) (.inl rfl) (hs.up (by simp)) kx, fmQ_W hsW wx, ?_⟩
   clear heq hg ih hq hr
   intro d h hd
   refine en_ Tryz.func10 [.cell 6 29] fun g0 w0 gen hrel hfr hfr' hres => ?_
   have f1 := fresh_ne hfr hd
   have f2 := fresh_ne' hfr hd
   repeat' (first
    |(refine ⟨?_,?_⟩; focus ((repeat' (first|refine ⟨?_,?_⟩|refine .inr ?_)); all_goals kernel_rfl))
    |exact agb (by assumption)
    | (first|refine wp rfl ?_|refine spt rfl ?_|refine spf rfl ?_|(refine spl (fun hc => ?_) fun hc => ?_) <;> (try rw [beq_iff_eq] at hc) <;> try simp only [hc]|refine cp hL ?_|refine cp (c_fmQ 4 _ _ hsW wx) ?_|(refine ct (hT0 d) ?_ ?_; focus ((simp only [go_sem, *] <;> rfl); done))|(refine ct (Tx d) ?_ ?_; focus ((simp only [go_sem, *] <;> rfl); done))|refine ct (c_Next l hl d _ _) (by simp only [go_sem, *] <;> rfl) ?_|refine finT hrel hd ?_ ?_ ?_ ?_ ?_)<;>try simp only [go_sem, *])
  ·
   have hs := mkType_Mk (l := l) 1 a1
   have hsT := c_Type l hl
   have hsH := hs.H
   generalize hq2 : mkType l 1 a1 = q at hs hsH
   obtain ⟨s, a2⟩ := q
   have hs1 : (mkType l 1 a1).1 = s := by rw [hq2]
   have hs2 : (mkType l 1 a1).2 = a2 := by rw [hq2]
   simp only at hs hsH
   have hsF := hs.F
   have hsW := hsF.W
   have hT0 : ∀ d, Turns Tryz.prog env 15 [.ptr d 0, .int .i64 1] d (.box (deckC l a1)) (.agg s.cells) (.box (deckC l a2)) := fun d => by have := hsT d 1 (by omega) a1; rw [hs1, hs2] at this; exact this
   clear hsT hs1 hs2 hq2
   have hL := c_longer g [s] (by omega) (by simp)
   simp only [List.map_cons, List.map_nil] at hL
   obtain ⟨x, ax, kx, wx, Tx⟩ := ih (g ++ [s]) a2 (by intro y hy; rcases List.mem_append.1 hy with hy | hy; exact hg y hy; simp at hy; subst hy; exact ⟨hsF, by omega⟩) (by simp; omega)
   refine ⟨_, ax, .q (k := 5) (.inr (.inl rfl)) (hs.up (by simp)) kx, fmQ_W hsW wx, ?_⟩
   clear heq hg ih hq hr
   intro d h hd
   refine en_ Tryz.func10 [.cell 6 29] fun g0 w0 gen hrel hfr hfr' hres => ?_
   have f1 := fresh_ne hfr hd
   have f2 := fresh_ne' hfr hd
   repeat' (first
    |(refine ⟨?_,?_⟩; focus ((repeat' (first|refine ⟨?_,?_⟩|refine .inr ?_)); all_goals kernel_rfl))
    |exact agb (by assumption)
    | (first|refine wp rfl ?_|refine spt rfl ?_|refine spf rfl ?_|(refine spl (fun hc => ?_) fun hc => ?_) <;> (try rw [beq_iff_eq] at hc) <;> try simp only [hc]|refine cp hL ?_|refine cp (c_fmQ 5 _ _ hsW wx) ?_|(refine ct (hT0 d) ?_ ?_; focus ((simp only [go_sem, *] <;> rfl); done))|(refine ct (Tx d) ?_ ?_; focus ((simp only [go_sem, *] <;> rfl); done))|refine ct (c_Next l hl d _ _) (by simp only [go_sem, *] <;> rfl) ?_|refine finT hrel hd ?_ ?_ ?_ ?_ ?_)<;>try simp only [go_sem, *])
  ·
   have hs := mkType_Mk (l := l) 0 a1
   have hsT := c_Type l hl
   have hsH := hs.H
   generalize hq2 : mkType l 0 a1 = q at hs hsH
   obtain ⟨s, a2⟩ := q
   have hs1 : (mkType l 0 a1).1 = s := by rw [hq2]
   have hs2 : (mkType l 0 a1).2 = a2 := by rw [hq2]
   simp only at hs hsH
   have hsF := hs.F
   have hsW := hsF.W
   have hT0 : ∀ d, Turns Tryz.prog env 15 [.ptr d 0, .int .i64 0] d (.box (deckC l a1)) (.agg s.cells) (.box (deckC l a2)) := fun d => by have := hsT d 0 (by omega) a1; rw [hs1, hs2] at this; exact this
   clear hsT hs1 hs2 hq2
   have hL := c_longer g [s] (by omega) (by simp)
   simp only [List.map_cons, List.map_nil] at hL
   have hr2 := nextD_range (l := l) (a := a2) (n := 2) (by omega) (by omega)
   obtain ⟨k, hk⟩ : ∃ k : Nat, (nextD l a2 2).1 = (k : Int) := ⟨(nextD l a2 2).1.toNat, by omega⟩
   have hw2 : IntKind.i64.wrap (6 + (k : Int)) = 6 + k := wrap_eq rfl (by omega) (by omega)
   obtain ⟨x, ax, kx, wx, Tx⟩ := ih (g ++ [s]) (nextD l a2 2).2 (by intro y hy; rcases List.mem_append.1 hy with hy | hy; exact hg y hy; simp at hy; subst hy; exact ⟨hsF, by omega⟩) (by simp; omega)
   refine ⟨_, ax, .q (k := 6 + k) (.inr (.inr ⟨rfl, by omega⟩)) (hs.up (by simp)) kx, fmQ_W hsW wx, ?_⟩
   clear heq hg ih hq hr hr2
   intro d h hd
   refine en_ Tryz.func10 [.cell 6 29] fun g0 w0 gen hrel hfr hfr' hres => ?_
   have f1 := fresh_ne hfr hd
   have f2 := fresh_ne' hfr hd
   repeat' (first
    |(refine ⟨?_,?_⟩; focus ((repeat' (first|refine ⟨?_,?_⟩|refine .inr ?_)); all_goals kernel_rfl))
    |exact agb (by assumption)
    | (first|refine wp rfl ?_|refine spt rfl ?_|refine spf rfl ?_|(refine spl (fun hc => ?_) fun hc => ?_) <;> (try rw [beq_iff_eq] at hc) <;> try simp only [hc]|refine cp hL ?_|refine cp (c_fmQ _ _ _ hsW wx) ?_|(refine ct (hT0 d) ?_ ?_; focus ((simp only [go_sem, *] <;> rfl); done))|(refine ct (Tx d) ?_ ?_; focus ((simp only [go_sem, *] <;> rfl); done))|refine ct (c_Next l hl d _ _) (by simp only [go_sem, *] <;> rfl) ?_|refine finT hrel hd ?_ ?_ ?_ ?_ ?_)<;>try simp only [go_sem, *])
  ·
   have q0 : (c == 0) = false := by simp; omega
   have q1 : (c == 1) = false := by simp; omega
   have q2 : (c == 2) = false := by simp; omega
   have q3 : (c == 3) = false := by simp; omega
   have q4 : (c == 4) = false := by simp; omega
   have q5 : (c == 5) = false := by simp; omega
   have q6 : (c == 6) = false := by simp; omega
   clear hge hr hq ih
   obtain ⟨x, y, ax, ay, kx, ky, wx, wy, Tx, Ty⟩ := heq g a1 hg (by omega)
   refine ⟨_, ay, .eq kx ky, fmEq_W wx wy, ?_⟩
   clear heq hg
   intro d h hd
   refine en_ Tryz.func10 [.cell 6 29] fun g0 w0 gen hrel hfr hfr' hres => ?_
   have f1 := fresh_ne hfr hd
   have f2 := fresh_ne' hfr hd
   repeat' (first
    |(refine ⟨?_,?_⟩; focus ((repeat' (first|refine ⟨?_,?_⟩|refine .inr ?_)); all_goals kernel_rfl))
    |exact agb (by assumption)
    | (first|refine wp rfl ?_|refine spt rfl ?_|refine spf rfl ?_|(refine spl (fun hc => ?_) fun hc => ?_) <;> (try rw [beq_iff_eq] at hc) <;> try simp only [hc]|refine cp c_refNat ?_|refine cp (c_Eq _ _ wx wy) ?_|(refine ct (Tx d) ?_ ?_; focus ((simp only [go_sem, *] <;> rfl); done))|(refine ct (Ty d) ?_ ?_; focus ((simp only [go_sem, *] <;> rfl); done))|refine ct (c_Next l hl d _ _) (by simp only [go_sem, *] <;> rfl) ?_|refine finT hrel hd ?_ ?_ ?_ ?_ ?_)<;>try simp only [go_sem, *])
end Go.Proofs.YtmbpmbofehmdaaaGreatDoor
