/-
 Walks: contexts out of the deck.
-/
import Derived.Test.YtpnjamplciaopaaGreatDoorMc
import Derived.Test.YtpnjamplciaopaaGreatDoorAbsC
set_option linter.unusedSimpArgs false
set_option linter.unusedVariables false
set_option maxRecDepth 20000
set_option maxHeartbeats 4000000
namespace Go.Proofs.YtpnjamplciaopaaGreatDoor
open Go GoAbs Go.Proofs
def mkCtx (l : List Int) : Nat → Nat → List Ty × Nat
 | 0, a => ([], a)
 | n + 1, a => ((mkCtx l n a).1 ++ [(mkType l 1 (mkCtx l n a).2).1], (mkType l 1 (mkCtx l n a).2).2)
theorem mkCtx_all {l : List Int} : ∀ (n a : Nat), (∀ y ∈ (mkCtx l n a).1, MkTy 1 y) ∧ (mkCtx l n a).1.length = n
 | 0, a => by simp [mkCtx]
 | n + 1, a => by
  obtain ⟨h1, h2⟩ := mkCtx_all (l := l) n a
  refine ⟨?_, by simp [mkCtx, h2]⟩
  intro y hy
  rw [mkCtx] at hy
  rcases List.mem_append.1 hy with hy | hy
  ·exact h1 y hy
  ·simp at hy; subst hy; exact mkType_Mk 1 _
theorem c_Context (l : List Int) (hl : l.length ≤ 1000) (a : Nat) : ∃ (g : List Ty) (a' : Nat), (∀ y ∈ g, MkTy 1 y) ∧ g.length ≤ 3 ∧
  ∀ d, Turns Tryz.prog env 16 [.ptr d 0] d (.box (deckC l a)) (.sl .any (g.map Ty.cells)) (.box (deckC l a')) := by
 have hr := nextD_range (l := l) (a := a) (n := 4) (by omega) (by omega)
 generalize hq : nextD l a 4 = q at hr
 obtain ⟨c, a1⟩ := q
 have hc1 : (nextD l a 4).1 = c := by rw [hq]
 have hc2 : (nextD l a 4).2 = a1 := by rw [hq]
 simp only at hr
 obtain ⟨n, rfl⟩ : ∃ n : Nat, c = (n : Int) := ⟨c.toNat, by omega⟩
 have hn : n ≤ 3 := by omega
 obtain ⟨hm, hlen⟩ := mkCtx_all (l := l) n a1
 refine ⟨(mkCtx l n a1).1, (mkCtx l n a1).2, hm, by omega, ?_⟩
 clear hm hlen hr hq
 intro d h hd
 refine en Tryz.func16 [.tmp 2] rfl rfl fun g0 w0 gen hrel hfr hfr' hres => ?_
 have f1 := fresh_ne hfr hd
 have f2 := fresh_ne' hfr hd
 repeat' (first
  | (first | refine wp rfl ?_ | refine spt rfl ?_ | refine spf rfl ?_ | (refine spl (fun hc => ?_) fun hc => ?_) <;> (try rw [beq_iff_eq] at hc) <;> try simp only [hc] | refine ct (c_Next l hl d a 4) (by simp only [go_sem, *] <;> rfl) ?_) <;> try simp only [go_sem, *])
 refine AR_loop_nat (fun i σ => σ.tm 4 = .int .i64 ((n : Int) - i) ∧ σ.tm 0 = .ptr d 0 ∧ σ.h d = some (.box (deckC l (mkCtx l i a1).2)) ∧ AgreeBut d h σ.h ∧ OwnS h σ.h (σ.tm 3) 2 ((mkCtx l i a1).1.map Ty.cells)) n ?_ ?_
 ·simp only [go_sem, *]
  exact ⟨by simp, rfl, by repeat (first | exact AgreeBut.refl _ _ | refine AgreeBut.set ?_), .inl rfl⟩
 clear hc1 hc2
 intro i σ hi ⟨j1, j2, j3, jA, j5⟩
 refine AR_gen2 (fun gn hlt hgn => ?_)
 have hgf := fresh_of hgn
 have hgf0 := agreeBut_fresh' hd jA hgf (fun r i e => by have := hfr d (by rw [hd]; simp); rw [e] at this; simp at this; omega)
 have g1 := fresh_ne2 hfr hd hlt
 have g2 := fresh_ne2' hfr hd hlt
 clear hgn
 have hln := (mkCtx_all (l := l) i a1).2
 generalize hp : mkCtx l i a1 = p at j3 j5 hln
 obtain ⟨gi, ai⟩ := p
 simp only at j3 j5 hln
 rcases Nat.lt_or_ge i n with h1 | h1
 ·have hd1 : decide ((n : Int) - (i : Int) > 0) = true := by simp; omega
  have hw1 : IntKind.i64.wrap ((n : Int) - (i : Int) - 1) = (n : Int) - ((i + 1 : Nat) : Int) := wrap_eq (by omega) (by omega) (by omega)
  have hT := c_Type l hl d 1 (by omega) ai
  have hs1 : (mkCtx l (i + 1) a1).1 = gi ++ [(mkType l 1 ai).1] := by rw [mkCtx, hp]
  have hs2 : (mkCtx l (i + 1) a1).2 = (mkType l 1 ai).2 := by rw [mkCtx, hp]
  clear hp
  generalize mkType l 1 ai = q at *
  have hmm : List.map Ty.cells (gi ++ [q.1]) = List.map Ty.cells gi ++ [q.1.cells] := by simp
  repeat' (first
   | (refine okE_app_own j5 (by repeat (first | exact Keeps.refl _ | refine Keeps.new ?_ (hgf _ _) | refine Keeps.new ?_ (hfr' _ _) | refine Keeps.box ?_ rfl | refine Keeps.box ?_ (by simp only [go_sem, *]))) rfl (by simp only [go_sem, *] <;> omega) (by first | exact hgf0 _ _ | exact hfr' _ _) (by simp only [go_sem, *]) (by intro hd; cases hd) ?_; intro v' h' log' jO jK jAg jAb jF; simp only [go_sem, *])
   | (first | refine wp rfl ?_ | refine spt rfl ?_ | refine spf rfl ?_ | (refine spl (fun hc => ?_) fun hc => ?_) <;> (try rw [beq_iff_eq] at hc) <;> try simp only [hc] | (refine ct (hT) ?_ ?_; focus ((simp only [go_sem, *] <;> rfl); done)) | refine AR_inv ?_) <;> try simp only [go_sem, *])
  exact jAb d (AgreeBut.set jA)
 ·have hd1 : decide ((n : Int) - (i : Int) > 0) = false := by simp; omega
  obtain rfl : i = n := by omega
  obtain ⟨c, j5⟩ := j5.val
  have e1 : (mkCtx l i a1).1 = gi := by rw [hp]
  have e2 : (mkCtx l i a1).2 = ai := by rw [hp]
  clear hp
  rw [e1, e2]
  clear e1 e2
  repeat' (first
   | exact agb (by assumption)
   | (first | refine wp rfl ?_ | refine spt rfl ?_ | refine spf rfl ?_ | (refine spl (fun hc => ?_) fun hc => ?_) <;> (try rw [beq_iff_eq] at hc) <;> try simp only [hc] | refine finT hrel hd ?_ ?_ ?_ ?_ ?_) <;> try simp only [go_sem, *])
end Go.Proofs.YtpnjamplciaopaaGreatDoor
