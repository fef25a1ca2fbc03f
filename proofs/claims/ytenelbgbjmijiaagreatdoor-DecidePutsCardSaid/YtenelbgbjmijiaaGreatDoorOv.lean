/-
 Walks: a decidable formula with types without functions and values of them out of the deck.
-/
import Derived.Test.YtenelbgbjmijiaaGreatDoorOu
import Derived.Test.YtenelbgbjmijiaaGreatDoorGl
set_option linter.unusedSimpArgs false
set_option linter.unusedVariables false
set_option maxRecDepth 20000
set_option maxHeartbeats 4000000
namespace Go.Proofs.YtenelbgbjmijiaaGreatDoor
open Go GoAbs Go.Proofs
theorem c_Value (l : List Int) (hl : l.length ≤ 1000) {t : Ty} (h : PlainTy t) (a : Nat) :
  ∃ v tm a', IsVl t v tm ∧ tmSz tm ≤ 22 ∧ ∀ d, Turns Tryz.prog env 116 [.ptr d 0, .agg t.cells] d (.box (deckC l a)) (.agg v.cells) (.box (deckC l a')) := by
 have up : ∀ n, n ≤ 22 → ValM l t n → ∃ v tm a', IsVl t v tm ∧ tmSz tm ≤ 22 ∧ ∀ d, Turns Tryz.prog env 116 [.ptr d 0, .agg t.cells] d (.box (deckC l a)) (.agg v.cells) (.box (deckC l a')) := by
  intro n hn hv
  obtain ⟨v, tm, a', h1, h2, h3⟩ := hv a
  exact ⟨v, tm, a', h1, by omega, h3⟩
 rcases h with rfl | rfl | rfl | rfl | rfl
 ·exact up _ (by omega) (c_ValueNat l hl)
 ·exact up _ (by omega) (c_ValueList l hl)
 ·exact up _ (by omega) (c_ValueUnit l hl)
 ·exact up _ (by omega) (c_ValuePair l (c_ValueNat l hl) (c_ValueList l hl))
 ·exact up _ (by omega) (c_ValuePair l (c_ValueNat l hl) (c_ValueNat l hl))
theorem c_worldN (l : List Int) {a n a1 a2 a3 a4 a5 a6 : Nat} (hn : n ≤ 2) {s1 s2 : Ty} {v1 v2 : PVl} {f : Fm} {D : Nat → Nat} {G : Nat → List Ty} {W : Nat → List PVl}
  (d0 : D 0 = a1) (d1 : D 1 = a3) (d2 : D 2 = a5) (g0' : G 0 = []) (g1 : G 1 = [s1]) (g2 : G 2 = [s1, s2]) (w0' : W 0 = []) (w1 : W 1 = [v1]) (w2 : W 2 = [v1, v2])
  (hN : ∀ d, Turns Tryz.prog env 61 [.ptr d 0, .int .i64 3] d (.box (deckC l a)) (.int .i64 n) (.box (deckC l a1)))
  (P1 : ∀ d, Turns Tryz.prog env 115 [.ptr d 0] d (.box (deckC l a1)) (.agg s1.cells) (.box (deckC l a2)))
  (V1 : ∀ d, Turns Tryz.prog env 116 [.ptr d 0, .agg s1.cells] d (.box (deckC l a2)) (.agg v1.cells) (.box (deckC l a3)))
  (P2 : ∀ d, Turns Tryz.prog env 115 [.ptr d 0] d (.box (deckC l a3)) (.agg s2.cells) (.box (deckC l a4)))
  (V2 : ∀ d, Turns Tryz.prog env 116 [.ptr d 0, .agg s2.cells] d (.box (deckC l a4)) (.agg v2.cells) (.box (deckC l a5)))
  (Tf : ∀ d, Turns Tryz.prog env 16 [.ptr d 0, .sl .any ((G n).map Ty.cells), .int .i64 2] d (.box (deckC l (D n))) (.agg f.cells) (.box (deckC l a6))) :
  ∀ d, Turns Tryz.prog env 55 [.ptr d 0] d (.box (deckC l a)) (.tup [.sl .any ((G n).map Ty.cells), .agg f.cells, .sl .any ((W n).map PVl.cells)]) (.box (deckC l a6)) := by
 intro d h hd
 refine en Tryz.func55 [.tmp 2, .cell 3 29, .tmp 4] rfl rfl fun g0 w0 gen hrel hfr hfr' hres => ?_
 have f1 := fresh_ne hfr hd
 have f2 := fresh_ne' hfr hd
 repeat' (first
  |(refine ⟨?_,?_⟩; focus ((repeat' (first|refine ⟨?_,?_⟩|refine .inr ?_)); all_goals kernel_rfl))
  | (first|refine wp rfl ?_|refine spt rfl ?_|refine spf rfl ?_|(refine spl (fun hc => ?_) fun hc => ?_) <;> (try rw [beq_iff_eq] at hc) <;> try simp only [hc]|(refine ct (hN _) ?_ ?_; focus ((simp only [go_sem, *] <;> rfl); done)))<;>try simp only [go_sem, *])
 clear hN
 refine AR_loop_nat (fun i σ => σ.tm 0 = .ptr d 0 ∧ σ.tm 3 = .ptr ⟨gen, 0, 1⟩ 0 ∧ σ.tm 7 = .int .i64 ((n - i : Nat) : Int) ∧ AgreeBut d h σ.h ∧ σ.h d = some (.box (deckC l (D i))) ∧
  σ.h ⟨gen, 0, 1⟩ = some (.box [.int .i64 0, .int .i64 0, .sl .full [], .sl .full [], .sl .full []]) ∧
  ((i = 0 ∧ σ.tm 5 = .sl .full [] ∧ σ.tm 6 = .sl .full []) ∨ ∃ ida idb, i ≠ 0 ∧ σ.tm 5 = .sl (.own ida) ((G i).map Ty.cells) ∧ σ.tm 6 = .sl (.own idb) ((W i).map PVl.cells) ∧
   σ.h ida = some (.tok i 2) ∧ σ.h idb = some (.tok i 4) ∧ h ida = none ∧ h idb = none)) n ?_ ?_
 ·simp only [go_sem, *]
  exact ⟨by simp, by repeat (first|exact AgreeBut.refl _ _|refine AgreeBut.new ?_ (hfr' _ _)|refine AgreeBut.set ?_)⟩
 intro i σ hi ⟨j0, j3, j7, jA, jd, jb, jr⟩
 refine AR_gen2 (fun gn hgl hgn => ?_)
 have hgf := fresh_of hgn
 have hgf0 := agreeBut_fresh' hd jA hgf (fun r i e => by have := hfr d (by rw [hd]; simp); rw [e] at this; simp at this; omega)
 have eg1 := gen_lt hgl
 have eg2 := gen_lt' hgl
 have fd := fresh_ne2 hfr hd hgl
 have fe := fresh_ne2' hfr hd hgl
 clear hgn
 rcases Nat.lt_or_ge i n with hlt | hge
 ·have hdec : decide (((n - i : Nat) : Int) > 0) = true := by simp; omega
  have hw : IntKind.i64.wrap (((n - i : Nat) : Int) - 1) = ((n - (i + 1) : Nat) : Int) := wrap_eq (by omega) (by omega) (by omega)
  rcases jr with ⟨rfl, j5, j6⟩ | ⟨ida, idb, hi0, j5, j6, ta, tb, na, nb⟩
  ·rw [d0] at jd
   clear P2 V2 Tf d2 g2 w2
   repeat' (first
    |(refine ⟨?_,?_⟩; focus ((repeat' (first|refine ⟨?_,?_⟩|refine .inr ?_)); all_goals kernel_rfl))
    | (first|refine wp rfl ?_|refine spt rfl ?_|refine spf rfl ?_|(refine spl (fun hc => ?_) fun hc => ?_) <;> (try rw [beq_iff_eq] at hc) <;> try simp only [hc]|(refine ct (P1 _) ?_ ?_; focus ((simp only [go_sem, *] <;> rfl); done))|(refine ct (V1 _) ?_ ?_; focus ((simp only [go_sem, *] <;> rfl); done))|refine AR_inv ?_)<;>try simp only [go_sem, *])
   refine ⟨by repeat (first|exact jA|refine AgreeBut.new ?_ (hgf0 _ _)|refine AgreeBut.set ?_), ⟨gn, 7, 3⟩, ⟨gn, 7, 9⟩, ?_⟩
   simp only [go_sem, *]
  ·obtain rfl : i = 1 := by omega
   rw [d1] at jd
   rw [g1] at j5
   rw [w1] at j6
   have fa : ∀ r i, (ida = (⟨gn, r, i⟩ : GoAbs.Id)) = False := fun r i => by simp; intro e; rw [e, hgf] at ta; cases ta
   have fb : ∀ r i, (idb = (⟨gn, r, i⟩ : GoAbs.Id)) = False := fun r i => by simp; intro e; rw [e, hgf] at tb; cases tb
   have da : (ida = d) = False := by simp; intro e; rw [e, hd] at na; cases na
   have db : (idb = d) = False := by simp; intro e; rw [e, hd] at nb; cases nb
   have fab : (ida = idb) = False := by simp; intro e; rw [e, tb] at ta; simp at ta
   have fba : (idb = ida) = False := by simp; intro e; rw [e, ta] at tb; simp at tb
   have fa' : ∀ r i, ((⟨gn, r, i⟩ : GoAbs.Id) = ida) = False := fun r i => eq_false fun e => of_eq_false (fa r i) e.symm
   have fb' : ∀ r i, ((⟨gn, r, i⟩ : GoAbs.Id) = idb) = False := fun r i => eq_false fun e => of_eq_false (fb r i) e.symm
   have da' : (d = ida) = False := eq_false fun e => of_eq_false da e.symm
   have db' : (d = idb) = False := eq_false fun e => of_eq_false db e.symm
   have ga : ((⟨gen, 0, 1⟩ : GoAbs.Id) = ida) = False := by simp; intro e; rw [← e, jb] at ta; simp at ta
   have gb : ((⟨gen, 0, 1⟩ : GoAbs.Id) = idb) = False := by simp; intro e; rw [← e, jb] at tb; simp at tb
   simp only [List.map_cons, List.map_nil] at j5 j6
   clear P1 V1 Tf d0 d1 g0' g1 w0' w1
   repeat' (first
    |(refine ⟨?_,?_⟩; focus ((repeat' (first|refine ⟨?_,?_⟩|refine .inr ?_)); all_goals kernel_rfl))
    | (first|refine wp rfl ?_|refine spt rfl ?_|refine spf rfl ?_|(refine spl (fun hc => ?_) fun hc => ?_) <;> (try rw [beq_iff_eq] at hc) <;> try simp only [hc]|(refine ct (P2 _) ?_ ?_; focus ((simp only [go_sem, *] <;> rfl); done))|(refine ct (V2 _) ?_ ?_; focus ((simp only [go_sem, *] <;> rfl); done))|refine AR_inv ?_)<;>try simp only [go_sem, *])
   refine ⟨by repeat (first|exact jA|refine AgreeBut.new ?_ (hgf0 _ _)|refine AgreeBut.new ?_ na|refine AgreeBut.new ?_ nb|refine AgreeBut.set ?_), ida, idb, ?_⟩
   simp only [go_sem, *]
 ·obtain rfl : i = n := by omega
  have hdec : decide (((i - i : Nat) : Int) > 0) = false := by simp
  have hv : ∃ ca cb, σ.tm 5 = .sl ca ((G i).map Ty.cells) ∧ σ.tm 6 = .sl cb ((W i).map PVl.cells) := by
   rcases jr with ⟨rfl, j5, j6⟩ | ⟨ida, idb, hi0, j5, j6, _⟩
   ·exact ⟨_, _, by rw [g0']; exact j5, by rw [w0']; exact j6⟩
   ·exact ⟨_, _, j5, j6⟩
  obtain ⟨ca, cb, j5, j6⟩ := hv
  have hwg := weakLL_Ty (G i)
  have hwv := weakLL_PVl (W i)
  clear P1 V1 P2 V2 jr d0 d1 d2 g0' g1 g2 w0' w1 w2
  generalize D i = di at *
  repeat' (first
   |(refine ⟨?_,?_⟩; focus ((repeat' (first|refine ⟨?_,?_⟩|refine .inr ?_)); all_goals kernel_rfl))
   |exact agb (by assumption)
   | (first|refine wp rfl ?_|refine spt rfl ?_|refine spf rfl ?_|(refine spl (fun hc => ?_) fun hc => ?_) <;> (try rw [beq_iff_eq] at hc) <;> try simp only [hc]|(refine ct (Tf _) ?_ ?_; focus ((simp only [go_sem, *] <;> rfl); done))|refine finT hrel hd ?_ ?_ ?_ ?_ ?_)<;>try simp only [go_sem, *])
end Go.Proofs.YtenelbgbjmijiaaGreatDoor
