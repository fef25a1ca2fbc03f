/-
 Walks: types without functions and plain values out of the deck.
-/
import Derived.Test.YtenelbgbjmijiaaGreatDoorMc
import Derived.Test.YtenelbgbjmijiaaGreatDoorAbsDc
set_option linter.unusedSimpArgs false
set_option linter.unusedVariables false
set_option maxRecDepth 20000
set_option maxHeartbeats 4000000
namespace Go.Proofs.YtenelbgbjmijiaaGreatDoor
open Go GoAbs Go.Proofs
theorem c_Plain (l : List Int) (hl : l.length ≤ 1000) (a : Nat) : ∃ t a', PlainTy t ∧ ∀ d, Turns Tryz.prog env 115 [.ptr d 0] d (.box (deckC l a)) (.agg t.cells) (.box (deckC l a')) := by
 have hr := nextD_range (l := l) (a := a) (n := 6) (by omega) (by omega)
 have hX := c_Next l hl
 have ht := c_refTwo tNat tList tNat_W tList_W
 have ht2 := c_refTwo tNat tNat tNat_W tNat_W
 generalize hq : nextD l a 6 = q at hr
 obtain ⟨c, a1⟩ := q
 have hN : ∀ d, Turns Tryz.prog env 61 [.ptr d 0, .int .i64 6] d (.box (deckC l a)) (.int .i64 c) (.box (deckC l a1)) := fun d => by
  have := hX d a 6
  rw [hq] at this
  exact this
 clear hX hq hl
 simp only at hr
 obtain rfl | rfl | rfl | rfl | rfl | rfl : c = 0 ∨ c = 1 ∨ c = 2 ∨ c = 3 ∨ c = 4 ∨ c = 5 := by omega
 ·refine ⟨tNat, a1, .inl rfl, fun d h hd => ?_⟩
  clear ht ht2
  refine en Tryz.func115 [.cell 2 25] rfl rfl fun g0 w0 gen hrel hfr hfr' hres => ?_
  have f1 := fresh_ne hfr hd
  have f2 := fresh_ne' hfr hd
  repeat' (first
   |exact agb (by assumption)
   | (first|refine wp rfl ?_|refine spt rfl ?_|refine spf rfl ?_|(refine spl (fun hc => ?_) fun hc => ?_) <;> (try rw [beq_iff_eq] at hc) <;> try simp only [hc]|refine cp c_refNat ?_|(refine ct (hN _) ?_ ?_; focus ((simp only [go_sem, *] <;> rfl); done))|refine finT hrel hd ?_ ?_ ?_ ?_ ?_)<;>try simp only [go_sem, *])
 ·refine ⟨tNat, a1, .inl rfl, fun d h hd => ?_⟩
  clear ht ht2
  refine en Tryz.func115 [.cell 2 25] rfl rfl fun g0 w0 gen hrel hfr hfr' hres => ?_
  have f1 := fresh_ne hfr hd
  have f2 := fresh_ne' hfr hd
  repeat' (first
   |exact agb (by assumption)
   | (first|refine wp rfl ?_|refine spt rfl ?_|refine spf rfl ?_|(refine spl (fun hc => ?_) fun hc => ?_) <;> (try rw [beq_iff_eq] at hc) <;> try simp only [hc]|refine cp c_refNat ?_|(refine ct (hN _) ?_ ?_; focus ((simp only [go_sem, *] <;> rfl); done))|refine finT hrel hd ?_ ?_ ?_ ?_ ?_)<;>try simp only [go_sem, *])
 ·refine ⟨tList, a1, .inr (.inl rfl), fun d h hd => ?_⟩
  clear ht ht2
  refine en Tryz.func115 [.cell 2 25] rfl rfl fun g0 w0 gen hrel hfr hfr' hres => ?_
  have f1 := fresh_ne hfr hd
  have f2 := fresh_ne' hfr hd
  repeat' (first
   |exact agb (by assumption)
   | (first|refine wp rfl ?_|refine spt rfl ?_|refine spf rfl ?_|(refine spl (fun hc => ?_) fun hc => ?_) <;> (try rw [beq_iff_eq] at hc) <;> try simp only [hc]|refine cp c_refList ?_|(refine ct (hN _) ?_ ?_; focus ((simp only [go_sem, *] <;> rfl); done))|refine finT hrel hd ?_ ?_ ?_ ?_ ?_)<;>try simp only [go_sem, *])
 ·refine ⟨tUnit, a1, .inr (.inr (.inl rfl)), fun d h hd => ?_⟩
  clear ht ht2
  refine en Tryz.func115 [.cell 2 25] rfl rfl fun g0 w0 gen hrel hfr hfr' hres => ?_
  have f1 := fresh_ne hfr hd
  have f2 := fresh_ne' hfr hd
  repeat' (first
   |exact agb (by assumption)
   | (first|refine wp rfl ?_|refine spt rfl ?_|refine spf rfl ?_|(refine spl (fun hc => ?_) fun hc => ?_) <;> (try rw [beq_iff_eq] at hc) <;> try simp only [hc]|refine cp c_refUnit ?_|(refine ct (hN _) ?_ ?_; focus ((simp only [go_sem, *] <;> rfl); done))|refine finT hrel hd ?_ ?_ ?_ ?_ ?_)<;>try simp only [go_sem, *])
 ·refine ⟨tPair tNat tList, a1, .inr (.inr (.inr (.inl rfl))), fun d h hd => ?_⟩
  clear ht2
  refine en Tryz.func115 [.cell 2 25] rfl rfl fun g0 w0 gen hrel hfr hfr' hres => ?_
  have f1 := fresh_ne hfr hd
  have f2 := fresh_ne' hfr hd
  repeat' (first
   |exact agb (by assumption)
   | (first|refine wp rfl ?_|refine spt rfl ?_|refine spf rfl ?_|(refine spl (fun hc => ?_) fun hc => ?_) <;> (try rw [beq_iff_eq] at hc) <;> try simp only [hc]|refine cp c_refNat ?_|refine cp c_refList ?_|refine cp ht ?_|(refine ct (hN _) ?_ ?_; focus ((simp only [go_sem, *] <;> rfl); done))|refine finT hrel hd ?_ ?_ ?_ ?_ ?_)<;>try simp only [go_sem, *])
 ·refine ⟨tPair tNat tNat, a1, .inr (.inr (.inr (.inr rfl))), fun d h hd => ?_⟩
  clear ht
  refine en Tryz.func115 [.cell 2 25] rfl rfl fun g0 w0 gen hrel hfr hfr' hres => ?_
  have f1 := fresh_ne hfr hd
  have f2 := fresh_ne' hfr hd
  repeat' (first
   |exact agb (by assumption)
   | (first|refine wp rfl ?_|refine spt rfl ?_|refine spf rfl ?_|(refine spl (fun hc => ?_) fun hc => ?_) <;> (try rw [beq_iff_eq] at hc) <;> try simp only [hc]|refine cp c_refNat ?_|refine cp ht2 ?_|(refine ct (hN _) ?_ ?_; focus ((simp only [go_sem, *] <;> rfl); done))|refine finT hrel hd ?_ ?_ ?_ ?_ ?_)<;>try simp only [go_sem, *])
def ValM (l : List Int) (t : Ty) (n : Nat) : Prop := ∀ a, ∃ v tm a', IsVl t v tm ∧ tmSz tm ≤ n ∧ ∀ d, Turns Tryz.prog env 116 [.ptr d 0, .agg t.cells] d (.box (deckC l a)) (.agg v.cells) (.box (deckC l a'))
theorem c_ValueNat (l : List Int) (hl : l.length ≤ 1000) : ValM l tNat 5 := by
 intro a
 have hr := nextD_range (l := l) (a := a) (n := 5) (by omega) (by omega)
 have hX := c_Next l hl
 generalize hq : nextD l a 5 = q at hr
 obtain ⟨c, a1⟩ := q
 have hN : ∀ d, Turns Tryz.prog env 61 [.ptr d 0, .int .i64 5] d (.box (deckC l a)) (.int .i64 c) (.box (deckC l a1)) := fun d => by
  have := hX d a 5
  rw [hq] at this
  exact this
 clear hX hq hl
 simp only at hr
 obtain ⟨n, rfl⟩ : ∃ n : Nat, c = n := ⟨c.toNat, by omega⟩
 refine ⟨.mk 1 n [] [], numT n, a1, .num n, by rw [tmSz_num]; omega, fun d h hd => ?_⟩
 have ec : tNat.cells = [.int .i64 1, .sl .any []] := by rw [show tNat = Ty.mk 1 [] from rfl, Ty.cells_eq]; rfl
 rw [ec, PVl.mk_cells]
 clear hr
 refine en Tryz.func116 [.cell 4 80] rfl rfl fun g0 w0 gen hrel hfr hfr' hres => ?_
 have f1 := fresh_ne hfr hd
 have f2 := fresh_ne' hfr hd
 repeat' (first
  |(refine ⟨?_,?_⟩; focus ((repeat' (first|refine ⟨?_,?_⟩|refine .inr ?_)); all_goals kernel_rfl))
  |exact agb (by assumption)
  | (first|refine wp rfl ?_|refine spt rfl ?_|refine spf rfl ?_|(refine spl (fun hc => ?_) fun hc => ?_) <;> (try rw [beq_iff_eq] at hc) <;> try simp only [hc]|(refine ct (hN _) ?_ ?_; focus ((simp only [go_sem, *] <;> rfl); done))|refine finT hrel hd ?_ ?_ ?_ ?_ ?_)<;>try simp only [go_sem, *])
 rfl
theorem c_ValueUnit (l : List Int) (hl : l.length ≤ 1000) : ValM l tUnit 1 := by
 intro a
 refine ⟨.mk 4 0 [] [], tm0 13 [], a, .unit, by rw [tmSz_0]; omega, fun d h hd => ?_⟩
 have ec : tUnit.cells = [.int .i64 5, .sl .any []] := by rw [show tUnit = Ty.mk 5 [] from rfl, Ty.cells_eq]; rfl
 rw [ec, PVl.mk_cells]
 refine en Tryz.func116 [.cell 4 80] rfl rfl fun g0 w0 gen hrel hfr hfr' hres => ?_
 have f1 := fresh_ne hfr hd
 have f2 := fresh_ne' hfr hd
 repeat' (first
  |(refine ⟨?_,?_⟩; focus ((repeat' (first|refine ⟨?_,?_⟩|refine .inr ?_)); all_goals kernel_rfl))
  |exact agb (by assumption)
  | (first|refine wp rfl ?_|refine spt rfl ?_|refine spf rfl ?_|(refine spl (fun hc => ?_) fun hc => ?_) <;> (try rw [beq_iff_eq] at hc) <;> try simp only [hc]|refine finT hrel hd ?_ ?_ ?_ ?_ ?_)<;>try simp only [go_sem, *])
 rfl
theorem c_ValuePair (l : List Int) {s t : Ty} {m n : Nat} (h1 : ValM l s m) (h2 : ValM l t n) : ValM l (tPair s t) (m + n + 1) := by
 intro a
 obtain ⟨v1, m1, a1, i1, z1, T1⟩ := h1 a
 obtain ⟨v2, m2, a2, i2, z2, T2⟩ := h2 a1
 refine ⟨.mk 3 0 [] [v1, v2], tm0 10 [m1, m2], a2, .pair i1 i2, by rw [tmSz_2]; omega, fun d h hd => ?_⟩
 have ec : (tPair s t).cells = [.int .i64 3, .sl .any [s.cells, t.cells]] := by rw [show tPair s t = Ty.mk 3 [s, t] from rfl, Ty.cells_eq]; rfl
 rw [ec, PVl.mk_cells]
 simp only [List.map_cons, List.map_nil]
 clear h1 h2 i1 i2 z1 z2
 refine en Tryz.func116 [.cell 4 80] rfl rfl fun g0 w0 gen hrel hfr hfr' hres => ?_
 have f1 := fresh_ne hfr hd
 have f2 := fresh_ne' hfr hd
 repeat' (first
  |(refine ⟨?_,?_⟩; focus ((repeat' (first|refine ⟨?_,?_⟩|refine .inr ?_)); all_goals kernel_rfl))
  |exact agb (by assumption)
  | (first|refine wp rfl ?_|refine spt rfl ?_|refine spf rfl ?_|(refine spl (fun hc => ?_) fun hc => ?_) <;> (try rw [beq_iff_eq] at hc) <;> try simp only [hc]|(refine ct (T1 _) ?_ ?_; focus ((simp only [go_sem, *] <;> rfl); done))|(refine ct (T2 _) ?_ ?_; focus ((simp only [go_sem, *] <;> rfl); done))|refine finT hrel hd ?_ ?_ ?_ ?_ ?_)<;>try simp only [go_sem, *])
 rfl
theorem c_ValueList (l : List Int) (hl : l.length ≤ 1000) : ValM l tList 16 := by
 intro a
 have hr := nextD_range (l := l) (a := a) (n := 4) (by omega) (by omega)
 have hX := c_Next l hl
 generalize hq : nextD l a 4 = q at hr
 obtain ⟨c, a1⟩ := q
 have hN : ∀ d, Turns Tryz.prog env 61 [.ptr d 0, .int .i64 4] d (.box (deckC l a)) (.int .i64 c) (.box (deckC l a1)) := fun d => by
  have := hX d a 4
  rw [hq] at this
  exact this
 simp only at hr
 obtain ⟨n, rfl⟩ : ∃ n : Nat, c = n := ⟨c.toNat, by omega⟩
 obtain ⟨da, e0, e1⟩ : ∃ da : Nat → Nat, da 0 = a1 ∧ ∀ i, da (i + 1) = (nextD l (da i) 4).2 := ⟨fun i => Nat.rec a1 (fun _ y => (nextD l y 4).2) i, rfl, fun _ => rfl⟩
 obtain ⟨xs, hs⟩ : ∃ xs : Nat → Nat, ∀ i, xs i ≤ 3 ∧ ∀ d, Turns Tryz.prog env 61 [.ptr d 0, .int .i64 4] d (.box (deckC l (da i))) (.int .i64 (xs i : Nat)) (.box (deckC l (da (i + 1)))) := by
  refine ⟨fun i => (nextD l (da i) 4).1.toNat, fun i => ?_⟩
  have hr := nextD_range (l := l) (a := da i) (n := 4) (by omega) (by omega)
  have e2 : (((nextD l (da i) 4).1.toNat : Nat) : Int) = (nextD l (da i) 4).1 := by omega
  refine ⟨by simp only; omega, fun d => ?_⟩
  have := hX d (da i) 4
  simp only
  rw [e2, e1]
  exact this
 subst e0
 have hsz : ∀ m, lsz ((List.range m).map xs) ≤ 5 * m + 1 := by
  intro m
  induction m with
  | zero => simp [lsz]
  | succ m ih =>
   have h1 : ((List.range (m + 1)).map xs)[m]? = some (xs m) := by simp
   have h2 := lsz_take h1
   have h3 : ((List.range (m + 1)).map xs).take (m + 1) = (List.range (m + 1)).map xs := List.take_of_length_le (by simp)
   have h4 : ((List.range (m + 1)).map xs).take m = (List.range m).map xs := by rw [List.range_succ, List.map_append, List.take_left' (by simp)]
   rw [h3, h4] at h2
   have := (hs m).1
   omega
 refine ⟨.mk 2 0 (((List.range n).map xs).map fun (n : Nat) => (n : Int)) [], listT ((List.range n).map xs), da n, .list _, by rw [listT_sz]; have := hsz n; omega, fun d h hd => ?_⟩
 have ec : tList.cells = [.int .i64 2, .sl .any []] := by rw [show tList = Ty.mk 2 [] from rfl, Ty.cells_eq]; rfl
 have hin : ∀ m, ints (((List.range (m + 1)).map xs).map fun (n : Nat) => (n : Int)) = ints (((List.range m).map xs).map fun (n : Nat) => (n : Int)) ++ [[.int .i64 (xs m : Nat)]] := fun m => by
  rw [List.range_succ]; simp [ints]
 have hil : ∀ m, (ints (((List.range m).map xs).map fun (n : Nat) => (n : Int))).length = m := fun m => by rw [ints_len]; simp
 have hal : ∀ m, (ints (((List.range m).map xs).map fun (n : Nat) => (n : Int))).all (fun e => e.length == 1) = true := fun m => all_len_ints _
 have hwl : ∀ m, weakLL (ints (((List.range m).map xs).map fun (n : Nat) => (n : Int))) = ints (((List.range m).map xs).map fun (n : Nat) => (n : Int)) := fun m => weakLL_ints _
 have hII : ∀ m (S : GoAbs.Id → Prop), InLL S (ints (((List.range m).map xs).map fun (n : Nat) => (n : Int))) = True := fun m S => eq_true (InLL_ints _)
 have hi0 : ints (((List.range 0).map xs).map fun (n : Nat) => (n : Int)) = [] := rfl
 have hT := fun i => (hs i).2
 rw [ec, PVl.mk_cells]
 have hn3 : n ≤ 3 := by omega
 clear hX hq hl hsz hs e1 hr
 obtain ⟨L, hL⟩ : ∃ L : Nat → List (List V), L = fun m => ints (((List.range m).map xs).map fun (n : Nat) => (n : Int)) := ⟨_, rfl⟩
 have hL' : ∀ m, ints (((List.range m).map xs).map fun (n : Nat) => (n : Int)) = L m := fun m => by rw [hL]
 simp only [hL'] at hin hil hal hi0 hwl hII ⊢
 clear hL hL'
 refine en Tryz.func116 [.cell 4 80] rfl rfl fun g0 w0 gen hrel hfr hfr' hres => ?_
 have f1 := fresh_ne hfr hd
 have f2 := fresh_ne' hfr hd
 repeat' (first
  |(refine ⟨?_,?_⟩; focus ((repeat' (first|refine ⟨?_,?_⟩|refine .inr ?_)); all_goals kernel_rfl))
  | (first|refine wp rfl ?_|refine spt rfl ?_|refine spf rfl ?_|(refine spl (fun hc => ?_) fun hc => ?_) <;> (try rw [beq_iff_eq] at hc) <;> try simp only [hc]|(refine ct (hN _) ?_ ?_; focus ((simp only [go_sem, *] <;> rfl); done)))<;>try simp only [go_sem, *])
 clear hN
 refine AR_loop_nat (fun i σ => σ.tm 0 = .ptr d 0 ∧ σ.tm 4 = .ptr ⟨gen, 0, 1⟩ 0 ∧ σ.tm 5 = .ptr ⟨gen, 5, 1⟩ 0 ∧ σ.tm 6 = .int .i64 ((n - i : Nat) : Int) ∧ AgreeBut d h σ.h ∧ σ.h d = some (.box (deckC l (da i))) ∧
  σ.h ⟨gen, 0, 1⟩ = some (.box [.int .i64 0, .int .i64 0, .sl .full [], .sl .full []]) ∧
  ∃ v, σ.h ⟨gen, 5, 1⟩ = some (.box [.int .i64 2, .int .i64 0, v, .sl .full []]) ∧ OwnS h σ.h v 1 (L i)) n ?_ ?_
 ·simp only [go_sem, *]
  exact ⟨by simp, by repeat (first|exact AgreeBut.refl _ _|refine AgreeBut.new ?_ (hfr' _ _)|refine AgreeBut.set ?_), _, rfl, .inl rfl⟩
 intro i σ hi ⟨j0, j4, j5, j6, jA, jd, jb1, v, jb2, jO0⟩
 refine AR_gen2 (fun gn hgl hgn => ?_)
 have hgf := fresh_of hgn
 have hgf0 := agreeBut_fresh' hd jA hgf (fun r i e => by have := hfr d (by rw [hd]; simp); rw [e] at this; simp at this; omega)
 have eg1 := gen_lt hgl
 have eg2 := gen_lt' hgl
 have fd := fresh_ne2 hfr hd hgl
 have fe := fresh_ne2' hfr hd hgl
 clear hgn
 rcases Nat.lt_or_ge i n with hlt | hge
 ·have hdec : decide (((n - i : Nat) : Int) > 0) = true := by simp; omega
  have hw : IntKind.i64.wrap (((n - i : Nat) : Int) - 1) = ((n - (i + 1) : Nat) : Int) := wrap_eq (by omega) (by omega) (by omega)
  have hn4 : n < 4 := by omega
  have hT0 := hT i
  have hse := hin i
  have hel := hil i
  have hal0 := hal i
  clear hT hin hil hal hi0 hwl hII
  generalize L (i + 1) = L1 at *
  generalize L i = L0 at *
  repeat' (first
   |(refine ⟨?_,?_⟩; focus ((repeat' (first|refine ⟨?_,?_⟩|refine .inr ?_)); all_goals kernel_rfl))
   |(refine okE_app_ownd jO0 (by repeat (first|exact Keeps.refl _|refine Keeps.new ?_ (hgf _ _)|refine Keeps.new ?_ (hfr' _ _)|refine Keeps.box ?_ rfl|refine Keeps.box ?_ (by simp only [go_sem, *]))) rfl (by simp only [go_sem, *] <;> omega) (by first|exact hgf0 _ _|exact hfr' _ _) (by simp only [go_sem, *]) (by intro hd e; simp only [logOk_cons, logOk_nil, and_true]; repeat (first|exact trivial|refine ⟨.inr (by kernel_rfl), ?_⟩|exact .inr (by kernel_rfl))) ?_; intro v' h' id' jO jK jAg jAb jF; obtain ⟨cO, rfl⟩ := jO.val; simp only [go_sem, *])
   | (first|refine wp rfl ?_|refine spt rfl ?_|refine spf rfl ?_|(refine spl (fun hc => ?_) fun hc => ?_) <;> (try rw [beq_iff_eq] at hc) <;> try simp only [hc]|(refine ct (hT0 _) ?_ ?_; focus ((simp only [go_sem, *] <;> rfl); done))|refine AR_inv ?_)<;>try simp only [go_sem, *])
  exact ⟨AgreeBut.new (jAb d (by repeat (first|exact jA|refine AgreeBut.new ?_ (hgf0 _ _)|refine AgreeBut.set ?_))) (hfr' _ _), _, rfl, jO.keep (Keeps.box (Keeps.refl _) (by simp only [go_sem, *]))⟩
 ·obtain rfl : i = n := by omega
  have hdec : decide (((i - i : Nat) : Int) > 0) = false := by simp
  obtain ⟨cO, rfl⟩ := jO0.val
  have hw1 := hwl i
  have hI1 := hII i
  clear hT hin hil hal hi0 hwl hII
  generalize L i = L0 at *
  repeat' (first
   |(refine ⟨?_,?_⟩; focus ((repeat' (first|refine ⟨?_,?_⟩|refine .inr ?_)); all_goals kernel_rfl))
   |exact agb (by assumption)
   | (first|refine wp rfl ?_|refine spt rfl ?_|refine spf rfl ?_|(refine spl (fun hc => ?_) fun hc => ?_) <;> (try rw [beq_iff_eq] at hc) <;> try simp only [hc]|refine finT hrel hd ?_ ?_ ?_ ?_ ?_)<;>try simp only [go_sem, *])
end Go.Proofs.YtenelbgbjmijiaaGreatDoor
