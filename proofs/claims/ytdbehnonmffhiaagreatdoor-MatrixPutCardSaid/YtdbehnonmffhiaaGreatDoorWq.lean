/-
  Walks: closed programs; the deck; types out of the deck.
-/
import Derived.Test.YtdbehnonmffhiaaGreatDoorWp
import Derived.Test.YtdbehnonmffhiaaGreatDoorAbsC
set_option linter.unusedSimpArgs false
set_option linter.unusedVariables false
set_option maxRecDepth 20000
set_option maxHeartbeats 4000000
namespace Go.Proofs.YtdbehnonmffhiaaGreatDoor
open Go GoAbs Go.Proofs

theorem c_lam (t : Tm) (ht : TmW t) : Pure Tryz.prog env 63 [.agg t.cells] (.agg (lamN t).cells) := by
  intro h
  have h1 := c_T 2 tNat [t] tNat_W (by simp) (by simp [ht])
  simp only [List.map_cons, List.map_nil] at h1
  refine enter Tryz.func63 [.cell 2 37] rfl (by kernel_rfl) follows (by kernel_rfl) rfl fun g0 w0 gen hrel hfr hfr' hres => ?_
  repeat' (first
    | (refine ⟨?_, ?_⟩; focus ((repeat' (first | refine And.intro ?_ ?_ | refine Or.inr ?_)); all_goals kernel_rfl))
    | exact hin _ | exact agf (by assumption)
    | (first | refine wp rfl ?_ | refine Call1_pure (c_refNat) ?_ | refine Call1_pure (h1) ?_ | refine finF hrel ?_ ?_ ?_) <;> try simp only [go_sem, *])
  rfl

theorem c_rec (b f n : Tm) (hb : TmW b) (hf : TmW f) (hn : TmW n) : Pure Tryz.prog env 64 [.agg b.cells, .agg f.cells, .agg n.cells] (.agg (recN b f n).cells) := by
  intro h
  have h1 := c_T 6 tNat [b, f, n] tNat_W (by simp) (by simp [hb, hf, hn])
  simp only [List.map_cons, List.map_nil] at h1
  refine enter Tryz.func64 [.cell 6 37] rfl (by kernel_rfl) follows (by kernel_rfl) rfl fun g0 w0 gen hrel hfr hfr' hres => ?_
  repeat' (first
    | (refine ⟨?_, ?_⟩; focus ((repeat' (first | refine And.intro ?_ ?_ | refine Or.inr ?_)); all_goals kernel_rfl))
    | exact hin _ | exact agf (by assumption)
    | (first | refine wp rfl ?_ | refine Call1_pure (c_refNat) ?_ | refine Call1_pure (h1) ?_ | refine finF hrel ?_ ?_ ?_) <;> try simp only [go_sem, *])
  rfl

theorem c_Pred : Pure Tryz.prog env 65 [] (.agg predT.cells) := by
  intro h
  have h1 := c_N 4 [] (by simp) (by simp)
  simp only [List.map_nil] at h1
  refine enter Tryz.func65 [.cell 0 37] rfl (by kernel_rfl) follows (by kernel_rfl) rfl fun g0 w0 gen hrel hfr hfr' hres => ?_
  repeat' (first
    | exact hin _ | exact agf (by assumption)
    | (first | refine wp rfl ?_ | refine Call1_pure (h1) ?_ | refine Call1_pure (c_Var _) ?_ | refine Call1_pure (c_lam _ (by repeat (first | assumption | exact tmVar_W _ | exact tm0_W0 | exact predT_W | exact plusT_W | exact subT_W | refine tm0_W1 ?_ | refine tm0_W2 ?_ ?_ | refine tm0_W3 ?_ ?_ ?_ | refine lamN_W ?_ | refine recN_W ?_ ?_ ?_))) ?_ | refine Call1_pure (c_rec _ _ _ (by repeat (first | assumption | exact tmVar_W _ | exact tm0_W0 | exact predT_W | exact plusT_W | exact subT_W | refine tm0_W1 ?_ | refine tm0_W2 ?_ ?_ | refine tm0_W3 ?_ ?_ ?_ | refine lamN_W ?_ | refine recN_W ?_ ?_ ?_)) (by repeat (first | assumption | exact tmVar_W _ | exact tm0_W0 | exact predT_W | exact plusT_W | exact subT_W | refine tm0_W1 ?_ | refine tm0_W2 ?_ ?_ | refine tm0_W3 ?_ ?_ ?_ | refine lamN_W ?_ | refine recN_W ?_ ?_ ?_)) (by repeat (first | assumption | exact tmVar_W _ | exact tm0_W0 | exact predT_W | exact plusT_W | exact subT_W | refine tm0_W1 ?_ | refine tm0_W2 ?_ ?_ | refine tm0_W3 ?_ ?_ ?_ | refine lamN_W ?_ | refine recN_W ?_ ?_ ?_))) ?_ | refine finF hrel ?_ ?_ ?_) <;> try simp only [go_sem, *])
  rfl

theorem c_Plus : Pure Tryz.prog env 32 [] (.agg plusT.cells) := by
  intro h
  have h1 := c_N 5 [tmVar 0] (by simp) (by simp [tmVar_W])
  simp only [List.map_cons, List.map_nil] at h1
  refine enter Tryz.func32 [.cell 0 37] rfl (by kernel_rfl) follows (by kernel_rfl) rfl fun g0 w0 gen hrel hfr hfr' hres => ?_
  repeat' (first
    | exact hin _ | exact agf (by assumption)
    | (first | refine wp rfl ?_ | refine Call1_pure (h1) ?_ | refine Call1_pure (c_Var _) ?_ | refine Call1_pure (c_lam _ (by repeat (first | assumption | exact tmVar_W _ | exact tm0_W0 | exact predT_W | exact plusT_W | exact subT_W | refine tm0_W1 ?_ | refine tm0_W2 ?_ ?_ | refine tm0_W3 ?_ ?_ ?_ | refine lamN_W ?_ | refine recN_W ?_ ?_ ?_))) ?_ | refine Call1_pure (c_rec _ _ _ (by repeat (first | assumption | exact tmVar_W _ | exact tm0_W0 | exact predT_W | exact plusT_W | exact subT_W | refine tm0_W1 ?_ | refine tm0_W2 ?_ ?_ | refine tm0_W3 ?_ ?_ ?_ | refine lamN_W ?_ | refine recN_W ?_ ?_ ?_)) (by repeat (first | assumption | exact tmVar_W _ | exact tm0_W0 | exact predT_W | exact plusT_W | exact subT_W | refine tm0_W1 ?_ | refine tm0_W2 ?_ ?_ | refine tm0_W3 ?_ ?_ ?_ | refine lamN_W ?_ | refine recN_W ?_ ?_ ?_)) (by repeat (first | assumption | exact tmVar_W _ | exact tm0_W0 | exact predT_W | exact plusT_W | exact subT_W | refine tm0_W1 ?_ | refine tm0_W2 ?_ ?_ | refine tm0_W3 ?_ ?_ ?_ | refine lamN_W ?_ | refine recN_W ?_ ?_ ?_))) ?_ | refine finF hrel ?_ ?_ ?_) <;> try simp only [go_sem, *])
  rfl

theorem c_Sub : Pure Tryz.prog env 33 [] (.agg subT.cells) := by
  intro h
  have h1 := c_N 3 [predT, tmVar 0] (by simp) (by simp [tmVar_W, predT_W])
  simp only [List.map_cons, List.map_nil] at h1
  refine enter Tryz.func33 [.cell 0 37] rfl (by kernel_rfl) follows (by kernel_rfl) rfl fun g0 w0 gen hrel hfr hfr' hres => ?_
  repeat' (first
    | exact hin _ | exact agf (by assumption)
    | (first | refine wp rfl ?_ | refine Call1_pure (h1) ?_ | refine Call1_pure (c_Pred) ?_ | refine Call1_pure (c_Var _) ?_ | refine Call1_pure (c_lam _ (by repeat (first | assumption | exact tmVar_W _ | exact tm0_W0 | exact predT_W | exact plusT_W | exact subT_W | refine tm0_W1 ?_ | refine tm0_W2 ?_ ?_ | refine tm0_W3 ?_ ?_ ?_ | refine lamN_W ?_ | refine recN_W ?_ ?_ ?_))) ?_ | refine Call1_pure (c_rec _ _ _ (by repeat (first | assumption | exact tmVar_W _ | exact tm0_W0 | exact predT_W | exact plusT_W | exact subT_W | refine tm0_W1 ?_ | refine tm0_W2 ?_ ?_ | refine tm0_W3 ?_ ?_ ?_ | refine lamN_W ?_ | refine recN_W ?_ ?_ ?_)) (by repeat (first | assumption | exact tmVar_W _ | exact tm0_W0 | exact predT_W | exact plusT_W | exact subT_W | refine tm0_W1 ?_ | refine tm0_W2 ?_ ?_ | refine tm0_W3 ?_ ?_ ?_ | refine lamN_W ?_ | refine recN_W ?_ ?_ ?_)) (by repeat (first | assumption | exact tmVar_W _ | exact tm0_W0 | exact predT_W | exact plusT_W | exact subT_W | refine tm0_W1 ?_ | refine tm0_W2 ?_ ?_ | refine tm0_W3 ?_ ?_ ?_ | refine lamN_W ?_ | refine recN_W ?_ ?_ ?_))) ?_ | refine finF hrel ?_ ?_ ?_) <;> try simp only [go_sem, *])
  rfl

theorem c_New (l : List Int) : News Tryz.prog env 6 [.sl .any (ints l)] (deckC l 0) := by
  intro h id hid
  refine enter Tryz.func6 [.tmp 2] rfl (by kernel_rfl) follows (by kernel_rfl) rfl fun g0 w0 gen hrel hfr hfr' hres => ?_
  repeat' (first
    | exact hin _ | exact agf (by assumption)
    | (first | refine wp rfl ?_ | refine finF hrel ?_ ?_ ?_) <;> try simp only [go_sem, *])
  refine AR_new hrel hid rfl (by simp only [go_sem, *]; rfl) (hfr' _ _) (by simp only [deckC, go_sem, *]) (by repeat (first | exact Agree.refl _ | refine Agree.new ?_ (hfr' _ _)))

theorem c_Next (l : List Int) (hl : l.length ≤ 1000) (d : GoAbs.Id) (a : Nat) (n : Int) :
    Turns Tryz.prog env 16 [.ptr d 0, .int .i64 n] d (.box (deckC l a)) (.int .i64 (nextD l a n).1) (.box (deckC l (nextD l a n).2)) := by
  intro h hd
  unfold deckC at hd ⊢
  cases hn : decide (n < 1) with
  | true =>
    have hv : nextD l a n = (0, a) := by simp at hn; simp [nextD, hn]
    rw [hv]
    refine enter Tryz.func16 [.tmp 4] rfl (by kernel_rfl) follows (by kernel_rfl) rfl fun g0 w0 gen hrel hfr hfr' hres => ?_
    have f1 := fresh_ne hfr hd
    have f2 := fresh_ne' hfr hd
    repeat' (first
      | (refine ⟨?_, ?_⟩; focus ((repeat' (first | refine And.intro ?_ ?_ | refine Or.inr ?_)); all_goals kernel_rfl))
      | exact agb (by assumption)
      | (first | refine wp rfl ?_ | refine spt rfl ?_ | refine spf rfl ?_ | (refine spl (fun hc => ?_) fun hc => ?_) <;> (try rw [beq_iff_eq] at hc) <;> try simp only [hc] | (refine guarded_split (fun hb => ?_) fun hb => ?_) <;> try simp only [Bool.not_true, Bool.not_false] at hb | refine finT hrel hd ?_ ?_ ?_ ?_ ?_) <;> try simp only [go_sem, *])
  | false =>
    cases hm : decide ((a : Int) ≥ (l.length : Int)) with
    | true =>
      have hv : nextD l a n = (0, a) := by simp at hm; simp [nextD, hm]
      rw [hv]
      refine enter Tryz.func16 [.tmp 4] rfl (by kernel_rfl) follows (by kernel_rfl) rfl fun g0 w0 gen hrel hfr hfr' hres => ?_
      have f1 := fresh_ne hfr hd
      have f2 := fresh_ne' hfr hd
      repeat' (first
        | (refine ⟨?_, ?_⟩; focus ((repeat' (first | refine And.intro ?_ ?_ | refine Or.inr ?_)); all_goals kernel_rfl))
        | exact agb (by assumption)
        | (first | refine wp rfl ?_ | refine spt rfl ?_ | refine spf rfl ?_ | (refine spl (fun hc => ?_) fun hc => ?_) <;> (try rw [beq_iff_eq] at hc) <;> try simp only [hc] | (refine guarded_split (fun hb => ?_) fun hb => ?_) <;> try simp only [Bool.not_true, Bool.not_false] at hb | refine finT hrel hd ?_ ?_ ?_ ?_ ?_) <;> try simp only [go_sem, *])
    | false =>
      simp at hn hm
      obtain ⟨x, hx⟩ : ∃ x, l[a]? = some x := ⟨_, List.getElem?_eq_getElem hm⟩
      have hv : nextD l a n = (modI x n, a + 1) := by
        have : ¬ (n < 1 ∨ l.length ≤ a) := by omega
        simp [nextD, this, hx]
      have h1 := c_Mod x n (by omega)
      have hw := wrap_succ (i := a) (by omega)
      have hix : (ints l)[a]? = some [.int .i64 x] := by rw [ints_get, hx]; rfl
      have hn' : decide (n < 1) = false := by simp; omega
      have hm' : decide ((a : Int) ≥ (l.length : Int)) = false := by simp; omega
      rw [hv]
      clear hn hm
      refine enter Tryz.func16 [.tmp 4] rfl (by kernel_rfl) follows (by kernel_rfl) rfl fun g0 w0 gen hrel hfr hfr' hres => ?_
      have f1 := fresh_ne hfr hd
      have f2 := fresh_ne' hfr hd
      repeat' (first
        | (refine ⟨?_, ?_⟩; focus ((repeat' (first | refine And.intro ?_ ?_ | refine Or.inr ?_)); all_goals kernel_rfl))
        | exact agb (by assumption)
        | (first | refine wp rfl ?_ | refine spt rfl ?_ | refine spf rfl ?_ | (refine spl (fun hc => ?_) fun hc => ?_) <;> (try rw [beq_iff_eq] at hc) <;> try simp only [hc] | (refine guarded_split (fun hb => ?_) fun hb => ?_) <;> try simp only [Bool.not_true, Bool.not_false] at hb | refine Call1_pure (h1) ?_ | refine finT hrel hd ?_ ?_ ?_ ?_ ?_) <;> try simp only [go_sem, *])

theorem c_Type (l : List Int) (hl : l.length ≤ 1000) (d : GoAbs.Id) : ∀ (n : Nat), n ≤ 1000 → ∀ a : Nat,
    Turns Tryz.prog env 17 [.ptr d 0, .int .i64 n] d (.box (deckC l a)) (.agg (mkType l n a).1.cells) (.box (deckC l (mkType l n a).2)) := by
  intro n
  induction n with
  | zero =>
    intro _ a h hd
    have hz : decide (((0 : Nat) : Int) > 0) = false := rfl
    rcases kinds7 (nextD l a 7).1 with hk | hk | hk | hk | hk | hk | hk | hk
    all_goals
      simp only [mkType, hk, Int.reduceBEq, if_true, Bool.false_eq_true, if_false]
      refine enter Tryz.func17 [.cell 4 30] rfl (by kernel_rfl) follows (by kernel_rfl) rfl fun g0 w0 gen hrel hfr hfr' hres => ?_
      have f1 := fresh_ne hfr hd
      have f2 := fresh_ne' hfr hd
      repeat' (first
        | exact agb (by assumption)
        | (first | refine wp rfl ?_ | refine spt rfl ?_ | refine spf rfl ?_ | (refine spl (fun hc => ?_) fun hc => ?_) <;> (try rw [beq_iff_eq] at hc) <;> try simp only [hc] | refine Call1_pure (c_refNat) ?_ | refine Call1_pure (c_refList) ?_ | refine Call1_pure (c_refUnit) ?_ | refine Call1_turn (c_Next l hl d _ _) (by simp only [go_sem, *] <;> rfl) ?_ | refine finT hrel hd ?_ ?_ ?_ ?_ ?_) <;> try simp only [go_sem, *])
  | succ n ih =>
    intro hn a h hd
    have ih' := ih (by omega)
    have hz : decide (((n + 1 : Nat) : Int) > 0) = true := by simp <;> omega
    have hw : IntKind.i64.wrap (((n + 1 : Nat) : Int) - 1) = (n : Int) := wrap_eq (by omega) (by omega) (by omega)
    clear ih
    rcases kinds7 (nextD l a 7).1 with hk | hk | hk | hk | hk | hk | hk | hk
    all_goals
      simp only [mkType, hk, Int.reduceBEq, if_true, Bool.false_eq_true, if_false]
      have wt := fun n a => mkType_W (l := l) n a
      refine enter Tryz.func17 [.cell 4 30] rfl (by kernel_rfl) follows (by kernel_rfl) rfl fun g0 w0 gen hrel hfr hfr' hres => ?_
      have f1 := fresh_ne hfr hd
      have f2 := fresh_ne' hfr hd
      repeat' (first
        | exact agb (by assumption)
        | (first | refine wp rfl ?_ | refine spt rfl ?_ | refine spf rfl ?_ | (refine spl (fun hc => ?_) fun hc => ?_) <;> (try rw [beq_iff_eq] at hc) <;> try simp only [hc] | refine Call1_pure (c_refNat) ?_ | refine Call1_pure (c_refList) ?_ | refine Call1_pure (c_refUnit) ?_ | refine Call1_pure (c_refTwo _ _ (wt _ _) (wt _ _)) ?_ | refine Call1_pure (c_refFun _ _ (wt _ _) (wt _ _)) ?_ | refine Call1_turn (c_Next l hl d _ _) (by simp only [go_sem, *] <;> rfl) ?_ | refine Call1_turn (ih' _) (by simp only [go_sem, *] <;> rfl) ?_ | refine finT hrel hd ?_ ?_ ?_ ?_ ?_) <;> try simp only [go_sem, *])
end Go.Proofs.YtdbehnonmffhiaaGreatDoor
