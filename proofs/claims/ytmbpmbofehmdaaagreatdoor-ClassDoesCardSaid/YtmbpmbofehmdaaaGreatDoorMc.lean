/-
 Walks: several parts in one text.
-/
import Derived.Test.YtmbpmbofehmdaaaGreatDoorMa
import Derived.Test.YtmbpmbofehmdaaaGreatDoorAbsC
set_option linter.unusedSimpArgs false
set_option linter.unusedVariables false
set_option maxRecDepth 20000
set_option maxHeartbeats 4000000
namespace Go.Proofs.YtmbpmbofehmdaaaGreatDoor
open Go GoAbs Go.Proofs
theorem c_numeral (n : Nat) (hn : n ≤ 1000000) : Pure Tryz.prog env 124 [.int .i64 n] (.agg (numT n).cells) := by
 intro h
 have h1 := c_N 4 [] (by simp) (by simp)
 simp only [List.map_nil] at h1
 refine en_ Tryz.func124 [.cell 2 31] fun g0 w0 gen hrel hfr hfr' hres => ?_
 refine wq_ ?_
 refine AR_loop_nat (fun i σ => σ.tm 0 = .int .i64 ((n - i : Nat) : Int) ∧ σ.tm 2 = .ptr ⟨gen, 0, 0⟩ 0 ∧ σ.tm 3 = .ptr ⟨gen, 1, 1⟩ 0 ∧
  σ.h ⟨gen, 0, 0⟩ = some (.box [.int .i64 0, .int .i64 0, .int .i64 0, .sl .full [], .sl .full []]) ∧ σ.h ⟨gen, 1, 1⟩ = some (.box (numT i).cells) ∧ Agree h σ.h) n ?_ ?_
 ·simp only [go_sem, *]
  exact ⟨by simp, rfl, by repeat (first|exact Agree.refl _|refine Agree.new ?_ (hfr' _ _))⟩
 intro i σ hi ⟨j1, j2, j3, j4, j5, j6⟩
 have hN : numT (i + 1) = tm0 5 [numT i] := rfl
 rcases Nat.lt_or_ge i n with hlt | hge
 ·have hd : decide (((n - i : Nat) : Int) > 0) = true := by simp; omega
  have hw : IntKind.i64.wrap (((n - i : Nat) : Int) - 1) = ((n - (i + 1) : Nat) : Int) := wrap_eq (by omega) (by omega) (by omega)
  rw [tm0] at hN
  repeat' (first
   | (first|refine wp rfl ?_|refine spt rfl ?_|refine spf rfl ?_|(refine spl (fun hc => ?_) fun hc => ?_) <;> (try rw [beq_iff_eq] at hc) <;> try simp only [hc])<;>try simp only [go_sem, *])
  refine AR_weakBox ⟨gen, 1, 1⟩ (by simp only [go_sem, *]; rfl) ?_
  simp only [go_sem, *]
  refine AR_inv ?_
  simp only [go_sem, *]
  exact ⟨by rw [Tm.mk_cells]; rfl, by repeat (first|assumption|refine Agree.new ?_ (hfr' _ _))⟩
 ·have hd : decide (((n - i : Nat) : Int) > 0) = false := by simp; omega
  obtain rfl : i = n := by omega
  exact wk_
theorem c_Number (n : Nat) (hn : n ≤ 1000) : Pure Tryz.prog env 99 [.int .i64 n] (.tup [.agg (numT n).cells, .int .i64 0]) := by
 intro h
 have h1 := c_numeral n (by omega)
 have d1 : decide ((n : Int) < 0) = false := by simp
 have d2 : decide ((n : Int) ≥ 4096) = false := by simp; omega
 exact ek_ Tryz.func99 [.cell 2 31, .tmp 3]
theorem c_Num (n : Nat) (hn : n ≤ 1000) : Pure Tryz.prog env 67 [.int .i64 n] (.agg (numT n).cells) := by
 intro h
 have h1 := c_Number n hn
 exact ek_ Tryz.func67 [.cell 2 31]
theorem c_App (f : Tm) (l : List Tm) (hf : TmW f) (hl : l.length ≤ 1000) (hw : ∀ x ∈ l, TmW x) :
  Pure Tryz.prog env 68 [.agg f.cells, .sl .any (l.map Tm.cells)] (.agg (appTm f l).cells) := by
 intro h
 have hin : ∀ S, InV S (.agg (appTm f l).cells) := fun S => by simp [InV, InL_Tm]
 generalize hv : V.agg (appTm f l).cells = v at hin ⊢
 refine en_ Tryz.func68 [.cell 4 31] fun g0 w0 gen hrel hfr hfr' hres => ?_
 refine wq_ ?_
 refine ar_ [2, 4, 7] [⟨gen, 0, 1⟩] (fun i σ => Agree h σ.h ∧ ∃ f' : Tm, TmW f' ∧ σ.h ⟨gen, 0, 0⟩ = some (.box f'.cells) ∧ V.agg (appTm f' (l.drop i)).cells = v) (l).length ?_ ?_ ?_
 ·simp only [go_sem, *]
  exact ⟨by repeat (first|exact Agree.refl _|refine Agree.new ?_ (hfr' _ _)), f, hf, rfl, hv⟩
 ·
  intro i σ gr0 hgl_gr0 hgn hlt jI jN jS ⟨jA, f', hf', jf, jv⟩
  obtain ⟨jT, jB⟩ := jS
  simp only [go_sem] at jT jB
  obtain ⟨hgf, hgf0, eg_gen_gr0, eh_gen_gr0⟩ := rnd hgn hgl_gr0 jA
  obtain ⟨x, hx, hxm, hm⟩ := rnx hlt
  clear hgn
  rw [drop_get hx, appTm_cons] at jv
  have hc := c_N 3 [f', x] (by simp) (by simp [hf', hw x hxm])
  simp only [List.map_cons, List.map_nil] at hc
  have hwx := hw x hxm
  clear hw
  refine wq_ ?_
  exact ⟨by repeat (first|assumption|refine Agree.new ?_ (hgf0 _ _)|refine Agree.new ?_ (hfr' _ _)), _, tm0_W (by simp) (by simp [hf', hwx]), rfl, jv⟩
 ·
  intro σ ga0 hgl_ga0 hgn jS ⟨jA, f', hf', jf, jv⟩
  obtain ⟨jT, jB⟩ := jS
  simp only [go_sem] at jT jB
  obtain ⟨hgf, hgf0, eg_gen_ga0, eh_gen_ga0⟩ := rnd hgn hgl_ga0 jA
  clear hgn
  rw [List.drop_length, appTm_nil] at jv
  subst jv
  exact wk_
theorem c_vars (g : List Ty) (t : Ty) (hg : g.length ≤ 1000) (hw : ∀ x ∈ g, TyW x) (ht : TyW t) :
  Pure Tryz.prog env 64 [.sl .any (g.map Ty.cells), .agg t.cells] (.sl .any (ints (varsN g t g.length))) := by
 intro h
 refine en_ Tryz.func64 [.tmp 4] fun g0 w0 gen hrel hfr hfr' hres => ?_
 repeat' (first
  |(refine ⟨?_,?_⟩; focus ((repeat' (first|refine ⟨?_,?_⟩|refine .inr ?_)); all_goals kernel_rfl))
  |exact hin _|exact agf (by assumption)
  | (first|refine wp rfl ?_|refine spt rfl ?_|refine spf rfl ?_|(refine spl (fun hc => ?_) fun hc => ?_) <;> (try rw [beq_iff_eq] at hc) <;> try simp only [hc]|refine finF hrel ?_ ?_ ?_)<;>try simp only [go_sem, *])
 refine ar_ [0, 3, 4] [⟨gen, 0, 0⟩] (fun i σ => Agree h σ.h ∧ OwnS h σ.h (σ.tm 5) 1 (ints (varsN g t i))) (g).length ?_ ?_ ?_
 ·simp only [go_sem, *]
  exact ⟨by repeat (first|exact Agree.refl _|refine Agree.new ?_ (hfr' _ _)), .inl rfl⟩
 ·
  intro i σ gr0 hgl_gr0 hgn hlt jI jN jS ⟨jA, jO0⟩
  obtain ⟨jT, jB⟩ := jS
  simp only [go_sem] at jT jB
  obtain ⟨hgf, hgf0, eg_gen_gr0, eh_gen_gr0⟩ := rnd hgn hgl_gr0 jA
  obtain ⟨x, hx, hxm, hm⟩ := rnx hlt
  clear hgn
  have hvl := varsN_len (g := g) (t := t) (n := i)
  have hw1 : IntKind.i64.wrap ((g.length : Int) - 1) = ((g.length - 1 : Nat) : Int) := wrap_eq (by omega) (by omega) (by omega)
  have hw2 : IntKind.i64.wrap (((g.length - 1 : Nat) : Int) - (i : Int)) = ((g.length - 1 - i : Nat) : Int) := wrap_eq (by omega) (by omega) (by omega)
  obtain ⟨y, hy⟩ : ∃ y, g[g.length - 1 - i]? = some y := ⟨_, List.getElem?_eq_getElem (by omega)⟩
  have hc := c_refSame y (hw y (List.mem_of_getElem? hy)) t ht
  have hva : varAt g t i = Ty.same y t := by simp [varAt, hy]
  have hvs := varsN_succ (g := g) (t := t) (n := i)
  rw [hva] at hvs
  clear hw hva
  cases hs : Ty.same y t with
  | true =>
   rw [hs] at hc hvs
   simp only [if_true] at hvs
   repeat' (first
    |(refine ⟨?_,?_⟩; focus ((repeat' (first|refine ⟨?_,?_⟩|refine .inr ?_)); all_goals kernel_rfl))
    |(refine okE_app_own jO0 (by repeat (first|exact Keeps.refl _|refine Keeps.new ?_ (hgf _ _)|refine Keeps.new ?_ (hfr' _ _)|refine Keeps.box ?_ rfl|refine Keeps.box ?_ (by simp only [go_sem, *]))) rfl (by simp only [go_sem, *] <;> omega) (by first|exact hgf0 _ _|exact hfr' _ _) (by simp only [go_sem, *]) (by intro hd; cases hd) ?_; intro v' h' log' jO jK jAg jAb jF; simp only [go_sem, *])
    | (first|refine wp rfl ?_|refine spt rfl ?_|refine spf rfl ?_|(refine spl (fun hc => ?_) fun hc => ?_) <;> (try rw [beq_iff_eq] at hc) <;> try simp only [hc]|refine cp hc ?_|refine AR_inv ?_)<;>try simp only [go_sem, *])
   have jO' : OwnS h h' v' 1 (ints (varsN g t i ++ [(i : Int)])) := by simpa [ints] using jO
   first|exact jO'|exact ⟨jAg (by repeat (first|assumption|refine Agree.new ?_ (hgf0 _ _))), jO'⟩
  | false =>
   rw [hs] at hc hvs
   simp only [Bool.false_eq_true, if_false, List.append_nil] at hvs
   repeat' (first
    |(refine ⟨?_,?_⟩; focus ((repeat' (first|refine ⟨?_,?_⟩|refine .inr ?_)); all_goals kernel_rfl))
    | (first|refine wp rfl ?_|refine spt rfl ?_|refine spf rfl ?_|(refine spl (fun hc => ?_) fun hc => ?_) <;> (try rw [beq_iff_eq] at hc) <;> try simp only [hc]|refine cp hc ?_|refine AR_inv ?_)<;>try simp only [go_sem, *])
   first | done|exact ⟨by repeat (first|assumption|refine Agree.new ?_ (hgf0 _ _)), jO0⟩ | trace_state
 ·
  intro σ ga0 hgl_ga0 hgn jS ⟨jA, jO⟩
  obtain ⟨jT, jB⟩ := jS
  simp only [go_sem] at jT jB
  obtain ⟨hgf, hgf0, eg_gen_ga0, eh_gen_ga0⟩ := rnd hgn hgl_ga0 jA
  clear hgn
  obtain ⟨c, jO⟩ := jO.val
  clear hw
  repeat' (first
   |(refine ⟨?_,?_⟩; focus ((repeat' (first|refine ⟨?_,?_⟩|refine .inr ?_)); all_goals kernel_rfl))
   |exact hin _|exact agf (by assumption)
   | (first|refine wp rfl ?_|refine spt rfl ?_|refine spf rfl ?_|(refine spl (fun hc => ?_) fun hc => ?_) <;> (try rw [beq_iff_eq] at hc) <;> try simp only [hc]|refine finF hrel ?_ ?_ ?_)<;>try simp only [go_sem, *])
theorem c_lam (t : Tm) (ht : TmW t) : Pure Tryz.prog env 100 [.agg t.cells] (.agg (lamN t).cells) := by
 intro h
 have h1 := c_T 2 tNat [t] tNat_W (by simp) (by simp [ht])
 simp only [List.map_cons, List.map_nil] at h1
 refine en_ Tryz.func100 [.cell 2 31] fun g0 w0 gen hrel hfr hfr' hres => ?_
 repeat' (first
  |(refine ⟨?_,?_⟩; focus ((repeat' (first|refine ⟨?_,?_⟩|refine .inr ?_)); all_goals kernel_rfl))
  |exact hin _|exact agf (by assumption)
  | (first|refine wp rfl ?_|refine cp c_refNat ?_|refine cp h1 ?_|refine finF hrel ?_ ?_ ?_)<;>try simp only [go_sem, *])
 rfl
theorem c_rec (b f n : Tm) (hb : TmW b) (hf : TmW f) (hn : TmW n) : Pure Tryz.prog env 101 [.agg b.cells, .agg f.cells, .agg n.cells] (.agg (recN b f n).cells) := by
 intro h
 have h1 := c_T 6 tNat [b, f, n] tNat_W (by simp) (by simp [hb, hf, hn])
 simp only [List.map_cons, List.map_nil] at h1
 refine en_ Tryz.func101 [.cell 6 31] fun g0 w0 gen hrel hfr hfr' hres => ?_
 repeat' (first
  |(refine ⟨?_,?_⟩; focus ((repeat' (first|refine ⟨?_,?_⟩|refine .inr ?_)); all_goals kernel_rfl))
  |exact hin _|exact agf (by assumption)
  | (first|refine wp rfl ?_|refine cp c_refNat ?_|refine cp h1 ?_|refine finF hrel ?_ ?_ ?_)<;>try simp only [go_sem, *])
 rfl
theorem c_Pred : Pure Tryz.prog env 102 [] (.agg predT.cells) := by
 intro h
 have h1 := c_N 4 [] (by simp) (by simp)
 simp only [List.map_nil] at h1
 refine en_ Tryz.func102 [.cell 0 31] fun g0 w0 gen hrel hfr hfr' hres => ?_
 repeat' (first
  |exact hin _|exact agf (by assumption)
  | (first|refine wp rfl ?_|refine cp h1 ?_|refine cp (c_Var _) ?_|refine cp (c_lam _ (by repeat (first|assumption|exact tmVar_W _|exact tm0_W0|exact predT_W|exact plusT_W|exact subT_W|refine tm0_W1 ?_|refine tm0_W2 ?_ ?_|refine tm0_W3 ?_ ?_ ?_|refine lamN_W ?_|refine recN_W ?_ ?_ ?_))) ?_|refine cp (c_rec _ _ _ (by repeat (first|assumption|exact tmVar_W _|exact tm0_W0|exact predT_W|exact plusT_W|exact subT_W|refine tm0_W1 ?_|refine tm0_W2 ?_ ?_|refine tm0_W3 ?_ ?_ ?_|refine lamN_W ?_|refine recN_W ?_ ?_ ?_)) (by repeat (first|assumption|exact tmVar_W _|exact tm0_W0|exact predT_W|exact plusT_W|exact subT_W|refine tm0_W1 ?_|refine tm0_W2 ?_ ?_|refine tm0_W3 ?_ ?_ ?_|refine lamN_W ?_|refine recN_W ?_ ?_ ?_)) (by repeat (first|assumption|exact tmVar_W _|exact tm0_W0|exact predT_W|exact plusT_W|exact subT_W|refine tm0_W1 ?_|refine tm0_W2 ?_ ?_|refine tm0_W3 ?_ ?_ ?_|refine lamN_W ?_|refine recN_W ?_ ?_ ?_))) ?_|refine finF hrel ?_ ?_ ?_)<;>try simp only [go_sem, *])
 rfl
theorem c_Plus : Pure Tryz.prog env 69 [] (.agg plusT.cells) := by
 intro h
 have h1 := c_N 5 [tmVar 0] (by simp) (by simp [tmVar_W])
 simp only [List.map_cons, List.map_nil] at h1
 refine en_ Tryz.func69 [.cell 0 31] fun g0 w0 gen hrel hfr hfr' hres => ?_
 repeat' (first
  |exact hin _|exact agf (by assumption)
  | (first|refine wp rfl ?_|refine cp h1 ?_|refine cp (c_Var _) ?_|refine cp (c_lam _ (by repeat (first|assumption|exact tmVar_W _|exact tm0_W0|exact predT_W|exact plusT_W|exact subT_W|refine tm0_W1 ?_|refine tm0_W2 ?_ ?_|refine tm0_W3 ?_ ?_ ?_|refine lamN_W ?_|refine recN_W ?_ ?_ ?_))) ?_|refine cp (c_rec _ _ _ (by repeat (first|assumption|exact tmVar_W _|exact tm0_W0|exact predT_W|exact plusT_W|exact subT_W|refine tm0_W1 ?_|refine tm0_W2 ?_ ?_|refine tm0_W3 ?_ ?_ ?_|refine lamN_W ?_|refine recN_W ?_ ?_ ?_)) (by repeat (first|assumption|exact tmVar_W _|exact tm0_W0|exact predT_W|exact plusT_W|exact subT_W|refine tm0_W1 ?_|refine tm0_W2 ?_ ?_|refine tm0_W3 ?_ ?_ ?_|refine lamN_W ?_|refine recN_W ?_ ?_ ?_)) (by repeat (first|assumption|exact tmVar_W _|exact tm0_W0|exact predT_W|exact plusT_W|exact subT_W|refine tm0_W1 ?_|refine tm0_W2 ?_ ?_|refine tm0_W3 ?_ ?_ ?_|refine lamN_W ?_|refine recN_W ?_ ?_ ?_))) ?_|refine finF hrel ?_ ?_ ?_)<;>try simp only [go_sem, *])
 rfl
theorem c_Sub : Pure Tryz.prog env 70 [] (.agg subT.cells) := by
 intro h
 have h1 := c_N 3 [predT, tmVar 0] (by simp) (by simp [tmVar_W, predT_W])
 simp only [List.map_cons, List.map_nil] at h1
 refine en_ Tryz.func70 [.cell 0 31] fun g0 w0 gen hrel hfr hfr' hres => ?_
 repeat' (first
  |exact hin _|exact agf (by assumption)
  | (first|refine wp rfl ?_|refine cp h1 ?_|refine cp c_Pred ?_|refine cp (c_Var _) ?_|refine cp (c_lam _ (by repeat (first|assumption|exact tmVar_W _|exact tm0_W0|exact predT_W|exact plusT_W|exact subT_W|refine tm0_W1 ?_|refine tm0_W2 ?_ ?_|refine tm0_W3 ?_ ?_ ?_|refine lamN_W ?_|refine recN_W ?_ ?_ ?_))) ?_|refine cp (c_rec _ _ _ (by repeat (first|assumption|exact tmVar_W _|exact tm0_W0|exact predT_W|exact plusT_W|exact subT_W|refine tm0_W1 ?_|refine tm0_W2 ?_ ?_|refine tm0_W3 ?_ ?_ ?_|refine lamN_W ?_|refine recN_W ?_ ?_ ?_)) (by repeat (first|assumption|exact tmVar_W _|exact tm0_W0|exact predT_W|exact plusT_W|exact subT_W|refine tm0_W1 ?_|refine tm0_W2 ?_ ?_|refine tm0_W3 ?_ ?_ ?_|refine lamN_W ?_|refine recN_W ?_ ?_ ?_)) (by repeat (first|assumption|exact tmVar_W _|exact tm0_W0|exact predT_W|exact plusT_W|exact subT_W|refine tm0_W1 ?_|refine tm0_W2 ?_ ?_|refine tm0_W3 ?_ ?_ ?_|refine lamN_W ?_|refine recN_W ?_ ?_ ?_))) ?_|refine finF hrel ?_ ?_ ?_)<;>try simp only [go_sem, *])
 rfl
theorem c_New (l : List Int) : News Tryz.prog env 8 [.sl .any (ints l)] (deckC l 0) := by
 intro h id hid
 refine en_ Tryz.func8 [.tmp 2] fun g0 w0 gen hrel hfr hfr' hres => ?_
 refine wq_ ?_
 refine AR_new hrel hid rfl (by simp only [go_sem, *]; rfl) (hfr' _ _) (by simp only [deckC, go_sem, *]) (by repeat (first|exact Agree.refl _|refine Agree.new ?_ (hfr' _ _)))
theorem c_Next (l : List Int) (hl : l.length ≤ 1000) (d : GoAbs.Id) (a : Nat) (n : Int) :
  Turns Tryz.prog env 41 [.ptr d 0, .int .i64 n] d (.box (deckC l a)) (.int .i64 (nextD l a n).1) (.box (deckC l (nextD l a n).2)) := by
 intro h hd
 unfold deckC at hd ⊢
 cases hn : decide (n < 1) with
 | true =>
  have hv : nextD l a n = (0, a) := by simp at hn; simp [nextD, hn]
  rw [hv]
  refine en_ Tryz.func41 [.tmp 4] fun g0 w0 gen hrel hfr hfr' hres => ?_
  have f1 := fresh_ne hfr hd
  have f2 := fresh_ne' hfr hd
  exact wkT_
 | false =>
  cases hm : decide ((a : Int) ≥ (l.length : Int)) with
  | true =>
   have hv : nextD l a n = (0, a) := by simp at hm; simp [nextD, hm]
   rw [hv]
   refine en_ Tryz.func41 [.tmp 4] fun g0 w0 gen hrel hfr hfr' hres => ?_
   have f1 := fresh_ne hfr hd
   have f2 := fresh_ne' hfr hd
   exact wkT_
  | false =>
   simp at hn hm
   obtain ⟨x, hx⟩ : ∃ x, l[a]? = some x := ⟨_, List.getElem?_eq_getElem hm⟩
   have hv : nextD l a n = (modI x n, a + 1) := by
    have : ¬ (n < 1 ∨ l.length ≤ a) := by omega
    simp [nextD, this, hx]
   have h1 := c_Mod x n (by omega)
   have hw := wrap_succ (i := a) (by omega)
   have hix : (ints l)[a]? = some [.int .i64 x] := by rw [ints_get, hx]; rfl
   have hn' : decide (n < 1) = false := by simp; omega
   have hm' : decide ((a : Int) ≥ (l.length : Int)) = false := by simp; omega
   rw [hv]
   clear hn hm
   refine en_ Tryz.func41 [.tmp 4] fun g0 w0 gen hrel hfr hfr' hres => ?_
   have f1 := fresh_ne hfr hd
   have f2 := fresh_ne' hfr hd
   exact wkT_
theorem c_Type (l : List Int) (hl : l.length ≤ 1000) (d : GoAbs.Id) : ∀ (n : Nat), n ≤ 1000 → ∀ a : Nat,
  Turns Tryz.prog env 15 [.ptr d 0, .int .i64 n] d (.box (deckC l a)) (.agg (mkType l n a).1.cells) (.box (deckC l (mkType l n a).2)) := by
 intro n
 induction n with
 | zero =>
  intro _ a h hd
  have hz : decide (((0 : Nat) : Int) > 0) = false := rfl
  rcases kinds7 (nextD l a 7).1 with hk | hk | hk | hk | hk | hk | hk | hk
  all_goals
   simp only [mkType, hk, Int.reduceBEq, if_true, Bool.false_eq_true, if_false]
   refine en_ Tryz.func15 [.cell 4 25] fun g0 w0 gen hrel hfr hfr' hres => ?_
   have f1 := fresh_ne hfr hd
   have f2 := fresh_ne' hfr hd
   repeat' (first
    |exact agb (by assumption)
    | (first|refine wp rfl ?_|refine spt rfl ?_|refine spf rfl ?_|(refine spl (fun hc => ?_) fun hc => ?_) <;> (try rw [beq_iff_eq] at hc) <;> try simp only [hc]|refine cp c_refNat ?_|refine cp c_refList ?_|refine cp c_refUnit ?_|refine ct (c_Next l hl d _ _) (by simp only [go_sem, *] <;> rfl) ?_|refine finT hrel hd ?_ ?_ ?_ ?_ ?_)<;>try simp only [go_sem, *])
 | succ n ih =>
  intro hn a h hd
  have ih' := ih (by omega)
  have hz : decide (((n + 1 : Nat) : Int) > 0) = true := by simp <;> omega
  have hw : IntKind.i64.wrap (((n + 1 : Nat) : Int) - 1) = (n : Int) := wrap_eq (by omega) (by omega) (by omega)
  clear ih
  rcases kinds7 (nextD l a 7).1 with hk | hk | hk | hk | hk | hk | hk | hk
  all_goals
   simp only [mkType, hk, Int.reduceBEq, if_true, Bool.false_eq_true, if_false]
   have wt := fun n a => mkType_W (l := l) n a
   refine en_ Tryz.func15 [.cell 4 25] fun g0 w0 gen hrel hfr hfr' hres => ?_
   have f1 := fresh_ne hfr hd
   have f2 := fresh_ne' hfr hd
   repeat' (first
    |exact agb (by assumption)
    | (first|refine wp rfl ?_|refine spt rfl ?_|refine spf rfl ?_|(refine spl (fun hc => ?_) fun hc => ?_) <;> (try rw [beq_iff_eq] at hc) <;> try simp only [hc]|refine cp c_refNat ?_|refine cp c_refList ?_|refine cp c_refUnit ?_|refine cp (c_refTwo _ _ (wt _ _) (wt _ _)) ?_|refine cp (c_refFun _ _ (wt _ _) (wt _ _)) ?_|refine ct (c_Next l hl d _ _) (by simp only [go_sem, *] <;> rfl) ?_|refine ct (ih' _) (by simp only [go_sem, *] <;> rfl) ?_|refine finT hrel hd ?_ ?_ ?_ ?_ ?_)<;>try simp only [go_sem, *])
end Go.Proofs.YtmbpmbofehmdaaaGreatDoor
