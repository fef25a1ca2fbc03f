/-
  Walks: the context of a sequent and the places of its hypotheses.
-/
import Derived.Test.YtjpheflnapmdcaaGreatDoorIa
import Derived.Test.YtjpheflnapmdcaaGreatDoorMb
import Derived.Test.YtjpheflnapmdcaaGreatDoorAbsC
import Derived.Test.YtjpheflnapmdcaaGreatDoorAbsDb
set_option linter.unusedSimpArgs false
set_option linter.unusedVariables false
set_option maxRecDepth 20000
set_option maxHeartbeats 4000000
namespace Go.Proofs.YtjpheflnapmdcaaGreatDoor
open Go GoAbs Go.Proofs

theorem c_typesContext (g : List Ty) (hg : ∀ y ∈ g, TyG y) (hl : g.length ≤ 16) : Pure Tryz.prog env 264 [.sl .any (g.map Ty.cells)] (.int .i64 0) := by
  intro h
  have d1 : decide ((g.length : Int) > 16) = false := by simp; omega
  have n0 : ((0 : Int) != 0) = false := rfl
  have hc : ∀ y ∈ g, Pure Tryz.prog env 94 [.agg y.cells] (.int .i64 0) := fun y hy => by
    have := c_typesCheck y (hg y hy).1.W
    rw [(hg y hy).err] at this; exact this
  clear hg
  refine en Tryz.func264 [.tmp 2] rfl rfl fun g0 w0 gen hrel hfr hfr' hres => ?_
  repeat' (first
    | exact hin _ | exact agf (by assumption)
    | (first | refine wp rfl ?_ | refine spt rfl ?_ | refine spf rfl ?_ | (refine spl (fun hc => ?_) fun hc => ?_) <;> (try rw [beq_iff_eq] at hc) <;> try simp only [hc] | refine finF hrel ?_ ?_ ?_) <;> try simp only [go_sem, *])
  refine AR_range [9] [] (fun i σ => Agree h σ.h ∧ True) (g).length (by first | omega | (simp only [go_sem, *] <;> omega)) ⟨rfl, rfl, rfl⟩ rfl (by simp only [go_sem, *]) (by simp only [go_sem, *]) ?_ (by intro i σ t v ht hK; simp only [List.mem_cons, List.not_mem_nil, or_false] at ht; rcases ht with rfl | rfl | rfl <;> exact hK) ?_ ?_
  · simp only [go_sem, *]
    exact (by repeat (first | exact Agree.refl _ | assumption | refine Agree.new ?_ (hgf0 _ _) | refine Agree.new ?_ (hfr' _ _)))
  ·
    intro i σ gr0 hgl_gr0 hgn hlt jI jN jS ⟨jA, _⟩
    obtain ⟨jT, jB⟩ := jS
    simp only [go_sem] at jT jB
    have hgf := fresh_of hgn
    have hgf0 : ∀ r i, h ⟨gr0, r, i⟩ = none := fun r i => agree_fresh jA (hgf r i)
    have eg_gen_gr0 := gen_lt (show gen < gr0 by omega)
    have eh_gen_gr0 := gen_lt' (show gen < gr0 by omega)
    obtain ⟨x, hx⟩ : ∃ x, (g)[i]? = some x := ⟨_, List.getElem?_eq_getElem hlt⟩
    have hxm := List.mem_of_getElem? hx
    have hm := min_lt hlt
    clear hgn
    have h1 := hc x hxm
    clear hc
    repeat' (first
      | (first | refine wp rfl ?_ | refine spt rfl ?_ | refine spf rfl ?_ | (refine spl (fun hc => ?_) fun hc => ?_) <;> (try rw [beq_iff_eq] at hc) <;> try simp only [hc] | refine cp (h1) ?_ | refine AR_inv ?_) <;> try simp only [go_sem, *])
    all_goals exact Agree.new jA (hgf0 _ _)
  · clear hc
    intro σ ga0 hgl_ga0 hgn jS ⟨jA, _⟩
    obtain ⟨jT, jB⟩ := jS
    simp only [go_sem] at jT jB
    have hgf := fresh_of hgn
    have hgf0 : ∀ r i, h ⟨ga0, r, i⟩ = none := fun r i => agree_fresh jA (hgf r i)
    have eg_gen_ga0 := gen_lt (show gen < ga0 by omega)
    have eh_gen_ga0 := gen_lt' (show gen < ga0 by omega)
    clear hgn
    repeat' (first
      | exact hin _ | exact agf (by assumption)
      | (first | refine wp rfl ?_ | refine spt rfl ?_ | refine spf rfl ?_ | (refine spl (fun hc => ?_) fun hc => ?_) <;> (try rw [beq_iff_eq] at hc) <;> try simp only [hc] | refine finF hrel ?_ ?_ ?_) <;> try simp only [go_sem, *])

theorem c_look (g : List Ty) (hg : ∀ y ∈ g, TyG y) (hgl : g.length ≤ 10) (l : List Fm) (hC : ∀ f ∈ l, FmC f) (hW : ∀ f ∈ l, FmW f) (he : ∀ f ∈ l, fmErr f = 0) (hl : l.length ≤ 6) :
    Pure Tryz.prog env 244 [.agg [.sl .any (g.map Ty.cells), .sl .any (l.map Fm.cells)]] (lookV (sqR g [] l)) := by
  intro h
  have h1 := c_typesContext g hg (by omega)
  have hf1 : ∀ f ∈ l, Pure Tryz.prog env 74 [.agg f.cells] (.int .i64 0) := fun f hf => by
    have := c_fmCheck f (hW f hf)
    rw [he f hf] at this; exact this
  have hf2 : ∀ f ∈ l, ∃ v, CtR f v ∧ (∀ S, InV S v) ∧ Pure Tryz.prog env 265 [.agg f.cells] v := fun f hf => c_ctOf (hC f hf) (hW f hf)
  have d1 : decide ((l.length : Int) > 16) = false := by simp; omega
  have n0 : ((0 : Int) != 0) = false := rfl
  have n4 : ((4 : Int) != 0) = true := rfl
  have b3 : g.length * 32 ≤ 140737488355328 := by omega
  have b4 : g.length ≤ 140737488355328 := by omega
  have z0 : 0 + g.length = g.length := Nat.zero_add _
  have hwk : weakLL (g.map Ty.cells) = g.map Ty.cells := weakLL_Ty g
  clear hg hC hW he
  generalize hR : sqR g [] l = R
  refine en Tryz.func244 [.tmp 2, .tmp 3, .tmp 4] rfl rfl fun g0 w0 gen hrel hfr hfr' hres => ?_
  repeat' (first
    | exact hin _ | exact agf (by assumption)
    | (first | refine wp rfl ?_ | refine spt rfl ?_ | refine spf rfl ?_ | (refine spl (fun hc => ?_) fun hc => ?_) <;> (try rw [beq_iff_eq] at hc) <;> try simp only [hc] | refine cp (h1) ?_ | refine finF hrel ?_ ?_ ?_) <;> try simp only [go_sem, *])
  clear h1 b3 b4 z0 hwk d1
  refine AR_range [25] [] (fun i σ => Agree h σ.h ∧ ∃ vA vP all p, σ.tm 2 = vA ∧ σ.tm 3 = vP ∧ OwnS h σ.h vA 2 (all.map Ty.cells) ∧ OwnS h σ.h vP 1 (ints p) ∧ sqR all p (l.drop i) = R ∧ all.length ≤ 10 + i ∧ p.length = i ∧ σ.tm 4 = .int .i64 0) (l).length (by first | omega | (simp only [go_sem, *] <;> omega)) ⟨rfl, rfl, rfl⟩ rfl (by simp only [go_sem, *]) (by simp only [go_sem, *]) ?_ (by intro i σ t v ht hK; simp only [List.mem_cons, List.not_mem_nil, or_false] at ht; rcases ht with rfl | rfl | rfl <;> exact hK) ?_ ?_
  · simp only [go_sem, *]
    refine ⟨by repeat (first | exact Agree.refl _ | assumption | refine Agree.new ?_ (hfr' _ _)), _, _, g, [], rfl, rfl, .inr ⟨_, rfl, ?_, hfr' _ _⟩, .inl rfl, hR, by omega, rfl⟩
    simp only [go_sem, *]
  · clear hR
    intro i σ gr0 hgl_gr0 hgn hlt jI jN jS ⟨jA, vA, vP, all, p, jt2, jt3, jQ, jP, j1, j2, j3, jt4⟩
    obtain ⟨jT, jB⟩ := jS
    simp only [go_sem] at jT jB
    have hgf := fresh_of hgn
    have hgf0 : ∀ r i, h ⟨gr0, r, i⟩ = none := fun r i => agree_fresh jA (hgf r i)
    have eg_gen_gr0 := gen_lt (show gen < gr0 by omega)
    have eh_gen_gr0 := gen_lt' (show gen < gr0 by omega)
    obtain ⟨x, hx⟩ : ∃ x, (l)[i]? = some x := ⟨_, List.getElem?_eq_getElem hlt⟩
    have hxm := List.mem_of_getElem? hx
    have hm := min_lt hlt
    clear hgn
    rw [drop_get hx] at j1
    have hc1 := hf1 x hxm
    obtain ⟨v, hv, hvi, hc2⟩ := hf2 x hxm
    clear hf1 hf2
    obtain ⟨cA, rfl⟩ := jQ.val
    obtain ⟨cP, rfl⟩ := jP.val
    rcases hv with ⟨e0, rfl⟩ | ⟨e4, y, b, wy, rfl⟩
    · cases hcx : x.fl.c with
      | false =>
        rw [hcx] at hc2 hvi
        simp only [Bool.false_eq_true, if_false] at hc2 hvi
        rw [sqR_not e0 hcx] at j1
        have hts : ints (p ++ [-1]) = ints p ++ [[.int .i64 (-1)]] := by simp [ints]
        clear e0 hcx hvi
        repeat' (first
          | (refine okE_app_ownt jP (by repeat (first | exact Keeps.refl _ | refine Keeps.new ?_ (hgf _ _) | refine Keeps.new ?_ (hfr' _ _) | refine Keeps.box ?_ rfl | refine Keeps.box ?_ (by simp only [go_sem, *]))) rfl (by simp only [go_sem, *] <;> omega) (by first | exact hgf0 _ _ | exact hfr' _ _) (by simp only [go_sem, *]) (by intro hd; cases hd) ?_; intro vjP1 hjP1 logjP1 jP1 jKjP1 jAgjP1 jAbjP1 jFjP1 jTjP1; have jQ1 := jTjP1 _ _ _ (by decide) jQ; simp only [go_sem, *])
          | (first | refine wp rfl ?_ | refine spt rfl ?_ | refine spf rfl ?_ | (refine spl (fun hc => ?_) fun hc => ?_) <;> (try rw [beq_iff_eq] at hc) <;> try simp only [hc] | refine cp (hc1) ?_ | refine cp (hc2) ?_ | refine AR_inv ?_) <;> try simp only [go_sem, *])
        refine ⟨?_, _, _, all, p ++ [-1], rfl, rfl, jQ1, by rw [hts]; exact jP1, j1, by omega, by simp; omega⟩
        exact jAgjP1 (by repeat (first | exact jA | refine Agree.new ?_ (hgf0 _ _)))
      | true =>
        rw [hcx] at hc2 hvi
        simp only [if_true] at hc2 hvi
        rw [sqR_has e0 hcx] at j1
        have hts : ints (p ++ [(all.length : Int)]) = ints p ++ [[.int .i64 (all.length : Int)]] := by simp [ints]
        have htt : (all ++ [x.ct.1]).map Ty.cells = all.map Ty.cells ++ [x.ct.1.cells] := by simp
        clear e0 hcx hvi
        generalize x.ct.1 = y at *
        repeat' (first
          | (refine okE_app_ownt jP (by repeat (first | exact Keeps.refl _ | refine Keeps.new ?_ (hgf _ _) | refine Keeps.new ?_ (hfr' _ _) | refine Keeps.box ?_ rfl | refine Keeps.box ?_ (by simp only [go_sem, *]))) rfl (by simp only [go_sem, *] <;> omega) (by first | exact hgf0 _ _ | exact hfr' _ _) (by simp only [go_sem, *]) (by intro hd; cases hd) ?_; intro vjP1 hjP1 logjP1 jP1 jKjP1 jAgjP1 jAbjP1 jFjP1 jTjP1; have jQ1 := jTjP1 _ _ _ (by decide) jQ; simp only [go_sem, *])
          | (refine okE_app_ownt jQ1 (by repeat (first | exact Keeps.refl _ | refine Keeps.new ?_ (hgf _ _) | refine Keeps.new ?_ (hfr' _ _) | refine Keeps.box ?_ rfl | refine Keeps.box ?_ (by simp only [go_sem, *]))) rfl (by simp only [go_sem, *] <;> omega) (by first | exact hgf0 _ _ | exact hfr' _ _) (by simp only [go_sem, *]) (by intro hd; cases hd) ?_; intro vjQ2 hjQ2 logjQ2 jQ2 jKjQ2 jAgjQ2 jAbjQ2 jFjQ2 jTjQ2; have jP2 := jTjQ2 _ _ _ (by decide) jP1; simp only [go_sem, *])
          | (first | refine wp rfl ?_ | refine spt rfl ?_ | refine spf rfl ?_ | (refine spl (fun hc => ?_) fun hc => ?_) <;> (try rw [beq_iff_eq] at hc) <;> try simp only [hc] | refine cp (hc1) ?_ | refine cp (hc2) ?_ | refine AR_inv ?_) <;> try simp only [go_sem, *])
        refine ⟨?_, _, _, all ++ [y], p ++ [(all.length : Int)], rfl, rfl, by rw [htt]; exact jQ2, by rw [hts]; exact jP2, j1, by simp; omega, by simp; omega⟩
        exact jAgjQ2 (jAgjP1 (by repeat (first | exact jA | refine Agree.new ?_ (hgf0 _ _))))
    · rw [sqR_bad e4] at j1
      subst j1
      simp only [lookV]
      clear e4 jP jQ hvi
      repeat' (first
        | exact hin _ | exact agf (by assumption)
        | (first | refine wp rfl ?_ | refine spt rfl ?_ | refine spf rfl ?_ | (refine spl (fun hc => ?_) fun hc => ?_) <;> (try rw [beq_iff_eq] at hc) <;> try simp only [hc] | refine cp (hc1) ?_ | refine cp (hc2) ?_ | refine finF hrel ?_ ?_ ?_) <;> try simp only [go_sem, *])
  · clear hR hf1 hf2
    intro σ ga0 hgl_ga0 hgn jS ⟨jA, vA, vP, all, p, jt2, jt3, jQ, jP, j1, j2, j3, jt4⟩
    obtain ⟨jT, jB⟩ := jS
    simp only [go_sem] at jT jB
    have hgf := fresh_of hgn
    have hgf0 : ∀ r i, h ⟨ga0, r, i⟩ = none := fun r i => agree_fresh jA (hgf r i)
    have eg_gen_ga0 := gen_lt (show gen < ga0 by omega)
    have eh_gen_ga0 := gen_lt' (show gen < ga0 by omega)
    clear hgn
    rw [List.drop_length, sqR_nil] at j1
    subst j1
    simp only [lookV]
    obtain ⟨cA, rfl⟩ := jQ.val
    obtain ⟨cP, rfl⟩ := jP.val
    clear jQ jP
    repeat' (first
      | exact hin _ | exact agf (by assumption)
      | (first | refine wp rfl ?_ | refine spt rfl ?_ | refine spf rfl ?_ | (refine spl (fun hc => ?_) fun hc => ?_) <;> (try rw [beq_iff_eq] at hc) <;> try simp only [hc] | refine finF hrel ?_ ?_ ?_) <;> try simp only [go_sem, *])

theorem c_ctContext {g : List Ty} {l : List Fm} {R : Option (List Ty × List Int)}
    (h1 : Pure Tryz.prog env 244 [.agg [.sl .any (g.map Ty.cells), .sl .any (l.map Fm.cells)]] (lookV R)) :
    Pure Tryz.prog env 201 [.agg [.sl .any (g.map Ty.cells), .sl .any (l.map Fm.cells)]] (ctxV R) := by
  intro h
  cases R with
  | none =>
    simp only [lookV, ctxV] at h1 ⊢
    refine en Tryz.func201 [.tmp 2, .tmp 3] rfl rfl fun g0 w0 gen hrel hfr hfr' hres => ?_
    repeat' (first
      | exact hin _ | exact agf (by assumption)
      | (first | refine wp rfl ?_ | refine cp (h1) ?_ | refine finF hrel ?_ ?_ ?_) <;> try simp only [go_sem, *])
  | some p =>
    obtain ⟨A, P⟩ := p
    simp only [lookV, ctxV] at h1 ⊢
    refine en Tryz.func201 [.tmp 2, .tmp 3] rfl rfl fun g0 w0 gen hrel hfr hfr' hres => ?_
    repeat' (first
      | exact hin _ | exact agf (by assumption)
      | (first | refine wp rfl ?_ | refine cp (h1) ?_ | refine finF hrel ?_ ?_ ?_) <;> try simp only [go_sem, *])

theorem c_ctPlaces {g : List Ty} {l : List Fm} {R : Option (List Ty × List Int)}
    (h1 : Pure Tryz.prog env 244 [.agg [.sl .any (g.map Ty.cells), .sl .any (l.map Fm.cells)]] (lookV R)) :
    Pure Tryz.prog env 202 [.agg [.sl .any (g.map Ty.cells), .sl .any (l.map Fm.cells)]] (plcV R) := by
  intro h
  cases R with
  | none =>
    simp only [lookV, plcV] at h1 ⊢
    refine en Tryz.func202 [.tmp 2, .tmp 3] rfl rfl fun g0 w0 gen hrel hfr hfr' hres => ?_
    repeat' (first
      | exact hin _ | exact agf (by assumption)
      | (first | refine wp rfl ?_ | refine cp (h1) ?_ | refine finF hrel ?_ ?_ ?_) <;> try simp only [go_sem, *])
  | some p =>
    obtain ⟨A, P⟩ := p
    simp only [lookV, plcV] at h1 ⊢
    refine en Tryz.func202 [.tmp 2, .tmp 3] rfl rfl fun g0 w0 gen hrel hfr hfr' hres => ?_
    repeat' (first
      | exact hin _ | exact agf (by assumption)
      | (first | refine wp rfl ?_ | refine cp (h1) ?_ | refine finF hrel ?_ ?_ ?_) <;> try simp only [go_sem, *])
end Go.Proofs.YtjpheflnapmdcaaGreatDoor
