/-
  Walks: typed matrices (references): well typed, or the error of a size.
-/
import Derived.Test.YtnhjlnkogoihhaaGreatDoorHm
set_option linter.unusedSimpArgs false
set_option linter.unusedVariables false
set_option maxRecDepth 20000
set_option maxHeartbeats 4000000
namespace Go.Proofs.YtnhjlnkogoihhaaGreatDoor
open Go GoAbs Go.Proofs

theorem first_bad {α : Type} {P Q : α → Prop} : ∀ l : List α, (∀ x ∈ l, P x ∨ Q x) → (∀ x ∈ l, P x) ∨ ∃ j, j < l.length ∧ (∀ x, l[j]? = some x → Q x) ∧ ∀ i x, i < j → l[i]? = some x → P x
  | [], _ => .inl (by simp)
  | a :: l, h => by
    rcases h a (by simp) with hp | hq
    · rcases first_bad l (fun x hx => h x (by simp [hx])) with h1 | ⟨j, hj, h1, h2⟩
      · refine .inl ?_
        intro x hx
        rcases List.mem_cons.1 hx with rfl | hx
        · exact hp
        · exact h1 x hx
      · refine .inr ⟨j + 1, by simp; omega, by simpa using h1, ?_⟩
        intro i x hi hx
        match i with
        | 0 => simp at hx; subst hx; exact hp
        | i + 1 => exact h2 i x (by omega) (by simpa using hx)
    · refine .inr ⟨0, by simp, ?_, by intro i x hi; omega⟩
      intro x hx; simp at hx; subst hx; exact hq

theorem c_typedT (g : List Ty) (f : Fm) (wf : FmW f) (j : Nat) (hj : j < f.terms.length)
    (ih : ∀ (i : Nat) (x : Tm), i < j → f.terms[i]? = some x → Pure Tryz.prog env 116 [.sl .any (g.map Ty.cells), .agg x.cells] (.tup [.agg tNat.cells, .int .i64 0]))
    (he : ∀ (x : Tm), f.terms[j]? = some x → Pure Tryz.prog env 116 [.sl .any (g.map Ty.cells), .agg x.cells] (.tup [.agg [.int .i64 0, .sl .any []], .int .i64 4])) :
    Pure Tryz.prog env 218 [.sl .any (g.map Ty.cells), .agg f.cells] (.int .i64 4) := by
  intro h
  have hlen := wf.len
  have htlen := wf.tlen
  have hk1 : ((1 : Int) != 1) = false := rfl
  have n0 : ((0 : Int) != 0) = false := rfl
  have n4 : ((4 : Int) != 0) = true := rfl
  have hnk : tNat.kind = 1 := rfl
  have z0 : 0 ≤ j := Nat.zero_le _
  clear wf
  refine enter Tryz.func218 [.tmp 4] rfl (by kernel_rfl) follows (by kernel_rfl) rfl fun g0 w0 gen hrel hfr hfr' hres => ?_
  repeat' (first
    | (refine ⟨?_, ?_⟩; focus ((repeat' (first | refine And.intro ?_ ?_ | refine Or.inr ?_)); all_goals kernel_rfl))
    | exact hin _ | exact agf (by assumption)
    | (first | refine wp rfl ?_ | refine spt rfl ?_ | refine spf rfl ?_ | (refine spl (fun hc => ?_) fun hc => ?_) <;> (try rw [beq_iff_eq] at hc) <;> try simp only [hc] | refine finF hrel ?_ ?_ ?_) <;> try simp only [go_sem, *])
  refine AR_range [0, 3, 13] [⟨gen, 0, 0⟩] (fun i σ => Agree h σ.h ∧ i ≤ j) (f.terms).length (by first | omega | (simp only [go_sem, *] <;> omega)) ⟨rfl, rfl, rfl⟩ rfl (by simp only [go_sem, *]) (by simp only [go_sem, *]) ?_ (by intro i σ t v ht hK; simp only [List.mem_cons, List.not_mem_nil, or_false] at ht; rcases ht with rfl | rfl | rfl <;> exact hK) ?_ ?_
  · simp only [go_sem, *]
    exact (by repeat (first | exact Agree.refl _ | assumption | refine Agree.new ?_ (hgf0 _ _) | refine Agree.new ?_ (hfr' _ _)))
  · clear z0
    intro i σ gr0 hgl_gr0 hgn hlt jI jN jS ⟨jA, hij⟩
    obtain ⟨jT, jB⟩ := jS
    simp only [go_sem] at jT jB
    have hgf := fresh_of hgn
    have hgf0 : ∀ r i, h ⟨gr0, r, i⟩ = none := fun r i => agree_fresh jA (hgf r i)
    have eg_gen_gr0 := gen_lt (show gen < gr0 by omega)
    have eh_gen_gr0 := gen_lt' (show gen < gr0 by omega)
    obtain ⟨x, hx⟩ : ∃ x, (f.terms)[i]? = some x := ⟨_, List.getElem?_eq_getElem hlt⟩
    have hxm := List.mem_of_getElem? hx
    have hm := min_lt hlt
    clear hgn
    rcases Nat.lt_or_ge i j with hlt | hge
    · have hc := ih i x hlt hx
      have hij' : i + 1 ≤ j := hlt
      clear ih he hlt hij
      repeat' (first
        | (refine ⟨?_, ?_⟩; focus ((repeat' (first | refine And.intro ?_ ?_ | refine Or.inr ?_)); all_goals kernel_rfl))
        | (first | refine wp rfl ?_ | refine spt rfl ?_ | refine spf rfl ?_ | (refine spl (fun hc => ?_) fun hc => ?_) <;> (try rw [beq_iff_eq] at hc) <;> try simp only [hc] | refine Call1_pure (hc) ?_ | refine AR_inv ?_) <;> try simp only [go_sem, *])
      all_goals exact (by repeat (first | exact jA | refine Agree.new ?_ (hgf0 _ _)))
    · have hij' : i = j := by omega
      have hc := he x (by rw [← hij']; exact hx)
      clear ih he hge hij hij'
      repeat' (first
        | (refine ⟨?_, ?_⟩; focus ((repeat' (first | refine And.intro ?_ ?_ | refine Or.inr ?_)); all_goals kernel_rfl))
        | exact hin _ | exact agf (by assumption)
        | (first | refine wp rfl ?_ | refine spt rfl ?_ | refine spf rfl ?_ | (refine spl (fun hc => ?_) fun hc => ?_) <;> (try rw [beq_iff_eq] at hc) <;> try simp only [hc] | refine Call1_pure (hc) ?_ | refine finF hrel ?_ ?_ ?_) <;> try simp only [go_sem, *])
  ·
    intro σ ga0 hgl_ga0 hgn jS ⟨jA, hij⟩
    obtain ⟨jT, jB⟩ := jS
    simp only [go_sem] at jT jB
    have hgf := fresh_of hgn
    have hgf0 : ∀ r i, h ⟨ga0, r, i⟩ = none := fun r i => agree_fresh jA (hgf r i)
    have eg_gen_ga0 := gen_lt (show gen < ga0 by omega)
    have eh_gen_ga0 := gen_lt' (show gen < ga0 by omega)
    clear hgn
    omega

theorem c_typedA (g : List Ty) (f : Fm) (wf : FmW f) (hqq : quant f.kind = false)
    (hterm : ∀ x ∈ f.terms, Pure Tryz.prog env 116 [.sl .any (g.map Ty.cells), .agg x.cells] (.tup [.agg tNat.cells, .int .i64 0])) (j : Nat) (hj : j < f.args.length)
    (ih : ∀ (i : Nat) (x : Fm), i < j → f.args[i]? = some x → Pure Tryz.prog env 218 [.sl .any (g.map Ty.cells), .agg x.cells] (.int .i64 0))
    (he : ∀ (x : Fm), f.args[j]? = some x → Pure Tryz.prog env 218 [.sl .any (g.map Ty.cells), .agg x.cells] (.int .i64 4)) :
    Pure Tryz.prog env 218 [.sl .any (g.map Ty.cells), .agg f.cells] (.int .i64 4) := by
  intro h
  have hlen := wf.len
  have htlen := wf.tlen
  have hq := c_quant f.kind
  rw [hqq] at hq
  have hk1 : ((1 : Int) != 1) = false := rfl
  have n0 : ((0 : Int) != 0) = false := rfl
  have n4 : ((4 : Int) != 0) = true := rfl
  have hnk : tNat.kind = 1 := rfl
  have z0 : 0 ≤ j := Nat.zero_le _
  clear wf hqq
  refine enter Tryz.func218 [.tmp 4] rfl (by kernel_rfl) follows (by kernel_rfl) rfl fun g0 w0 gen hrel hfr hfr' hres => ?_
  repeat' (first
    | (refine ⟨?_, ?_⟩; focus ((repeat' (first | refine And.intro ?_ ?_ | refine Or.inr ?_)); all_goals kernel_rfl))
    | exact hin _ | exact agf (by assumption)
    | (first | refine wp rfl ?_ | refine spt rfl ?_ | refine spf rfl ?_ | (refine spl (fun hc => ?_) fun hc => ?_) <;> (try rw [beq_iff_eq] at hc) <;> try simp only [hc] | refine finF hrel ?_ ?_ ?_) <;> try simp only [go_sem, *])
  refine AR_range [0, 3, 13] [⟨gen, 0, 0⟩] (fun i σ => Agree h σ.h ∧ True) (f.terms).length (by first | omega | (simp only [go_sem, *] <;> omega)) ⟨rfl, rfl, rfl⟩ rfl (by simp only [go_sem, *]) (by simp only [go_sem, *]) ?_ (by intro i σ t v ht hK; simp only [List.mem_cons, List.not_mem_nil, or_false] at ht; rcases ht with rfl | rfl | rfl <;> exact hK) ?_ ?_
  · simp only [go_sem, *]
    exact (by repeat (first | exact Agree.refl _ | assumption | refine Agree.new ?_ (hgf0 _ _) | refine Agree.new ?_ (hfr' _ _)))
  · clear ih he z0
    intro i σ gr0 hgl_gr0 hgn hlt jI jN jS ⟨jA, _⟩
    obtain ⟨jT, jB⟩ := jS
    simp only [go_sem] at jT jB
    have hgf := fresh_of hgn
    have hgf0 : ∀ r i, h ⟨gr0, r, i⟩ = none := fun r i => agree_fresh jA (hgf r i)
    have eg_gen_gr0 := gen_lt (show gen < gr0 by omega)
    have eh_gen_gr0 := gen_lt' (show gen < gr0 by omega)
    obtain ⟨x, hx⟩ : ∃ x, (f.terms)[i]? = some x := ⟨_, List.getElem?_eq_getElem hlt⟩
    have hxm := List.mem_of_getElem? hx
    have hm := min_lt hlt
    clear hgn
    have h1 := hterm x hxm
    clear hterm
    repeat' (first
      | (refine ⟨?_, ?_⟩; focus ((repeat' (first | refine And.intro ?_ ?_ | refine Or.inr ?_)); all_goals kernel_rfl))
      | (first | refine wp rfl ?_ | refine spt rfl ?_ | refine spf rfl ?_ | (refine spl (fun hc => ?_) fun hc => ?_) <;> (try rw [beq_iff_eq] at hc) <;> try simp only [hc] | refine Call1_pure (h1) ?_ | refine AR_inv ?_) <;> try simp only [go_sem, *])
    all_goals exact (by repeat (first | exact jA | refine Agree.new ?_ (hgf0 _ _)))
  clear hterm
  intro σ ga0 hgl_ga0 hgn jS ⟨jA, _⟩
  obtain ⟨jT, jB⟩ := jS
  simp only [go_sem] at jT jB
  have hgf := fresh_of hgn
  have hgf0 : ∀ r i, h ⟨ga0, r, i⟩ = none := fun r i => agree_fresh jA (hgf r i)
  have eg_gen_ga0 := gen_lt (show gen < ga0 by omega)
  have eh_gen_ga0 := gen_lt' (show gen < ga0 by omega)
  clear hgn
  repeat' (first
    | (refine ⟨?_, ?_⟩; focus ((repeat' (first | refine And.intro ?_ ?_ | refine Or.inr ?_)); all_goals kernel_rfl))
    | (first | refine wp rfl ?_ | refine spt rfl ?_ | refine spf rfl ?_ | (refine spl (fun hc => ?_) fun hc => ?_) <;> (try rw [beq_iff_eq] at hc) <;> try simp only [hc] | refine Call1_pure (hq) ?_) <;> try simp only [go_sem, *])
  refine AR_range [0, 46] [] (fun i σ => Agree h σ.h ∧ i ≤ j) (f.args).length (by first | omega | (simp only [go_sem, *] <;> omega)) ⟨rfl, rfl, rfl⟩ rfl (by simp only [go_sem, *]) (by simp only [go_sem, *]) ?_ (by intro i σ t v ht hK; simp only [List.mem_cons, List.not_mem_nil, or_false] at ht; rcases ht with rfl | rfl | rfl <;> exact hK) ?_ ?_
  · simp only [go_sem, *]
    first | done | exact (by repeat (first | exact Agree.refl _ | assumption | refine Agree.new ?_ (hgf0 _ _) | refine Agree.new ?_ (hfr' _ _))) | exact ⟨(by repeat (first | exact Agree.refl _ | assumption | refine Agree.new ?_ (hgf0 _ _) | refine Agree.new ?_ (hfr' _ _))), jA⟩ | exact jA
  · clear z0
    intro i σ gr1 hgl_gr1 hgn hlt jI jN jS ⟨jA, hij⟩
    obtain ⟨jT, jB⟩ := jS
    simp only [go_sem] at jT jB
    have hgf := fresh_of hgn
    have hgf0 : ∀ r i, h ⟨gr1, r, i⟩ = none := fun r i => agree_fresh jA (hgf r i)
    have eg_gen_gr1 := gen_lt (show gen < gr1 by omega)
    have eh_gen_gr1 := gen_lt' (show gen < gr1 by omega)
    have eg_ga0_gr1 := gen_lt (show ga0 < gr1 by omega)
    have eh_ga0_gr1 := gen_lt' (show ga0 < gr1 by omega)
    obtain ⟨x, hx⟩ : ∃ x, (f.args)[i]? = some x := ⟨_, List.getElem?_eq_getElem hlt⟩
    have hxm := List.mem_of_getElem? hx
    have hm := min_lt hlt
    clear hgn
    rcases Nat.lt_or_ge i j with hlt | hge
    · have hc := ih i x hlt hx
      have hij' : i + 1 ≤ j := hlt
      clear ih he hlt hij
      repeat' (first
        | (refine ⟨?_, ?_⟩; focus ((repeat' (first | refine And.intro ?_ ?_ | refine Or.inr ?_)); all_goals kernel_rfl))
        | (first | refine wp rfl ?_ | refine spt rfl ?_ | refine spf rfl ?_ | (refine spl (fun hc => ?_) fun hc => ?_) <;> (try rw [beq_iff_eq] at hc) <;> try simp only [hc] | refine Call1_pure (hc) ?_ | refine AR_inv ?_) <;> try simp only [go_sem, *])
      all_goals exact (by repeat (first | exact jA | refine Agree.new ?_ (hgf0 _ _)))
    · have hij' : i = j := by omega
      have hc := he x (by rw [← hij']; exact hx)
      clear ih he hge hij hij'
      repeat' (first
        | (refine ⟨?_, ?_⟩; focus ((repeat' (first | refine And.intro ?_ ?_ | refine Or.inr ?_)); all_goals kernel_rfl))
        | exact hin _ | exact agf (by assumption)
        | (first | refine wp rfl ?_ | refine spt rfl ?_ | refine spf rfl ?_ | (refine spl (fun hc => ?_) fun hc => ?_) <;> (try rw [beq_iff_eq] at hc) <;> try simp only [hc] | refine Call1_pure (hc) ?_ | refine finF hrel ?_ ?_ ?_) <;> try simp only [go_sem, *])
  ·
    intro σ ga1 hgl_ga1 hgn jS ⟨jA, hij⟩
    obtain ⟨jT, jB⟩ := jS
    simp only [go_sem] at jT jB
    have hgf := fresh_of hgn
    have hgf0 : ∀ r i, h ⟨ga1, r, i⟩ = none := fun r i => agree_fresh jA (hgf r i)
    have eg_gen_ga1 := gen_lt (show gen < ga1 by omega)
    have eh_gen_ga1 := gen_lt' (show gen < ga1 by omega)
    have eg_ga0_ga1 := gen_lt (show ga0 < ga1 by omega)
    have eh_ga0_ga1 := gen_lt' (show ga0 < ga1 by omega)
    clear hgn
    omega

theorem c_typedO (g : List Ty) (f : Fm) (wf : FmW f) (hqq : quant f.kind = false)
    (hterm : ∀ x ∈ f.terms, Pure Tryz.prog env 116 [.sl .any (g.map Ty.cells), .agg x.cells] (.tup [.agg tNat.cells, .int .i64 0]))
    (harg : ∀ x ∈ f.args, Pure Tryz.prog env 218 [.sl .any (g.map Ty.cells), .agg x.cells] (.int .i64 0)) :
    Pure Tryz.prog env 218 [.sl .any (g.map Ty.cells), .agg f.cells] (.int .i64 0) := by
  intro h
  have hlen := wf.len
  have htlen := wf.tlen
  have hq := c_quant f.kind
  rw [hqq] at hq
  have hk1 : ((1 : Int) != 1) = false := rfl
  have n0 : ((0 : Int) != 0) = false := rfl
  have hnk : tNat.kind = 1 := rfl
  clear wf hqq
  refine enter Tryz.func218 [.tmp 4] rfl (by kernel_rfl) follows (by kernel_rfl) rfl fun g0 w0 gen hrel hfr hfr' hres => ?_
  repeat' (first
    | (refine ⟨?_, ?_⟩; focus ((repeat' (first | refine And.intro ?_ ?_ | refine Or.inr ?_)); all_goals kernel_rfl))
    | exact hin _ | exact agf (by assumption)
    | (first | refine wp rfl ?_ | refine spt rfl ?_ | refine spf rfl ?_ | (refine spl (fun hc => ?_) fun hc => ?_) <;> (try rw [beq_iff_eq] at hc) <;> try simp only [hc] | refine finF hrel ?_ ?_ ?_) <;> try simp only [go_sem, *])
  refine AR_range [0, 3, 13] [⟨gen, 0, 0⟩] (fun i σ => Agree h σ.h ∧ True) (f.terms).length (by first | omega | (simp only [go_sem, *] <;> omega)) ⟨rfl, rfl, rfl⟩ rfl (by simp only [go_sem, *]) (by simp only [go_sem, *]) ?_ (by intro i σ t v ht hK; simp only [List.mem_cons, List.not_mem_nil, or_false] at ht; rcases ht with rfl | rfl | rfl <;> exact hK) ?_ ?_
  · simp only [go_sem, *]
    exact (by repeat (first | exact Agree.refl _ | assumption | refine Agree.new ?_ (hgf0 _ _) | refine Agree.new ?_ (hfr' _ _)))
  · clear harg
    intro i σ gr0 hgl_gr0 hgn hlt jI jN jS ⟨jA, _⟩
    obtain ⟨jT, jB⟩ := jS
    simp only [go_sem] at jT jB
    have hgf := fresh_of hgn
    have hgf0 : ∀ r i, h ⟨gr0, r, i⟩ = none := fun r i => agree_fresh jA (hgf r i)
    have eg_gen_gr0 := gen_lt (show gen < gr0 by omega)
    have eh_gen_gr0 := gen_lt' (show gen < gr0 by omega)
    obtain ⟨x, hx⟩ : ∃ x, (f.terms)[i]? = some x := ⟨_, List.getElem?_eq_getElem hlt⟩
    have hxm := List.mem_of_getElem? hx
    have hm := min_lt hlt
    clear hgn
    have h1 := hterm x hxm
    clear hterm
    repeat' (first
      | (refine ⟨?_, ?_⟩; focus ((repeat' (first | refine And.intro ?_ ?_ | refine Or.inr ?_)); all_goals kernel_rfl))
      | (first | refine wp rfl ?_ | refine spt rfl ?_ | refine spf rfl ?_ | (refine spl (fun hc => ?_) fun hc => ?_) <;> (try rw [beq_iff_eq] at hc) <;> try simp only [hc] | refine Call1_pure (h1) ?_ | refine AR_inv ?_) <;> try simp only [go_sem, *])
    all_goals exact (by repeat (first | exact jA | refine Agree.new ?_ (hgf0 _ _)))
  clear hterm
  intro σ ga0 hgl_ga0 hgn jS ⟨jA, _⟩
  obtain ⟨jT, jB⟩ := jS
  simp only [go_sem] at jT jB
  have hgf := fresh_of hgn
  have hgf0 : ∀ r i, h ⟨ga0, r, i⟩ = none := fun r i => agree_fresh jA (hgf r i)
  have eg_gen_ga0 := gen_lt (show gen < ga0 by omega)
  have eh_gen_ga0 := gen_lt' (show gen < ga0 by omega)
  clear hgn
  repeat' (first
    | (refine ⟨?_, ?_⟩; focus ((repeat' (first | refine And.intro ?_ ?_ | refine Or.inr ?_)); all_goals kernel_rfl))
    | (first | refine wp rfl ?_ | refine spt rfl ?_ | refine spf rfl ?_ | (refine spl (fun hc => ?_) fun hc => ?_) <;> (try rw [beq_iff_eq] at hc) <;> try simp only [hc] | refine Call1_pure (hq) ?_) <;> try simp only [go_sem, *])
  refine AR_range [0, 46] [] (fun i σ => Agree h σ.h ∧ True) (f.args).length (by first | omega | (simp only [go_sem, *] <;> omega)) ⟨rfl, rfl, rfl⟩ rfl (by simp only [go_sem, *]) (by simp only [go_sem, *]) ?_ (by intro i σ t v ht hK; simp only [List.mem_cons, List.not_mem_nil, or_false] at ht; rcases ht with rfl | rfl | rfl <;> exact hK) ?_ ?_
  · simp only [go_sem, *]
    first | done | exact (by repeat (first | exact Agree.refl _ | assumption | refine Agree.new ?_ (hgf0 _ _) | refine Agree.new ?_ (hfr' _ _))) | exact ⟨(by repeat (first | exact Agree.refl _ | assumption | refine Agree.new ?_ (hgf0 _ _) | refine Agree.new ?_ (hfr' _ _))), jA⟩ | exact jA
  ·
    intro i σ gr1 hgl_gr1 hgn hlt jI jN jS ⟨jA, _⟩
    obtain ⟨jT, jB⟩ := jS
    simp only [go_sem] at jT jB
    have hgf := fresh_of hgn
    have hgf0 : ∀ r i, h ⟨gr1, r, i⟩ = none := fun r i => agree_fresh jA (hgf r i)
    have eg_gen_gr1 := gen_lt (show gen < gr1 by omega)
    have eh_gen_gr1 := gen_lt' (show gen < gr1 by omega)
    have eg_ga0_gr1 := gen_lt (show ga0 < gr1 by omega)
    have eh_ga0_gr1 := gen_lt' (show ga0 < gr1 by omega)
    obtain ⟨x, hx⟩ : ∃ x, (f.args)[i]? = some x := ⟨_, List.getElem?_eq_getElem hlt⟩
    have hxm := List.mem_of_getElem? hx
    have hm := min_lt hlt
    clear hgn
    have h1 := harg x hxm
    clear harg
    repeat' (first
      | (refine ⟨?_, ?_⟩; focus ((repeat' (first | refine And.intro ?_ ?_ | refine Or.inr ?_)); all_goals kernel_rfl))
      | (first | refine wp rfl ?_ | refine spt rfl ?_ | refine spf rfl ?_ | (refine spl (fun hc => ?_) fun hc => ?_) <;> (try rw [beq_iff_eq] at hc) <;> try simp only [hc] | refine Call1_pure (h1) ?_ | refine AR_inv ?_) <;> try simp only [go_sem, *])
    all_goals exact (by repeat (first | exact jA | refine Agree.new ?_ (hgf0 _ _)))
  · clear harg
    intro σ ga1 hgl_ga1 hgn jS ⟨jA, _⟩
    obtain ⟨jT, jB⟩ := jS
    simp only [go_sem] at jT jB
    have hgf := fresh_of hgn
    have hgf0 : ∀ r i, h ⟨ga1, r, i⟩ = none := fun r i => agree_fresh jA (hgf r i)
    have eg_gen_ga1 := gen_lt (show gen < ga1 by omega)
    have eh_gen_ga1 := gen_lt' (show gen < ga1 by omega)
    have eg_ga0_ga1 := gen_lt (show ga0 < ga1 by omega)
    have eh_ga0_ga1 := gen_lt' (show ga0 < ga1 by omega)
    clear hgn
    repeat' (first
      | (refine ⟨?_, ?_⟩; focus ((repeat' (first | refine And.intro ?_ ?_ | refine Or.inr ?_)); all_goals kernel_rfl))
      | exact hin _ | exact agf (by assumption)
      | (first | refine wp rfl ?_ | refine spt rfl ?_ | refine spf rfl ?_ | (refine spl (fun hc => ?_) fun hc => ?_) <;> (try rw [beq_iff_eq] at hc) <;> try simp only [hc] | refine finF hrel ?_ ?_ ?_) <;> try simp only [go_sem, *])

theorem c_typedF : ∀ (n : Nat) (f : Fm) (g : List Ty), fmSz f ≤ n → FmTy TyF g f → FmG false f → f.mfree = true → fmSz f ≤ 4096 → FmW f → (∀ y ∈ g, TyG y) → g.length + fmSz f ≤ 100000 →
    Pure Tryz.prog env 218 [.sl .any (g.map Ty.cells), .agg f.cells] (.int .i64 0) ∨
    Pure Tryz.prog env 218 [.sl .any (g.map Ty.cells), .agg f.cells] (.int .i64 4) := by
  intro n
  induction n with
  | zero => intro f g hn; have : 1 ≤ fmSz f := by (cases f; rw [fmSz]; omega)
            omega
  | succ n ih =>
  intro f g hn hf gf fr zf wf hg hb
  have hgW : ∀ y ∈ g, TyW y := fun y hy => (hg y hy).1.W
  cases hf with
  | @eq _ x y hx hy =>
    obtain ⟨gx, gy⟩ : TmG x ∧ TmG y := by
      generalize hff : fmEq x y = f' at gf
      cases gf with
      | eq h1 h2 => simp only [fmEq, Fm.mk.injEq, List.cons.injEq] at hff; obtain ⟨_, _, ⟨rfl, rfl, _⟩, _⟩ := hff; exact ⟨h1, h2⟩
      | two hk => simp only [fmEq, fmTwo, Fm.mk.injEq] at hff; rcases hk with rfl | rfl <;> simp at hff
      | q hk => simp only [fmEq, fmQ, Fm.mk.injEq] at hff; simp at hff
    have one : ∀ z : Tm, z ∈ (fmEq x y).terms → HasTy TyF g z tNat → TmG z →
        Pure Tryz.prog env 116 [.sl .any (g.map Ty.cells), .agg z.cells] (.tup [.agg tNat.cells, .int .i64 0]) ∨
        Pure Tryz.prog env 116 [.sl .any (g.map Ty.cells), .agg z.cells] (.tup [.agg [.int .i64 0, .sl .any []], .int .i64 4]) := by
      intro z hz tz gz
      have wz : TmW z := wf.term hz
      have sz : tmSz z < fmSz (fmEq x y) := by
        simp only [fmEq, Fm.terms, List.mem_cons, List.not_mem_nil, or_false] at hz
        rw [fmEq, fmSz]
        rcases hz with rfl | rfl <;> simp only [tmSzL] <;> omega
      have e0 := gz.err0 (by omega)
      rcases c_inferF tz hg gz wz (by omega) with h1 | h1
      · exact .inl (c_r02Typed g z tNat 0 wz e0 (c_infer h1 hgW wz (by omega)))
      · exact .inr (c_r02Typed g z tZero 4 wz e0 h1)
    have hall : ∀ z ∈ (fmEq x y).terms, HasTy TyF g z tNat ∧ TmG z := by
      intro z hz
      simp only [fmEq, Fm.terms, List.mem_cons, List.not_mem_nil, or_false] at hz
      rcases hz with rfl | rfl
      · exact ⟨hx, gx⟩
      · exact ⟨hy, gy⟩
    rcases first_bad _ (fun z hz => one z hz (hall z hz).1 (hall z hz).2) with h1 | ⟨j, hj, h1, h2⟩
    · exact .inl (c_typedO g _ wf rfl h1 (by simp [fmEq, Fm.args]))
    · exact .inr (c_typedT g _ wf j hj h2 h1)
  | @two _ k a b hk ha hb' =>
    have e : quant (fmTwo k a b).kind = false := by rcases hk with rfl | rfl <;> rfl
    obtain ⟨ga, gb⟩ : FmG false a ∧ FmG false b := by
      generalize hff : fmTwo k a b = f' at gf
      cases gf with
      | eq h1 h2 => simp only [fmEq, fmTwo, Fm.mk.injEq] at hff; simp at hff
      | two hk' h1 h2 => simp only [fmTwo, Fm.mk.injEq, List.cons.injEq] at hff; obtain ⟨_, _, _, rfl, rfl, _⟩ := hff; exact ⟨h1, h2⟩
      | q hk => simp only [fmTwo, fmQ, Fm.mk.injEq] at hff; simp at hff
    have hfr : a.mfree = true ∧ b.mfree = true := by
      rw [fmTwo, Fm.mfree, Fm.mfreeL_cons, Fm.mfreeL_cons, Bool.and_eq_true, Bool.and_eq_true, Bool.and_eq_true] at fr
      exact ⟨fr.2.1, fr.2.2.1⟩
    have one : ∀ z ∈ (fmTwo k a b).args,
        Pure Tryz.prog env 218 [.sl .any (g.map Ty.cells), .agg z.cells] (.int .i64 0) ∨
        Pure Tryz.prog env 218 [.sl .any (g.map Ty.cells), .agg z.cells] (.int .i64 4) := by
      intro z hz
      have sz := fmSz_arg hz
      have wz := wf.arg hz
      simp only [fmTwo, Fm.args, List.mem_cons, List.not_mem_nil, or_false] at hz
      rcases hz with rfl | rfl
      · exact ih _ g (by omega) ha ga hfr.1 (by omega) wz hg (by omega)
      · exact ih _ g (by omega) hb' gb hfr.2 (by omega) wz hg (by omega)
    rcases first_bad _ one with h1 | ⟨j, hj, h1, h2⟩
    · exact .inl (c_typedO g _ wf e (by simp [fmTwo, Fm.terms]) h1)
    · exact .inr (c_typedA g _ wf e (by simp [fmTwo, Fm.terms]) j hj h2 h1)
  | @q _ k s a hk _ =>
    rw [fmQ, Fm.mfree] at fr
    rcases hk with rfl | rfl | rfl | rfl <;> simp at fr

theorem c_r01Context (g : List Ty) (hg : ∀ y ∈ g, TyG y) (hl : g.length ≤ 16) : Pure Tryz.prog env 115 [.sl .any (g.map Ty.cells)] (.int .i64 0) := by
  intro h
  have d1 : decide ((g.length : Int) > 16) = false := by simp; omega
  have n0 : ((0 : Int) != 0) = false := rfl
  have hc : ∀ y ∈ g, Pure Tryz.prog env 108 [.agg y.cells] (.int .i64 0) := fun y hy => by
    have := c_refTyCheck y (hg y hy).1.W
    rw [(hg y hy).err] at this; exact this
  clear hg
  refine enter Tryz.func115 [.tmp 2] rfl (by kernel_rfl) follows (by kernel_rfl) rfl fun g0 w0 gen hrel hfr hfr' hres => ?_
  repeat' (first
    | exact hin _ | exact agf (by assumption)
    | (first | refine wp rfl ?_ | refine spt rfl ?_ | refine spf rfl ?_ | (refine spl (fun hc => ?_) fun hc => ?_) <;> (try rw [beq_iff_eq] at hc) <;> try simp only [hc] | refine finF hrel ?_ ?_ ?_) <;> try simp only [go_sem, *])
  refine AR_range [9] [] (fun i σ => Agree h σ.h ∧ True) (g).length (by first | omega | (simp only [go_sem, *] <;> omega)) ⟨rfl, rfl, rfl⟩ rfl (by simp only [go_sem, *]) (by simp only [go_sem, *]) ?_ (by intro i σ t v ht hK; simp only [List.mem_cons, List.not_mem_nil, or_false] at ht; rcases ht with rfl | rfl | rfl <;> exact hK) ?_ ?_
  · simp only [go_sem, *]
    exact (by repeat (first | exact Agree.refl _ | assumption | refine Agree.new ?_ (hgf0 _ _) | refine Agree.new ?_ (hfr' _ _)))
  ·
    intro i σ gr0 hgl_gr0 hgn hlt jI jN jS ⟨jA, _⟩
    obtain ⟨jT, jB⟩ := jS
    simp only [go_sem] at jT jB
    have hgf := fresh_of hgn
    have hgf0 : ∀ r i, h ⟨gr0, r, i⟩ = none := fun r i => agree_fresh jA (hgf r i)
    have eg_gen_gr0 := gen_lt (show gen < gr0 by omega)
    have eh_gen_gr0 := gen_lt' (show gen < gr0 by omega)
    obtain ⟨x, hx⟩ : ∃ x, (g)[i]? = some x := ⟨_, List.getElem?_eq_getElem hlt⟩
    have hxm := List.mem_of_getElem? hx
    have hm := min_lt hlt
    clear hgn
    have h1 := hc x hxm
    clear hc
    repeat' (first
      | (first | refine wp rfl ?_ | refine spt rfl ?_ | refine spf rfl ?_ | (refine spl (fun hc => ?_) fun hc => ?_) <;> (try rw [beq_iff_eq] at hc) <;> try simp only [hc] | refine Call1_pure (h1) ?_ | refine AR_inv ?_) <;> try simp only [go_sem, *])
    all_goals exact Agree.new jA (hgf0 _ _)
  · clear hc
    intro σ ga0 hgl_ga0 hgn jS ⟨jA, _⟩
    obtain ⟨jT, jB⟩ := jS
    simp only [go_sem] at jT jB
    have hgf := fresh_of hgn
    have hgf0 : ∀ r i, h ⟨ga0, r, i⟩ = none := fun r i => agree_fresh jA (hgf r i)
    have eg_gen_ga0 := gen_lt (show gen < ga0 by omega)
    have eh_gen_ga0 := gen_lt' (show gen < ga0 by omega)
    clear hgn
    repeat' (first
      | exact hin _ | exact agf (by assumption)
      | (first | refine wp rfl ?_ | refine spt rfl ?_ | refine spf rfl ?_ | (refine spl (fun hc => ?_) fun hc => ?_) <;> (try rw [beq_iff_eq] at hc) <;> try simp only [hc] | refine finF hrel ?_ ?_ ?_) <;> try simp only [go_sem, *])

theorem c_r07TypedF (g : List Ty) (hg : ∀ y ∈ g, TyG y) (hl : g.length ≤ 16) (f : Fm) (hf : GoAbs.Good g f) (wf : FmW f) : ∃ e : Int, (e = 0 ∨ e = 4) ∧
    Pure Tryz.prog env 71 [.sl .any (g.map Ty.cells), .agg f.cells] (.int .i64 e) := by
  have h1 := c_r01Context g hg hl
  have h2 := c_refFmCheck f wf
  rw [hf.gd.err0 hf.sz] at h2
  have h3 : ∃ e : Int, (e = 0 ∨ e = 4) ∧ Pure Tryz.prog env 218 [.sl .any (g.map Ty.cells), .agg f.cells] (.int .i64 e) := by
    rcases c_typedF _ f g (Nat.le_refl _) hf.ty hf.gd hf.fr hf.sz wf hg (by have := hf.sz; omega) with h | h
    · exact ⟨0, .inl rfl, h⟩
    · exact ⟨4, .inr rfl, h⟩
  obtain ⟨e, he, h3⟩ := h3
  refine ⟨e, he, ?_⟩
  have n0 : ((0 : Int) != 0) = false := rfl
  have h4 : Pure Tryz.prog env 155 [.sl .any (g.map Ty.cells), .agg f.cells] (.int .i64 e) := by
    clear h1 hg hl hf wf he
    intro h
    refine enter Tryz.func155 [.tmp 4] rfl (by kernel_rfl) follows (by kernel_rfl) rfl fun g0 w0 gen hrel hfr hfr' hres => ?_
    repeat' (first
      | exact hin _ | exact agf (by assumption)
      | (first | refine wp rfl ?_ | refine spt rfl ?_ | refine spf rfl ?_ | (refine spl (fun hc => ?_) fun hc => ?_) <;> (try rw [beq_iff_eq] at hc) <;> try simp only [hc] | refine Call1_pure (h2) ?_ | refine Call1_pure (h3) ?_ | refine finF hrel ?_ ?_ ?_) <;> try simp only [go_sem, *])
  clear h2 h3 hg hl hf wf he
  intro h
  refine enter Tryz.func71 [.tmp 4] rfl (by kernel_rfl) follows (by kernel_rfl) rfl fun g0 w0 gen hrel hfr hfr' hres => ?_
  repeat' (first
    | exact hin _ | exact agf (by assumption)
    | (first | refine wp rfl ?_ | refine spt rfl ?_ | refine spf rfl ?_ | (refine spl (fun hc => ?_) fun hc => ?_) <;> (try rw [beq_iff_eq] at hc) <;> try simp only [hc] | refine Call1_pure (h1) ?_ | refine Call1_pure (h4) ?_ | refine finF hrel ?_ ?_ ?_) <;> try simp only [go_sem, *])
end Go.Proofs.YtnhjlnkogoihhaaGreatDoor
