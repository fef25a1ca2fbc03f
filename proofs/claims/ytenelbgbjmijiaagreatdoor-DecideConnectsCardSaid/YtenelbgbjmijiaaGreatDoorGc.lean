/-
 Walks: copies of formulas (tree), counting variables.
-/
import Derived.Test.YtenelbgbjmijiaaGreatDoorGb
set_option linter.unusedSimpArgs false
set_option linter.unusedVariables false
set_option maxRecDepth 20000
set_option maxHeartbeats 4000000
namespace Go.Proofs.YtenelbgbjmijiaaGreatDoor
open Go GoAbs Go.Proofs
theorem c_Own1 (t : Tm) (ht : TmW t) (b : Int) : Pure Tryz.prog env 134 [.agg t.cells, .int .i64 b] (.agg t.cells) := by
 intro h
 refine en Tryz.func134 [.cell 4 31] rfl rfl fun g0 w0 gen hrel hfr hfr' hres => ?_
 repeat' (first
  | exact hin _ | exact agf (by assumption)
  | (first | refine wp rfl ?_ | refine cp (c_Own _ ht) ?_ | refine finF hrel ?_ ?_ ?_) <;> try simp only [go_sem, *])
theorem c_RebuildOwn : ∀ f : Fm, FmW f → ∀ b : Int, Pure Tryz.prog env 133 [.agg f.cells, .int .i64 b, .fn (.func 134) [] []] (.agg f.cells) := by
 intro t
 induction t using Fm.ind with | h t ih => ?_
 intro ht b h
 have hlen := ht.len
 have hlen2 := ht.tlen
 have ih' : ∀ x ∈ t.args, ∀ b : Int, Pure Tryz.prog env 133 [.agg x.cells, .int .i64 b, .fn (.func 134) [] []] (.agg x.cells) := fun x hx => ih x hx (ht.arg hx)
 have ht' : ∀ x ∈ t.terms, ∀ b : Int, Pure Tryz.prog env 134 [.agg x.cells, .int .i64 b] (.agg x.cells) := fun x hx b => c_Own1 x (ht.term hx) b
 have hO := c_OwnType t.type ht.ty
 have hQ := c_Quantifier t.kind
 clear ih ht
 refine en Tryz.func133 [.cell 6 29] rfl rfl fun g0 w0 gen hrel hfr hfr' hres => ?_
 repeat' (first
  | (refine ⟨?_, ?_⟩; focus ((repeat' (first | refine And.intro ?_ ?_ | refine Or.inr ?_)); all_goals kernel_rfl))
  | exact hin _ | exact agf (by assumption)
  | (first | refine wp rfl ?_ | refine spt rfl ?_ | refine spf rfl ?_ | (refine spl (fun hc => ?_) fun hc => ?_) <;> (try rw [beq_iff_eq] at hc) <;> try simp only [hc] | refine cp (hO) ?_ | refine finF hrel ?_ ?_ ?_) <;> try simp only [go_sem, *])
 refine AR_range [1, 2, 3, 6, 7, 19] [⟨gen, 0, 0⟩, ⟨gen, 0, 1⟩] (fun i σ => Agree h σ.h ∧ ∃ v, σ.h ⟨gen, 1, 6⟩ = some (.box [.int .i64 t.kind, .int .i64 t.type.kind, .sl .any (t.type.args.map Ty.cells), v, .sl .full []]) ∧ OwnS h σ.h v 5 ((t.terms.take i).map Tm.cells)) (t.terms).length (by first | omega | (simp only [go_sem, *] <;> omega)) ⟨rfl, rfl, rfl⟩ rfl (by simp only [go_sem, *]) (by simp only [go_sem, *]) ?_ (by intro i σ t v ht hK; simp only [List.mem_cons, List.not_mem_nil, or_false] at ht; rcases ht with rfl | rfl | rfl <;> exact hK) ?_ ?_
 ·simp only [go_sem, *]
  exact ⟨(by repeat (first | exact Agree.refl _ | assumption | refine Agree.new ?_ (hgf0 _ _) | refine Agree.new ?_ (hfr' _ _))), _, rfl, .inl rfl⟩
 ·clear ih'
  intro i σ gr0 hgl_gr0 hgn hlt jI jN jS ⟨jA, v, jb, jO0⟩
  obtain ⟨jT, jB⟩ := jS
  simp only [go_sem] at jT jB
  have hgf := fresh_of hgn
  have hgf0 : ∀ r i, h ⟨gr0, r, i⟩ = none := fun r i => agree_fresh jA (hgf r i)
  have eg_gen_gr0 := gen_lt (show gen < gr0 by omega)
  have eh_gen_gr0 := gen_lt' (show gen < gr0 by omega)
  obtain ⟨x, hx⟩ : ∃ x, (t.terms)[i]? = some x := ⟨_, List.getElem?_eq_getElem hlt⟩
  have hxm := List.mem_of_getElem? hx
  have hm := min_lt hlt
  clear hgn
  have hc := ht' x hxm b
  have hts : (t.terms.take (i + 1)).map Tm.cells = (t.terms.take i).map Tm.cells ++ [x.cells] := by rw [map_take_succ hx]
  clear ht'
  repeat' (first
   | (refine ⟨?_, ?_⟩; focus ((repeat' (first | refine And.intro ?_ ?_ | refine Or.inr ?_)); all_goals kernel_rfl))
   | (refine okE_app_ownd jO0 (by repeat (first | exact Keeps.refl _ | refine Keeps.new ?_ (hgf _ _) | refine Keeps.new ?_ (hfr' _ _) | refine Keeps.box ?_ rfl | refine Keeps.box ?_ (by simp only [go_sem, *]))) rfl (by simp only [go_sem, *] <;> omega) (by first | exact hgf0 _ _ | exact hfr' _ _) (by simp only [go_sem, *]) (by intro hd e; simp only [logOk_cons, logOk_nil, and_true]; repeat (first | exact trivial | refine ⟨.inr (by kernel_rfl), ?_⟩ | exact .inr (by kernel_rfl))) ?_; intro v' h' id' jO jK jAg jAb jF; obtain ⟨cO, rfl⟩ := jO.val; simp only [go_sem, *])
   | (first | refine wp rfl ?_ | refine spt rfl ?_ | refine spf rfl ?_ | (refine spl (fun hc => ?_) fun hc => ?_) <;> (try rw [beq_iff_eq] at hc) <;> try simp only [hc] | refine cp (hc) ?_ | refine AR_inv ?_) <;> try simp only [go_sem, *])
  refine ⟨?_, _, rfl, jO.keep (Keeps.box (Keeps.refl _) (by simp only [go_sem, *]))⟩
  exact Agree.new (jAg (by repeat (first | exact Agree.refl _ | assumption | refine Agree.new ?_ (hgf0 _ _) | refine Agree.new ?_ (hfr' _ _)))) (hfr' _ _)
 clear ht'
 intro σ ga0 hgl_ga0 hgn jS ⟨jA, v1, jb, jO1⟩
 obtain ⟨jT, jB⟩ := jS
 simp only [go_sem] at jT jB
 have hgf := fresh_of hgn
 have hgf0 : ∀ r i, h ⟨ga0, r, i⟩ = none := fun r i => agree_fresh jA (hgf r i)
 have eg_gen_ga0 := gen_lt (show gen < ga0 by omega)
 have eh_gen_ga0 := gen_lt' (show gen < ga0 by omega)
 clear hgn
 rw [List.take_length] at jO1
 obtain ⟨c1, rfl⟩ := jO1.val
 clear jO1
 cases hq : (decide (t.kind ≥ 4) && decide (t.kind ≤ 7))
 all_goals
  rw [hq] at hQ
  clear hq
  repeat' (first
   | (refine ⟨?_, ?_⟩; focus ((repeat' (first | refine And.intro ?_ ?_ | refine Or.inr ?_)); all_goals kernel_rfl))
   | exact hin _ | exact agf (by assumption)
   | (first | refine wp rfl ?_ | refine spt rfl ?_ | refine spf rfl ?_ | (refine spl (fun hc => ?_) fun hc => ?_) <;> (try rw [beq_iff_eq] at hc) <;> try simp only [hc] | refine cp (hQ) ?_ | refine finF hrel ?_ ?_ ?_) <;> try simp only [go_sem, *])
  refine AR_range [1, 2, 6, 7, 41] [⟨gen, 0, 1⟩] (fun i σ => Agree h σ.h ∧ ∃ v, σ.h ⟨gen, 1, 6⟩ = some (.box [.int .i64 t.kind, .int .i64 t.type.kind, .sl .any (t.type.args.map Ty.cells), .sl c1 (t.terms.map Tm.cells), v]) ∧ OwnS h σ.h v 5 ((t.args.take i).map Fm.cells)) (t.args).length (by first | omega | (simp only [go_sem, *] <;> omega)) ⟨rfl, rfl, rfl⟩ rfl (by simp only [go_sem, *]) (by simp only [go_sem, *]) ?_ (by intro i σ t v ht hK; simp only [List.mem_cons, List.not_mem_nil, or_false] at ht; rcases ht with rfl | rfl | rfl <;> exact hK) ?_ ?_
  ·simp only [go_sem, *]
   first | exact ⟨_, rfl, .inl rfl⟩ | exact ⟨(by repeat (first | exact Agree.refl _ | assumption | refine Agree.new ?_ (hgf0 _ _) | refine Agree.new ?_ (hfr' _ _))), _, rfl, .inl rfl⟩
  ·
   intro i σ gr1 hgl_gr1 hgn hlt jI jN jS ⟨jA, v, jb', jO0⟩
   obtain ⟨jT, jB⟩ := jS
   simp only [go_sem] at jT jB
   have hgf := fresh_of hgn
   have hgf0 : ∀ r i, h ⟨gr1, r, i⟩ = none := fun r i => agree_fresh jA (hgf r i)
   have eg_gen_gr1 := gen_lt (show gen < gr1 by omega)
   have eh_gen_gr1 := gen_lt' (show gen < gr1 by omega)
   have eg_ga0_gr1 := gen_lt (show ga0 < gr1 by omega)
   have eh_ga0_gr1 := gen_lt' (show ga0 < gr1 by omega)
   obtain ⟨x, hx⟩ : ∃ x, (t.args)[i]? = some x := ⟨_, List.getElem?_eq_getElem hlt⟩
   have hxm := List.mem_of_getElem? hx
   have hm := min_lt hlt
   clear hgn
   have hc := fun b => ih' x hxm b
   have hts : (t.args.take (i + 1)).map Fm.cells = (t.args.take i).map Fm.cells ++ [x.cells] := by rw [map_take_succ hx]
   clear ih'
   repeat' (first
    | (refine ⟨?_, ?_⟩; focus ((repeat' (first | refine And.intro ?_ ?_ | refine Or.inr ?_)); all_goals kernel_rfl))
    | (refine okE_app_ownd jO0 (by repeat (first | exact Keeps.refl _ | refine Keeps.new ?_ (hgf _ _) | refine Keeps.new ?_ (hfr' _ _) | refine Keeps.box ?_ rfl | refine Keeps.box ?_ (by simp only [go_sem, *]))) rfl (by simp only [go_sem, *] <;> omega) (by first | exact hgf0 _ _ | exact hfr' _ _) (by simp only [go_sem, *]) (by intro hd e; simp only [logOk_cons, logOk_nil, and_true]; repeat (first | exact trivial | refine ⟨.inr (by kernel_rfl), ?_⟩ | exact .inr (by kernel_rfl))) ?_; intro v' h' id' jO jK jAg jAb jF; obtain ⟨cO, rfl⟩ := jO.val; simp only [go_sem, *])
    | (first | refine wp rfl ?_ | refine spt rfl ?_ | refine spf rfl ?_ | (refine spl (fun hc => ?_) fun hc => ?_) <;> (try rw [beq_iff_eq] at hc) <;> try simp only [hc] | refine cp (hc _) ?_ | refine AR_inv ?_) <;> try simp only [go_sem, *])
   refine ⟨?_, _, rfl, jO.keep (Keeps.box (Keeps.refl _) (by simp only [go_sem, *]))⟩
   exact Agree.new (jAg (by repeat (first | exact Agree.refl _ | assumption | refine Agree.new ?_ (hgf0 _ _) | refine Agree.new ?_ (hfr' _ _)))) (hfr' _ _)
  ·
   intro σ ga1 hgl_ga1 hgn jS ⟨jA, v, jb', jO0⟩
   obtain ⟨jT, jB⟩ := jS
   simp only [go_sem] at jT jB
   have hgf := fresh_of hgn
   have hgf0 : ∀ r i, h ⟨ga1, r, i⟩ = none := fun r i => agree_fresh jA (hgf r i)
   have eg_gen_ga1 := gen_lt (show gen < ga1 by omega)
   have eh_gen_ga1 := gen_lt' (show gen < ga1 by omega)
   have eg_ga0_ga1 := gen_lt (show ga0 < ga1 by omega)
   have eh_ga0_ga1 := gen_lt' (show ga0 < ga1 by omega)
   clear hgn
   rw [List.take_length] at jO0
   obtain ⟨c, rfl⟩ := jO0.val
   clear ih'
   repeat' (first
    | (refine ⟨?_, ?_⟩; focus ((repeat' (first | refine And.intro ?_ ?_ | refine Or.inr ?_)); all_goals kernel_rfl))
    | exact hin _ | exact agf (by assumption)
    | (first | refine wp rfl ?_ | refine spt rfl ?_ | refine spf rfl ?_ | (refine spl (fun hc => ?_) fun hc => ?_) <;> (try rw [beq_iff_eq] at hc) <;> try simp only [hc] | refine finF hrel ?_ ?_ ?_) <;> try simp only [go_sem, *])
   rw [Fm.cells_eq]
theorem c_OwnFormula (f : Fm) (hf : FmW f) : Pure Tryz.prog env 77 [.agg f.cells] (.agg f.cells) := by
 intro h
 refine en Tryz.func77 [.cell 2 29] rfl rfl fun g0 w0 gen hrel hfr hfr' hres => ?_
 repeat' (first
  | exact hin _ | exact agf (by assumption)
  | (first | refine wp rfl ?_ | refine cp (c_RebuildOwn f hf 0) ?_ | refine finF hrel ?_ ?_ ?_) <;> try simp only [go_sem, *])
end Go.Proofs.YtenelbgbjmijiaaGreatDoor
