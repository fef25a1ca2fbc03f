/-
 Walks: the references' sizes and checks of terms and formulas.
-/
import Derived.Test.YtenelbgbjmijiaaGreatDoorVa
set_option linter.unusedSimpArgs false
set_option linter.unusedVariables false
set_option maxRecDepth 20000
set_option maxHeartbeats 4000000
namespace Go.Proofs.YtenelbgbjmijiaaGreatDoor
open Go GoAbs Go.Proofs
theorem c_tmCount : ∀ t : Tm, TmW t → Pure Tryz.prog env 102 [.agg t.cells] (.int .i64 t.szW) := by
 intro t
 induction t using Tm.ind with | h t ih => ?_
 intro ht h
 have hlen := ht.len
 have ih' : ∀ x ∈ t.args, Pure Tryz.prog env 102 [.agg x.cells] (.int .i64 x.szW) := fun x hx => ih x hx (ht.arg hx)
 clear ih
 have hv0 := t.szW_eq.symm
 generalize hvv : t.szW = v at hv0 ⊢
 clear hvv
 refine en Tryz.func102 [.tmp 2] rfl rfl fun g0 w0 gen hrel hfr hfr' hres => ?_
 repeat' (first
  | exact hin _ | exact agf (by assumption)
  | (first | refine wp rfl ?_ | refine spt rfl ?_ | refine spf rfl ?_ | (refine spl (fun hc => ?_) fun hc => ?_) <;> (try rw [beq_iff_eq] at hc) <;> try simp only [hc] | refine finF hrel ?_ ?_ ?_) <;> try simp only [go_sem, *])
 refine AR_range [2, 7] [] (fun i σ => Agree h σ.h ∧ ∃ n, σ.tm 3 = .int .i64 n ∧ Tm.szWL n (t.args.drop i) = v) (t.args).length (by first | omega | (simp only [go_sem, *] <;> omega)) ⟨rfl, rfl, rfl⟩ rfl (by simp only [go_sem, *]) (by simp only [go_sem, *]) ?_ (by intro i σ t v ht hK; simp only [List.mem_cons, List.not_mem_nil, or_false] at ht; rcases ht with rfl | rfl | rfl <;> exact hK) ?_ ?_
 ·simp only [go_sem, *]
  exact ⟨(by repeat (first | exact Agree.refl _ | assumption | refine Agree.new ?_ (hgf0 _ _) | refine Agree.new ?_ (hfr' _ _))), _, rfl, hv0⟩
 ·clear hv0
  intro i σ gr0 hgl_gr0 hgn hlt jI jN jS ⟨jA, n, jn, jv⟩
  obtain ⟨jT, jB⟩ := jS
  simp only [go_sem] at jT jB
  have hgf := fresh_of hgn
  have hgf0 : ∀ r i, h ⟨gr0, r, i⟩ = none := fun r i => agree_fresh jA (hgf r i)
  have eg_gen_gr0 := gen_lt (show gen < gr0 by omega)
  have eh_gen_gr0 := gen_lt' (show gen < gr0 by omega)
  obtain ⟨x, hx⟩ : ∃ x, (t.args)[i]? = some x := ⟨_, List.getElem?_eq_getElem hlt⟩
  have hxm := List.mem_of_getElem? hx
  have hm := min_lt hlt
  clear hgn
  rw [drop_get hx, Tm.szWL_cons] at jv
  have hc := ih' x hxm
  clear ih'
  repeat' (first
   | exact hin _ | exact agf (by assumption)
   | (first | refine wp rfl ?_ | refine spt rfl ?_ | refine spf rfl ?_ | (refine spl (fun hc => ?_) fun hc => ?_) <;> (try rw [beq_iff_eq] at hc) <;> try simp only [hc] | refine AR_inv ?_ | refine cp (hc) ?_ | refine finF hrel ?_ ?_ ?_) <;> try simp only [go_sem, *])
  exact ⟨(by repeat (first | exact Agree.refl _ | assumption | refine Agree.new ?_ (hgf0 _ _) | refine Agree.new ?_ (hfr' _ _))), _, rfl, jv⟩
 ·clear hv0
  intro σ ga0 hgl_ga0 hgn jS ⟨jA, n, jn, jv⟩
  obtain ⟨jT, jB⟩ := jS
  simp only [go_sem] at jT jB
  have hgf := fresh_of hgn
  have hgf0 : ∀ r i, h ⟨ga0, r, i⟩ = none := fun r i => agree_fresh jA (hgf r i)
  have eg_gen_ga0 := gen_lt (show gen < ga0 by omega)
  have eh_gen_ga0 := gen_lt' (show gen < ga0 by omega)
  clear hgn
  rw [List.drop_length, Tm.szWL_nil] at jv
  subst jv
  clear ih'
  repeat' (first
   | exact hin _ | exact agf (by assumption)
   | (first | refine wp rfl ?_ | refine spt rfl ?_ | refine spf rfl ?_ | (refine spl (fun hc => ?_) fun hc => ?_) <;> (try rw [beq_iff_eq] at hc) <;> try simp only [hc] | refine finF hrel ?_ ?_ ?_) <;> try simp only [go_sem, *])
theorem c_tmCheck (t : Tm) (ht : TmW t) : Pure Tryz.prog env 100 [.agg t.cells] (.int .i64 (tmErr t)) := by
 intro h
 have h1 := c_tmShape t ht
 have h2 := c_tmCount t ht
 have hsz := t.szW_nodes
 have hv0 : (chk 4096 t.nodes).2 = tmErr t := rfl
 generalize hvv : tmErr t = v at hv0 ⊢
 clear hvv
 unfold Tm.good at h1
 cases hn : t.nodes with
 | none =>
  rw [hn] at h1 hv0
  simp only [chk, Option.isSome_none] at h1 hv0
  subst hv0
  clear h2 hsz
  refine en Tryz.func100 [.tmp 2] rfl rfl fun g0 w0 gen hrel hfr hfr' hres => ?_
  repeat' (first
   | exact hin _ | exact agf (by assumption)
   | (first | refine wp rfl ?_ | refine spt rfl ?_ | refine spf rfl ?_ | (refine spl (fun hc => ?_) fun hc => ?_) <;> (try rw [beq_iff_eq] at hc) <;> try simp only [hc] | refine cp (h1) ?_ | refine finF hrel ?_ ?_ ?_) <;> try simp only [go_sem, *])
 | some n =>
  rw [hsz n hn] at h2
  rw [hn] at h1 hv0
  simp only [chk, Option.isSome_some] at h1 hv0
  clear hsz hn
  cases hd : decide (n > 4096) with
  | true =>
   have : 4096 < n := by simpa using hd
   rw [if_pos this] at hv0
   subst hv0
   refine en Tryz.func100 [.tmp 2] rfl rfl fun g0 w0 gen hrel hfr hfr' hres => ?_
   repeat' (first
    | exact hin _ | exact agf (by assumption)
    | (first | refine wp rfl ?_ | refine spt rfl ?_ | refine spf rfl ?_ | (refine spl (fun hc => ?_) fun hc => ?_) <;> (try rw [beq_iff_eq] at hc) <;> try simp only [hc] | refine cp (h1) ?_ | refine cp (h2) ?_ | refine finF hrel ?_ ?_ ?_) <;> try simp only [go_sem, *])
  | false =>
   have : ¬ 4096 < n := by simpa using hd
   rw [if_neg this] at hv0
   subst hv0
   refine en Tryz.func100 [.tmp 2] rfl rfl fun g0 w0 gen hrel hfr hfr' hres => ?_
   repeat' (first
    | exact hin _ | exact agf (by assumption)
    | (first | refine wp rfl ?_ | refine spt rfl ?_ | refine spf rfl ?_ | (refine spl (fun hc => ?_) fun hc => ?_) <;> (try rw [beq_iff_eq] at hc) <;> try simp only [hc] | refine cp (h1) ?_ | refine cp (h2) ?_ | refine finF hrel ?_ ?_ ?_) <;> try simp only [go_sem, *])
theorem c_quant (k : Int) : Pure Tryz.prog env 170 [.int .i64 k] (.bool (quant k)) := by
 intro h
 have hvv : quant k = quant k := rfl
 generalize hvv : quant k = v
 refine en Tryz.func170 [.tmp 2] rfl rfl fun g0 w0 gen hrel hfr hfr' hres => ?_
 repeat' (first
  | exact hin _ | exact agf (by assumption)
  | (first | refine wp rfl ?_ | (refine gs (fun hb => ?_) fun hb => ?_) <;> try simp only [Bool.not_true, Bool.not_false] at hb | refine finF hrel ?_ ?_ ?_) <;> try simp only [go_sem, *])
 all_goals (rw [← hvv]; simp_all [quant])
theorem c_fmCount : ∀ t : Fm, FmW t → Pure Tryz.prog env 97 [.agg t.cells] (.int .i64 t.szW) := by
 intro t
 induction t using Fm.ind with | h t ih => ?_
 intro ht h
 have hlen := ht.len
 have hlen2 := ht.tlen
 have ih' : ∀ x ∈ t.args, Pure Tryz.prog env 97 [.agg x.cells] (.int .i64 x.szW) := fun x hx => ih x hx (ht.arg hx)
 clear ih
 have hv0 := t.szW_eq.symm
 generalize hvv : t.szW = v at hv0 ⊢
 clear hvv
 refine en Tryz.func97 [.tmp 2] rfl rfl fun g0 w0 gen hrel hfr hfr' hres => ?_
 repeat' (first
  | exact hin _ | exact agf (by assumption)
  | (first | refine wp rfl ?_ | refine spt rfl ?_ | refine spf rfl ?_ | (refine spl (fun hc => ?_) fun hc => ?_) <;> (try rw [beq_iff_eq] at hc) <;> try simp only [hc] | refine finF hrel ?_ ?_ ?_) <;> try simp only [go_sem, *])
 refine AR_range [1, 2, 9] [⟨gen, 0, 0⟩] (fun i σ => Agree h σ.h ∧ ∃ n, σ.tm 3 = .int .i64 n ∧ Fm.szWL (Tm.szWL n (t.terms.drop i)) t.args = v) (t.terms).length (by first | omega | (simp only [go_sem, *] <;> omega)) ⟨rfl, rfl, rfl⟩ rfl (by simp only [go_sem, *]) (by simp only [go_sem, *]) ?_ (by intro i σ t v ht hK; simp only [List.mem_cons, List.not_mem_nil, or_false] at ht; rcases ht with rfl | rfl | rfl <;> exact hK) ?_ ?_
 ·simp only [go_sem, *]
  exact ⟨(by repeat (first | exact Agree.refl _ | assumption | refine Agree.new ?_ (hgf0 _ _) | refine Agree.new ?_ (hfr' _ _))), _, rfl, hv0⟩
 ·clear hv0 ih'
  intro i σ gr0 hgl_gr0 hgn hlt jI jN jS ⟨jA, n, jn, jv⟩
  obtain ⟨jT, jB⟩ := jS
  simp only [go_sem] at jT jB
  have hgf := fresh_of hgn
  have hgf0 : ∀ r i, h ⟨gr0, r, i⟩ = none := fun r i => agree_fresh jA (hgf r i)
  have eg_gen_gr0 := gen_lt (show gen < gr0 by omega)
  have eh_gen_gr0 := gen_lt' (show gen < gr0 by omega)
  obtain ⟨x, hx⟩ : ∃ x, (t.terms)[i]? = some x := ⟨_, List.getElem?_eq_getElem hlt⟩
  have hxm := List.mem_of_getElem? hx
  have hm := min_lt hlt
  clear hgn
  rw [drop_get hx, Tm.szWL_cons] at jv
  have hc := c_tmCount x (ht.term hxm)
  repeat' (first
   | exact hin _ | exact agf (by assumption)
   | (first | refine wp rfl ?_ | refine spt rfl ?_ | refine spf rfl ?_ | (refine spl (fun hc => ?_) fun hc => ?_) <;> (try rw [beq_iff_eq] at hc) <;> try simp only [hc] | refine AR_inv ?_ | refine cp (hc) ?_ | refine finF hrel ?_ ?_ ?_) <;> try simp only [go_sem, *])
  exact ⟨(by repeat (first | exact Agree.refl _ | assumption | refine Agree.new ?_ (hgf0 _ _) | refine Agree.new ?_ (hfr' _ _))), _, rfl, jv⟩
 clear hv0
 intro σ ga0 hgl_ga0 hgn jS ⟨jA, n, jn, jv⟩
 obtain ⟨jT, jB⟩ := jS
 simp only [go_sem] at jT jB
 have hgf := fresh_of hgn
 have hgf0 : ∀ r i, h ⟨ga0, r, i⟩ = none := fun r i => agree_fresh jA (hgf r i)
 have eg_gen_ga0 := gen_lt (show gen < ga0 by omega)
 have eh_gen_ga0 := gen_lt' (show gen < ga0 by omega)
 clear hgn
 rw [List.drop_length, Tm.szWL_nil] at jv
 repeat' (first
  | exact hin _ | exact agf (by assumption)
  | (first | refine wp rfl ?_ | refine spt rfl ?_ | refine spf rfl ?_ | (refine spl (fun hc => ?_) fun hc => ?_) <;> (try rw [beq_iff_eq] at hc) <;> try simp only [hc] | refine finF hrel ?_ ?_ ?_) <;> try simp only [go_sem, *])
 refine AR_range [2, 21] [] (fun i σ => Agree h σ.h ∧ ∃ n, σ.tm 3 = .int .i64 n ∧ Fm.szWL n (t.args.drop i) = v) (t.args).length (by first | omega | (simp only [go_sem, *] <;> omega)) ⟨rfl, rfl, rfl⟩ rfl (by simp only [go_sem, *]) (by simp only [go_sem, *]) ?_ (by intro i σ t v ht hK; simp only [List.mem_cons, List.not_mem_nil, or_false] at ht; rcases ht with rfl | rfl | rfl <;> exact hK) ?_ ?_
 ·simp only [go_sem, *]
  first | exact ⟨_, rfl, jv⟩ | exact ⟨(by repeat (first | exact Agree.refl _ | assumption | refine Agree.new ?_ (hgf0 _ _) | refine Agree.new ?_ (hfr' _ _))), _, rfl, jv⟩
 ·clear jv
  intro i σ gr1 hgl_gr1 hgn hlt jI jN jS ⟨jA, n', jn', jv⟩
  obtain ⟨jT, jB⟩ := jS
  simp only [go_sem] at jT jB
  have hgf := fresh_of hgn
  have hgf0 : ∀ r i, h ⟨gr1, r, i⟩ = none := fun r i => agree_fresh jA (hgf r i)
  have eg_gen_gr1 := gen_lt (show gen < gr1 by omega)
  have eh_gen_gr1 := gen_lt' (show gen < gr1 by omega)
  have eg_ga0_gr1 := gen_lt (show ga0 < gr1 by omega)
  have eh_ga0_gr1 := gen_lt' (show ga0 < gr1 by omega)
  obtain ⟨x, hx⟩ : ∃ x, (t.args)[i]? = some x := ⟨_, List.getElem?_eq_getElem hlt⟩
  have hxm := List.mem_of_getElem? hx
  have hm := min_lt hlt
  clear hgn
  rw [drop_get hx, Fm.szWL_cons] at jv
  have hc := ih' x hxm
  clear ih'
  repeat' (first
   | exact hin _ | exact agf (by assumption)
   | (first | refine wp rfl ?_ | refine spt rfl ?_ | refine spf rfl ?_ | (refine spl (fun hc => ?_) fun hc => ?_) <;> (try rw [beq_iff_eq] at hc) <;> try simp only [hc] | refine AR_inv ?_ | refine cp (hc) ?_ | refine finF hrel ?_ ?_ ?_) <;> try simp only [go_sem, *])
  exact ⟨(by repeat (first | exact Agree.refl _ | assumption | refine Agree.new ?_ (hgf0 _ _) | refine Agree.new ?_ (hfr' _ _))), _, rfl, jv⟩
 ·clear jv
  intro σ ga1 hgl_ga1 hgn jS ⟨jA, n', jn', jv⟩
  obtain ⟨jT, jB⟩ := jS
  simp only [go_sem] at jT jB
  have hgf := fresh_of hgn
  have hgf0 : ∀ r i, h ⟨ga1, r, i⟩ = none := fun r i => agree_fresh jA (hgf r i)
  have eg_gen_ga1 := gen_lt (show gen < ga1 by omega)
  have eh_gen_ga1 := gen_lt' (show gen < ga1 by omega)
  have eg_ga0_ga1 := gen_lt (show ga0 < ga1 by omega)
  have eh_ga0_ga1 := gen_lt' (show ga0 < ga1 by omega)
  clear hgn
  rw [List.drop_length, Fm.szWL_nil] at jv
  subst jv
  clear ih'
  repeat' (first
   | exact hin _ | exact agf (by assumption)
   | (first | refine wp rfl ?_ | refine spt rfl ?_ | refine spf rfl ?_ | (refine spl (fun hc => ?_) fun hc => ?_) <;> (try rw [beq_iff_eq] at hc) <;> try simp only [hc] | refine finF hrel ?_ ?_ ?_) <;> try simp only [go_sem, *])
end Go.Proofs.YtenelbgbjmijiaaGreatDoor
