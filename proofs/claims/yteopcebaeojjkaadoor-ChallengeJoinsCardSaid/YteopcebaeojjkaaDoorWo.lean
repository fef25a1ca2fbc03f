/-
  Walks: the types of witnesses and challenges of a formula.
-/
import Derived.Test.YteopcebaeojjkaaDoorWl
import Derived.Test.YteopcebaeojjkaaDoorAbsC
set_option linter.unusedSimpArgs false
set_option linter.unusedVariables false
set_option maxRecDepth 20000
set_option maxHeartbeats 4000000
namespace Go.Proofs.YteopcebaeojjkaaDoor
open Go GoAbs Go.Proofs

theorem c_of : ∀ t : Fm, FmW t → t.nodes ≠ none → Pure Tryd.prog env 65 [.agg t.cells] (bothV t.ch) := by
  intro t
  induction t using Fm.ind with | h t ih => ?_
  intro ht hn h
  have hlen := ht.len
  have hfd := formed_len (Fm.nodes_formed hn)
  have ih' : ∀ x ∈ t.args, Pure Tryd.prog env 65 [.agg x.cells] (.tup [.agg (bothC x.ch.1.1 x.ch.1.2), .int .i64 x.ch.2]) := fun x hx => ih x hx (ht.arg hx) (Fm.nodes_arg hn hx)
  clear ih hn
  have hin : ∀ S, InV S (bothV t.ch) := fun S => by simp [bothV, InV, InL, bothC_in]
  have hv : bothV (Fm.chL t.kind t.type [] t.args) = bothV t.ch := by rw [Fm.ch_eq]
  generalize bothV t.ch = v at hv hin ⊢
  refine en Tryd.func65 [.cell 2 69, .tmp 3] rfl rfl fun g0 w0 gen hrel hfr hfr' hres => ?_
  repeat' (first
    | (refine ⟨?_, ?_⟩; focus ((repeat' (first | refine And.intro ?_ ?_ | refine Or.inr ?_)); all_goals kernel_rfl))
    | exact hin _ | exact agf (by assumption)
    | (first | refine wp rfl ?_ | refine spt rfl ?_ | refine spf rfl ?_ | (refine spl (fun hc => ?_) fun hc => ?_) <;> (try rw [beq_iff_eq] at hc) <;> try simp only [hc] | refine finF hrel ?_ ?_ ?_) <;> try simp only [go_sem, *])
  refine AR_range [1, 2, 13] [⟨gen, 0, 0⟩, ⟨gen, 0, 1⟩] (fun i σ => Agree h σ.h ∧ ∃ ps : List (Ty × Ty), ps.length = i ∧ (∀ p ∈ ps, TyW p.1 ∧ TyW p.2) ∧ OwnS h σ.h (σ.tm 4) 4 (ps.map bothP) ∧ bothV (Fm.chL t.kind t.type ps (t.args.drop i)) = v) (t.args).length (by first | omega | (simp only [go_sem, *] <;> omega)) ⟨rfl, rfl, rfl⟩ rfl (by simp only [go_sem, *]) (by simp only [go_sem, *]) ?_ (by intro i σ t v ht hK; simp only [List.mem_cons, List.not_mem_nil, or_false] at ht; rcases ht with rfl | rfl | rfl <;> exact hK) ?_ ?_
  · simp only [go_sem, *]
    exact ⟨by repeat (first | exact Agree.refl _ | refine Agree.new ?_ (hfr' _ _)), [], rfl, by simp, .inl rfl, hv⟩
  · clear hv
    intro i σ gr0 hgl_gr0 hgn hlt jI jN jS ⟨jA, ps, jl, jw, jO0, jv⟩
    obtain ⟨jT, jB⟩ := jS
    simp only [go_sem] at jT jB
    have hgf := fresh_of hgn
    have hgf0 : ∀ r i, h ⟨gr0, r, i⟩ = none := fun r i => agree_fresh jA (hgf r i)
    have eg_gen_gr0 := gen_lt (show gen < gr0 by omega)
    have eh_gen_gr0 := gen_lt' (show gen < gr0 by omega)
    obtain ⟨x, hx⟩ : ∃ x, (t.args)[i]? = some x := ⟨_, List.getElem?_eq_getElem hlt⟩
    have hxm := List.mem_of_getElem? hx
    have hm := min_lt hlt
    clear hgn
    rw [drop_get hx, Fm.chL_cons] at jv
    have hc := ih' x hxm
    have hxw := Fm.ch_W x (ht.arg hxm)
    have b1 : ps.length ≤ 100000 := by omega
    cases he : (x.ch.2 != 0) with
    | true =>
      have he' : (x.ch.2 == 0) = false := by simpa [bne] using he
      rw [he'] at jv
      clear ih' hfd
      repeat' (first
        | (refine ⟨?_, ?_⟩; focus ((repeat' (first | refine And.intro ?_ ?_ | refine Or.inr ?_)); all_goals kernel_rfl))
        | exact hin _ | exact agf (by assumption)
        | (first | refine wp rfl ?_ | refine spt rfl ?_ | refine spf rfl ?_ | (refine spl (fun hc => ?_) fun hc => ?_) <;> (try rw [beq_iff_eq] at hc) <;> try simp only [hc] | refine cp (hc) ?_ | refine finF hrel ?_ ?_ ?_) <;> try simp only [go_sem, *])
      rw [← jv]; simp [bothV, bothC, tZero, Ty.mk_kind, Ty.mk_args]
    | false =>
      have he' : (x.ch.2 == 0) = true := by simpa [bne] using he
      rw [he'] at jv
      simp only [if_true] at jv
      clear ih' hfd
      repeat' (first
        | (refine ⟨?_, ?_⟩; focus ((repeat' (first | refine And.intro ?_ ?_ | refine Or.inr ?_)); all_goals kernel_rfl))
        | (refine okE_app_own jO0 (by repeat (first | exact Keeps.refl _ | refine Keeps.new ?_ (hgf _ _) | refine Keeps.new ?_ (hfr' _ _) | refine Keeps.box ?_ rfl | refine Keeps.box ?_ (by simp only [go_sem, *]))) rfl (by simp only [go_sem, *] <;> omega) (by first | exact hgf0 _ _ | exact hfr' _ _) (by simp only [go_sem, *]) (by intro hd; cases hd) ?_; intro v' h' log' jO jK jAg jAb jF; simp only [go_sem, *])
        | (first | refine wp rfl ?_ | refine spt rfl ?_ | refine spf rfl ?_ | (refine spl (fun hc => ?_) fun hc => ?_) <;> (try rw [beq_iff_eq] at hc) <;> try simp only [hc] | refine cp (hc) ?_ | refine AR_inv ?_) <;> try simp only [go_sem, *])
      refine ⟨jAg (by repeat (first | assumption | refine Agree.new ?_ (hgf0 _ _))), ps ++ [x.ch.1], by simp [jl], ?_, by rw [List.map_append]; exact jO, jv⟩
      intro p hp
      rcases List.mem_append.1 hp with hp | hp
      · exact jw p hp
      · simp at hp; subst hp; exact hxw
  · clear hv
    intro σ ga0 hgl_ga0 hgn jS ⟨jA, ps, jl, jw, jO0, jv⟩
    obtain ⟨jT, jB⟩ := jS
    simp only [go_sem] at jT jB
    have hgf := fresh_of hgn
    have hgf0 : ∀ r i, h ⟨ga0, r, i⟩ = none := fun r i => agree_fresh jA (hgf r i)
    have eg_gen_ga0 := gen_lt (show gen < ga0 by omega)
    have eh_gen_ga0 := gen_lt' (show gen < ga0 by omega)
    clear hgn
    rw [List.drop_length, Fm.chL_nil] at jv
    obtain ⟨c, jO⟩ := jO0.val
    have hsz := c_sized
    unfold bothV at hsz
    rcases kinds5 t.kind with hk | hk | hk | hk | ⟨hk2, hk3, hk4, hk5⟩
    ·
      simp only [hk, Int.reduceBEq, Bool.true_or, Bool.or_true, true_implies] at hfd
      obtain ⟨p, q, rfl⟩ := lst2 (show ps.length = 2 by omega)
      simp only [hk, chCase, List.getD_cons_zero, List.getD_cons_succ, Int.reduceBEq, if_true, Bool.false_eq_true, if_false, bothV] at jv
      obtain ⟨hp1, hp2⟩ := jw p (by simp)
      obtain ⟨hq1, hq2⟩ := jw q (by simp)
      have htt := ht.ty
      clear jw hfd ih'
      subst jv
      repeat' (first
        | (refine ⟨?_, ?_⟩; focus ((repeat' (first | refine And.intro ?_ ?_ | refine Or.inr ?_)); all_goals kernel_rfl))
        | exact hin _ | exact agf (by assumption)
        | (first | refine wp rfl ?_ | refine spt rfl ?_ | refine spf rfl ?_ | (refine spl (fun hc => ?_) fun hc => ?_) <;> (try rw [beq_iff_eq] at hc) <;> try simp only [hc] | refine cp (c_chNone) ?_ | refine cp (c_chPair _ _) ?_ | refine cp (c_chFun _ _) ?_ | refine cp (hsz _ _ (by repeat (first | assumption | exact tUnit_W | refine chPair_W ?_ ?_ | refine chFun_W ?_ ?_)) (by repeat (first | assumption | exact tUnit_W | refine chPair_W ?_ ?_ | refine chFun_W ?_ ?_))) ?_ | refine finF hrel ?_ ?_ ?_) <;> try simp only [go_sem, *])
    ·
      simp only [hk, Int.reduceBEq, Bool.true_or, Bool.or_true, true_implies] at hfd
      obtain ⟨p, q, rfl⟩ := lst2 (show ps.length = 2 by omega)
      simp only [hk, chCase, List.getD_cons_zero, List.getD_cons_succ, Int.reduceBEq, if_true, Bool.false_eq_true, if_false, bothV] at jv
      obtain ⟨hp1, hp2⟩ := jw p (by simp)
      obtain ⟨hq1, hq2⟩ := jw q (by simp)
      have htt := ht.ty
      clear jw hfd ih'
      subst jv
      repeat' (first
        | (refine ⟨?_, ?_⟩; focus ((repeat' (first | refine And.intro ?_ ?_ | refine Or.inr ?_)); all_goals kernel_rfl))
        | exact hin _ | exact agf (by assumption)
        | (first | refine wp rfl ?_ | refine spt rfl ?_ | refine spf rfl ?_ | (refine spl (fun hc => ?_) fun hc => ?_) <;> (try rw [beq_iff_eq] at hc) <;> try simp only [hc] | refine cp (c_chNone) ?_ | refine cp (c_chPair _ _) ?_ | refine cp (c_chFun _ _) ?_ | refine cp (hsz _ _ (by repeat (first | assumption | exact tUnit_W | refine chPair_W ?_ ?_ | refine chFun_W ?_ ?_)) (by repeat (first | assumption | exact tUnit_W | refine chPair_W ?_ ?_ | refine chFun_W ?_ ?_))) ?_ | refine finF hrel ?_ ?_ ?_) <;> try simp only [go_sem, *])
    ·
      simp only [hk, Int.reduceBEq, Bool.true_or, Bool.or_true, true_implies] at hfd
      obtain ⟨p, rfl⟩ := lst1 (show ps.length = 1 by omega)
      simp only [hk, chCase, List.getD_cons_zero, List.getD_cons_succ, Int.reduceBEq, if_true, Bool.false_eq_true, if_false, bothV] at jv
      obtain ⟨hp1, hp2⟩ := jw p (by simp)
      have htt := ht.ty
      clear jw hfd ih'
      subst jv
      repeat' (first
        | (refine ⟨?_, ?_⟩; focus ((repeat' (first | refine And.intro ?_ ?_ | refine Or.inr ?_)); all_goals kernel_rfl))
        | exact hin _ | exact agf (by assumption)
        | (first | refine wp rfl ?_ | refine spt rfl ?_ | refine spf rfl ?_ | (refine spl (fun hc => ?_) fun hc => ?_) <;> (try rw [beq_iff_eq] at hc) <;> try simp only [hc] | refine cp (c_chNone) ?_ | refine cp (c_chPair _ _) ?_ | refine cp (c_chFun _ _) ?_ | refine cp (hsz _ _ (by repeat (first | assumption | exact tUnit_W | refine chPair_W ?_ ?_ | refine chFun_W ?_ ?_)) (by repeat (first | assumption | exact tUnit_W | refine chPair_W ?_ ?_ | refine chFun_W ?_ ?_))) ?_ | refine finF hrel ?_ ?_ ?_) <;> try simp only [go_sem, *])
    ·
      simp only [hk, Int.reduceBEq, Bool.true_or, Bool.or_true, true_implies] at hfd
      obtain ⟨p, rfl⟩ := lst1 (show ps.length = 1 by omega)
      simp only [hk, chCase, List.getD_cons_zero, List.getD_cons_succ, Int.reduceBEq, if_true, Bool.false_eq_true, if_false, bothV] at jv
      obtain ⟨hp1, hp2⟩ := jw p (by simp)
      have htt := ht.ty
      clear jw hfd ih'
      subst jv
      repeat' (first
        | (refine ⟨?_, ?_⟩; focus ((repeat' (first | refine And.intro ?_ ?_ | refine Or.inr ?_)); all_goals kernel_rfl))
        | exact hin _ | exact agf (by assumption)
        | (first | refine wp rfl ?_ | refine spt rfl ?_ | refine spf rfl ?_ | (refine spl (fun hc => ?_) fun hc => ?_) <;> (try rw [beq_iff_eq] at hc) <;> try simp only [hc] | refine cp (c_chNone) ?_ | refine cp (c_chPair _ _) ?_ | refine cp (c_chFun _ _) ?_ | refine cp (hsz _ _ (by repeat (first | assumption | exact tUnit_W | refine chPair_W ?_ ?_ | refine chFun_W ?_ ?_)) (by repeat (first | assumption | exact tUnit_W | refine chPair_W ?_ ?_ | refine chFun_W ?_ ?_))) ?_ | refine finF hrel ?_ ?_ ?_) <;> try simp only [go_sem, *])
    ·
      simp only [chCase, hk2, hk3, hk4, hk5, Bool.false_eq_true, if_false, bothV] at jv
      clear jw hfd ih'
      subst jv
      repeat' (first
        | (refine ⟨?_, ?_⟩; focus ((repeat' (first | refine And.intro ?_ ?_ | refine Or.inr ?_)); all_goals kernel_rfl))
        | exact hin _ | exact agf (by assumption)
        | (first | refine wp rfl ?_ | refine spt rfl ?_ | refine spf rfl ?_ | (refine spl (fun hc => ?_) fun hc => ?_) <;> (try rw [beq_iff_eq] at hc) <;> try simp only [hc] | refine cp (c_chNone) ?_ | refine cp (hsz _ _ tUnit_W tUnit_W) ?_ | refine finF hrel ?_ ?_ ?_) <;> try simp only [go_sem, *])

theorem c_look (t : Fm) (ht : FmW t) : Pure Tryd.prog env 48 [.agg t.cells] (bothV t.look) := by
  intro h
  have h1 := c_fmCheck t ht
  have h2 := c_uniform t ht
  have hin : ∀ S, InV S (bothV t.look) := fun S => by simp [bothV, InV, InL, bothC_in]
  have hv : bothV t.look = bothV t.look := rfl
  generalize hvv : bothV t.look = v at hin ⊢
  clear hv
  cases he : (fmErr t != 0) with
  | true =>
    have he' : (fmErr t == 0) = false := by simpa [bne] using he
    clear h2
    refine en Tryd.func48 [.cell 2 69, .tmp 3] rfl rfl fun g0 w0 gen hrel hfr hfr' hres => ?_
    repeat' (first
      | exact hin _ | exact agf (by assumption)
      | (first | refine wp rfl ?_ | refine spt rfl ?_ | refine spf rfl ?_ | (refine spl (fun hc => ?_) fun hc => ?_) <;> (try rw [beq_iff_eq] at hc) <;> try simp only [hc] | refine cp (h1) ?_ | refine finF hrel ?_ ?_ ?_) <;> try simp only [go_sem, *])
    rw [← hvv, Fm.look, he']; simp [bothV, bothC, tZero, Ty.mk_kind, Ty.mk_args]
  | false =>
    have he' : (fmErr t == 0) = true := by simpa [bne] using he
    cases hu : t.uni with
    | true =>
      rw [hu] at h2
      refine en Tryd.func48 [.cell 2 69, .tmp 3] rfl rfl fun g0 w0 gen hrel hfr hfr' hres => ?_
      repeat' (first
        | exact hin _ | exact agf (by assumption)
        | (first | refine wp rfl ?_ | refine spt rfl ?_ | refine spf rfl ?_ | (refine spl (fun hc => ?_) fun hc => ?_) <;> (try rw [beq_iff_eq] at hc) <;> try simp only [hc] | refine cp (h1) ?_ | refine cp (h2) ?_ | refine finF hrel ?_ ?_ ?_) <;> try simp only [go_sem, *])
      rw [← hvv, Fm.look, he', hu]; simp [bothV, bothC, tZero, Ty.mk_kind, Ty.mk_args]
    | false =>
      rw [hu] at h2
      have h3 := c_of t ht (Fm.ok_nodes (by simpa using he'))
      unfold bothV at h3
      have hvv' : V.tup [.agg (bothC t.ch.1.1 t.ch.1.2), .int .i64 t.ch.2] = v := by rw [← hvv, Fm.look, he', hu]; rfl
      subst hvv'
      clear hvv
      refine en Tryd.func48 [.cell 2 69, .tmp 3] rfl rfl fun g0 w0 gen hrel hfr hfr' hres => ?_
      repeat' (first
        | exact hin _ | exact agf (by assumption)
        | (first | refine wp rfl ?_ | refine spt rfl ?_ | refine spf rfl ?_ | (refine spl (fun hc => ?_) fun hc => ?_) <;> (try rw [beq_iff_eq] at hc) <;> try simp only [hc] | refine cp (h1) ?_ | refine cp (h2) ?_ | refine cp (h3) ?_ | refine finF hrel ?_ ?_ ?_) <;> try simp only [go_sem, *])

theorem c_Witness (t : Fm) (ht : FmW t) : Pure Tryd.prog env 18 [.agg t.cells] (tyErrV t.witness) := by
  intro h
  have h1 := c_look t ht
  unfold bothV at h1
  refine en Tryd.func18 [.cell 2 29, .tmp 3] rfl rfl fun g0 w0 gen hrel hfr hfr' hres => ?_
  repeat' (first
    | exact hin _ | exact agf (by assumption)
    | (first | refine wp rfl ?_ | refine cp (h1) ?_ | refine finF hrel ?_ ?_ ?_) <;> try simp only [go_sem, *])

theorem c_Challenge (t : Fm) (ht : FmW t) : Pure Tryd.prog env 19 [.agg t.cells] (tyErrV t.challenge) := by
  intro h
  have h1 := c_look t ht
  unfold bothV at h1
  refine en Tryd.func19 [.cell 2 29, .tmp 3] rfl rfl fun g0 w0 gen hrel hfr hfr' hres => ?_
  repeat' (first
    | exact hin _ | exact agf (by assumption)
    | (first | refine wp rfl ?_ | refine cp (h1) ?_ | refine finF hrel ?_ ?_ ?_) <;> try simp only [go_sem, *])
end Go.Proofs.YteopcebaeojjkaaDoor
