/-
 Walks: the references' putting in.
-/
import Derived.Test.YtenelbgbjmijiaaGreatDoorVd
set_option linter.unusedSimpArgs false
set_option linter.unusedVariables false
set_option maxRecDepth 20000
set_option maxHeartbeats 4000000
namespace Go.Proofs.YtenelbgbjmijiaaGreatDoor
open Go GoAbs Go.Proofs
theorem tmInn_W {s : Tm} (hs : TmW s) {a : Int} : ∀ (t : Tm) (d : Int), TmW t → TmW (tmInn s a t d) := by
 intro t
 induction t using Tm.ind with | h t ih => ?_
 intro d ht
 rw [tmInn_eq]
 repeat' split
 ·exact tmUp_W _ _ hs
 ·exact tmVar_W _
 ·exact ht
 ·refine .mk _ _ _ _ ht.ty (by rw [List.length_map]; exact ht.len) ?_
  intro x hx
  obtain ⟨y, hy, rfl⟩ := List.mem_map.1 hx
  exact ih y hy _ (ht.arg hy)
theorem c_tmIn (s : Tm) (hs : TmW s) (at' : Int) : ∀ t : Tm, TmW t → ∀ d : Int, Pure Tryz.prog env 168 [.agg t.cells, .int .i64 at', .int .i64 d, .agg s.cells] (.agg (tmInn s at' t d).cells) := by
 intro t
 induction t using Tm.ind with | h t ih => ?_
 intro ht d h
 have hlen := ht.len
 have ih' : ∀ x ∈ t.args, Pure Tryz.prog env 168 [.agg x.cells, .int .i64 at', .int .i64 (addW d (tmBelow t.kind)), .agg s.cells] (.agg (tmInn s at' x (addW d (tmBelow t.kind))).cells) := fun x hx => ih x hx (ht.arg hx) _
 clear ih
 have hB := c_tmBelow t
 have hw : IntKind.i64.wrap (d + tmBelow t.kind) = addW d (tmBelow t.kind) := rfl
 have hw0 : IntKind.i64.wrap (at' + d) = addW at' d := rfl
 cases hk1 : (t.kind == 1) with
 | true =>
  have hw1 : IntKind.i64.wrap (t.index - 1) = subW t.index 1 := rfl
  have hU := c_tmUp (addW at' d) s hs 0
  rw [tmInn_eq, hk1]
  simp only [if_true]
  clear ih' hB hw
  generalize addW at' d = a0 at *
  cases hk2 : (t.index == a0) with
  | true =>
   simp only [if_true]
   refine en Tryz.func168 [.cell 8 31] rfl rfl fun g0 w0 gen hrel hfr hfr' hres => ?_
   repeat' (first
    |(refine ⟨?_,?_⟩; focus ((repeat' (first|refine ⟨?_,?_⟩|refine .inr ?_)); all_goals kernel_rfl))
    |exact hin _|exact agf (by assumption)
    | (first|refine wp rfl ?_|refine spt rfl ?_|refine spf rfl ?_|(refine spl (fun hc => ?_) fun hc => ?_) <;> (try rw [beq_iff_eq] at hc) <;> try simp only [hc]|refine cp hU ?_|refine finF hrel ?_ ?_ ?_)<;>try simp only [go_sem, *])
  | false =>
   cases hk3 : decide (t.index > a0) with
   | true =>
    simp only [if_true, Bool.false_eq_true, if_false]
    refine en Tryz.func168 [.cell 8 31] rfl rfl fun g0 w0 gen hrel hfr hfr' hres => ?_
    repeat' (first
     |(refine ⟨?_,?_⟩; focus ((repeat' (first|refine ⟨?_,?_⟩|refine .inr ?_)); all_goals kernel_rfl))
     |exact hin _|exact agf (by assumption)
     | (first|refine wp rfl ?_|refine spt rfl ?_|refine spf rfl ?_|(refine spl (fun hc => ?_) fun hc => ?_) <;> (try rw [beq_iff_eq] at hc) <;> try simp only [hc]|refine cp (c_Var _) ?_|refine finF hrel ?_ ?_ ?_)<;>try simp only [go_sem, *])
   | false =>
    simp only [Bool.false_eq_true, if_false]
    refine en Tryz.func168 [.cell 8 31] rfl rfl fun g0 w0 gen hrel hfr hfr' hres => ?_
    repeat' (first
     |(refine ⟨?_,?_⟩; focus ((repeat' (first|refine ⟨?_,?_⟩|refine .inr ?_)); all_goals kernel_rfl))
     |exact hin _|exact agf (by assumption)
     | (first|refine wp rfl ?_|refine spt rfl ?_|refine spf rfl ?_|(refine spl (fun hc => ?_) fun hc => ?_) <;> (try rw [beq_iff_eq] at hc) <;> try simp only [hc]|refine finF hrel ?_ ?_ ?_)<;>try simp only [go_sem, *])
 | false =>
  have hv0 : V.agg (Tm.mk t.kind t.index t.type (t.args.map fun x => tmInn s at' x (addW d (tmBelow t.kind)))).cells = .agg (tmInn s at' t d).cells := by
   rw [tmInn_eq s at' t, hk1]; rfl
  have hin : ∀ S, InV S (V.agg (tmInn s at' t d).cells) := fun S => by simp [InV, InL_Tm]
  generalize hvv : V.agg (tmInn s at' t d).cells = v at hv0 hin ⊢
  clear hvv hw0
  generalize addW d (tmBelow t.kind) = a2 at *
  refine en Tryz.func168 [.cell 8 31] rfl rfl fun g0 w0 gen hrel hfr hfr' hres => ?_
  repeat' (first
   |(refine ⟨?_,?_⟩; focus ((repeat' (first|refine ⟨?_,?_⟩|refine .inr ?_)); all_goals kernel_rfl))
   |exact hin _|exact agf (by assumption)
   | (first|refine wp rfl ?_|refine spt rfl ?_|refine spf rfl ?_|(refine spl (fun hc => ?_) fun hc => ?_) <;> (try rw [beq_iff_eq] at hc) <;> try simp only [hc]|refine finF hrel ?_ ?_ ?_)<;>try simp only [go_sem, *])
  refine AR_range [1, 2, 4, 7, 8, 9, 45] [⟨gen, 0, 0⟩, ⟨gen, 0, 1⟩, ⟨gen, 0, 2⟩] (fun i σ => Agree h σ.h ∧ ∃ v, σ.h ⟨gen, 7, 7⟩ = some (.box [.int .i64 t.kind, .int .i64 t.index, .int .i64 t.type.kind, .sl .any (t.type.args.map Ty.cells), v]) ∧ OwnS h σ.h v 5 (((t.args.take i).map fun x => tmInn s at' x a2).map Tm.cells)) (t.args).length (by first | omega | (simp only [go_sem, *] <;> omega)) ⟨rfl, rfl, rfl⟩ rfl (by simp only [go_sem, *]) (by simp only [go_sem, *]) ?_ (by intro i σ t v ht hK; simp only [List.mem_cons, List.not_mem_nil, or_false] at ht; rcases ht with rfl | rfl | rfl <;> exact hK) ?_ ?_
  ·simp only [go_sem, *]
   exact ⟨(by repeat (first|exact Agree.refl _|assumption|refine Agree.new ?_ (hgf0 _ _)|refine Agree.new ?_ (hfr' _ _))), _, rfl, .inl rfl⟩
  ·clear hv0
   intro i σ gr0 hgl_gr0 hgn hlt jI jN jS ⟨jA, v, jb, jO0⟩
   obtain ⟨jT, jB⟩ := jS
   simp only [go_sem] at jT jB
   have hgf := fresh_of hgn
   have hgf0 := fun r i => agree_fresh jA (hgf r i)
   have eg_gen_gr0 := gen_lt (show gen < gr0 by omega)
   have eh_gen_gr0 := gen_lt' (show gen < gr0 by omega)
   obtain ⟨x, hx⟩ : ∃ x, (t.args)[i]? = some x := ⟨_, List.getElem?_eq_getElem hlt⟩
   have hxm := List.mem_of_getElem? hx
   have hm := min_lt hlt
   clear hgn
   have hc := ih' x hxm
   have hts : ((t.args.take (i + 1)).map fun x => tmInn s at' x a2).map Tm.cells = ((t.args.take i).map fun x => tmInn s at' x a2).map Tm.cells ++ [(tmInn s at' x a2).cells] := by rw [map_take_succ hx, List.map_append]; rfl
   clear ih'
   repeat' (first
    |(refine ⟨?_,?_⟩; focus ((repeat' (first|refine ⟨?_,?_⟩|refine .inr ?_)); all_goals kernel_rfl))
    |(refine okE_app_ownd jO0 (by repeat (first|exact Keeps.refl _|refine Keeps.new ?_ (hgf _ _)|refine Keeps.new ?_ (hfr' _ _)|refine Keeps.box ?_ rfl|refine Keeps.box ?_ (by simp only [go_sem, *]))) rfl (by simp only [go_sem, *] <;> omega) (by first|exact hgf0 _ _|exact hfr' _ _) (by simp only [go_sem, *]) (by intro hd e; simp only [logOk_cons, logOk_nil, and_true]; repeat (first|exact trivial|refine ⟨.inr (by kernel_rfl), ?_⟩|exact .inr (by kernel_rfl))) ?_; intro v' h' id' jO jK jAg jAb jF; obtain ⟨cO, rfl⟩ := jO.val; simp only [go_sem, *])
    | (first|refine wp rfl ?_|refine spt rfl ?_|refine spf rfl ?_|(refine spl (fun hc => ?_) fun hc => ?_) <;> (try rw [beq_iff_eq] at hc) <;> try simp only [hc]|refine cp hc ?_|refine cp hB ?_|refine AR_inv ?_)<;>try simp only [go_sem, *])
   refine ⟨?_, _, rfl, jO.keep (Keeps.box (Keeps.refl _) (by simp only [go_sem, *]))⟩
   exact Agree.new (jAg (by repeat (first|exact Agree.refl _|assumption|refine Agree.new ?_ (hgf0 _ _)|refine Agree.new ?_ (hfr' _ _)))) (hfr' _ _)
  ·
   intro σ ga0 hgl_ga0 hgn jS ⟨jA, v, jb, jO0⟩
   obtain ⟨jT, jB⟩ := jS
   simp only [go_sem] at jT jB
   have hgf := fresh_of hgn
   have hgf0 := fun r i => agree_fresh jA (hgf r i)
   have eg_gen_ga0 := gen_lt (show gen < ga0 by omega)
   have eh_gen_ga0 := gen_lt' (show gen < ga0 by omega)
   clear hgn
   rw [List.take_length] at jO0
   obtain ⟨c, rfl⟩ := jO0.val
   clear ih'
   rw [Tm.mk_cells] at hv0
   subst hv0
   repeat' (first
    |(refine ⟨?_,?_⟩; focus ((repeat' (first|refine ⟨?_,?_⟩|refine .inr ?_)); all_goals kernel_rfl))
    |exact hin _|exact agf (by assumption)
    | (first|refine wp rfl ?_|refine spt rfl ?_|refine spf rfl ?_|(refine spl (fun hc => ?_) fun hc => ?_) <;> (try rw [beq_iff_eq] at hc) <;> try simp only [hc]|refine finF hrel ?_ ?_ ?_)<;>try simp only [go_sem, *])
theorem c_fmLeast (m : Int) : ∀ t : Fm, FmW t → Pure Tryz.prog env 120 [.agg t.cells, .int .i64 m] (.bool (t.least m)) := by
 intro t
 induction t using Fm.ind with | h t ih => ?_
 intro ht h
 have hlen := ht.len
 have hlen2 := ht.tlen
 have ih' : ∀ x ∈ t.args, Pure Tryz.prog env 120 [.agg x.cells, .int .i64 m] (.bool (x.least m)) := fun x hx => ih x hx (ht.arg hx)
 clear ih
 have hv0 := (t.least_eq m).symm
 generalize hvv : t.least m = v at hv0 ⊢
 clear hvv
 refine en Tryz.func120 [.tmp 4] rfl rfl fun g0 w0 gen hrel hfr hfr' hres => ?_
 repeat' (first
  |exact hin _|exact agf (by assumption)
  | (first|refine wp rfl ?_|refine spt rfl ?_|refine spf rfl ?_|(refine spl (fun hc => ?_) fun hc => ?_) <;> (try rw [beq_iff_eq] at hc) <;> try simp only [hc]|refine finF hrel ?_ ?_ ?_)<;>try simp only [go_sem, *])
 refine AR_range [1, 2, 10] [⟨gen, 0, 0⟩] (fun i σ => Agree h σ.h ∧ (Tm.leastL m (t.terms.drop i) && Fm.leastL m t.args) = v) (t.terms).length (by first | omega | (simp only [go_sem, *] <;> omega)) ⟨rfl, rfl, rfl⟩ rfl (by simp only [go_sem, *]) (by simp only [go_sem, *]) ?_ (by intro i σ t v ht hK; simp only [List.mem_cons, List.not_mem_nil, or_false] at ht; rcases ht with rfl | rfl | rfl <;> exact hK) ?_ ?_
 ·simp only [go_sem, *]
  first|exact (by repeat (first|exact Agree.refl _|assumption|refine Agree.new ?_ (hgf0 _ _)|refine Agree.new ?_ (hfr' _ _)))|exact ⟨(by repeat (first|exact Agree.refl _|assumption|refine Agree.new ?_ (hgf0 _ _)|refine Agree.new ?_ (hfr' _ _))), hv0⟩
 ·clear hv0 ih'
  intro i σ gr0 hgl_gr0 hgn hlt jI jN jS ⟨jA, jv⟩
  obtain ⟨jT, jB⟩ := jS
  simp only [go_sem] at jT jB
  have hgf := fresh_of hgn
  have hgf0 := fun r i => agree_fresh jA (hgf r i)
  have eg_gen_gr0 := gen_lt (show gen < gr0 by omega)
  have eh_gen_gr0 := gen_lt' (show gen < gr0 by omega)
  obtain ⟨x, hx⟩ : ∃ x, (t.terms)[i]? = some x := ⟨_, List.getElem?_eq_getElem hlt⟩
  have hxm := List.mem_of_getElem? hx
  have hm := min_lt hlt
  clear hgn
  rw [drop_get hx, Tm.leastL_cons] at jv
  have hc := c_tmLeast m x (ht.term hxm)
  cases hn : x.least m with
  | false =>
   rw [hn] at hc
   rw [hn, Bool.false_and, Bool.false_and] at jv
   subst jv
   repeat' (first
    |exact hin _|exact agf (by assumption)
    | (first|refine wp rfl ?_|refine spt rfl ?_|refine spf rfl ?_|(refine spl (fun hc => ?_) fun hc => ?_) <;> (try rw [beq_iff_eq] at hc) <;> try simp only [hc]|refine cp hc ?_|refine finF hrel ?_ ?_ ?_)<;>try simp only [go_sem, *])
  | true =>
   rw [hn] at hc
   rw [hn, Bool.true_and] at jv
   repeat' (first
    |exact hin _|exact agf (by assumption)
    | (first|refine wp rfl ?_|refine spt rfl ?_|refine spf rfl ?_|(refine spl (fun hc => ?_) fun hc => ?_) <;> (try rw [beq_iff_eq] at hc) <;> try simp only [hc]|refine AR_inv ?_|refine cp hc ?_|refine finF hrel ?_ ?_ ?_)<;>try simp only [go_sem, *])
   first|exact (by repeat (first|exact Agree.refl _|assumption|refine Agree.new ?_ (hgf0 _ _)|refine Agree.new ?_ (hfr' _ _)))|exact ⟨(by repeat (first|exact Agree.refl _|assumption|refine Agree.new ?_ (hgf0 _ _)|refine Agree.new ?_ (hfr' _ _))), jv⟩
 clear hv0
 intro σ ga0 hgl_ga0 hgn jS ⟨jA, jv⟩
 obtain ⟨jT, jB⟩ := jS
 simp only [go_sem] at jT jB
 have hgf := fresh_of hgn
 have hgf0 := fun r i => agree_fresh jA (hgf r i)
 have eg_gen_ga0 := gen_lt (show gen < ga0 by omega)
 have eh_gen_ga0 := gen_lt' (show gen < ga0 by omega)
 clear hgn
 rw [List.drop_length, Tm.leastL_nil, Bool.true_and] at jv
 repeat' (first
  |exact hin _|exact agf (by assumption)
  | (first|refine wp rfl ?_|refine spt rfl ?_|refine spf rfl ?_|(refine spl (fun hc => ?_) fun hc => ?_) <;> (try rw [beq_iff_eq] at hc) <;> try simp only [hc]|refine finF hrel ?_ ?_ ?_)<;>try simp only [go_sem, *])
 refine AR_range [1, 22] [] (fun i σ => Agree h σ.h ∧ Fm.leastL m (t.args.drop i) = v) (t.args).length (by first | omega | (simp only [go_sem, *] <;> omega)) ⟨rfl, rfl, rfl⟩ rfl (by simp only [go_sem, *]) (by simp only [go_sem, *]) ?_ (by intro i σ t v ht hK; simp only [List.mem_cons, List.not_mem_nil, or_false] at ht; rcases ht with rfl | rfl | rfl <;> exact hK) ?_ ?_
 ·simp only [go_sem, *]
  all_goals (first|exact jv|exact ⟨(by repeat (first|exact Agree.refl _|assumption|refine Agree.new ?_ (hgf0 _ _)|refine Agree.new ?_ (hfr' _ _))), jv⟩)
 ·clear jv
  intro i σ gr1 hgl_gr1 hgn hlt jI jN jS ⟨jA, jv⟩
  obtain ⟨jT, jB⟩ := jS
  simp only [go_sem] at jT jB
  have hgf := fresh_of hgn
  have hgf0 := fun r i => agree_fresh jA (hgf r i)
  have eg_gen_gr1 := gen_lt (show gen < gr1 by omega)
  have eh_gen_gr1 := gen_lt' (show gen < gr1 by omega)
  have eg_ga0_gr1 := gen_lt (show ga0 < gr1 by omega)
  have eh_ga0_gr1 := gen_lt' (show ga0 < gr1 by omega)
  obtain ⟨x, hx⟩ : ∃ x, (t.args)[i]? = some x := ⟨_, List.getElem?_eq_getElem hlt⟩
  have hxm := List.mem_of_getElem? hx
  have hm := min_lt hlt
  clear hgn
  rw [drop_get hx, Fm.leastL_cons] at jv
  have hc := ih' x hxm
  clear ih'
  cases hn : x.least m with
  | false =>
   rw [hn] at hc
   rw [hn, Bool.false_and] at jv
   subst jv
   repeat' (first
    |exact hin _|exact agf (by assumption)
    | (first|refine wp rfl ?_|refine spt rfl ?_|refine spf rfl ?_|(refine spl (fun hc => ?_) fun hc => ?_) <;> (try rw [beq_iff_eq] at hc) <;> try simp only [hc]|refine cp hc ?_|refine finF hrel ?_ ?_ ?_)<;>try simp only [go_sem, *])
  | true =>
   rw [hn] at hc
   rw [hn, Bool.true_and] at jv
   repeat' (first
    |exact hin _|exact agf (by assumption)
    | (first|refine wp rfl ?_|refine spt rfl ?_|refine spf rfl ?_|(refine spl (fun hc => ?_) fun hc => ?_) <;> (try rw [beq_iff_eq] at hc) <;> try simp only [hc]|refine AR_inv ?_|refine cp hc ?_|refine finF hrel ?_ ?_ ?_)<;>try simp only [go_sem, *])
   first|exact (by repeat (first|exact Agree.refl _|assumption|refine Agree.new ?_ (hgf0 _ _)|refine Agree.new ?_ (hfr' _ _)))|exact ⟨(by repeat (first|exact Agree.refl _|assumption|refine Agree.new ?_ (hgf0 _ _)|refine Agree.new ?_ (hfr' _ _))), jv⟩
 ·clear jv
  intro σ ga1 hgl_ga1 hgn jS ⟨jA, jv⟩
  obtain ⟨jT, jB⟩ := jS
  simp only [go_sem] at jT jB
  have hgf := fresh_of hgn
  have hgf0 := fun r i => agree_fresh jA (hgf r i)
  have eg_gen_ga1 := gen_lt (show gen < ga1 by omega)
  have eh_gen_ga1 := gen_lt' (show gen < ga1 by omega)
  have eg_ga0_ga1 := gen_lt (show ga0 < ga1 by omega)
  have eh_ga0_ga1 := gen_lt' (show ga0 < ga1 by omega)
  clear hgn
  rw [List.drop_length, Fm.leastL_nil] at jv
  subst jv
  clear ih'
  repeat' (first
   |exact hin _|exact agf (by assumption)
   | (first|refine wp rfl ?_|refine spt rfl ?_|refine spf rfl ?_|(refine spl (fun hc => ?_) fun hc => ?_) <;> (try rw [beq_iff_eq] at hc) <;> try simp only [hc]|refine finF hrel ?_ ?_ ?_)<;>try simp only [go_sem, *])
theorem c_fmTimes : ∀ t : Fm, FmW t → ∀ at' : Int, Pure Tryz.prog env 122 [.agg t.cells, .int .i64 at'] (.int .i64 (t.times at')) := by
 intro t
 induction t using Fm.ind with | h t ih => ?_
 intro ht at' h
 have hlen := ht.len
 have hlen2 := ht.tlen
 have ih' : ∀ x ∈ t.args, Pure Tryz.prog env 122 [.agg x.cells, .int .i64 (addW at' (fmBelow t.kind))] (.int .i64 (x.times (addW at' (fmBelow t.kind)))) := fun x hx => ih x hx (ht.arg hx) _
 clear ih
 have hB := c_fmBelow t
 have hv0 := (t.times_eq at').symm
 generalize hvv : t.times at' = v at hv0 ⊢
 clear hvv
 have hw : IntKind.i64.wrap (at' + fmBelow t.kind) = addW at' (fmBelow t.kind) := rfl
 generalize addW at' (fmBelow t.kind) = a2 at *
 refine en Tryz.func122 [.tmp 4] rfl rfl fun g0 w0 gen hrel hfr hfr' hres => ?_
 repeat' (first
  |(refine ⟨?_,?_⟩; focus ((repeat' (first|refine ⟨?_,?_⟩|refine .inr ?_)); all_goals kernel_rfl))
  |exact hin _|exact agf (by assumption)
  | (first|refine wp rfl ?_|refine spt rfl ?_|refine spf rfl ?_|(refine spl (fun hc => ?_) fun hc => ?_) <;> (try rw [beq_iff_eq] at hc) <;> try simp only [hc]|refine finF hrel ?_ ?_ ?_)<;>try simp only [go_sem, *])
 refine AR_range [1, 2, 4, 11] [⟨gen, 0, 0⟩] (fun i σ => Agree h σ.h ∧ ∃ n, σ.tm 5 = .int .i64 n ∧ Fm.timesL a2 (Tm.timesL at' n (t.terms.drop i)) t.args = v) (t.terms).length (by first | omega | (simp only [go_sem, *] <;> omega)) ⟨rfl, rfl, rfl⟩ rfl (by simp only [go_sem, *]) (by simp only [go_sem, *]) ?_ (by intro i σ t v ht hK; simp only [List.mem_cons, List.not_mem_nil, or_false] at ht; rcases ht with rfl | rfl | rfl <;> exact hK) ?_ ?_
 ·simp only [go_sem, *]
  first|exact ⟨_, rfl, hv0⟩|exact ⟨(by repeat (first|exact Agree.refl _|assumption|refine Agree.new ?_ (hgf0 _ _)|refine Agree.new ?_ (hfr' _ _))), _, rfl, hv0⟩
 ·clear hv0 ih'
  intro i σ gr0 hgl_gr0 hgn hlt jI jN jS ⟨jA, n, jn, jv⟩
  obtain ⟨jT, jB⟩ := jS
  simp only [go_sem] at jT jB
  have hgf := fresh_of hgn
  have hgf0 := fun r i => agree_fresh jA (hgf r i)
  have eg_gen_gr0 := gen_lt (show gen < gr0 by omega)
  have eh_gen_gr0 := gen_lt' (show gen < gr0 by omega)
  obtain ⟨x, hx⟩ : ∃ x, (t.terms)[i]? = some x := ⟨_, List.getElem?_eq_getElem hlt⟩
  have hxm := List.mem_of_getElem? hx
  have hm := min_lt hlt
  clear hgn
  rw [drop_get hx, Tm.timesL_cons] at jv
  have hc := c_tmTimes x (ht.term hxm) at'
  have hw2 : IntKind.i64.wrap (n + x.times at') = addW n (x.times at') := rfl
  repeat' (first
   |(refine ⟨?_,?_⟩; focus ((repeat' (first|refine ⟨?_,?_⟩|refine .inr ?_)); all_goals kernel_rfl))
   |exact hin _|exact agf (by assumption)
   | (first|refine wp rfl ?_|refine spt rfl ?_|refine spf rfl ?_|(refine spl (fun hc => ?_) fun hc => ?_) <;> (try rw [beq_iff_eq] at hc) <;> try simp only [hc]|refine AR_inv ?_|refine cp hc ?_|refine finF hrel ?_ ?_ ?_)<;>try simp only [go_sem, *])
  first|exact ⟨_, rfl, jv⟩|exact ⟨(by repeat (first|exact Agree.refl _|assumption|refine Agree.new ?_ (hgf0 _ _)|refine Agree.new ?_ (hfr' _ _))), _, rfl, jv⟩
 clear hv0
 intro σ ga0 hgl_ga0 hgn jS ⟨jA, n, jn, jv⟩
 obtain ⟨jT, jB⟩ := jS
 simp only [go_sem] at jT jB
 have hgf := fresh_of hgn
 have hgf0 := fun r i => agree_fresh jA (hgf r i)
 have eg_gen_ga0 := gen_lt (show gen < ga0 by omega)
 have eh_gen_ga0 := gen_lt' (show gen < ga0 by omega)
 clear hgn
 rw [List.drop_length, Tm.timesL_nil] at jv
 repeat' (first
  |(refine ⟨?_,?_⟩; focus ((repeat' (first|refine ⟨?_,?_⟩|refine .inr ?_)); all_goals kernel_rfl))
  |exact hin _|exact agf (by assumption)
  | (first|refine wp rfl ?_|refine spt rfl ?_|refine spf rfl ?_|(refine spl (fun hc => ?_) fun hc => ?_) <;> (try rw [beq_iff_eq] at hc) <;> try simp only [hc]|refine finF hrel ?_ ?_ ?_)<;>try simp only [go_sem, *])
 refine AR_range [1, 2, 4, 24] [⟨gen, 0, 0⟩] (fun i σ => Agree h σ.h ∧ ∃ n, σ.tm 5 = .int .i64 n ∧ Fm.timesL a2 n (t.args.drop i) = v) (t.args).length (by first | omega | (simp only [go_sem, *] <;> omega)) ⟨rfl, rfl, rfl⟩ rfl (by simp only [go_sem, *]) (by simp only [go_sem, *]) ?_ (by intro i σ t v ht hK; simp only [List.mem_cons, List.not_mem_nil, or_false] at ht; rcases ht with rfl | rfl | rfl <;> exact hK) ?_ ?_
 ·simp only [go_sem, *]
  first|exact ⟨_, rfl, jv⟩|exact ⟨(by repeat (first|exact Agree.refl _|assumption|refine Agree.new ?_ (hgf0 _ _)|refine Agree.new ?_ (hfr' _ _))), _, rfl, jv⟩
 ·clear jv
  intro i σ gr1 hgl_gr1 hgn hlt jI jN jS ⟨jA, n', jn', jv⟩
  obtain ⟨jT, jB⟩ := jS
  simp only [go_sem] at jT jB
  have hgf := fresh_of hgn
  have hgf0 := fun r i => agree_fresh jA (hgf r i)
  have eg_gen_gr1 := gen_lt (show gen < gr1 by omega)
  have eh_gen_gr1 := gen_lt' (show gen < gr1 by omega)
  have eg_ga0_gr1 := gen_lt (show ga0 < gr1 by omega)
  have eh_ga0_gr1 := gen_lt' (show ga0 < gr1 by omega)
  obtain ⟨x, hx⟩ : ∃ x, (t.args)[i]? = some x := ⟨_, List.getElem?_eq_getElem hlt⟩
  have hxm := List.mem_of_getElem? hx
  have hm := min_lt hlt
  clear hgn
  rw [drop_get hx, Fm.timesL_cons] at jv
  have hc := ih' x hxm
  have hw2 : IntKind.i64.wrap (n' + x.times a2) = addW n' (x.times a2) := rfl
  clear ih'
  repeat' (first
   |(refine ⟨?_,?_⟩; focus ((repeat' (first|refine ⟨?_,?_⟩|refine .inr ?_)); all_goals kernel_rfl))
   |exact hin _|exact agf (by assumption)
   | (first|refine wp rfl ?_|refine spt rfl ?_|refine spf rfl ?_|(refine spl (fun hc => ?_) fun hc => ?_) <;> (try rw [beq_iff_eq] at hc) <;> try simp only [hc]|refine AR_inv ?_|refine cp hc ?_|refine cp hB ?_|refine finF hrel ?_ ?_ ?_)<;>try simp only [go_sem, *])
  first|exact ⟨_, rfl, jv⟩|exact ⟨(by repeat (first|exact Agree.refl _|assumption|refine Agree.new ?_ (hgf0 _ _)|refine Agree.new ?_ (hfr' _ _))), _, rfl, jv⟩
 ·clear jv
  intro σ ga1 hgl_ga1 hgn jS ⟨jA, n', jn', jv⟩
  obtain ⟨jT, jB⟩ := jS
  simp only [go_sem] at jT jB
  have hgf := fresh_of hgn
  have hgf0 := fun r i => agree_fresh jA (hgf r i)
  have eg_gen_ga1 := gen_lt (show gen < ga1 by omega)
  have eh_gen_ga1 := gen_lt' (show gen < ga1 by omega)
  have eg_ga0_ga1 := gen_lt (show ga0 < ga1 by omega)
  have eh_ga0_ga1 := gen_lt' (show ga0 < ga1 by omega)
  clear hgn
  rw [List.drop_length, Fm.timesL_nil] at jv
  subst jv
  clear ih'
  repeat' (first
   |(refine ⟨?_,?_⟩; focus ((repeat' (first|refine ⟨?_,?_⟩|refine .inr ?_)); all_goals kernel_rfl))
   |exact hin _|exact agf (by assumption)
   | (first|refine wp rfl ?_|refine spt rfl ?_|refine spf rfl ?_|(refine spl (fun hc => ?_) fun hc => ?_) <;> (try rw [beq_iff_eq] at hc) <;> try simp only [hc]|refine finF hrel ?_ ?_ ?_)<;>try simp only [go_sem, *])
end Go.Proofs.YtenelbgbjmijiaaGreatDoor
