/-
 Walks: the references' putting a term into a formula.
-/
import Derived.Test.YtenelbgbjmijiaaGreatDoorVe
set_option linter.unusedSimpArgs false
set_option linter.unusedVariables false
set_option maxRecDepth 20000
set_option maxHeartbeats 4000000
namespace Go.Proofs.YtenelbgbjmijiaaGreatDoor
open Go GoAbs Go.Proofs
theorem fmInn_W {s : Tm} (hs : TmW s) {a : Int} : ∀ (t : Fm) (d : Int), FmW t → FmW (fmInn s a t d) := by
 intro t
 induction t using Fm.ind with | h t ih => ?_
 intro d ht
 rw [fmInn_eq]
 refine .mk _ _ _ _ ht.ty (by rw [List.length_map]; exact ht.tlen) ?_ (by rw [List.length_map]; exact ht.len) ?_
 ·intro x hx
  obtain ⟨y, hy, rfl⟩ := List.mem_map.1 hx
  exact tmInn_W hs y _ (ht.term hy)
 ·intro x hx
  obtain ⟨y, hy, rfl⟩ := List.mem_map.1 hx
  exact ih y hy _ (ht.arg hy)
theorem c_fmIn (s : Tm) (hs : TmW s) (at' : Int) : ∀ t : Fm, FmW t → ∀ d : Int, Pure Tryz.prog env 123 [.agg t.cells, .int .i64 at', .int .i64 d, .agg s.cells] (.agg (fmInn s at' t d).cells) := by
 intro t
 induction t using Fm.ind with | h t ih => ?_
 intro ht d h
 have hlen := ht.len
 have hlen2 := ht.tlen
 have ih' : ∀ x ∈ t.args, Pure Tryz.prog env 123 [.agg x.cells, .int .i64 at', .int .i64 (addW d (fmBelow t.kind)), .agg s.cells] (.agg (fmInn s at' x (addW d (fmBelow t.kind))).cells) := fun x hx => ih x hx (ht.arg hx) _
 clear ih
 have hB := c_fmBelow t
 have hw : IntKind.i64.wrap (d + fmBelow t.kind) = addW d (fmBelow t.kind) := rfl
 have hv0 : V.agg (Fm.mk t.kind t.type (t.terms.map fun x => tmInn s at' x d) (t.args.map fun x => fmInn s at' x (addW d (fmBelow t.kind)))).cells = .agg (fmInn s at' t d).cells := by
  rw [fmInn_eq s at' t]
 have hin : ∀ S, InV S (V.agg (fmInn s at' t d).cells) := fun S => by simp [InV, InL_Fm]
 generalize hvv : V.agg (fmInn s at' t d).cells = v at hv0 hin ⊢
 clear hvv
 generalize addW d (fmBelow t.kind) = a2 at *
 refine en Tryz.func123 [.cell 8 29] rfl rfl fun g0 w0 gen hrel hfr hfr' hres => ?_
 repeat' (first
  |(refine ⟨?_,?_⟩; focus ((repeat' (first|refine ⟨?_,?_⟩|refine .inr ?_)); all_goals kernel_rfl))
  |exact hin _|exact agf (by assumption)
  | (first|refine wp rfl ?_|refine spt rfl ?_|refine spf rfl ?_|(refine spl (fun hc => ?_) fun hc => ?_) <;> (try rw [beq_iff_eq] at hc) <;> try simp only [hc]|refine finF hrel ?_ ?_ ?_)<;>try simp only [go_sem, *])
 refine AR_range [1, 2, 4, 7, 8, 9, 20] [⟨gen, 0, 0⟩, ⟨gen, 0, 1⟩, ⟨gen, 0, 2⟩] (fun i σ => Agree h σ.h ∧ ∃ v, σ.h ⟨gen, 1, 5⟩ = some (.box [.int .i64 t.kind, .int .i64 t.type.kind, .sl .any (t.type.args.map Ty.cells), v, .sl .full []]) ∧ OwnS h σ.h v 5 (((t.terms.take i).map fun x => tmInn s at' x d).map Tm.cells)) (t.terms).length (by first | omega | (simp only [go_sem, *] <;> omega)) ⟨rfl, rfl, rfl⟩ rfl (by simp only [go_sem, *]) (by simp only [go_sem, *]) ?_ (by intro i σ t v ht hK; simp only [List.mem_cons, List.not_mem_nil, or_false] at ht; rcases ht with rfl | rfl | rfl <;> exact hK) ?_ ?_
 ·simp only [go_sem, *]
  exact ⟨(by repeat (first|exact Agree.refl _|assumption|refine Agree.new ?_ (hgf0 _ _)|refine Agree.new ?_ (hfr' _ _))), _, rfl, .inl rfl⟩
 ·clear hv0 ih'
  intro i σ gr0 hgl_gr0 hgn hlt jI jN jS ⟨jA, v, jb, jO0⟩
  obtain ⟨jT, jB⟩ := jS
  simp only [go_sem] at jT jB
  have hgf := fresh_of hgn
  have hgf0 := fun r i => agree_fresh jA (hgf r i)
  have eg_gen_gr0 := gen_lt (show gen < gr0 by omega)
  have eh_gen_gr0 := gen_lt' (show gen < gr0 by omega)
  obtain ⟨x, hx⟩ : ∃ x, (t.terms)[i]? = some x := ⟨_, List.getElem?_eq_getElem hlt⟩
  have hxm := List.mem_of_getElem? hx
  have hm := min_lt hlt
  clear hgn
  have hc := c_tmIn s hs at' x (ht.term hxm) d
  have hts : ((t.terms.take (i + 1)).map fun x => tmInn s at' x d).map Tm.cells = ((t.terms.take i).map fun x => tmInn s at' x d).map Tm.cells ++ [(tmInn s at' x d).cells] := by rw [map_take_succ hx, List.map_append]; rfl
  repeat' (first
   |(refine ⟨?_,?_⟩; focus ((repeat' (first|refine ⟨?_,?_⟩|refine .inr ?_)); all_goals kernel_rfl))
   |(refine okE_app_ownd jO0 (by repeat (first|exact Keeps.refl _|refine Keeps.new ?_ (hgf _ _)|refine Keeps.new ?_ (hfr' _ _)|refine Keeps.box ?_ rfl|refine Keeps.box ?_ (by simp only [go_sem, *]))) rfl (by simp only [go_sem, *] <;> omega) (by first|exact hgf0 _ _|exact hfr' _ _) (by simp only [go_sem, *]) (by intro hd e; simp only [logOk_cons, logOk_nil, and_true]; repeat (first|exact trivial|refine ⟨.inr (by kernel_rfl), ?_⟩|exact .inr (by kernel_rfl))) ?_; intro v' h' id' jO jK jAg jAb jF; obtain ⟨cO, rfl⟩ := jO.val; simp only [go_sem, *])
   | (first|refine wp rfl ?_|refine spt rfl ?_|refine spf rfl ?_|(refine spl (fun hc => ?_) fun hc => ?_) <;> (try rw [beq_iff_eq] at hc) <;> try simp only [hc]|refine cp hc ?_|refine AR_inv ?_)<;>try simp only [go_sem, *])
  refine ⟨?_, _, rfl, jO.keep (Keeps.box (Keeps.refl _) (by simp only [go_sem, *]))⟩
  exact Agree.new (jAg (by repeat (first|exact Agree.refl _|assumption|refine Agree.new ?_ (hgf0 _ _)|refine Agree.new ?_ (hfr' _ _)))) (hfr' _ _)
 intro σ ga0 hgl_ga0 hgn jS ⟨jA, v1, jb, jO1⟩
 obtain ⟨jT, jB⟩ := jS
 simp only [go_sem] at jT jB
 have hgf := fresh_of hgn
 have hgf0 := fun r i => agree_fresh jA (hgf r i)
 have eg_gen_ga0 := gen_lt (show gen < ga0 by omega)
 have eh_gen_ga0 := gen_lt' (show gen < ga0 by omega)
 clear hgn
 rw [List.take_length] at jO1
 obtain ⟨c1, rfl⟩ := jO1.val
 clear jO1
 repeat' (first
  |(refine ⟨?_,?_⟩; focus ((repeat' (first|refine ⟨?_,?_⟩|refine .inr ?_)); all_goals kernel_rfl))
  |exact hin _|exact agf (by assumption)
  | (first|refine wp rfl ?_|refine spt rfl ?_|refine spf rfl ?_|(refine spl (fun hc => ?_) fun hc => ?_) <;> (try rw [beq_iff_eq] at hc) <;> try simp only [hc]|refine finF hrel ?_ ?_ ?_)<;>try simp only [go_sem, *])
 refine AR_range [1, 2, 4, 7, 8, 9, 38] [⟨gen, 0, 0⟩, ⟨gen, 0, 1⟩, ⟨gen, 0, 2⟩] (fun i σ => Agree h σ.h ∧ ∃ v, σ.h ⟨gen, 1, 5⟩ = some (.box [.int .i64 t.kind, .int .i64 t.type.kind, .sl .any (t.type.args.map Ty.cells), .sl c1 ((t.terms.map fun x => tmInn s at' x d).map Tm.cells), v]) ∧ OwnS h σ.h v 5 (((t.args.take i).map fun x => fmInn s at' x a2).map Fm.cells)) (t.args).length (by first | omega | (simp only [go_sem, *] <;> omega)) ⟨rfl, rfl, rfl⟩ rfl (by simp only [go_sem, *]) (by simp only [go_sem, *]) ?_ (by intro i σ t v ht hK; simp only [List.mem_cons, List.not_mem_nil, or_false] at ht; rcases ht with rfl | rfl | rfl <;> exact hK) ?_ ?_
 ·simp only [go_sem, *]
  first|exact ⟨_, rfl, .inl rfl⟩|exact ⟨(by repeat (first|exact Agree.refl _|assumption|refine Agree.new ?_ (hgf0 _ _)|refine Agree.new ?_ (hfr' _ _))), _, rfl, .inl rfl⟩
 ·clear hv0
  intro i σ gr1 hgl_gr1 hgn hlt jI jN jS ⟨jA, v, jb', jO0⟩
  obtain ⟨jT, jB⟩ := jS
  simp only [go_sem] at jT jB
  have hgf := fresh_of hgn
  have hgf0 := fun r i => agree_fresh jA (hgf r i)
  have eg_gen_gr1 := gen_lt (show gen < gr1 by omega)
  have eh_gen_gr1 := gen_lt' (show gen < gr1 by omega)
  have eg_ga0_gr1 := gen_lt (show ga0 < gr1 by omega)
  have eh_ga0_gr1 := gen_lt' (show ga0 < gr1 by omega)
  obtain ⟨x, hx⟩ : ∃ x, (t.args)[i]? = some x := ⟨_, List.getElem?_eq_getElem hlt⟩
  have hxm := List.mem_of_getElem? hx
  have hm := min_lt hlt
  clear hgn
  have hc := ih' x hxm
  have hts : ((t.args.take (i + 1)).map fun x => fmInn s at' x a2).map Fm.cells = ((t.args.take i).map fun x => fmInn s at' x a2).map Fm.cells ++ [(fmInn s at' x a2).cells] := by rw [map_take_succ hx, List.map_append]; rfl
  clear ih'
  repeat' (first
   |(refine ⟨?_,?_⟩; focus ((repeat' (first|refine ⟨?_,?_⟩|refine .inr ?_)); all_goals kernel_rfl))
   |(refine okE_app_ownd jO0 (by repeat (first|exact Keeps.refl _|refine Keeps.new ?_ (hgf _ _)|refine Keeps.new ?_ (hfr' _ _)|refine Keeps.box ?_ rfl|refine Keeps.box ?_ (by simp only [go_sem, *]))) rfl (by simp only [go_sem, *] <;> omega) (by first|exact hgf0 _ _|exact hfr' _ _) (by simp only [go_sem, *]) (by intro hd e; simp only [logOk_cons, logOk_nil, and_true]; repeat (first|exact trivial|refine ⟨.inr (by kernel_rfl), ?_⟩|exact .inr (by kernel_rfl))) ?_; intro v' h' id' jO jK jAg jAb jF; obtain ⟨cO, rfl⟩ := jO.val; simp only [go_sem, *])
   | (first|refine wp rfl ?_|refine spt rfl ?_|refine spf rfl ?_|(refine spl (fun hc => ?_) fun hc => ?_) <;> (try rw [beq_iff_eq] at hc) <;> try simp only [hc]|refine cp hc ?_|refine cp hB ?_|refine AR_inv ?_)<;>try simp only [go_sem, *])
  refine ⟨?_, _, rfl, jO.keep (Keeps.box (Keeps.refl _) (by simp only [go_sem, *]))⟩
  exact Agree.new (jAg (by repeat (first|exact Agree.refl _|assumption|refine Agree.new ?_ (hgf0 _ _)|refine Agree.new ?_ (hfr' _ _)))) (hfr' _ _)
 ·
  intro σ ga1 hgl_ga1 hgn jS ⟨jA, v, jb', jO0⟩
  obtain ⟨jT, jB⟩ := jS
  simp only [go_sem] at jT jB
  have hgf := fresh_of hgn
  have hgf0 := fun r i => agree_fresh jA (hgf r i)
  have eg_gen_ga1 := gen_lt (show gen < ga1 by omega)
  have eh_gen_ga1 := gen_lt' (show gen < ga1 by omega)
  have eg_ga0_ga1 := gen_lt (show ga0 < ga1 by omega)
  have eh_ga0_ga1 := gen_lt' (show ga0 < ga1 by omega)
  clear hgn
  rw [List.take_length] at jO0
  obtain ⟨c, rfl⟩ := jO0.val
  clear ih'
  rw [Fm.mk_cells] at hv0
  subst hv0
  repeat' (first
   |(refine ⟨?_,?_⟩; focus ((repeat' (first|refine ⟨?_,?_⟩|refine .inr ?_)); all_goals kernel_rfl))
   |exact hin _|exact agf (by assumption)
   | (first|refine wp rfl ?_|refine spt rfl ?_|refine spf rfl ?_|(refine spl (fun hc => ?_) fun hc => ?_) <;> (try rw [beq_iff_eq] at hc) <;> try simp only [hc]|refine finF hrel ?_ ?_ ?_)<;>try simp only [go_sem, *])
theorem c_fmPut (f : Fm) (hf : FmW f) (a : Int) (s : Tm) (hs : TmW s) : Pure Tryz.prog env 57 [.agg f.cells, .int .i64 a, .agg s.cells] (fmErrV (fmPut f a s)) := by
 intro h
 have h1 := c_refFmCheck f hf
 have h2 := c_tmCheck s hs
 have h3 := c_fmLeast 536870912 f hf
 have h4 := c_tmLeast 536870912 s hs
 have h5 := c_fmCount f hf
 have h6 := c_fmTimes f hf a
 have h7 := c_tmCount s hs
 have h8 := c_fmIn s hs a f hf 0
 have h9 := c_fmCopy _ (fmInn_W hs (a := a) f 0 hf)
 have hz : zeroF.cells = [.int .i64 0, .int .i64 0, .sl .any [], .sl .any [], .sl .any []] := by simp [zeroF, Fm.mk_cells, Ty.mk_kind, Ty.mk_args]
 unfold fmPut fmErrV
 cases k1 : (fmErr f != 0) with
 | true =>
  simp only [if_true, hz]
  clear h2 h3 h4 h5 h6 h7 h8 h9
  refine en Tryz.func57 [.cell 6 29, .tmp 7] rfl rfl fun g0 w0 gen hrel hfr hfr' hres => ?_
  repeat' (first
   |(refine ⟨?_,?_⟩; focus ((repeat' (first|refine ⟨?_,?_⟩|refine .inr ?_)); all_goals kernel_rfl))
   |exact hin _|exact agf (by assumption)
   | (first|refine wp rfl ?_|refine spt rfl ?_|refine spf rfl ?_|(refine spl (fun hc => ?_) fun hc => ?_) <;> (try rw [beq_iff_eq] at hc) <;> try simp only [hc]|(refine gs (fun hb => ?_) fun hb => ?_) <;> try simp only [Bool.not_true, Bool.not_false] at hb|refine cp h1 ?_|refine finF hrel ?_ ?_ ?_)<;>try simp only [go_sem, *])
 | false =>
 simp only [Bool.false_eq_true, if_false]
 cases k2 : decide (a < 0) with
 | true =>
  simp only [Bool.true_or, if_true, hz]
  clear h2 h3 h4 h5 h6 h7 h8 h9
  refine en Tryz.func57 [.cell 6 29, .tmp 7] rfl rfl fun g0 w0 gen hrel hfr hfr' hres => ?_
  repeat' (first
   |(refine ⟨?_,?_⟩; focus ((repeat' (first|refine ⟨?_,?_⟩|refine .inr ?_)); all_goals kernel_rfl))
   |exact hin _|exact agf (by assumption)
   | (first|refine wp rfl ?_|refine spt rfl ?_|refine spf rfl ?_|(refine spl (fun hc => ?_) fun hc => ?_) <;> (try rw [beq_iff_eq] at hc) <;> try simp only [hc]|(refine gs (fun hb => ?_) fun hb => ?_) <;> try simp only [Bool.not_true, Bool.not_false] at hb|refine cp h1 ?_|refine finF hrel ?_ ?_ ?_)<;>try simp only [go_sem, *])
 | false =>
 cases k3 : decide (a > 4096) with
 | true =>
  simp only [Bool.or_true, if_true, hz]
  clear h2 h3 h4 h5 h6 h7 h8 h9
  refine en Tryz.func57 [.cell 6 29, .tmp 7] rfl rfl fun g0 w0 gen hrel hfr hfr' hres => ?_
  repeat' (first
   |(refine ⟨?_,?_⟩; focus ((repeat' (first|refine ⟨?_,?_⟩|refine .inr ?_)); all_goals kernel_rfl))
   |exact hin _|exact agf (by assumption)
   | (first|refine wp rfl ?_|refine spt rfl ?_|refine spf rfl ?_|(refine spl (fun hc => ?_) fun hc => ?_) <;> (try rw [beq_iff_eq] at hc) <;> try simp only [hc]|(refine gs (fun hb => ?_) fun hb => ?_) <;> try simp only [Bool.not_true, Bool.not_false] at hb|refine cp h1 ?_|refine finF hrel ?_ ?_ ?_)<;>try simp only [go_sem, *])
 | false =>
 simp only [Bool.or_false, Bool.false_eq_true, if_false]
 cases k4 : (tmErr s != 0) with
 | true =>
  simp only [if_true, hz]
  clear h3 h4 h5 h6 h7 h8 h9
  refine en Tryz.func57 [.cell 6 29, .tmp 7] rfl rfl fun g0 w0 gen hrel hfr hfr' hres => ?_
  repeat' (first
   |(refine ⟨?_,?_⟩; focus ((repeat' (first|refine ⟨?_,?_⟩|refine .inr ?_)); all_goals kernel_rfl))
   |exact hin _|exact agf (by assumption)
   | (first|refine wp rfl ?_|refine spt rfl ?_|refine spf rfl ?_|(refine spl (fun hc => ?_) fun hc => ?_) <;> (try rw [beq_iff_eq] at hc) <;> try simp only [hc]|(refine gs (fun hb => ?_) fun hb => ?_) <;> try simp only [Bool.not_true, Bool.not_false] at hb|refine cp h1 ?_|refine cp h2 ?_|refine finF hrel ?_ ?_ ?_)<;>try simp only [go_sem, *])
 | false =>
 simp only [Bool.false_eq_true, if_false]
 cases k5 : f.least 536870912 with
 | false =>
  rw [k5] at h3
  simp only [Bool.not_false, Bool.true_or, if_true, hz]
  clear h4 h5 h6 h7 h8 h9
  refine en Tryz.func57 [.cell 6 29, .tmp 7] rfl rfl fun g0 w0 gen hrel hfr hfr' hres => ?_
  repeat' (first
   |(refine ⟨?_,?_⟩; focus ((repeat' (first|refine ⟨?_,?_⟩|refine .inr ?_)); all_goals kernel_rfl))
   |exact hin _|exact agf (by assumption)
   | (first|refine wp rfl ?_|refine spt rfl ?_|refine spf rfl ?_|(refine spl (fun hc => ?_) fun hc => ?_) <;> (try rw [beq_iff_eq] at hc) <;> try simp only [hc]|(refine gs (fun hb => ?_) fun hb => ?_) <;> try simp only [Bool.not_true, Bool.not_false] at hb|refine cp h1 ?_|refine cp h2 ?_|refine cp h3 ?_|refine finF hrel ?_ ?_ ?_)<;>try simp only [go_sem, *])
 | true =>
 rw [k5] at h3
 cases k6 : s.least 536870912 with
 | false =>
  rw [k6] at h4
  simp only [Bool.not_false, Bool.or_true, if_true, hz]
  clear h5 h6 h7 h8 h9
  refine en Tryz.func57 [.cell 6 29, .tmp 7] rfl rfl fun g0 w0 gen hrel hfr hfr' hres => ?_
  repeat' (first
   |(refine ⟨?_,?_⟩; focus ((repeat' (first|refine ⟨?_,?_⟩|refine .inr ?_)); all_goals kernel_rfl))
   |exact hin _|exact agf (by assumption)
   | (first|refine wp rfl ?_|refine spt rfl ?_|refine spf rfl ?_|(refine spl (fun hc => ?_) fun hc => ?_) <;> (try rw [beq_iff_eq] at hc) <;> try simp only [hc]|(refine gs (fun hb => ?_) fun hb => ?_) <;> try simp only [Bool.not_true, Bool.not_false] at hb|refine cp h1 ?_|refine cp h2 ?_|refine cp h3 ?_|refine cp h4 ?_|refine finF hrel ?_ ?_ ?_)<;>try simp only [go_sem, *])
 | true =>
 rw [k6] at h4
 simp only [Bool.not_true, Bool.or_false, Bool.false_eq_true, if_false]
 have w1 : IntKind.i64.wrap (s.szW - 1) = subW s.szW 1 := rfl
 have w2 : IntKind.i64.wrap (f.times a * subW s.szW 1) = mulW (f.times a) (subW s.szW 1) := rfl
 have w3 : IntKind.i64.wrap (f.szW + mulW (f.times a) (subW s.szW 1)) = addW f.szW (mulW (f.times a) (subW s.szW 1)) := rfl
 cases k7 : decide (addW f.szW (mulW (f.times a) (subW s.szW 1)) > 4096) with
 | true =>
  simp only [if_true, hz]
  clear h8 h9
  refine en Tryz.func57 [.cell 6 29, .tmp 7] rfl rfl fun g0 w0 gen hrel hfr hfr' hres => ?_
  repeat' (first
   |(refine ⟨?_,?_⟩; focus ((repeat' (first|refine ⟨?_,?_⟩|refine .inr ?_)); all_goals kernel_rfl))
   |exact hin _|exact agf (by assumption)
   | (first|refine wp rfl ?_|refine spt rfl ?_|refine spf rfl ?_|(refine spl (fun hc => ?_) fun hc => ?_) <;> (try rw [beq_iff_eq] at hc) <;> try simp only [hc]|(refine gs (fun hb => ?_) fun hb => ?_) <;> try simp only [Bool.not_true, Bool.not_false] at hb|refine cp h1 ?_|refine cp h2 ?_|refine cp h3 ?_|refine cp h4 ?_|refine cp h5 ?_|refine cp h6 ?_|refine cp h7 ?_|refine finF hrel ?_ ?_ ?_)<;>try simp only [go_sem, *])
 | false =>
  simp only [Bool.false_eq_true, if_false]
  refine en Tryz.func57 [.cell 6 29, .tmp 7] rfl rfl fun g0 w0 gen hrel hfr hfr' hres => ?_
  repeat' (first
   |(refine ⟨?_,?_⟩; focus ((repeat' (first|refine ⟨?_,?_⟩|refine .inr ?_)); all_goals kernel_rfl))
   |exact hin _|exact agf (by assumption)
   | (first|refine wp rfl ?_|refine spt rfl ?_|refine spf rfl ?_|(refine spl (fun hc => ?_) fun hc => ?_) <;> (try rw [beq_iff_eq] at hc) <;> try simp only [hc]|(refine gs (fun hb => ?_) fun hb => ?_) <;> try simp only [Bool.not_true, Bool.not_false] at hb|refine cp h1 ?_|refine cp h2 ?_|refine cp h3 ?_|refine cp h4 ?_|refine cp h5 ?_|refine cp h6 ?_|refine cp h7 ?_|refine cp h8 ?_|refine cp h9 ?_|refine finF hrel ?_ ?_ ?_)<;>try simp only [go_sem, *])
end Go.Proofs.YtenelbgbjmijiaaGreatDoor
