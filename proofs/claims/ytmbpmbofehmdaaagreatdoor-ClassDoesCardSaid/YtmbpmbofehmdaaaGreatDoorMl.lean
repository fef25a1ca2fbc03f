/-
 Walks: several parts in one text.
-/
import Derived.Test.YtmbpmbofehmdaaaGreatDoorVc
import Derived.Test.YtmbpmbofehmdaaaGreatDoorAbsD
set_option linter.unusedSimpArgs false
set_option linter.unusedVariables false
set_option maxRecDepth 20000
set_option maxHeartbeats 4000000
namespace Go.Proofs.YtmbpmbofehmdaaaGreatDoor
open Go GoAbs Go.Proofs
theorem c_tmBelow (t : Tm) : Pure Tryz.prog env 123 [.agg t.cells] (.int .i64 (tmBelow t.kind)) := by
 intro h
 unfold tmBelow
 cases hk : (t.kind == 2) with
 | true =>
  refine en_ Tryz.func123 [.tmp 2] fun g0 w0 gen hrel hfr hfr' hres => ?_
  repeat' (first
   |exact hin _|exact agf (by assumption)
   | (first|refine wp rfl ?_|refine spt rfl ?_|refine spf rfl ?_|(refine spl (fun hc => ?_) fun hc => ?_) <;> (try rw [beq_iff_eq] at hc) <;> try simp only [hc]|refine finF hrel ?_ ?_ ?_)<;>try simp only [go_sem, *])
  all_goals simp
 | false =>
  refine en_ Tryz.func123 [.tmp 2] fun g0 w0 gen hrel hfr hfr' hres => ?_
  repeat' (first
   |exact hin _|exact agf (by assumption)
   | (first|refine wp rfl ?_|refine spt rfl ?_|refine spf rfl ?_|(refine spl (fun hc => ?_) fun hc => ?_) <;> (try rw [beq_iff_eq] at hc) <;> try simp only [hc]|refine finF hrel ?_ ?_ ?_)<;>try simp only [go_sem, *])
  all_goals simp
theorem c_tmLeast (m : Int) : ∀ t : Tm, TmW t → Pure Tryz.prog env 109 [.agg t.cells, .int .i64 m] (.bool (t.least m)) := by
 intro t
 induction t using Tm.ind with | h t ih => ?_
 intro ht h
 have hlen := ht.len
 have ih' : ∀ x ∈ t.args, Pure Tryz.prog env 109 [.agg x.cells, .int .i64 m] (.bool (x.least m)) := fun x hx => ih x hx (ht.arg hx)
 clear ih
 have hv0 := (t.least_eq m).symm
 generalize hvv : t.least m = v at hv0 ⊢
 clear hvv
 cases hi : decide (t.index > m) with
 | true =>
  have : decide (t.index ≤ m) = false := by simp at hi ⊢; omega
  rw [this, Bool.false_and] at hv0
  subst hv0
  clear ih'
  exact ek_ Tryz.func109 [.tmp 4]
 | false =>
 have : decide (t.index ≤ m) = true := by simp at hi ⊢; omega
 rw [this, Bool.true_and] at hv0
 clear this
 refine en_ Tryz.func109 [.tmp 4] fun g0 w0 gen hrel hfr hfr' hres => ?_
 refine wq_ ?_
 refine ar_ [1, 12] [] (fun i σ => Agree h σ.h ∧ Tm.leastL m (t.args.drop i) = v) (t.args).length ?_ ?_ ?_
 ·simp only [go_sem, *]
  first|exact ag_|exact ⟨ag_, hv0⟩
 ·clear hv0 hi
  intro i σ gr0 hgl_gr0 hgn hlt jI jN jS ⟨jA, jv⟩
  obtain ⟨jT, jB⟩ := jS
  simp only [go_sem] at jT jB
  obtain ⟨hgf, hgf0, eg_gen_gr0, eh_gen_gr0⟩ := rnd hgn hgl_gr0 jA
  obtain ⟨x, hx, hxm, hm⟩ := rnx hlt
  clear hgn
  rw [drop_get hx, Tm.leastL_cons] at jv
  have hc := ih' x hxm
  clear ih'
  cases hn : x.least m with
  | false =>
   rw [hn] at hc
   rw [hn, Bool.false_and] at jv
   subst jv
   exact wk_
  | true =>
   rw [hn] at hc
   rw [hn, Bool.true_and] at jv
   refine wq_ ?_
   first|exact ag_|exact ⟨ag_, jv⟩
 ·clear hv0 hi
  intro σ ga0 hgl_ga0 hgn jS ⟨jA, jv⟩
  obtain ⟨jT, jB⟩ := jS
  simp only [go_sem] at jT jB
  obtain ⟨hgf, hgf0, eg_gen_ga0, eh_gen_ga0⟩ := rnd hgn hgl_ga0 jA
  clear hgn
  rw [List.drop_length, Tm.leastL_nil] at jv
  subst jv
  clear ih'
  exact wk_
theorem tmUp_W {b : Int} : ∀ (t : Tm) (fr : Int), TmW t → TmW (t.up b fr) := by
 intro t
 induction t using Tm.ind with | h t ih => ?_
 intro fr ht
 rw [Tm.up_eq]
 refine .mk _ _ _ _ ht.ty (by rw [List.length_map]; exact ht.len) ?_
 intro x hx
 obtain ⟨y, hy, rfl⟩ := List.mem_map.1 hx
 exact ih y hy _ (ht.arg hy)
theorem c_tmUp (b : Int) : ∀ t : Tm, TmW t → ∀ fr : Int, Pure Tryz.prog env 98 [.agg t.cells, .int .i64 fr, .int .i64 b] (.agg (t.up b fr).cells) := by
 intro t
 induction t using Tm.ind with | h t ih => ?_
 intro ht fr h
 have hlen := ht.len
 have ih' : ∀ x ∈ t.args, Pure Tryz.prog env 98 [.agg x.cells, .int .i64 (addW fr (tmBelow t.kind)), .int .i64 b] (.agg (x.up b (addW fr (tmBelow t.kind))).cells) := fun x hx => ih x hx (ht.arg hx) _
 clear ih
 have hB := c_tmBelow t
 have hv0 : V.agg (Tm.mk t.kind (if t.kind == 1 && decide (t.index ≥ fr) then addW t.index b else t.index) t.type (t.args.map fun x => x.up b (addW fr (tmBelow t.kind)))).cells = .agg (t.up b fr).cells := by rw [Tm.up_eq]
 have hin : ∀ S, InV S (V.agg (t.up b fr).cells) := fun S => by simp [InV, InL_Tm]
 generalize hvv : V.agg (t.up b fr).cells = v at hv0 hin ⊢
 clear hvv
 have hw : IntKind.i64.wrap (fr + tmBelow t.kind) = addW fr (tmBelow t.kind) := rfl
 generalize addW fr (tmBelow t.kind) = a2 at *
 have hw1 : IntKind.i64.wrap (t.index + b) = addW t.index b := rfl
 cases hk : (t.kind == 1 && decide (t.index ≥ fr)) with
 | true =>
  have hk1 : (t.kind == 1) = true := by cases h1 : (t.kind == 1) <;> simp_all
  have hk2 : decide (t.index ≥ fr) = true := by cases h1 : decide (t.index ≥ fr) <;> simp_all
  rw [hk] at hv0
  simp only [if_true] at hv0
  generalize addW t.index b = n0 at *
  clear hk
  refine en_ Tryz.func98 [.cell 6 31] fun g0 w0 gen hrel hfr hfr' hres => ?_
  refine wq_ ?_
  refine ar_ [1, 2, 3, 6, 7, 32] [⟨gen, 0, 0⟩, ⟨gen, 0, 1⟩] (fun i σ => Agree h σ.h ∧ ∃ v, σ.h ⟨gen, 1, 7⟩ = some (.box [.int .i64 t.kind, .int .i64 n0, .int .i64 t.type.kind, .sl .any (t.type.args.map Ty.cells), v]) ∧ OwnS h σ.h v 5 (((t.args.take i).map fun x => x.up b a2).map Tm.cells)) (t.args).length ?_ ?_ ?_
  ·simp only [go_sem, *]
   exact ⟨ag_, _, rfl, .inl rfl⟩
  ·clear hv0
   intro i σ gr0 hgl_gr0 hgn hlt jI jN jS ⟨jA, v, jb, jO0⟩
   obtain ⟨jT, jB⟩ := jS
   simp only [go_sem] at jT jB
   obtain ⟨hgf, hgf0, eg_gen_gr0, eh_gen_gr0⟩ := rnd hgn hgl_gr0 jA
   obtain ⟨x, hx, hxm, hm⟩ := rnx hlt
   clear hgn
   have hc := ih' x hxm
   have hts : ((t.args.take (i + 1)).map fun x => x.up b a2).map Tm.cells = ((t.args.take i).map fun x => x.up b a2).map Tm.cells ++ [(x.up b a2).cells] := by rw [map_take_succ hx, List.map_append]; rfl
   clear ih'
   repeat' (first
    |(refine ⟨?_,?_⟩; focus ((repeat' (first|refine ⟨?_,?_⟩|refine .inr ?_)); all_goals kernel_rfl))
    |(refine okE_app_ownd jO0 (by repeat (first|exact Keeps.refl _|refine Keeps.new ?_ (hgf _ _)|refine Keeps.new ?_ (hfr' _ _)|refine Keeps.box ?_ rfl|refine Keeps.box ?_ (by simp only [go_sem, *]))) rfl (by simp only [go_sem, *] <;> omega) (by first|exact hgf0 _ _|exact hfr' _ _) (by simp only [go_sem, *]) (by intro hd e; simp only [logOk_cons, logOk_nil, and_true]; repeat (first|exact trivial|refine ⟨.inr (by kernel_rfl), ?_⟩|exact .inr (by kernel_rfl))) ?_; intro v' h' id' jO jK jAg jAb jF; obtain ⟨cO, rfl⟩ := jO.val; simp only [go_sem, *])
    | (first|refine wp rfl ?_|refine spt rfl ?_|refine spf rfl ?_|(refine spl (fun hc => ?_) fun hc => ?_) <;> (try rw [beq_iff_eq] at hc) <;> try simp only [hc]|(refine gs (fun hb => ?_) fun hb => ?_) <;> try simp only [Bool.not_true, Bool.not_false] at hb|refine cp hc ?_|refine cp hB ?_|refine AR_inv ?_)<;>try simp only [go_sem, *])
   refine ⟨?_, _, rfl, jO.keep (Keeps.box (Keeps.refl _) (by simp only [go_sem, *]))⟩
   exact Agree.new (jAg ag_) (hfr' _ _)
  ·
   intro σ ga0 hgl_ga0 hgn jS ⟨jA, v, jb, jO0⟩
   obtain ⟨jT, jB⟩ := jS
   simp only [go_sem] at jT jB
   obtain ⟨hgf, hgf0, eg_gen_ga0, eh_gen_ga0⟩ := rnd hgn hgl_ga0 jA
   clear hgn
   rw [List.take_length] at jO0
   obtain ⟨c, rfl⟩ := jO0.val
   clear ih'
   rw [Tm.mk_cells] at hv0
   subst hv0
   exact wk_
 | false =>
  rw [hk] at hv0
  simp only [Bool.false_eq_true, if_false] at hv0
  have hkk : ((t.kind == 1) = true ∧ decide (t.index ≥ fr) = false) ∨ (t.kind == 1) = false := by cases h1 : (t.kind == 1) <;> cases h2 : decide (t.index ≥ fr) <;> simp_all
  clear hk hw1
  rcases hkk with ⟨hk1, hk2⟩ | hk1
  all_goals
   refine en_ Tryz.func98 [.cell 6 31] fun g0 w0 gen hrel hfr hfr' hres => ?_
   refine wq_ ?_
   refine ar_ [1, 2, 3, 6, 7, 32] [⟨gen, 0, 0⟩, ⟨gen, 0, 1⟩] (fun i σ => Agree h σ.h ∧ ∃ v, σ.h ⟨gen, 1, 7⟩ = some (.box [.int .i64 t.kind, .int .i64 t.index, .int .i64 t.type.kind, .sl .any (t.type.args.map Ty.cells), v]) ∧ OwnS h σ.h v 5 (((t.args.take i).map fun x => x.up b a2).map Tm.cells)) (t.args).length ?_ ?_ ?_
   ·simp only [go_sem, *]
    exact ⟨ag_, _, rfl, .inl rfl⟩
   ·clear hv0
    intro i σ gr0 hgl_gr0 hgn hlt jI jN jS ⟨jA, v, jb, jO0⟩
    obtain ⟨jT, jB⟩ := jS
    simp only [go_sem] at jT jB
    obtain ⟨hgf, hgf0, eg_gen_gr0, eh_gen_gr0⟩ := rnd hgn hgl_gr0 jA
    obtain ⟨x, hx, hxm, hm⟩ := rnx hlt
    clear hgn
    have hc := ih' x hxm
    have hts : ((t.args.take (i + 1)).map fun x => x.up b a2).map Tm.cells = ((t.args.take i).map fun x => x.up b a2).map Tm.cells ++ [(x.up b a2).cells] := by rw [map_take_succ hx, List.map_append]; rfl
    clear ih'
    repeat' (first
     |(refine ⟨?_,?_⟩; focus ((repeat' (first|refine ⟨?_,?_⟩|refine .inr ?_)); all_goals kernel_rfl))
     |(refine okE_app_ownd jO0 (by repeat (first|exact Keeps.refl _|refine Keeps.new ?_ (hgf _ _)|refine Keeps.new ?_ (hfr' _ _)|refine Keeps.box ?_ rfl|refine Keeps.box ?_ (by simp only [go_sem, *]))) rfl (by simp only [go_sem, *] <;> omega) (by first|exact hgf0 _ _|exact hfr' _ _) (by simp only [go_sem, *]) (by intro hd e; simp only [logOk_cons, logOk_nil, and_true]; repeat (first|exact trivial|refine ⟨.inr (by kernel_rfl), ?_⟩|exact .inr (by kernel_rfl))) ?_; intro v' h' id' jO jK jAg jAb jF; obtain ⟨cO, rfl⟩ := jO.val; simp only [go_sem, *])
     | (first|refine wp rfl ?_|refine spt rfl ?_|refine spf rfl ?_|(refine spl (fun hc => ?_) fun hc => ?_) <;> (try rw [beq_iff_eq] at hc) <;> try simp only [hc]|(refine gs (fun hb => ?_) fun hb => ?_) <;> try simp only [Bool.not_true, Bool.not_false] at hb|refine cp hc ?_|refine cp hB ?_|refine AR_inv ?_)<;>try simp only [go_sem, *])
    refine ⟨?_, _, rfl, jO.keep (Keeps.box (Keeps.refl _) (by simp only [go_sem, *]))⟩
    exact Agree.new (jAg ag_) (hfr' _ _)
   ·
    intro σ ga0 hgl_ga0 hgn jS ⟨jA, v, jb, jO0⟩
    obtain ⟨jT, jB⟩ := jS
    simp only [go_sem] at jT jB
    obtain ⟨hgf, hgf0, eg_gen_ga0, eh_gen_ga0⟩ := rnd hgn hgl_ga0 jA
    clear hgn
    rw [List.take_length] at jO0
    obtain ⟨c, rfl⟩ := jO0.val
    clear ih'
    rw [Tm.mk_cells] at hv0
    subst hv0
    exact wk_
theorem c_r03Has : ∀ t : Tm, TmW t → ∀ a : Int, Pure Tryz.prog env 97 [.agg t.cells, .int .i64 a] (.bool (t.hasV a)) := by
 intro t
 induction t using Tm.ind with | h t ih => ?_
 intro ht a h
 have hlen := ht.len
 have ih' : ∀ x ∈ t.args, Pure Tryz.prog env 97 [.agg x.cells, .int .i64 (addW a (tmBelow t.kind))] (.bool (x.hasV (addW a (tmBelow t.kind)))) := fun x hx => ih x hx (ht.arg hx) _
 clear ih
 have hB := c_tmBelow t
 have hv0 := (t.hasV_eq a).symm
 have hw : IntKind.i64.wrap (a + tmBelow t.kind) = addW a (tmBelow t.kind) := rfl
 generalize t.hasV a = v at hv0 ⊢
 generalize addW a (tmBelow t.kind) = a2 at *
 cases hk : (t.kind == 1 && t.index == a) with
 | true =>
  have hk1 : (t.kind == 1) = true := by cases h1 : (t.kind == 1) <;> simp_all
  have hk2 : (t.index == a) = true := by cases h1 : (t.index == a) <;> simp_all
  rw [hk, Bool.true_or] at hv0
  subst hv0
  clear hk ih' hw hB
  exact ek_ Tryz.func97 [.tmp 4]
 | false =>
  rw [hk, Bool.false_or] at hv0
  have hkk : ((t.kind == 1) = true ∧ (t.index == a) = false) ∨ (t.kind == 1) = false := by cases h1 : (t.kind == 1) <;> cases h2 : (t.index == a) <;> simp_all
  clear hk
  have hv1 : (t.args.drop 0).any (fun x => x.hasV a2) = v := hv0
  clear hv0
  rcases hkk with ⟨hk1, hk2⟩ | hk1
  all_goals
   refine en_ Tryz.func97 [.tmp 4] fun g0 w0 gen hrel hfr hfr' hres => ?_
   refine wq_ ?_
   refine ar_ [1, 2, 17] [⟨gen, 0, 0⟩] (fun i σ => Agree h σ.h ∧ (t.args.drop i).any (fun x => x.hasV a2) = v) (t.args).length ?_ ?_ ?_
   ·simp only [go_sem, *]
    first|exact hv1|exact ⟨ag_, hv1⟩
   ·clear hv1
    intro i σ gr0 hgl_gr0 hgn hlt jI jN jS ⟨jA, jv⟩
    obtain ⟨jT, jB⟩ := jS
    simp only [go_sem] at jT jB
    obtain ⟨hgf, hgf0, eg_gen_gr0, eh_gen_gr0⟩ := rnd hgn hgl_gr0 jA
    obtain ⟨x, hx, hxm, hm⟩ := rnx hlt
    clear hgn
    rw [drop_get hx, List.any_cons] at jv
    have hc := ih' x hxm
    clear ih'
    cases hn : x.hasV a2 with
    | true =>
     rw [hn] at hc
     rw [hn, Bool.true_or] at jv
     subst jv
     exact wk_
    | false =>
     rw [hn] at hc
     rw [hn, Bool.false_or] at jv
     refine wq_ ?_
     first|exact ag_|exact ⟨ag_, jv⟩
   ·clear hv1
    intro σ ga0 hgl_ga0 hgn jS ⟨jA, jv⟩
    obtain ⟨jT, jB⟩ := jS
    simp only [go_sem] at jT jB
    obtain ⟨hgf, hgf0, eg_gen_ga0, eh_gen_ga0⟩ := rnd hgn hgl_ga0 jA
    clear hgn
    rw [List.drop_length, List.any_nil] at jv
    subst jv
    clear ih'
    exact wk_
end Go.Proofs.YtmbpmbofehmdaaaGreatDoor
