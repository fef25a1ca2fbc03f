/-
 Walks: several parts in one text.
-/
import Derived.Test.YtmbpmbofehmdaaaGreatDoorMa
import Derived.Test.YtmbpmbofehmdaaaGreatDoorMc
import Derived.Test.YtmbpmbofehmdaaaGreatDoorAbsC
set_option linter.unusedSimpArgs false
set_option linter.unusedVariables false
set_option maxRecDepth 20000
set_option maxHeartbeats 4000000
namespace Go.Proofs.YtmbpmbofehmdaaaGreatDoor
open Go GoAbs Go.Proofs
theorem c_OwnType : ∀ t : Ty, TyW t → Pure Tryz.prog env 63 [.agg t.cells] (.agg t.cells) := by
 intro t
 induction t using Ty.ind with | h t ih => ?_
 intro ht h
 have hlen := ht.len
 have ih' : ∀ x ∈ t.args, Pure Tryz.prog env 63 [.agg x.cells] (.agg x.cells) := fun x hx => ih x hx (ht.arg hx)
 clear ih
 refine en_ Tryz.func63 [.cell 2 25] fun g0 w0 gen hrel hfr hfr' hres => ?_
 refine wq_ ?_
 refine ar_ [2, 3, 10] [⟨gen, 0, 1⟩] (fun i σ => Agree h σ.h ∧ ∃ v, σ.h ⟨gen, 1, 3⟩ = some (.box [.int .i64 t.kind, v]) ∧ OwnS h σ.h v 2 ((t.args.take i).map Ty.cells)) (t.args).length ?_ ?_ ?_
 ·simp only [go_sem, *]
  exact ⟨ag_, _, rfl, .inl rfl⟩
 ·
  intro i σ gr0 hgl_gr0 hgn hlt jI jN jS ⟨jA, v, jb, jO0⟩
  obtain ⟨jT, jB⟩ := jS
  simp only [go_sem] at jT jB
  obtain ⟨hgf, hgf0, eg_gen_gr0, eh_gen_gr0⟩ := rnd hgn hgl_gr0 jA
  obtain ⟨x, hx, hxm, hm⟩ := rnx hlt
  clear hgn
  have hc := ih' x hxm
  have hts : (t.args.take (i + 1)).map Ty.cells = (t.args.take i).map Ty.cells ++ [x.cells] := by rw [map_take_succ hx]
  clear ih'
  repeat' (first
   |(refine ⟨?_,?_⟩; focus ((repeat' (first|refine ⟨?_,?_⟩|refine .inr ?_)); all_goals kernel_rfl))
   |(refine okE_app_ownd jO0 (by repeat (first|exact Keeps.refl _|refine Keeps.new ?_ (hgf _ _)|refine Keeps.new ?_ (hfr' _ _)|refine Keeps.box ?_ rfl|refine Keeps.box ?_ (by simp only [go_sem, *]))) rfl (by simp only [go_sem, *] <;> omega) (by first|exact hgf0 _ _|exact hfr' _ _) (by simp only [go_sem, *]) (by intro hd e; simp only [logOk_cons, logOk_nil, and_true]; repeat (first|exact trivial|refine ⟨.inr (by kernel_rfl), ?_⟩|exact .inr (by kernel_rfl))) ?_; intro v' h' id' jO jK jAg jAb jF; obtain ⟨cO, rfl⟩ := jO.val; simp only [go_sem, *])
   | (first|refine wp rfl ?_|refine spt rfl ?_|refine spf rfl ?_|(refine spl (fun hc => ?_) fun hc => ?_) <;> (try rw [beq_iff_eq] at hc) <;> try simp only [hc]|refine cp hc ?_|refine AR_inv ?_)<;>try simp only [go_sem, *])
  refine ⟨?_, _, rfl, jO.keep (Keeps.box (Keeps.refl _) (by simp only [go_sem, *]))⟩
  exact Agree.new (jAg ag_) (hfr' _ _)
 ·
  intro σ ga0 hgl_ga0 hgn jS ⟨jA, v, jb, jO0⟩
  obtain ⟨jT, jB⟩ := jS
  simp only [go_sem] at jT jB
  obtain ⟨hgf, hgf0, eg_gen_ga0, eh_gen_ga0⟩ := rnd hgn hgl_ga0 jA
  clear hgn
  rw [List.take_length] at jO0
  obtain ⟨c, rfl⟩ := jO0.val
  clear ih'
  refine wq_ ?_
  rw [Ty.cells_eq]
theorem c_Own : ∀ t : Tm, TmW t → Pure Tryz.prog env 81 [.agg t.cells] (.agg t.cells) := by
 intro t
 induction t using Tm.ind with | h t ih => ?_
 intro ht h
 have hlen := ht.len
 have ih' : ∀ x ∈ t.args, Pure Tryz.prog env 81 [.agg x.cells] (.agg x.cells) := fun x hx => ih x hx (ht.arg hx)
 have hO := c_OwnType t.type ht.ty
 clear ih
 refine en_ Tryz.func81 [.cell 2 31] fun g0 w0 gen hrel hfr hfr' hres => ?_
 refine wq_ ?_
 refine ar_ [2, 3, 15] [⟨gen, 0, 1⟩] (fun i σ => Agree h σ.h ∧ ∃ v, σ.h ⟨gen, 1, 8⟩ = some (.box [.int .i64 t.kind, .int .i64 t.index, .int .i64 t.type.kind, .sl .any (t.type.args.map Ty.cells), v]) ∧ OwnS h σ.h v 5 ((t.args.take i).map Tm.cells)) (t.args).length ?_ ?_ ?_
 ·simp only [go_sem, *]
  exact ⟨ag_, _, rfl, .inl rfl⟩
 ·
  intro i σ gr0 hgl_gr0 hgn hlt jI jN jS ⟨jA, v, jb, jO0⟩
  obtain ⟨jT, jB⟩ := jS
  simp only [go_sem] at jT jB
  obtain ⟨hgf, hgf0, eg_gen_gr0, eh_gen_gr0⟩ := rnd hgn hgl_gr0 jA
  obtain ⟨x, hx, hxm, hm⟩ := rnx hlt
  clear hgn
  have hc := ih' x hxm
  have hts : (t.args.take (i + 1)).map Tm.cells = (t.args.take i).map Tm.cells ++ [x.cells] := by rw [map_take_succ hx]
  clear ih'
  repeat' (first
   |(refine ⟨?_,?_⟩; focus ((repeat' (first|refine ⟨?_,?_⟩|refine .inr ?_)); all_goals kernel_rfl))
   |(refine okE_app_ownd jO0 (by repeat (first|exact Keeps.refl _|refine Keeps.new ?_ (hgf _ _)|refine Keeps.new ?_ (hfr' _ _)|refine Keeps.box ?_ rfl|refine Keeps.box ?_ (by simp only [go_sem, *]))) rfl (by simp only [go_sem, *] <;> omega) (by first|exact hgf0 _ _|exact hfr' _ _) (by simp only [go_sem, *]) (by intro hd e; simp only [logOk_cons, logOk_nil, and_true]; repeat (first|exact trivial|refine ⟨.inr (by kernel_rfl), ?_⟩|exact .inr (by kernel_rfl))) ?_; intro v' h' id' jO jK jAg jAb jF; obtain ⟨cO, rfl⟩ := jO.val; simp only [go_sem, *])
   | (first|refine wp rfl ?_|refine spt rfl ?_|refine spf rfl ?_|(refine spl (fun hc => ?_) fun hc => ?_) <;> (try rw [beq_iff_eq] at hc) <;> try simp only [hc]|refine cp hc ?_|refine AR_inv ?_)<;>try simp only [go_sem, *])
  refine ⟨?_, _, rfl, jO.keep (Keeps.box (Keeps.refl _) (by simp only [go_sem, *]))⟩
  exact Agree.new (jAg ag_) (hfr' _ _)
 ·
  intro σ ga0 hgl_ga0 hgn jS ⟨jA, v, jb, jO0⟩
  obtain ⟨jT, jB⟩ := jS
  simp only [go_sem] at jT jB
  obtain ⟨hgf, hgf0, eg_gen_ga0, eh_gen_ga0⟩ := rnd hgn hgl_ga0 jA
  clear hgn
  rw [List.take_length] at jO0
  obtain ⟨c, rfl⟩ := jO0.val
  clear ih'
  refine wq_ ?_
  rw [Tm.cells_eq]
theorem c_tOf (k : Int) (l : List Tm) : Pure Tryz.prog env 108 [.int .i64 k, .sl .any (l.map Tm.cells)] (.agg (tm0 k l).cells) := by
 intro h
 refine en_ Tryz.func108 [.cell 4 31] fun g0 w0 gen hrel hfr hfr' hres => ?_
 first|refine wq_ ?_|exact wk_
 all_goals simp [tm0, Tm.mk_cells, Ty.mk_kind, Ty.mk_args]
theorem c_tVar (i : Int) : Pure Tryz.prog env 77 [.int .i64 i] (.agg (tmVar i).cells) := by
 intro h
 refine en_ Tryz.func77 [.cell 2 31] fun g0 w0 gen hrel hfr hfr' hres => ?_
 first|refine wq_ ?_|exact wk_
 all_goals simp [tmVar, Tm.mk_cells, Ty.mk_kind, Ty.mk_args]
theorem c_tNat : Pure Tryz.prog env 74 [] (.agg tNat.cells) := by
 intro h
 refine en_ Tryz.func74 [.cell 0 25] fun g0 w0 gen hrel hfr hfr' hres => ?_
 refine wq_ ?_
 rfl
theorem c_tApp (f : Tm) (l : List Tm) (hl : l.length ≤ 1000) :
  Pure Tryz.prog env 106 [.agg f.cells, .sl .any (l.map Tm.cells)] (.agg (appTm f l).cells) := by
 intro h
 have hin : ∀ S, InV S (.agg (appTm f l).cells) := fun S => by simp [InV, InL_Tm]
 generalize hv : V.agg (appTm f l).cells = v at hin ⊢
 refine en_ Tryz.func106 [.cell 4 31] fun g0 w0 gen hrel hfr hfr' hres => ?_
 refine wq_ ?_
 refine ar_ [2, 4, 7] [⟨gen, 0, 1⟩] (fun i σ => Agree h σ.h ∧ ∃ f' : Tm, σ.h ⟨gen, 0, 0⟩ = some (.box f'.cells) ∧ V.agg (appTm f' (l.drop i)).cells = v) (l).length ?_ ?_ ?_
 ·simp only [go_sem, *]
  exact ⟨ag_, f, rfl, hv⟩
 ·
  intro i σ gr0 hgl_gr0 hgn hlt jI jN jS ⟨jA, f', jf, jv⟩
  obtain ⟨jT, jB⟩ := jS
  simp only [go_sem] at jT jB
  obtain ⟨hgf, hgf0, eg_gen_gr0, eh_gen_gr0⟩ := rnd hgn hgl_gr0 jA
  obtain ⟨x, hx, hxm, hm⟩ := rnx hlt
  clear hgn
  rw [drop_get hx, appTm_cons] at jv
  have hc := c_tOf 3 [f', x]
  simp only [List.map_cons, List.map_nil] at hc
  refine wq_ ?_
  exact ⟨ag_, _, rfl, jv⟩
 ·
  intro σ ga0 hgl_ga0 hgn jS ⟨jA, f', jf, jv⟩
  obtain ⟨jT, jB⟩ := jS
  simp only [go_sem] at jT jB
  obtain ⟨hgf, hgf0, eg_gen_ga0, eh_gen_ga0⟩ := rnd hgn hgl_ga0 jA
  clear hgn
  rw [List.drop_length, appTm_nil] at jv
  subst jv
  exact wk_
def lamT (l : List Ty) (b : Tm) : Tm := l.foldr (fun t b => tmT 2 t [b]) b
theorem lamT_step {l : List Ty} {b : Tm} {j : Nat} {x : Ty} (h : l[j]? = some x) : tmT 2 x [lamT (l.drop (j + 1)) b] = lamT (l.drop j) b := by
 rw [drop_get h]; rfl
theorem c_tLam (b : Tm) (l : List Ty) (hl : l.length ≤ 1000) :
  Pure Tryz.prog env 135 [.agg b.cells, .sl .any (l.map Ty.cells)] (.agg (lamT l b).cells) := by
 intro h
 have hw0 : IntKind.i64.wrap ((l.length : Int) - 1) = (l.length : Int) - 1 := wrap_eq rfl (by omega) (by omega)
 refine en_ Tryz.func135 [.cell 4 31] fun g0 w0 gen hrel hfr hfr' hres => ?_
 refine wq_ ?_
 refine AR_loop_nat (fun i σ => σ.tm 5 = .int .i64 ((l.length : Int) - 1 - i) ∧ σ.tm 1 = .sl .any (l.map Ty.cells) ∧ σ.tm 2 = .ptr ⟨gen, 0, 0⟩ 0 ∧ σ.tm 4 = .ptr ⟨gen, 0, 1⟩ 0 ∧
  σ.h ⟨gen, 0, 0⟩ = some (.box (lamT (l.drop (l.length - i)) b).cells) ∧ σ.h ⟨gen, 0, 1⟩ = some (.box [.int .i64 0, .int .i64 0, .int .i64 0, .sl .full [], .sl .full []]) ∧ Agree h σ.h ∧ i ≤ l.length) l.length ?_ ?_
 ·have e : (l.drop (l.length - 0)) = [] := by simp
  simp only [go_sem, *, e]
  exact ⟨by simp, rfl, ag_, by omega⟩
 intro i σ hi ⟨j1, j2, j3, j4, j5, j6, j7, j8⟩
 clear j8
 have hw1 : IntKind.i64.wrap ((l.length : Int) - 1 - (i : Int) - 1) = (l.length : Int) - 1 - (i : Int) - 1 := wrap_eq rfl (by omega) (by omega)
 rcases Nat.lt_or_ge i l.length with hlt | hge
 ·have hd : decide ((l.length : Int) - 1 - (i : Int) ≥ 0) = true := by simp; omega
  have e0 : l.length - (i + 1) + 1 = l.length - i := by omega
  obtain ⟨x, hx⟩ : ∃ x, l[l.length - (i + 1)]? = some x := ⟨_, List.getElem?_eq_getElem (by omega)⟩
  have hst := lamT_step (b := b) hx
  rw [e0] at hst
  rw [← hst]
  have e2 : ((l.length : Int) - 1 - (i : Int)).toNat = l.length - (i + 1) := by omega
  have e3 : 0 ≤ (l.length : Int) - 1 - (i : Int) := by omega
  have e4 : (l.length : Int) - 1 - ((i + 1 : Nat) : Int) = (l.length : Int) - 1 - (i : Int) - 1 := by omega
  have e5 : i + 1 ≤ l.length := by omega
  clear hst
  generalize lamT (l.drop (l.length - i)) b = b' at *
  have hcell : (tmT 2 x [b']).cells = [.int .i64 2, .int .i64 0, .int .i64 x.kind, .sl .any (x.args.map Ty.cells), .sl .any [b'.cells]] := by simp [tmT, Tm.mk_cells, Ty.mk_kind, Ty.mk_args]
  clear hi
  repeat' (first
   |(refine ⟨?_,?_⟩; focus ((repeat' (first|refine ⟨?_,?_⟩|refine .inr ?_)); all_goals kernel_rfl))
   | (first|refine wp rfl ?_|refine spt rfl ?_|refine spf rfl ?_|(refine spl (fun hc => ?_) fun hc => ?_) <;> (try rw [beq_iff_eq] at hc) <;> try simp only [hc])<;>try simp only [go_sem, *])
  refine AR_weakBox ⟨gen, 0, 0⟩ (by simp only [go_sem, *] <;> rfl) ?_
  refine AR_inv ?_
  simp only [go_sem, *]
  exact ag_
 ·have hd : decide ((l.length : Int) - 1 - (i : Int) ≥ 0) = false := by simp; omega
  obtain rfl : i = l.length := by omega
  have e6 : l.drop (l.length - l.length) = l := by simp
  rw [e6] at j5
  exact wk_
theorem c_tRec (k : Int) (t : Ty) (a b c : Tm) : Pure Tryz.prog env 136 [.int .i64 k, .agg t.cells, .agg a.cells, .agg b.cells, .agg c.cells] (.agg (tmT k t [a, b, c]).cells) := by
 intro h
 refine en_ Tryz.func136 [.cell 10 31] fun g0 w0 gen hrel hfr hfr' hres => ?_
 first|refine wq_ ?_|exact wk_
 all_goals simp [tmT, Tm.mk_cells, Ty.mk_kind, Ty.mk_args]
theorem c_tEq (a b : Tm) : Pure Tryz.prog env 105 [.agg a.cells, .agg b.cells] (.agg (fmEq a b).cells) := by
 intro h
 refine en_ Tryz.func105 [.cell 4 29] fun g0 w0 gen hrel hfr hfr' hres => ?_
 first|refine wq_ ?_|exact wk_
 all_goals simp [fmEq, Fm.mk_cells, Ty.mk_kind, Ty.mk_args]
theorem c_Quantifier (k : Int) : Pure Tryz.prog env 122 [.int .i64 k] (.bool (decide (k ≥ 4) && decide (k ≤ 7))) := by
 intro h
 refine en_ Tryz.func122 [.tmp 2] fun g0 w0 gen hrel hfr hfr' hres => ?_
 first|refine wq_ ?_|exact wk_
 all_goals simp [*]
theorem c_vRec (a b c : Tm) : Pure Tryz.prog env 127 [.agg a.cells, .agg b.cells, .agg c.cells] (.agg (recN a (lamN (lamN b)) c).cells) := by
 intro h
 have h1 := c_tLam b [tNat, tNat] (by simp)
 simp only [List.map_cons, List.map_nil] at h1
 have h2 := c_tRec 6 tNat a (lamN (lamN b)) c
 have e : lamT [tNat, tNat] b = lamN (lamN b) := rfl
 rw [e] at h1
 refine en_ Tryz.func127 [.cell 6 31] fun g0 w0 gen hrel hfr hfr' hres => ?_
 have zq0 := c_tNat
 refine wq_ ?_
 rfl
theorem c_vTwo (b : Tm) : Pure Tryz.prog env 126 [.agg b.cells] (.agg (lamN (lamN b)).cells) := by
 intro h
 have h1 := c_tLam b [tNat, tNat] (by simp)
 simp only [List.map_cons, List.map_nil] at h1
 have e : lamT [tNat, tNat] b = lamN (lamN b) := rfl
 rw [e] at h1
 have zq0 := c_tNat
 exact ek_ Tryz.func126 [.cell 2 31]
theorem c_vPred : Pure Tryz.prog env 128 [] (.agg predT.cells) := by
 intro h
 have h0 := c_tOf 4 []
 have h1 := c_tLam (recN (tm0 4 []) (lamN (lamN (tmVar 1))) (tmVar 0)) [tNat] (by simp)
 simp only [List.map_cons, List.map_nil] at h0 h1
 have e : lamT [tNat] (recN (tm0 4 []) (lamN (lamN (tmVar 1))) (tmVar 0)) = predT := rfl
 rw [e] at h1
 refine en_ Tryz.func128 [.cell 0 31] fun g0 w0 gen hrel hfr hfr' hres => ?_
 repeat' (first
  |exact hin _|exact agf (by assumption)
  | (first|refine wp rfl ?_|refine cp h0 ?_|refine cp (c_tVar _) ?_|refine cp (c_vRec _ _ _) ?_|refine cp c_tNat ?_|refine cp h1 ?_|refine finF hrel ?_ ?_ ?_)<;>try simp only [go_sem, *])
theorem c_vSub : Pure Tryz.prog env 107 [] (.agg subT.cells) := by
 intro h
 have h0 := c_tApp predT [tmVar 0] (by simp)
 simp only [List.map_cons, List.map_nil] at h0
 have e : appTm predT [tmVar 0] = tm0 3 [predT, tmVar 0] := rfl
 rw [e] at h0
 refine en_ Tryz.func107 [.cell 0 31] fun g0 w0 gen hrel hfr hfr' hres => ?_
 repeat' (first
  |exact hin _|exact agf (by assumption)
  | (first|refine wp rfl ?_|refine cp c_vPred ?_|refine cp h0 ?_|refine cp (c_tVar _) ?_|refine cp (c_vRec _ _ _) ?_|refine cp (c_vTwo _) ?_|refine finF hrel ?_ ?_ ?_)<;>try simp only [go_sem, *])
 rfl
theorem c_less (s t : Tm) : Pure Tryz.prog env 76 [.agg s.cells, .agg t.cells] (.agg (lessF s t).cells) := by
 intro h
 have h0 := c_tApp subT [tm0 5 [s], t] (by simp)
 have h1 := c_tOf 5 [s]
 have h2 := c_tOf 4 []
 simp only [List.map_cons, List.map_nil] at h0 h1 h2
 have e : appTm subT [tm0 5 [s], t] = tm0 3 [tm0 3 [subT, tm0 5 [s]], t] := rfl
 rw [e] at h0
 refine en_ Tryz.func76 [.cell 4 29] fun g0 w0 gen hrel hfr hfr' hres => ?_
 repeat' (first
  |(refine ⟨?_,?_⟩; focus ((repeat' (first|refine ⟨?_,?_⟩|refine .inr ?_)); all_goals kernel_rfl))
  |exact hin _|exact agf (by assumption)
  | (first|refine wp rfl ?_|refine cp c_vSub ?_|refine cp h0 ?_|refine cp h1 ?_|refine cp h2 ?_|refine cp (c_tEq _ _) ?_|refine finF hrel ?_ ?_ ?_)<;>try simp only [go_sem, *])
 rfl
theorem c_joint (all : Bool) : Pure Tryz.prog env 72 [.bool all] (.tup [.int .i64 (if all then 4 else 5), .int .i64 (if all then 3 else 2)]) := by
 intro h
 cases all
 all_goals
  exact ek_ Tryz.func72 [.tmp 2, .tmp 3]
theorem c_Own1 (t : Tm) (ht : TmW t) (b : Int) : Pure Tryz.prog env 96 [.agg t.cells, .int .i64 b] (.agg t.cells) := by
 intro h
 refine en_ Tryz.func96 [.cell 4 31] fun g0 w0 gen hrel hfr hfr' hres => ?_
 repeat' (first
  |exact hin _|exact agf (by assumption)
  | (first|refine wp rfl ?_|refine cp (c_Own _ ht) ?_|refine finF hrel ?_ ?_ ?_)<;>try simp only [go_sem, *])
theorem c_RebuildOwn : ∀ f : Fm, FmW f → ∀ b : Int, Pure Tryz.prog env 95 [.agg f.cells, .int .i64 b, .fn (.func 96) [] []] (.agg f.cells) := by
 intro t
 induction t using Fm.ind with | h t ih => ?_
 intro ht b h
 have hlen := ht.len
 have hlen2 := ht.tlen
 have ih' : ∀ x ∈ t.args, ∀ b : Int, Pure Tryz.prog env 95 [.agg x.cells, .int .i64 b, .fn (.func 96) [] []] (.agg x.cells) := fun x hx => ih x hx (ht.arg hx)
 have ht' : ∀ x ∈ t.terms, ∀ b : Int, Pure Tryz.prog env 96 [.agg x.cells, .int .i64 b] (.agg x.cells) := fun x hx b => c_Own1 x (ht.term hx) b
 have hO := c_OwnType t.type ht.ty
 have hQ := c_Quantifier t.kind
 clear ih ht
 refine en_ Tryz.func95 [.cell 6 29] fun g0 w0 gen hrel hfr hfr' hres => ?_
 refine wq_ ?_
 refine ar_ [1, 2, 3, 6, 7, 19] [⟨gen, 0, 0⟩, ⟨gen, 0, 1⟩] (fun i σ => Agree h σ.h ∧ ∃ v, σ.h ⟨gen, 1, 6⟩ = some (.box [.int .i64 t.kind, .int .i64 t.type.kind, .sl .any (t.type.args.map Ty.cells), v, .sl .full []]) ∧ OwnS h σ.h v 5 ((t.terms.take i).map Tm.cells)) (t.terms).length ?_ ?_ ?_
 ·simp only [go_sem, *]
  exact ⟨ag_, _, rfl, .inl rfl⟩
 ·clear ih'
  intro i σ gr0 hgl_gr0 hgn hlt jI jN jS ⟨jA, v, jb, jO0⟩
  obtain ⟨jT, jB⟩ := jS
  simp only [go_sem] at jT jB
  obtain ⟨hgf, hgf0, eg_gen_gr0, eh_gen_gr0⟩ := rnd hgn hgl_gr0 jA
  obtain ⟨x, hx, hxm, hm⟩ := rnx hlt
  clear hgn
  have hc := ht' x hxm b
  have hts : (t.terms.take (i + 1)).map Tm.cells = (t.terms.take i).map Tm.cells ++ [x.cells] := by rw [map_take_succ hx]
  clear ht'
  repeat' (first
   |(refine ⟨?_,?_⟩; focus ((repeat' (first|refine ⟨?_,?_⟩|refine .inr ?_)); all_goals kernel_rfl))
   |(refine okE_app_ownd jO0 (by repeat (first|exact Keeps.refl _|refine Keeps.new ?_ (hgf _ _)|refine Keeps.new ?_ (hfr' _ _)|refine Keeps.box ?_ rfl|refine Keeps.box ?_ (by simp only [go_sem, *]))) rfl (by simp only [go_sem, *] <;> omega) (by first|exact hgf0 _ _|exact hfr' _ _) (by simp only [go_sem, *]) (by intro hd e; simp only [logOk_cons, logOk_nil, and_true]; repeat (first|exact trivial|refine ⟨.inr (by kernel_rfl), ?_⟩|exact .inr (by kernel_rfl))) ?_; intro v' h' id' jO jK jAg jAb jF; obtain ⟨cO, rfl⟩ := jO.val; simp only [go_sem, *])
   | (first|refine wp rfl ?_|refine spt rfl ?_|refine spf rfl ?_|(refine spl (fun hc => ?_) fun hc => ?_) <;> (try rw [beq_iff_eq] at hc) <;> try simp only [hc]|refine cp hc ?_|refine AR_inv ?_)<;>try simp only [go_sem, *])
  refine ⟨?_, _, rfl, jO.keep (Keeps.box (Keeps.refl _) (by simp only [go_sem, *]))⟩
  exact Agree.new (jAg ag_) (hfr' _ _)
 clear ht'
 intro σ ga0 hgl_ga0 hgn jS ⟨jA, v1, jb, jO1⟩
 obtain ⟨jT, jB⟩ := jS
 simp only [go_sem] at jT jB
 obtain ⟨hgf, hgf0, eg_gen_ga0, eh_gen_ga0⟩ := rnd hgn hgl_ga0 jA
 clear hgn
 rw [List.take_length] at jO1
 obtain ⟨c1, rfl⟩ := jO1.val
 clear jO1
 cases hq : (decide (t.kind ≥ 4) && decide (t.kind ≤ 7))
 all_goals
  rw [hq] at hQ
  clear hq
  refine wq_ ?_
  refine ar_ [1, 2, 6, 7, 41] [⟨gen, 0, 1⟩] (fun i σ => Agree h σ.h ∧ ∃ v, σ.h ⟨gen, 1, 6⟩ = some (.box [.int .i64 t.kind, .int .i64 t.type.kind, .sl .any (t.type.args.map Ty.cells), .sl c1 (t.terms.map Tm.cells), v]) ∧ OwnS h σ.h v 5 ((t.args.take i).map Fm.cells)) (t.args).length ?_ ?_ ?_
  ·simp only [go_sem, *]
   first|exact ⟨_, rfl, .inl rfl⟩|exact ⟨ag_, _, rfl, .inl rfl⟩
  ·
   intro i σ gr1 hgl_gr1 hgn hlt jI jN jS ⟨jA, v, jb', jO0⟩
   obtain ⟨jT, jB⟩ := jS
   simp only [go_sem] at jT jB
   have hgf := fresh_of hgn
   have hgf0 := fun r i => agree_fresh jA (hgf r i)
   have eg_gen_gr1 := gen_lt (show gen < gr1 by omega)
   have eh_gen_gr1 := gen_lt' (show gen < gr1 by omega)
   have eg_ga0_gr1 := gen_lt (show ga0 < gr1 by omega)
   have eh_ga0_gr1 := gen_lt' (show ga0 < gr1 by omega)
   obtain ⟨x, hx, hxm, hm⟩ := rnx hlt
   clear hgn
   have hc := fun b => ih' x hxm b
   have hts : (t.args.take (i + 1)).map Fm.cells = (t.args.take i).map Fm.cells ++ [x.cells] := by rw [map_take_succ hx]
   clear ih'
   repeat' (first
    |(refine ⟨?_,?_⟩; focus ((repeat' (first|refine ⟨?_,?_⟩|refine .inr ?_)); all_goals kernel_rfl))
    |(refine okE_app_ownd jO0 (by repeat (first|exact Keeps.refl _|refine Keeps.new ?_ (hgf _ _)|refine Keeps.new ?_ (hfr' _ _)|refine Keeps.box ?_ rfl|refine Keeps.box ?_ (by simp only [go_sem, *]))) rfl (by simp only [go_sem, *] <;> omega) (by first|exact hgf0 _ _|exact hfr' _ _) (by simp only [go_sem, *]) (by intro hd e; simp only [logOk_cons, logOk_nil, and_true]; repeat (first|exact trivial|refine ⟨.inr (by kernel_rfl), ?_⟩|exact .inr (by kernel_rfl))) ?_; intro v' h' id' jO jK jAg jAb jF; obtain ⟨cO, rfl⟩ := jO.val; simp only [go_sem, *])
    | (first|refine wp rfl ?_|refine spt rfl ?_|refine spf rfl ?_|(refine spl (fun hc => ?_) fun hc => ?_) <;> (try rw [beq_iff_eq] at hc) <;> try simp only [hc]|refine cp (hc _) ?_|refine AR_inv ?_)<;>try simp only [go_sem, *])
   refine ⟨?_, _, rfl, jO.keep (Keeps.box (Keeps.refl _) (by simp only [go_sem, *]))⟩
   exact Agree.new (jAg ag_) (hfr' _ _)
  ·
   intro σ ga1 hgl_ga1 hgn jS ⟨jA, v, jb', jO0⟩
   obtain ⟨jT, jB⟩ := jS
   simp only [go_sem] at jT jB
   have hgf := fresh_of hgn
   have hgf0 := fun r i => agree_fresh jA (hgf r i)
   have eg_gen_ga1 := gen_lt (show gen < ga1 by omega)
   have eh_gen_ga1 := gen_lt' (show gen < ga1 by omega)
   have eg_ga0_ga1 := gen_lt (show ga0 < ga1 by omega)
   have eh_ga0_ga1 := gen_lt' (show ga0 < ga1 by omega)
   clear hgn
   rw [List.take_length] at jO0
   obtain ⟨c, rfl⟩ := jO0.val
   clear ih'
   refine wq_ ?_
   rw [Fm.cells_eq]
theorem c_OwnFormula (f : Fm) (hf : FmW f) : Pure Tryz.prog env 58 [.agg f.cells] (.agg f.cells) := by
 intro h
 have zq0 := c_RebuildOwn f hf 0
 exact ek_ Tryz.func58 [.cell 2 29]
theorem c_each1 {α : Type} (enc : α → V) (F : Int → Int → α → α) (kd : Nat) (cap : List V) (hcap : weakL cap = cap) (henc : ∀ s (S : GoAbs.Id → Prop), InV S (enc s))
  (D E A d : GoAbs.Id) (oA : GoAbs.Obj) (nD : D ≠ d) (nE : E ≠ d) (nA : A ≠ d)
  (hdo : ∀ i b s, TurnsE Tryz.prog env kd (.int .i64 i :: .int .i64 b :: cap) [(A, oA)] d (.box [enc s]) (.tup []) (.box [enc (F i b s)])) :
  ∀ t : Tm, TmW t → ∀ (b : Int) (s : α), TurnsE Tryz.prog env 134 [.agg t.cells, .int .i64 b, .ptr D 0, .ptr E 0]
   [(D, .box [.fn (.func kd) [] cap]), (E, .box [.fn (.func 134) [] [.ptr D 0, .ptr E 0]]), (A, oA)] d (.box [enc s]) (.tup []) (.box [enc (t.eachF F b s)]) := by
 intro t
 induction t using Tm.ind with | h t ih => ?_
 intro ht b s h he hd
 simp only [List.mem_cons, List.not_mem_nil, or_false, forall_eq_or_imp, forall_eq] at he
 obtain ⟨hD, hE, hA⟩ := he
 have hlen := ht.len
 have ih' : ∀ x ∈ t.args, ∀ (b : Int) (s : α), TurnsE Tryz.prog env 134 [.agg x.cells, .int .i64 b, .ptr D 0, .ptr E 0]
   [(D, .box [.fn (.func kd) [] cap]), (E, .box [.fn (.func 134) [] [.ptr D 0, .ptr E 0]]), (A, oA)] d (.box [enc s]) (.tup []) (.box [enc (x.eachF F b s)]) := fun x hx => ih x hx (ht.arg hx)
 clear ih ht
 have n1 : (D = d) = False := by simpa using nD
 have n2 : (E = d) = False := by simpa using nE
 have n3 : (A = d) = False := by simpa using nA
 clear nD nE nA
 have hw : IntKind.i64.wrap (b + 1) = addW b 1 := rfl
 have hv0 := (Tm.eachF_eq F t b s).symm
 generalize t.eachF F b s = v at hv0 ⊢
 cases k1 : (t.kind == 1)
 all_goals
  rw [k1] at hv0
  generalize hb1 : (if (t.kind == 2) = true then addW b 1 else b) = b1 at hv0
  cases k2 : (t.kind == 2)
  all_goals
   rw [k2] at hb1
   simp only [if_true, Bool.false_eq_true, if_false] at hb1 hv0
   first | (obtain rfl : b1 = b := hb1.symm) | skip
   refine en_ Tryz.func134 [] fun g0 w0 gen hrel hfr hfr' hres => ?_
   have f1 := fresh_ne hfr hd
   have f2 := fresh_ne' hfr hd
   have f3 := fresh_ne hfr hD
   have f4 := fresh_ne hfr hE
   have f5 := fresh_ne hfr hA
   repeat' (first
    | (first|refine wp rfl ?_|refine spt rfl ?_|refine spf rfl ?_|(refine spl (fun hc => ?_) fun hc => ?_) <;> (try rw [beq_iff_eq] at hc) <;> try simp only [hc]|(refine Call1_turnE (hdo _ _ s) ?_ ?_ ?_; (focus ((simp only [go_sem, *] <;> (repeat (first|assumption | rfl|refine And.intro ?_ ?_))); done)); (focus ((simp only [go_sem, *] <;> first | rfl|assumption); done))))<;>try simp only [go_sem, *])
   refine ar_ [1, 3, 22] [] (fun i σ => AgreeBut d h σ.h ∧ ∃ s', σ.h d = some (.box [enc s']) ∧ Tm.eachL F (t.args.drop i) b1 s' = v) (t.args).length ?_ ?_ ?_
   ·simp only [go_sem, *]
    exact ⟨by repeat (first|exact AgreeBut.refl _ _|assumption|refine AgreeBut.new ?_ (hfr' _ _)|refine AgreeBut.set ?_), _, rfl, hv0⟩
   ·clear hv0
    intro i σ gr0 hgl_gr0 hgn hlt jI jN jS ⟨jA, s', js, jv⟩
    obtain ⟨jT, jB⟩ := jS
    simp only [go_sem] at jT jB
    have hgf := fresh_of hgn
    have hgf0 := agreeBut_fresh' hd jA hgf (fun r i e => by have := hfr d (by rw [hd]; simp); rw [e] at this; simp at this; omega)
    have fd_gr0 := fresh_ne2 hfr hd (show gen < gr0 by omega)
    have fe_gr0 := fresh_ne2' hfr hd (show gen < gr0 by omega)
    have eg_gen_gr0 := gen_lt (show gen < gr0 by omega)
    have eh_gen_gr0 := gen_lt' (show gen < gr0 by omega)
    obtain ⟨x, hx, hxm, hm⟩ := rnx hlt
    clear hgn
    rw [drop_get hx, Tm.eachL_cons] at jv
    have hc := fun b s => ih' x hxm b s
    have hD' := (jA D (by simpa using n1) (by rw [hD]; simp)).trans hD
    have hE' := (jA E (by simpa using n2) (by rw [hE]; simp)).trans hE
    have hA' := (jA A (by simpa using n3) (by rw [hA]; simp)).trans hA
    have g3 := fresh_ne2 hfr hD hgl_gr0
    have g4 := fresh_ne2 hfr hE hgl_gr0
    have g5 := fresh_ne2 hfr hA hgl_gr0
    clear ih' hD hE hA
    repeat' (first
     | (first|refine wp rfl ?_|refine spt rfl ?_|refine spf rfl ?_|(refine spl (fun hc => ?_) fun hc => ?_) <;> (try rw [beq_iff_eq] at hc) <;> try simp only [hc]|(refine Call1_turnE (hc _ s') ?_ ?_ ?_; (focus ((simp only [go_sem, *] <;> (repeat (first|assumption | rfl|refine And.intro ?_ ?_))); done)); (focus ((simp only [go_sem, *] <;> first | rfl|assumption); done)))|refine AR_inv ?_)<;>try simp only [go_sem, *])
    exact ⟨by repeat (first|assumption|refine AgreeBut.new ?_ (hgf0 _ _)|refine AgreeBut.set ?_), _, rfl, jv⟩
   ·clear hv0
    intro σ ga0 hgl_ga0 hgn jS ⟨jA, s', js, jv⟩
    obtain ⟨jT, jB⟩ := jS
    simp only [go_sem] at jT jB
    have hgf := fresh_of hgn
    have hgf0 := agreeBut_fresh' hd jA hgf (fun r i e => by have := hfr d (by rw [hd]; simp); rw [e] at this; simp at this; omega)
    have fd_ga0 := fresh_ne2 hfr hd (show gen < ga0 by omega)
    have fe_ga0 := fresh_ne2' hfr hd (show gen < ga0 by omega)
    have eg_gen_ga0 := gen_lt (show gen < ga0 by omega)
    have eh_gen_ga0 := gen_lt' (show gen < ga0 by omega)
    clear hgn
    rw [List.drop_length, Tm.eachL_nil] at jv
    subst jv
    clear ih'
    refine wq_ ?_
    refine AR_fin_turn hrel hd (by simp only [go_sem, and_self]) (by simp only [InL, henc, and_self]) jA js ?_
    simp only [go_sem, *]
theorem c_Each {α : Type} (enc : α → V) (F : Int → Int → α → α) (kd : Nat) (cap : List V) (hcap : weakL cap = cap) (henc : ∀ s (S : GoAbs.Id → Prop), InV S (enc s))
  (A d : GoAbs.Id) (oA : GoAbs.Obj) (nA : A ≠ d)
  (hdo : ∀ i b s, TurnsE Tryz.prog env kd (.int .i64 i :: .int .i64 b :: cap) [(A, oA)] d (.box [enc s]) (.tup []) (.box [enc (F i b s)]))
  (t : Tm) (ht : TmW t) (s : α) : TurnsE Tryz.prog env 116 [.agg t.cells, .fn (.func kd) [] cap] [(A, oA)] d (.box [enc s]) (.tup []) (.box [enc (t.eachF F 0 s)]) := by
 intro h he hd
 simp only [List.mem_cons, List.not_mem_nil, or_false, forall_eq] at he
 refine en_ Tryz.func116 [] fun g0 w0 gen hrel hfr hfr' hres => ?_
 have f1 := fresh_ne hfr hd
 have f2 := fresh_ne' hfr hd
 have f5 := fresh_ne hfr he
 have hc := c_each1 enc F kd cap hcap henc ⟨gen, 0, 1⟩ ⟨gen, 1, 0⟩ A d oA (by simpa using f2 0 1) (by simpa using f2 1 0) nA hdo t ht 0 s
 have n3 : (A = d) = False := by simpa using nA
 clear hdo nA
 generalize t.eachF F 0 s = v at hc ⊢
 repeat' (first
  | (first|refine wp rfl ?_|(refine Call1_turnE (hc) ?_ ?_ ?_; (focus ((simp only [go_sem, *] <;> (repeat (first|assumption | rfl|refine And.intro ?_ ?_))); done)); (focus ((simp only [go_sem, *] <;> first | rfl|assumption); done))))<;>try simp only [go_sem, *])
 refine AR_fin_turn hrel hd (by simp only [go_sem, and_self]) (by simp only [InL, henc, and_self]) ?_ (by simp only [go_sem, *]) ?_
 ·repeat (first|exact AgreeBut.refl _ _|assumption|refine AgreeBut.new ?_ (hfr' _ _)|refine AgreeBut.set ?_)
 ·simp only [go_sem, *]
theorem c_Count1 (a : Int) (A d : GoAbs.Id) (nA : A ≠ d) (i b n : Int) :
  TurnsE Tryz.prog env 117 (.int .i64 i :: .int .i64 b :: [.ptr A 0, .ptr d 0]) [(A, .box [.int .i64 a])] d (.box [.int .i64 n]) (.tup []) (.box [.int .i64 (countF a i b n)]) := by
 intro h he hd
 simp only [List.mem_cons, List.not_mem_nil, or_false, forall_eq] at he
 have n3 : (A = d) = False := by simpa using nA
 have hw : IntKind.i64.wrap (i - b) = subW i b := rfl
 have hw1 : IntKind.i64.wrap (n + 1) = addW n 1 := rfl
 unfold countF
 generalize subW i b = q at *
 generalize addW n 1 = m at *
 clear nA
 cases hq : (q == a)
 all_goals
  simp only [if_true, Bool.false_eq_true, if_false]
  refine en_ Tryz.func117 [] fun g0 w0 gen hrel hfr hfr' hres => ?_
  have f1 := fresh_ne hfr hd
  have f2 := fresh_ne' hfr hd
  exact wkT_
theorem c_tCount (t : Tm) (ht : TmW t) (a : Int) : Pure Tryz.prog env 90 [.agg t.cells, .int .i64 a] (.int .i64 (t.count a)) := by
 intro h
 unfold Tm.count
 refine en_ Tryz.func90 [.tmp 4] fun g0 w0 gen hrel hfr hfr' hres => ?_
 have nA : (⟨gen, 0, 1⟩ : GoAbs.Id) ≠ ⟨gen, 1, 0⟩ := by simp
 have hc := c_Each (fun n : Int => V.int .i64 n) (countF a) 117 [.ptr ⟨gen, 0, 1⟩ 0, .ptr ⟨gen, 1, 0⟩ 0] rfl (fun _ _ => by simp [InV]) ⟨gen, 0, 1⟩ ⟨gen, 1, 0⟩ (.box [.int .i64 a]) nA
  (fun i b n => c_Count1 a _ _ nA i b n) t ht 0
 clear nA
 generalize t.eachF (countF a) 0 0 = v at hc ⊢
 repeat' (first
  |exact hin _|exact agf (by assumption)
  | (first|refine wp rfl ?_|(refine Call1_turnE (hc) ?_ ?_ ?_; (focus ((simp only [go_sem, *] <;> (repeat (first|assumption | rfl|refine And.intro ?_ ?_))); done)); (focus ((simp only [go_sem, *] <;> first | rfl|assumption); done)))|refine finF hrel ?_ ?_ ?_)<;>try simp only [go_sem, *])
end Go.Proofs.YtmbpmbofehmdaaaGreatDoor
