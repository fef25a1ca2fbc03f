/-
 Walks: several parts in one text.
-/
import Derived.Test.YtkoeoklndhgejaaGreatDoorMc
import Derived.Test.YtkoeoklndhgejaaGreatDoorAbsDc
import Derived.Test.YtkoeoklndhgejaaGreatDoorOm
import Derived.Test.YtkoeoklndhgejaaGreatDoorMr
import Derived.Test.YtkoeoklndhgejaaGreatDoorGl
import Derived.Test.YtkoeoklndhgejaaGreatDoorVc
set_option linter.unusedSimpArgs false
set_option linter.unusedVariables false
set_option maxRecDepth 20000
set_option maxHeartbeats 4000000
namespace Go.Proofs.YtkoeoklndhgejaaGreatDoor
open Go GoAbs Go.Proofs
theorem c_vNodes : ∀ v : PVl, VlW v → Pure Tryz.prog env 103 [.agg v.cells] (.int .i64 v.nd) := by
 intro t
 induction t using PVl.ind with | h t ih => ?_
 intro ht h
 have hlen := ht.len
 have ih' : ∀ x ∈ t.args, Pure Tryz.prog env 103 [.agg x.cells] (.int .i64 x.nd) := fun x hx => ih x hx (ht.arg x hx)
 clear ih
 have hv0 := t.nd_eq.symm
 generalize hvv : t.nd = v at hv0 ⊢
 clear hvv
 refine en_ Tryz.func103 [.tmp 2] fun g0 w0 gen hrel hfr hfr' hres => ?_
 refine wq_ ?_
 refine ar_ [2, 7] [] (fun i σ => Agree h σ.h ∧ ∃ n, σ.tm 3 = .int .i64 n ∧ PVl.ndL n (t.args.drop i) = v) (t.args).length ?_ ?_ ?_
 ·simp only [go_sem, *]
  exact ⟨ag_, _, rfl, hv0⟩
 ·clear hv0
  intro i σ gr0 hgl_gr0 hgn hlt jI jN jS ⟨jA, n, jn, jv⟩
  obtain ⟨jT, jB⟩ := jS
  simp only [go_sem] at jT jB
  obtain ⟨hgf, hgf0, eg_gen_gr0, eh_gen_gr0⟩ := rnd hgn hgl_gr0 jA
  obtain ⟨x, hx, hxm, hm⟩ := rnx hlt
  clear hgn
  rw [drop_get hx, PVl.ndL_cons] at jv
  have hc := ih' x hxm
  clear ih'
  refine wq_ ?_
  exact ⟨ag_, _, rfl, jv⟩
 ·clear hv0
  intro σ ga0 hgl_ga0 hgn jS ⟨jA, n, jn, jv⟩
  obtain ⟨jT, jB⟩ := jS
  simp only [go_sem] at jT jB
  obtain ⟨hgf, hgf0, eg_gen_ga0, eh_gen_ga0⟩ := rnd hgn hgl_ga0 jA
  clear hgn
  rw [List.drop_length, PVl.ndL_nil] at jv
  subst jv
  clear ih'
  exact wk_
theorem ints_at {l : List Nat} {i : Nat} {x : Nat} (h : l[i]? = some x) : (ints (l.map fun (n : Nat) => (n : Int)))[i]? = some [.int .i64 (x : Int)] := by
 rw [ints_get, List.getElem?_map, h]; rfl
theorem ints_nat_len (l : List Nat) : (ints (l.map fun (n : Nat) => (n : Int))).length = l.length := by rw [ints_len, List.length_map]
theorem c_vShape {a : Ty} {v : PVl} {t : Tm} (hv : IsVl a v t) : tmSz t ≤ 4096 → Pure Tryz.prog env 102 [.agg v.cells] (.bool true) := by
 induction hv with
 | num n =>
  intro hz h
  have d1 : decide ((n : Int) ≥ 0) = true := by simp
  clear hz
  rw [PVl.mk_cells]
  have dt : decide True = true := rfl
  have z0 : (((0 : Nat) : Int) == 0) = true := rfl
  have z2 : (((2 : Nat) : Int) == 2) = true := rfl
  refine en_ Tryz.func102 [.tmp 2] fun g0 w0 gen hrel hfr hfr' hres => ?_
  repeat' (first
   |exact hin _|exact agf (by assumption)
   | (first|refine wp rfl ?_|refine spt rfl ?_|refine spf rfl ?_|(refine spl (fun hc => ?_) fun hc => ?_) <;> (try rw [beq_iff_eq] at hc) <;> try simp only [hc]|(refine gs (fun hb => ?_) fun hb => ?_) <;> try simp only [Bool.not_true, Bool.not_false] at hb|refine finF hrel ?_ ?_ ?_)<;>try simp only [go_sem, *])
 | list l =>
  intro hz h
  rw [listT_sz] at hz
  obtain ⟨_, hlen⟩ := IsVl.mem hz
  have hln := ints_nat_len l
  have hget := fun i x => ints_at (l := l) (i := i) (x := x)
  clear hz
  rw [PVl.mk_cells]
  generalize ints (l.map fun (n : Nat) => (n : Int)) = L at *
  have dt : decide True = true := rfl
  have z0 : (((0 : Nat) : Int) == 0) = true := rfl
  have z2 : (((2 : Nat) : Int) == 2) = true := rfl
  refine en_ Tryz.func102 [.tmp 2] fun g0 w0 gen hrel hfr hfr' hres => ?_
  repeat' (first
   |exact hin _|exact agf (by assumption)
   | (first|refine wp rfl ?_|refine spt rfl ?_|refine spf rfl ?_|(refine spl (fun hc => ?_) fun hc => ?_) <;> (try rw [beq_iff_eq] at hc) <;> try simp only [hc]|(refine gs (fun hb => ?_) fun hb => ?_) <;> try simp only [Bool.not_true, Bool.not_false] at hb|refine finF hrel ?_ ?_ ?_)<;>try simp only [go_sem, *])
  refine ar_ [1, 6, 27] [⟨gen, 0, 0⟩] (fun i σ => Agree h σ.h ∧ True) (l).length ?_ ?_ ?_
  ·simp only [go_sem, *]
   exact ag_
  ·
   intro i σ gr0 hgl_gr0 hgn hlt jI jN jS ⟨jA, _⟩
   obtain ⟨jT, jB⟩ := jS
   simp only [go_sem] at jT jB
   obtain ⟨hgf, hgf0, eg_gen_gr0, eh_gen_gr0⟩ := rnd hgn hgl_gr0 jA
   obtain ⟨x, hx, hxm, hm⟩ := rnx hlt
   clear hgn
   have hg := hget i x hx
   have d1 : decide ((x : Int) < 0) = false := by simp
   clear hget
   repeat' (first
    |exact hin _|exact agf (by assumption)
    | (first|refine wp rfl ?_|refine spt rfl ?_|refine spf rfl ?_|(refine spl (fun hc => ?_) fun hc => ?_) <;> (try rw [beq_iff_eq] at hc) <;> try simp only [hc]|(refine gs (fun hb => ?_) fun hb => ?_) <;> try simp only [Bool.not_true, Bool.not_false] at hb|refine AR_inv ?_|refine finF hrel ?_ ?_ ?_)<;>try simp only [go_sem, *])
  ·
   intro σ ga0 hgl_ga0 hgn jS ⟨jA, _⟩
   obtain ⟨jT, jB⟩ := jS
   simp only [go_sem] at jT jB
   obtain ⟨hgf, hgf0, eg_gen_ga0, eh_gen_ga0⟩ := rnd hgn hgl_ga0 jA
   clear hgn
   clear hget
   repeat' (first
    |exact hin _|exact agf (by assumption)
    | (first|refine wp rfl ?_|refine spt rfl ?_|refine spf rfl ?_|(refine spl (fun hc => ?_) fun hc => ?_) <;> (try rw [beq_iff_eq] at hc) <;> try simp only [hc]|(refine gs (fun hb => ?_) fun hb => ?_) <;> try simp only [Bool.not_true, Bool.not_false] at hb|refine finF hrel ?_ ?_ ?_)<;>try simp only [go_sem, *])
 | unit =>
  intro hz h
  clear hz
  rw [PVl.mk_cells]
  have dt : decide True = true := rfl
  have z0 : (((0 : Nat) : Int) == 0) = true := rfl
  have z2 : (((2 : Nat) : Int) == 2) = true := rfl
  refine en_ Tryz.func102 [.tmp 2] fun g0 w0 gen hrel hfr hfr' hres => ?_
  repeat' (first
   |exact hin _|exact agf (by assumption)
   | (first|refine wp rfl ?_|refine spt rfl ?_|refine spf rfl ?_|(refine spl (fun hc => ?_) fun hc => ?_) <;> (try rw [beq_iff_eq] at hc) <;> try simp only [hc]|(refine gs (fun hb => ?_) fun hb => ?_) <;> try simp only [Bool.not_true, Bool.not_false] at hb|refine finF hrel ?_ ?_ ?_)<;>try simp only [go_sem, *])
 | @pair a b x y s t _ _ ih1 ih2 =>
  intro hz h
  rw [tmSz_2] at hz
  have h1 : Pure Tryz.prog env 102 [.agg x.cells] (.bool true) := ih1 (by omega)
  have h2 : Pure Tryz.prog env 102 [.agg y.cells] (.bool true) := ih2 (by omega)
  clear ih1 ih2 hz
  rw [PVl.mk_cells]
  simp only [List.map_cons, List.map_nil]
  have dt : decide True = true := rfl
  have z0 : (((0 : Nat) : Int) == 0) = true := rfl
  have z2 : (((2 : Nat) : Int) == 2) = true := rfl
  refine en_ Tryz.func102 [.tmp 2] fun g0 w0 gen hrel hfr hfr' hres => ?_
  repeat' (first
   |exact hin _|exact agf (by assumption)
   | (first|refine wp rfl ?_|refine spt rfl ?_|refine spf rfl ?_|(refine spl (fun hc => ?_) fun hc => ?_) <;> (try rw [beq_iff_eq] at hc) <;> try simp only [hc]|(refine gs (fun hb => ?_) fun hb => ?_) <;> try simp only [Bool.not_true, Bool.not_false] at hb|refine cp h1 ?_|refine cp h2 ?_|refine finF hrel ?_ ?_ ?_)<;>try simp only [go_sem, *])
theorem c_vCheck {a : Ty} {v : PVl} {t : Tm} (hv : IsVl a v t) (hz : tmSz t ≤ 4096) (ha : TyG a) : Pure Tryz.prog env 56 [.agg v.cells] (.int .i64 0) := by
 intro h
 have h1 := c_vShape hv hz
 have h2 := c_vNodes v (hv.W hz)
 rw [hv.nd (by have := ha.2; omega)] at h2
 have d1 : decide ((tySz a : Int) > 64) = false := by have := ha.2; simp; omega
 clear hz ha hv
 exact ek_ Tryz.func56 [.tmp 2]
theorem c_vCount {a : Ty} {v : PVl} {t : Tm} (hv : IsVl a v t) : tmSz t ≤ 4096 → Pure Tryz.prog env 120 [.agg v.cells] (.int .i64 (tmSz t)) := by
 induction hv with
 | num n =>
  intro hz h
  rw [tmSz_num] at hz ⊢
  have d1 : ((4096 : Int) < (n : Int)) = False := by simp; omega
  have d2 : ((4097 : Int) < ((n + 1 : Nat) : Int)) = False := by simp; omega
  have d3 : IntKind.i64.wrap ((n : Int) + 1) = ((n + 1 : Nat) : Int) := wrap_eq (by omega) (by omega) (by omega)
  clear hz
  rw [PVl.mk_cells]
  refine en_ Tryz.func120 [.tmp 2] fun g0 w0 gen hrel hfr hfr' hres => ?_
  repeat' (first
   |(refine ⟨?_,?_⟩; focus ((repeat' (first|refine ⟨?_,?_⟩|refine .inr ?_)); all_goals kernel_rfl))
   |exact hin _|exact agf (by assumption)
   | (first|refine wp rfl ?_|refine spt rfl ?_|refine spf rfl ?_|(refine spl (fun hc => ?_) fun hc => ?_) <;> (try rw [beq_iff_eq] at hc) <;> try simp only [hc]|refine finF hrel ?_ ?_ ?_)<;>try simp only [go_sem, *])
 | list l =>
  intro hz h
  rw [listT_sz] at hz ⊢
  obtain ⟨hmem, hlen⟩ := IsVl.mem hz
  have hln := ints_nat_len l
  have hget := fun i x => ints_at (l := l) (i := i) (x := x)
  rw [PVl.mk_cells]
  generalize ints (l.map fun (n : Nat) => (n : Int)) = L at *
  have d0 : ((4097 : Int) < ((lsz l : Nat) : Int)) = False := by simp; omega
  refine en_ Tryz.func120 [.tmp 2] fun g0 w0 gen hrel hfr hfr' hres => ?_
  repeat' (first
   |(refine ⟨?_,?_⟩; focus ((repeat' (first|refine ⟨?_,?_⟩|refine .inr ?_)); all_goals kernel_rfl))
   |exact hin _|exact agf (by assumption)
   | (first|refine wp rfl ?_|refine spt rfl ?_|refine spf rfl ?_|(refine spl (fun hc => ?_) fun hc => ?_) <;> (try rw [beq_iff_eq] at hc) <;> try simp only [hc]|refine finF hrel ?_ ?_ ?_)<;>try simp only [go_sem, *])
  refine ar_ [1, 2, 7, 17] [⟨gen, 0, 0⟩] (fun i σ => Agree h σ.h ∧ σ.tm 3 = .int .i64 (lsz (l.take i) : Nat)) (l).length ?_ ?_ ?_
  ·simp only [go_sem, *]
   exact ⟨ag_, rfl⟩
  ·
   intro i σ gr0 hgl_gr0 hgn hlt jI jN jS ⟨jA, j3⟩
   obtain ⟨jT, jB⟩ := jS
   simp only [go_sem] at jT jB
   obtain ⟨hgf, hgf0, eg_gen_gr0, eh_gen_gr0⟩ := rnd hgn hgl_gr0 jA
   obtain ⟨x, hx, hxm, hm⟩ := rnx hlt
   clear hgn
   have hg := hget i x hx
   have hxb := hmem x hxm
   have hs := lsz_take hx
   have hle := lsz_take_le l (i + 1)
   have d1 : ((4096 : Int) < (x : Int)) = False := by simp; omega
   have d3 : IntKind.i64.wrap ((lsz (l.take i) : Int) + (x : Int)) = ((lsz (l.take i) + x : Nat) : Int) := wrap_eq (by omega) (by omega) (by omega)
   have d4 : IntKind.i64.wrap (((lsz (l.take i) + x : Nat) : Int) + 2) = ((lsz (l.take (i + 1)) : Nat) : Int) := wrap_eq (by omega) (by omega) (by omega)
   have d5 : ((4097 : Int) < ((lsz (l.take (i + 1)) : Nat) : Int)) = False := by simp; omega
   clear hget hz hmem hs hle hxb
   generalize lsz (l.take (i + 1)) = s2 at *
   generalize lsz (l.take i) = s1 at *
   repeat' (first
    |(refine ⟨?_,?_⟩; focus ((repeat' (first|refine ⟨?_,?_⟩|refine .inr ?_)); all_goals kernel_rfl))
    |exact hin _|exact agf (by assumption)
    | (first|refine wp rfl ?_|refine spt rfl ?_|refine spf rfl ?_|(refine spl (fun hc => ?_) fun hc => ?_) <;> (try rw [beq_iff_eq] at hc) <;> try simp only [hc]|refine AR_inv ?_|refine finF hrel ?_ ?_ ?_)<;>try simp only [go_sem, *])
  ·
   intro σ ga0 hgl_ga0 hgn jS ⟨jA, j3⟩
   obtain ⟨jT, jB⟩ := jS
   simp only [go_sem] at jT jB
   obtain ⟨hgf, hgf0, eg_gen_ga0, eh_gen_ga0⟩ := rnd hgn hgl_ga0 jA
   clear hgn
   rw [List.take_length] at j3
   clear hget hz hmem
   repeat' (first
    |(refine ⟨?_,?_⟩; focus ((repeat' (first|refine ⟨?_,?_⟩|refine .inr ?_)); all_goals kernel_rfl))
    |exact hin _|exact agf (by assumption)
    | (first|refine wp rfl ?_|refine spt rfl ?_|refine spf rfl ?_|(refine spl (fun hc => ?_) fun hc => ?_) <;> (try rw [beq_iff_eq] at hc) <;> try simp only [hc]|refine finF hrel ?_ ?_ ?_)<;>try simp only [go_sem, *])
 | unit =>
  intro hz h
  clear hz
  rw [PVl.mk_cells, tmSz_0]
  refine en_ Tryz.func120 [.tmp 2] fun g0 w0 gen hrel hfr hfr' hres => ?_
  repeat' (first
   |(refine ⟨?_,?_⟩; focus ((repeat' (first|refine ⟨?_,?_⟩|refine .inr ?_)); all_goals kernel_rfl))
   |exact hin _|exact agf (by assumption)
   | (first|refine wp rfl ?_|refine spt rfl ?_|refine spf rfl ?_|(refine spl (fun hc => ?_) fun hc => ?_) <;> (try rw [beq_iff_eq] at hc) <;> try simp only [hc]|refine finF hrel ?_ ?_ ?_)<;>try simp only [go_sem, *])
  simp
 | @pair a b x y s t _ _ ih1 ih2 =>
  intro hz h
  rw [tmSz_2] at hz ⊢
  have h1 : Pure Tryz.prog env 120 [.agg x.cells] (.int .i64 (tmSz s)) := ih1 (by omega)
  have h2 : Pure Tryz.prog env 120 [.agg y.cells] (.int .i64 (tmSz t)) := ih2 (by omega)
  have d1 : IntKind.i64.wrap ((tmSz s : Int) + (tmSz t : Int)) = ((tmSz s + tmSz t : Nat) : Int) := wrap_eq (by omega) (by omega) (by omega)
  have d2 : IntKind.i64.wrap (((tmSz s + tmSz t : Nat) : Int) + 1) = ((tmSz s + tmSz t + 1 : Nat) : Int) := wrap_eq (by omega) (by omega) (by omega)
  have d3 : ((4097 : Int) < ((tmSz s + tmSz t + 1 : Nat) : Int)) = False := by simp; omega
  clear ih1 ih2 hz
  rw [PVl.mk_cells]
  simp only [List.map_cons, List.map_nil]
  generalize tmSz s + tmSz t + 1 = s3 at *
  generalize tmSz s + tmSz t = s2 at *
  generalize tmSz s = s0 at *
  generalize tmSz t = s1 at *
  refine en_ Tryz.func120 [.tmp 2] fun g0 w0 gen hrel hfr hfr' hres => ?_
  repeat' (first
   |(refine ⟨?_,?_⟩; focus ((repeat' (first|refine ⟨?_,?_⟩|refine .inr ?_)); all_goals kernel_rfl))
   |exact hin _|exact agf (by assumption)
   | (first|refine wp rfl ?_|refine spt rfl ?_|refine spf rfl ?_|(refine spl (fun hc => ?_) fun hc => ?_) <;> (try rw [beq_iff_eq] at hc) <;> try simp only [hc]|refine cp h1 ?_|refine cp h2 ?_|refine finF hrel ?_ ?_ ?_)<;>try simp only [go_sem, *])
theorem listT_drop {l : List Nat} {i x : Nat} (h : l[i]? = some x) : listT (l.drop i) = tm0 8 [numT x, listT (l.drop (i + 1))] := by rw [drop_get h]; rfl
theorem c_vTerm {a : Ty} {v : PVl} {t : Tm} (hv : IsVl a v t) : tmSz t ≤ 4096 → Pure Tryz.prog env 121 [.agg v.cells] (.agg t.cells) := by
 induction hv with
 | num n =>
  intro hz h
  rw [tmSz_num] at hz
  have h1 := c_numeral n (by omega)
  clear hz
  rw [PVl.mk_cells]
  generalize numT n = t at *
  exact ek_ Tryz.func121 [.cell 2 73]
 | list l =>
  intro hz h
  rw [listT_sz] at hz
  obtain ⟨hmem, hlen⟩ := IsVl.mem hz
  have hln := ints_nat_len l
  have hget := fun i x => ints_at (l := l) (i := i) (x := x)
  have h1 := c_N 7 [] (by simp) (by simp)
  simp only [List.map_nil] at h1
  rw [PVl.mk_cells]
  generalize ints (l.map fun (n : Nat) => (n : Int)) = L at *
  have hw0 : IntKind.i64.wrap ((l.length : Int) - 1) = (l.length : Int) - 1 := wrap_eq rfl (by omega) (by omega)
  have hnil : listT (l.drop l.length) = tm0 7 [] := by rw [List.drop_length]; rfl
  refine en_ Tryz.func121 [.cell 2 73] fun g0 w0 gen hrel hfr hfr' hres => ?_
  refine wq_ ?_
  refine AR_loop_nat (fun i σ => σ.tm 1 = .ptr ⟨gen, 0, 0⟩ 0 ∧ σ.tm 2 = .ptr ⟨gen, 0, 1⟩ 0 ∧ σ.tm 4 = .int .i64 ((l.length - i : Nat) - 1 : Int) ∧ σ.tm 3 = .ptr ⟨gen, 5, 1⟩ 0 ∧
   σ.h ⟨gen, 0, 0⟩ = some (.box [.int .i64 2, .int .i64 0, .sl .any L, .sl .any []]) ∧ σ.h ⟨gen, 0, 1⟩ = some (.box [.int .i64 0, .int .i64 0, .int .i64 0, .sl .full [], .sl .full []]) ∧
   σ.h ⟨gen, 5, 1⟩ = some (.box (listT (l.drop (l.length - i))).cells) ∧ Agree h σ.h) l.length ?_ ?_
  ·simp only [go_sem, *]
   exact ⟨by simp, by rw [Nat.sub_zero, hnil], by repeat (first|exact Agree.refl _|refine Agree.new ?_ (hfr' _ _))⟩
  intro i σ hi ⟨j1, j2, j4, j3, jb0, jb1, jb2, jA⟩
  rcases Nat.lt_or_ge i l.length with hlt | hge
  ·have hx : l[l.length - (i + 1)]? = some (l[l.length - (i + 1)]'(by omega)) := List.getElem?_eq_getElem (by omega)
   generalize hxe : l[l.length - (i + 1)]'(by omega) = x at hx
   have hxb := hmem x (List.mem_of_getElem? hx)
   have hg := hget _ x hx
   have h2 := c_numeral x (by omega)
   have hd := listT_drop hx
   rw [show l.length - (i + 1) + 1 = l.length - i by omega] at hd
   have hc : ((l.length - i : Nat) : Int) - 1 = ((l.length - (i + 1) : Nat) : Int) := by omega
   rw [hc] at j4
   have d1 : decide (((l.length - (i + 1) : Nat) : Int) ≥ 0) = true := by simp
   have hw : IntKind.i64.wrap (((l.length - (i + 1) : Nat) : Int) - 1) = ((l.length - (i + 1) : Nat) : Int) - 1 := wrap_eq rfl (by omega) (by omega)
   rw [tm0] at hd
   clear hget hmem hz hxe hx hxb hc
   generalize listT (l.drop (l.length - i)) = t1 at *
   generalize listT (l.drop (l.length - (i + 1))) = t2 at *
   generalize numT x = t0 at *
   generalize l.length - (i + 1) = z at *
   repeat' (first
    |(refine ⟨?_,?_⟩; focus ((repeat' (first|refine ⟨?_,?_⟩|refine .inr ?_)); all_goals kernel_rfl))
    | (first|refine wp rfl ?_|refine spt rfl ?_|refine spf rfl ?_|(refine spl (fun hc => ?_) fun hc => ?_) <;> (try rw [beq_iff_eq] at hc) <;> try simp only [hc]|refine cp h2 ?_)<;>try simp only [go_sem, *])
   refine AR_weakBox ⟨gen, 5, 1⟩ (by simp only [go_sem, *]; rfl) ?_
   simp only [go_sem, *]
   refine AR_inv ?_
   simp only [go_sem, *]
   exact ⟨by rw [Tm.mk_cells]; rfl, by repeat (first|assumption|refine Agree.new ?_ (hfr' _ _))⟩
  ·obtain rfl : i = l.length := by omega
   have d1 : decide (((l.length - l.length : Nat) : Int) - 1 ≥ 0) = false := by simp
   rw [Nat.sub_self, List.drop_zero] at jb2
   clear hget hmem hz
   exact wk_
 | unit =>
  intro hz h
  have h1 := c_N 13 [] (by simp) (by simp)
  simp only [List.map_nil] at h1
  clear hz
  rw [PVl.mk_cells]
  exact ek_ Tryz.func121 [.cell 2 73]
 | @pair a b x y s t _ _ ih1 ih2 =>
  intro hz h
  rw [tmSz_2] at hz
  have h1 : Pure Tryz.prog env 121 [.agg x.cells] (.agg s.cells) := ih1 (by omega)
  have h2 : Pure Tryz.prog env 121 [.agg y.cells] (.agg t.cells) := ih2 (by omega)
  clear ih1 ih2 hz
  rw [PVl.mk_cells]
  simp only [List.map_cons, List.map_nil]
  refine en_ Tryz.func121 [.cell 2 73] fun g0 w0 gen hrel hfr hfr' hres => ?_
  refine wq_ ?_
  rw [tm0, Tm.mk_cells]; rfl
theorem c_refValue {a : Ty} {v : PVl} {t : Tm} (hv : IsVl a v t) (hz : tmSz t ≤ 4096) (ha : TyG a) : Pure Tryz.prog env 71 [.agg v.cells] (.tup [.agg t.cells, .int .i64 0]) := by
 intro h
 have h1 := c_vCheck hv hz ha
 have h2 := c_vCount hv hz
 have h3 := c_vTerm hv hz
 have d1 : decide ((tmSz t : Int) > 4096) = false := by simp; omega
 clear hz ha hv
 generalize tmSz t = n at *
 exact ek_ Tryz.func71 [.cell 2 73, .tmp 3]
theorem decV_tup (a : Ans) : decV a = .tup [.bool (if a.2.2 != 0 then false else a.1), .int .i64 (if a.2.2 != 0 then 0 else (a.2.1 : Int)), .int .i64 a.2.2] := by
 unfold decV
 cases h : (a.2.2 != 0) with
 | true => rfl
 | false =>
  have : a.2.2 = 0 := by simpa using h
  simp [this]
theorem less_dc (m n : Nat) (hm : m ≤ 100) (hn : n ≤ 100) : Dc [] (lessF (numT m) (numT n)) ∧ fmSz (lessF (numT m) (numT n)) = m + n + 23 := by
 refine ⟨.eq (.t2 ar3 rfl (.t2 ar3 rfl subT_G (.t1 ar5 rfl (numT_G m))) (numT_G n)) (.t0 ar4 rfl) ?_ (HasTy.num 0), ?_⟩
 ·exact .n2 .app (.n2 .app HasTy.sub (HasTy.num (m + 1))) (HasTy.num n)
 ·rw [lessF_sz, tmSz_num, tmSz_num]; omega
theorem c_sane09 : Pure Tryz.prog env 8 [] (.bool true) := by
 obtain ⟨k1, z1⟩ := less_dc 1 2 (by omega) (by omega)
 obtain ⟨k2, z2⟩ := less_dc 2 2 (by omega) (by omega)
 have h1 := c_Num 1 (by omega)
 have h2 := c_Num 2 (by omega)
 have h3 := c_Less08 (numT 1) (numT 2) (numT_W 1) (numT_W 2)
 have h4 := c_Less08 (numT 2) (numT 2) (numT_W 2) (numT_W 2)
 rw [show lessR (numT 1) (numT 2) = (lessF (numT 1) (numT 2), 0) by kernel_rfl] at h3
 rw [show lessR (numT 2) (numT 2) = (lessF (numT 2) (numT 2), 0) by kernel_rfl] at h4
 have h5 := c_decTruth k1 (by omega) 1000 (by omega)
 have h6 := c_decTruth k2 (by omega) 1000 (by omega)
 have e1 : (fun a : Ans => (a.1, a.2.2, decide ((a.2.1 : Int) > 0))) (dT 1000 (fdp (lessF (numT 1) (numT 2))) 0 (lessF (numT 1) (numT 2))) = (true, 0, true) := by kernel_rfl
 have e2 : (fun a : Ans => (a.1, a.2.2, decide ((a.2.1 : Int) > 0))) (dT 1000 (fdp (lessF (numT 2) (numT 2))) 0 (lessF (numT 2) (numT 2))) = (false, 0, true) := by kernel_rfl
 generalize dT 1000 (fdp (lessF (numT 1) (numT 2))) 0 (lessF (numT 1) (numT 2)) = a1 at *
 generalize dT 1000 (fdp (lessF (numT 2) (numT 2))) 0 (lessF (numT 2) (numT 2)) = a2 at *
 obtain ⟨b1, w1, r1⟩ := a1
 obtain ⟨b2, w2, r2⟩ := a2
 simp only [Prod.mk.injEq] at e1 e2
 obtain ⟨rfl, rfl, q1⟩ := e1
 obtain ⟨rfl, rfl, q2⟩ := e2
 unfold fmErrV at h3 h4
 unfold decV at h5 h6
 simp only [bne_self_eq_false, Bool.false_eq_true, if_false] at h3 h4 h5 h6
 replace h1 : Pure Tryz.prog env 34 [.int .i64 1] (.agg (numT 1).cells) := h1
 replace h2 : Pure Tryz.prog env 34 [.int .i64 2] (.agg (numT 2).cells) := h2
 replace h5 : Pure Tryz.prog env 35 [.agg (lessF (numT 1) (numT 2)).cells, .int .i64 1000] (.tup [.bool true, .int .i64 w1, .int .i64 0]) := h5
 replace h6 : Pure Tryz.prog env 35 [.agg (lessF (numT 2) (numT 2)).cells, .int .i64 1000] (.tup [.bool false, .int .i64 w2, .int .i64 0]) := h6
 clear k1 k2 z1 z2
 generalize lessF (numT 1) (numT 2) = f1 at *
 generalize lessF (numT 2) (numT 2) = f2 at *
 generalize numT 1 = t1 at *
 generalize numT 2 = t2 at *
 intro h
 exact ek_ Tryz.func8 [.tmp 0]
end Go.Proofs.YtkoeoklndhgejaaGreatDoor
