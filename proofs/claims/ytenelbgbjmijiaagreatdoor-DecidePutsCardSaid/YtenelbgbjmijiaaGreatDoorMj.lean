/-
 Walks: several parts in one text.
-/
import Derived.Test.YtenelbgbjmijiaaGreatDoorMc
import Derived.Test.YtenelbgbjmijiaaGreatDoorAbsDc
import Derived.Test.YtenelbgbjmijiaaGreatDoorOg
import Derived.Shelf.Abstract
import Derived.OwnWalkIn
import Derived.TacticsInMore
import Derived.LoopNIn
import Derived.LoopIn
set_option linter.unusedSimpArgs false
set_option linter.unusedVariables false
set_option maxRecDepth 20000
set_option maxHeartbeats 4000000
namespace Go.Proofs.YtenelbgbjmijiaaGreatDoor
open Go GoAbs Go.Proofs
theorem c_vNodes : ∀ v : PVl, VlW v → Pure Tryz.prog env 165 [.agg v.cells] (.int .i64 v.nd) := by
 intro t
 induction t using PVl.ind with | h t ih => ?_
 intro ht h
 have hlen := ht.len
 have ih' : ∀ x ∈ t.args, Pure Tryz.prog env 165 [.agg x.cells] (.int .i64 x.nd) := fun x hx => ih x hx (ht.arg x hx)
 clear ih
 have hv0 := t.nd_eq.symm
 generalize hvv : t.nd = v at hv0 ⊢
 clear hvv
 refine en Tryz.func165 [.tmp 2] rfl rfl fun g0 w0 gen hrel hfr hfr' hres => ?_
 repeat' (first
  |exact hin _|exact agf (by assumption)
  | (first|refine wp rfl ?_|refine spt rfl ?_|refine spf rfl ?_|(refine spl (fun hc => ?_) fun hc => ?_) <;> (try rw [beq_iff_eq] at hc) <;> try simp only [hc]|refine finF hrel ?_ ?_ ?_)<;>try simp only [go_sem, *])
 refine AR_range [2, 7] [] (fun i σ => Agree h σ.h ∧ ∃ n, σ.tm 3 = .int .i64 n ∧ PVl.ndL n (t.args.drop i) = v) (t.args).length (by first | omega | (simp only [go_sem, *] <;> omega)) ⟨rfl, rfl, rfl⟩ rfl (by simp only [go_sem, *]) (by simp only [go_sem, *]) ?_ (by intro i σ t v ht hK; simp only [List.mem_cons, List.not_mem_nil, or_false] at ht; rcases ht with rfl | rfl | rfl <;> exact hK) ?_ ?_
 ·simp only [go_sem, *]
  exact ⟨(by repeat (first|exact Agree.refl _|assumption|refine Agree.new ?_ (hgf0 _ _)|refine Agree.new ?_ (hfr' _ _))), _, rfl, hv0⟩
 ·clear hv0
  intro i σ gr0 hgl_gr0 hgn hlt jI jN jS ⟨jA, n, jn, jv⟩
  obtain ⟨jT, jB⟩ := jS
  simp only [go_sem] at jT jB
  have hgf := fresh_of hgn
  have hgf0 := fun r i => agree_fresh jA (hgf r i)
  have eg_gen_gr0 := gen_lt (show gen < gr0 by omega)
  have eh_gen_gr0 := gen_lt' (show gen < gr0 by omega)
  obtain ⟨x, hx⟩ : ∃ x, (t.args)[i]? = some x := ⟨_, List.getElem?_eq_getElem hlt⟩
  have hxm := List.mem_of_getElem? hx
  have hm := min_lt hlt
  clear hgn
  rw [drop_get hx, PVl.ndL_cons] at jv
  have hc := ih' x hxm
  clear ih'
  repeat' (first
   |exact hin _|exact agf (by assumption)
   | (first|refine wp rfl ?_|refine spt rfl ?_|refine spf rfl ?_|(refine spl (fun hc => ?_) fun hc => ?_) <;> (try rw [beq_iff_eq] at hc) <;> try simp only [hc]|refine AR_inv ?_|refine cp hc ?_|refine finF hrel ?_ ?_ ?_)<;>try simp only [go_sem, *])
  exact ⟨(by repeat (first|exact Agree.refl _|assumption|refine Agree.new ?_ (hgf0 _ _)|refine Agree.new ?_ (hfr' _ _))), _, rfl, jv⟩
 ·clear hv0
  intro σ ga0 hgl_ga0 hgn jS ⟨jA, n, jn, jv⟩
  obtain ⟨jT, jB⟩ := jS
  simp only [go_sem] at jT jB
  have hgf := fresh_of hgn
  have hgf0 := fun r i => agree_fresh jA (hgf r i)
  have eg_gen_ga0 := gen_lt (show gen < ga0 by omega)
  have eh_gen_ga0 := gen_lt' (show gen < ga0 by omega)
  clear hgn
  rw [List.drop_length, PVl.ndL_nil] at jv
  subst jv
  clear ih'
  repeat' (first
   |exact hin _|exact agf (by assumption)
   | (first|refine wp rfl ?_|refine spt rfl ?_|refine spf rfl ?_|(refine spl (fun hc => ?_) fun hc => ?_) <;> (try rw [beq_iff_eq] at hc) <;> try simp only [hc]|refine finF hrel ?_ ?_ ?_)<;>try simp only [go_sem, *])
theorem ints_at {l : List Nat} {i : Nat} {x : Nat} (h : l[i]? = some x) : (ints (l.map fun (n : Nat) => (n : Int)))[i]? = some [.int .i64 (x : Int)] := by
 rw [ints_get, List.getElem?_map, h]; rfl
theorem ints_nat_len (l : List Nat) : (ints (l.map fun (n : Nat) => (n : Int))).length = l.length := by rw [ints_len, List.length_map]
theorem c_vShape {a : Ty} {v : PVl} {t : Tm} (hv : IsVl a v t) : tmSz t ≤ 4096 → Pure Tryz.prog env 164 [.agg v.cells] (.bool true) := by
 induction hv with
 | num n =>
  intro hz h
  have d1 : decide ((n : Int) ≥ 0) = true := by simp
  clear hz
  rw [PVl.mk_cells]
  have dt : decide True = true := rfl
  have z0 : (((0 : Nat) : Int) == 0) = true := rfl
  have z2 : (((2 : Nat) : Int) == 2) = true := rfl
  refine en Tryz.func164 [.tmp 2] rfl rfl fun g0 w0 gen hrel hfr hfr' hres => ?_
  repeat' (first
   |exact hin _|exact agf (by assumption)
   | (first|refine wp rfl ?_|refine spt rfl ?_|refine spf rfl ?_|(refine spl (fun hc => ?_) fun hc => ?_) <;> (try rw [beq_iff_eq] at hc) <;> try simp only [hc]|(refine gs (fun hb => ?_) fun hb => ?_) <;> try simp only [Bool.not_true, Bool.not_false] at hb|refine finF hrel ?_ ?_ ?_)<;>try simp only [go_sem, *])
 | list l =>
  intro hz h
  rw [listT_sz] at hz
  obtain ⟨_, hlen⟩ := IsVl.mem hz
  have hln := ints_nat_len l
  have hget := fun i x => ints_at (l := l) (i := i) (x := x)
  clear hz
  rw [PVl.mk_cells]
  generalize ints (l.map fun (n : Nat) => (n : Int)) = L at *
  have dt : decide True = true := rfl
  have z0 : (((0 : Nat) : Int) == 0) = true := rfl
  have z2 : (((2 : Nat) : Int) == 2) = true := rfl
  refine en Tryz.func164 [.tmp 2] rfl rfl fun g0 w0 gen hrel hfr hfr' hres => ?_
  repeat' (first
   |exact hin _|exact agf (by assumption)
   | (first|refine wp rfl ?_|refine spt rfl ?_|refine spf rfl ?_|(refine spl (fun hc => ?_) fun hc => ?_) <;> (try rw [beq_iff_eq] at hc) <;> try simp only [hc]|(refine gs (fun hb => ?_) fun hb => ?_) <;> try simp only [Bool.not_true, Bool.not_false] at hb|refine finF hrel ?_ ?_ ?_)<;>try simp only [go_sem, *])
  refine AR_range [1, 6, 27] [⟨gen, 0, 0⟩] (fun i σ => Agree h σ.h ∧ True) (l).length (by first | omega | (simp only [go_sem, *] <;> omega)) ⟨rfl, rfl, rfl⟩ rfl (by simp only [go_sem, *]) (by simp only [go_sem, *]) ?_ (by intro i σ t v ht hK; simp only [List.mem_cons, List.not_mem_nil, or_false] at ht; rcases ht with rfl | rfl | rfl <;> exact hK) ?_ ?_
  ·simp only [go_sem, *]
   exact (by repeat (first|exact Agree.refl _|assumption|refine Agree.new ?_ (hgf0 _ _)|refine Agree.new ?_ (hfr' _ _)))
  ·
   intro i σ gr0 hgl_gr0 hgn hlt jI jN jS ⟨jA, _⟩
   obtain ⟨jT, jB⟩ := jS
   simp only [go_sem] at jT jB
   have hgf := fresh_of hgn
   have hgf0 := fun r i => agree_fresh jA (hgf r i)
   have eg_gen_gr0 := gen_lt (show gen < gr0 by omega)
   have eh_gen_gr0 := gen_lt' (show gen < gr0 by omega)
   obtain ⟨x, hx⟩ : ∃ x, (l)[i]? = some x := ⟨_, List.getElem?_eq_getElem hlt⟩
   have hxm := List.mem_of_getElem? hx
   have hm := min_lt hlt
   clear hgn
   have hg := hget i x hx
   have d1 : decide ((x : Int) < 0) = false := by simp
   clear hget
   repeat' (first
    |exact hin _|exact agf (by assumption)
    | (first|refine wp rfl ?_|refine spt rfl ?_|refine spf rfl ?_|(refine spl (fun hc => ?_) fun hc => ?_) <;> (try rw [beq_iff_eq] at hc) <;> try simp only [hc]|(refine gs (fun hb => ?_) fun hb => ?_) <;> try simp only [Bool.not_true, Bool.not_false] at hb|refine AR_inv ?_|refine finF hrel ?_ ?_ ?_)<;>try simp only [go_sem, *])
  ·
   intro σ ga0 hgl_ga0 hgn jS ⟨jA, _⟩
   obtain ⟨jT, jB⟩ := jS
   simp only [go_sem] at jT jB
   have hgf := fresh_of hgn
   have hgf0 := fun r i => agree_fresh jA (hgf r i)
   have eg_gen_ga0 := gen_lt (show gen < ga0 by omega)
   have eh_gen_ga0 := gen_lt' (show gen < ga0 by omega)
   clear hgn
   clear hget
   repeat' (first
    |exact hin _|exact agf (by assumption)
    | (first|refine wp rfl ?_|refine spt rfl ?_|refine spf rfl ?_|(refine spl (fun hc => ?_) fun hc => ?_) <;> (try rw [beq_iff_eq] at hc) <;> try simp only [hc]|(refine gs (fun hb => ?_) fun hb => ?_) <;> try simp only [Bool.not_true, Bool.not_false] at hb|refine finF hrel ?_ ?_ ?_)<;>try simp only [go_sem, *])
 | unit =>
  intro hz h
  clear hz
  rw [PVl.mk_cells]
  have dt : decide True = true := rfl
  have z0 : (((0 : Nat) : Int) == 0) = true := rfl
  have z2 : (((2 : Nat) : Int) == 2) = true := rfl
  refine en Tryz.func164 [.tmp 2] rfl rfl fun g0 w0 gen hrel hfr hfr' hres => ?_
  repeat' (first
   |exact hin _|exact agf (by assumption)
   | (first|refine wp rfl ?_|refine spt rfl ?_|refine spf rfl ?_|(refine spl (fun hc => ?_) fun hc => ?_) <;> (try rw [beq_iff_eq] at hc) <;> try simp only [hc]|(refine gs (fun hb => ?_) fun hb => ?_) <;> try simp only [Bool.not_true, Bool.not_false] at hb|refine finF hrel ?_ ?_ ?_)<;>try simp only [go_sem, *])
 | @pair a b x y s t _ _ ih1 ih2 =>
  intro hz h
  rw [tmSz_2] at hz
  have h1 : Pure Tryz.prog env 164 [.agg x.cells] (.bool true) := ih1 (by omega)
  have h2 : Pure Tryz.prog env 164 [.agg y.cells] (.bool true) := ih2 (by omega)
  clear ih1 ih2 hz
  rw [PVl.mk_cells]
  simp only [List.map_cons, List.map_nil]
  have dt : decide True = true := rfl
  have z0 : (((0 : Nat) : Int) == 0) = true := rfl
  have z2 : (((2 : Nat) : Int) == 2) = true := rfl
  refine en Tryz.func164 [.tmp 2] rfl rfl fun g0 w0 gen hrel hfr hfr' hres => ?_
  repeat' (first
   |exact hin _|exact agf (by assumption)
   | (first|refine wp rfl ?_|refine spt rfl ?_|refine spf rfl ?_|(refine spl (fun hc => ?_) fun hc => ?_) <;> (try rw [beq_iff_eq] at hc) <;> try simp only [hc]|(refine gs (fun hb => ?_) fun hb => ?_) <;> try simp only [Bool.not_true, Bool.not_false] at hb|refine cp h1 ?_|refine cp h2 ?_|refine finF hrel ?_ ?_ ?_)<;>try simp only [go_sem, *])
theorem c_vCheck {a : Ty} {v : PVl} {t : Tm} (hv : IsVl a v t) (hz : tmSz t ≤ 4096) (ha : TyG a) : Pure Tryz.prog env 117 [.agg v.cells] (.int .i64 0) := by
 intro h
 have h1 := c_vShape hv hz
 have h2 := c_vNodes v (hv.W hz)
 rw [hv.nd (by have := ha.2; omega)] at h2
 have d1 : decide ((tySz a : Int) > 64) = false := by have := ha.2; simp; omega
 clear hz ha hv
 refine en Tryz.func117 [.tmp 2] rfl rfl fun g0 w0 gen hrel hfr hfr' hres => ?_
 repeat' (first
  |exact hin _|exact agf (by assumption)
  | (first|refine wp rfl ?_|refine spt rfl ?_|refine spf rfl ?_|(refine spl (fun hc => ?_) fun hc => ?_) <;> (try rw [beq_iff_eq] at hc) <;> try simp only [hc]|refine cp h1 ?_|refine cp h2 ?_|refine finF hrel ?_ ?_ ?_)<;>try simp only [go_sem, *])
theorem c_vCount {a : Ty} {v : PVl} {t : Tm} (hv : IsVl a v t) : tmSz t ≤ 4096 → Pure Tryz.prog env 118 [.agg v.cells] (.int .i64 (tmSz t)) := by
 induction hv with
 | num n =>
  intro hz h
  rw [tmSz_num] at hz ⊢
  have d1 : ((4096 : Int) < (n : Int)) = False := by simp; omega
  have d2 : ((4097 : Int) < ((n + 1 : Nat) : Int)) = False := by simp; omega
  have d3 : IntKind.i64.wrap ((n : Int) + 1) = ((n + 1 : Nat) : Int) := wrap_eq (by omega) (by omega) (by omega)
  clear hz
  rw [PVl.mk_cells]
  refine en Tryz.func118 [.tmp 2] rfl rfl fun g0 w0 gen hrel hfr hfr' hres => ?_
  repeat' (first
   |(refine ⟨?_,?_⟩; focus ((repeat' (first|refine ⟨?_,?_⟩|refine .inr ?_)); all_goals kernel_rfl))
   |exact hin _|exact agf (by assumption)
   | (first|refine wp rfl ?_|refine spt rfl ?_|refine spf rfl ?_|(refine spl (fun hc => ?_) fun hc => ?_) <;> (try rw [beq_iff_eq] at hc) <;> try simp only [hc]|refine finF hrel ?_ ?_ ?_)<;>try simp only [go_sem, *])
 | list l =>
  intro hz h
  rw [listT_sz] at hz ⊢
  obtain ⟨hmem, hlen⟩ := IsVl.mem hz
  have hln := ints_nat_len l
  have hget := fun i x => ints_at (l := l) (i := i) (x := x)
  rw [PVl.mk_cells]
  generalize ints (l.map fun (n : Nat) => (n : Int)) = L at *
  have d0 : ((4097 : Int) < ((lsz l : Nat) : Int)) = False := by simp; omega
  refine en Tryz.func118 [.tmp 2] rfl rfl fun g0 w0 gen hrel hfr hfr' hres => ?_
  repeat' (first
   |(refine ⟨?_,?_⟩; focus ((repeat' (first|refine ⟨?_,?_⟩|refine .inr ?_)); all_goals kernel_rfl))
   |exact hin _|exact agf (by assumption)
   | (first|refine wp rfl ?_|refine spt rfl ?_|refine spf rfl ?_|(refine spl (fun hc => ?_) fun hc => ?_) <;> (try rw [beq_iff_eq] at hc) <;> try simp only [hc]|refine finF hrel ?_ ?_ ?_)<;>try simp only [go_sem, *])
  refine AR_range [1, 2, 7, 17] [⟨gen, 0, 0⟩] (fun i σ => Agree h σ.h ∧ σ.tm 3 = .int .i64 (lsz (l.take i) : Nat)) (l).length (by first | omega | (simp only [go_sem, *] <;> omega)) ⟨rfl, rfl, rfl⟩ rfl (by simp only [go_sem, *]) (by simp only [go_sem, *]) ?_ (by intro i σ t v ht hK; simp only [List.mem_cons, List.not_mem_nil, or_false] at ht; rcases ht with rfl | rfl | rfl <;> exact hK) ?_ ?_
  ·simp only [go_sem, *]
   exact ⟨(by repeat (first|exact Agree.refl _|assumption|refine Agree.new ?_ (hgf0 _ _)|refine Agree.new ?_ (hfr' _ _))), rfl⟩
  ·
   intro i σ gr0 hgl_gr0 hgn hlt jI jN jS ⟨jA, j3⟩
   obtain ⟨jT, jB⟩ := jS
   simp only [go_sem] at jT jB
   have hgf := fresh_of hgn
   have hgf0 := fun r i => agree_fresh jA (hgf r i)
   have eg_gen_gr0 := gen_lt (show gen < gr0 by omega)
   have eh_gen_gr0 := gen_lt' (show gen < gr0 by omega)
   obtain ⟨x, hx⟩ : ∃ x, (l)[i]? = some x := ⟨_, List.getElem?_eq_getElem hlt⟩
   have hxm := List.mem_of_getElem? hx
   have hm := min_lt hlt
   clear hgn
   have hg := hget i x hx
   have hxb := hmem x hxm
   have hs := lsz_take hx
   have hle := lsz_take_le l (i + 1)
   have d1 : ((4096 : Int) < (x : Int)) = False := by simp; omega
   have d3 : IntKind.i64.wrap ((lsz (l.take i) : Int) + (x : Int)) = ((lsz (l.take i) + x : Nat) : Int) := wrap_eq (by omega) (by omega) (by omega)
   have d4 : IntKind.i64.wrap (((lsz (l.take i) + x : Nat) : Int) + 2) = ((lsz (l.take (i + 1)) : Nat) : Int) := wrap_eq (by omega) (by omega) (by omega)
   have d5 : ((4097 : Int) < ((lsz (l.take (i + 1)) : Nat) : Int)) = False := by simp; omega
   clear hget hz hmem hs hle hxb
   generalize lsz (l.take (i + 1)) = s2 at *
   generalize lsz (l.take i) = s1 at *
   repeat' (first
    |(refine ⟨?_,?_⟩; focus ((repeat' (first|refine ⟨?_,?_⟩|refine .inr ?_)); all_goals kernel_rfl))
    |exact hin _|exact agf (by assumption)
    | (first|refine wp rfl ?_|refine spt rfl ?_|refine spf rfl ?_|(refine spl (fun hc => ?_) fun hc => ?_) <;> (try rw [beq_iff_eq] at hc) <;> try simp only [hc]|refine AR_inv ?_|refine finF hrel ?_ ?_ ?_)<;>try simp only [go_sem, *])
  ·
   intro σ ga0 hgl_ga0 hgn jS ⟨jA, j3⟩
   obtain ⟨jT, jB⟩ := jS
   simp only [go_sem] at jT jB
   have hgf := fresh_of hgn
   have hgf0 := fun r i => agree_fresh jA (hgf r i)
   have eg_gen_ga0 := gen_lt (show gen < ga0 by omega)
   have eh_gen_ga0 := gen_lt' (show gen < ga0 by omega)
   clear hgn
   rw [List.take_length] at j3
   clear hget hz hmem
   repeat' (first
    |(refine ⟨?_,?_⟩; focus ((repeat' (first|refine ⟨?_,?_⟩|refine .inr ?_)); all_goals kernel_rfl))
    |exact hin _|exact agf (by assumption)
    | (first|refine wp rfl ?_|refine spt rfl ?_|refine spf rfl ?_|(refine spl (fun hc => ?_) fun hc => ?_) <;> (try rw [beq_iff_eq] at hc) <;> try simp only [hc]|refine finF hrel ?_ ?_ ?_)<;>try simp only [go_sem, *])
 | unit =>
  intro hz h
  clear hz
  rw [PVl.mk_cells, tmSz_0]
  refine en Tryz.func118 [.tmp 2] rfl rfl fun g0 w0 gen hrel hfr hfr' hres => ?_
  repeat' (first
   |(refine ⟨?_,?_⟩; focus ((repeat' (first|refine ⟨?_,?_⟩|refine .inr ?_)); all_goals kernel_rfl))
   |exact hin _|exact agf (by assumption)
   | (first|refine wp rfl ?_|refine spt rfl ?_|refine spf rfl ?_|(refine spl (fun hc => ?_) fun hc => ?_) <;> (try rw [beq_iff_eq] at hc) <;> try simp only [hc]|refine finF hrel ?_ ?_ ?_)<;>try simp only [go_sem, *])
  simp
 | @pair a b x y s t _ _ ih1 ih2 =>
  intro hz h
  rw [tmSz_2] at hz ⊢
  have h1 : Pure Tryz.prog env 118 [.agg x.cells] (.int .i64 (tmSz s)) := ih1 (by omega)
  have h2 : Pure Tryz.prog env 118 [.agg y.cells] (.int .i64 (tmSz t)) := ih2 (by omega)
  have d1 : IntKind.i64.wrap ((tmSz s : Int) + (tmSz t : Int)) = ((tmSz s + tmSz t : Nat) : Int) := wrap_eq (by omega) (by omega) (by omega)
  have d2 : IntKind.i64.wrap (((tmSz s + tmSz t : Nat) : Int) + 1) = ((tmSz s + tmSz t + 1 : Nat) : Int) := wrap_eq (by omega) (by omega) (by omega)
  have d3 : ((4097 : Int) < ((tmSz s + tmSz t + 1 : Nat) : Int)) = False := by simp; omega
  clear ih1 ih2 hz
  rw [PVl.mk_cells]
  simp only [List.map_cons, List.map_nil]
  generalize tmSz s + tmSz t + 1 = s3 at *
  generalize tmSz s + tmSz t = s2 at *
  generalize tmSz s = s0 at *
  generalize tmSz t = s1 at *
  refine en Tryz.func118 [.tmp 2] rfl rfl fun g0 w0 gen hrel hfr hfr' hres => ?_
  repeat' (first
   |(refine ⟨?_,?_⟩; focus ((repeat' (first|refine ⟨?_,?_⟩|refine .inr ?_)); all_goals kernel_rfl))
   |exact hin _|exact agf (by assumption)
   | (first|refine wp rfl ?_|refine spt rfl ?_|refine spf rfl ?_|(refine spl (fun hc => ?_) fun hc => ?_) <;> (try rw [beq_iff_eq] at hc) <;> try simp only [hc]|refine cp h1 ?_|refine cp h2 ?_|refine finF hrel ?_ ?_ ?_)<;>try simp only [go_sem, *])
theorem listT_drop {l : List Nat} {i x : Nat} (h : l[i]? = some x) : listT (l.drop i) = tm0 8 [numT x, listT (l.drop (i + 1))] := by rw [drop_get h]; rfl
theorem c_vTerm {a : Ty} {v : PVl} {t : Tm} (hv : IsVl a v t) : tmSz t ≤ 4096 → Pure Tryz.prog env 119 [.agg v.cells] (.agg t.cells) := by
 induction hv with
 | num n =>
  intro hz h
  rw [tmSz_num] at hz
  have h1 := c_numeral n (by omega)
  clear hz
  rw [PVl.mk_cells]
  generalize numT n = t at *
  refine en Tryz.func119 [.cell 2 31] rfl rfl fun g0 w0 gen hrel hfr hfr' hres => ?_
  repeat' (first
   |(refine ⟨?_,?_⟩; focus ((repeat' (first|refine ⟨?_,?_⟩|refine .inr ?_)); all_goals kernel_rfl))
   |exact hin _|exact agf (by assumption)
   | (first|refine wp rfl ?_|refine spt rfl ?_|refine spf rfl ?_|(refine spl (fun hc => ?_) fun hc => ?_) <;> (try rw [beq_iff_eq] at hc) <;> try simp only [hc]|refine cp h1 ?_|refine finF hrel ?_ ?_ ?_)<;>try simp only [go_sem, *])
 | list l =>
  intro hz h
  rw [listT_sz] at hz
  obtain ⟨hmem, hlen⟩ := IsVl.mem hz
  have hln := ints_nat_len l
  have hget := fun i x => ints_at (l := l) (i := i) (x := x)
  have h1 := c_N 7 [] (by simp) (by simp)
  simp only [List.map_nil] at h1
  rw [PVl.mk_cells]
  generalize ints (l.map fun (n : Nat) => (n : Int)) = L at *
  have hw0 : IntKind.i64.wrap ((l.length : Int) - 1) = (l.length : Int) - 1 := wrap_eq rfl (by omega) (by omega)
  have hnil : listT (l.drop l.length) = tm0 7 [] := by rw [List.drop_length]; rfl
  refine en Tryz.func119 [.cell 2 31] rfl rfl fun g0 w0 gen hrel hfr hfr' hres => ?_
  repeat' (first
   |(refine ⟨?_,?_⟩; focus ((repeat' (first|refine ⟨?_,?_⟩|refine .inr ?_)); all_goals kernel_rfl))
   |exact hin _|exact agf (by assumption)
   | (first|refine wp rfl ?_|refine spt rfl ?_|refine spf rfl ?_|(refine spl (fun hc => ?_) fun hc => ?_) <;> (try rw [beq_iff_eq] at hc) <;> try simp only [hc]|refine cp h1 ?_|refine finF hrel ?_ ?_ ?_)<;>try simp only [go_sem, *])
  refine AR_loop_nat (fun i σ => σ.tm 1 = .ptr ⟨gen, 0, 0⟩ 0 ∧ σ.tm 2 = .ptr ⟨gen, 0, 1⟩ 0 ∧ σ.tm 4 = .int .i64 ((l.length - i : Nat) - 1 : Int) ∧ σ.tm 3 = .ptr ⟨gen, 5, 1⟩ 0 ∧
   σ.h ⟨gen, 0, 0⟩ = some (.box [.int .i64 2, .int .i64 0, .sl .any L, .sl .any []]) ∧ σ.h ⟨gen, 0, 1⟩ = some (.box [.int .i64 0, .int .i64 0, .int .i64 0, .sl .full [], .sl .full []]) ∧
   σ.h ⟨gen, 5, 1⟩ = some (.box (listT (l.drop (l.length - i))).cells) ∧ Agree h σ.h) l.length ?_ ?_
  ·simp only [go_sem, *]
   exact ⟨by simp, by rw [Nat.sub_zero, hnil], by repeat (first|exact Agree.refl _|refine Agree.new ?_ (hfr' _ _))⟩
  intro i σ hi ⟨j1, j2, j4, j3, jb0, jb1, jb2, jA⟩
  rcases Nat.lt_or_ge i l.length with hlt | hge
  ·have hx : l[l.length - (i + 1)]? = some (l[l.length - (i + 1)]'(by omega)) := List.getElem?_eq_getElem (by omega)
   generalize hxe : l[l.length - (i + 1)]'(by omega) = x at hx
   have hxb := hmem x (List.mem_of_getElem? hx)
   have hg := hget _ x hx
   have h2 := c_numeral x (by omega)
   have hd := listT_drop hx
   rw [show l.length - (i + 1) + 1 = l.length - i by omega] at hd
   have hc : ((l.length - i : Nat) : Int) - 1 = ((l.length - (i + 1) : Nat) : Int) := by omega
   rw [hc] at j4
   have d1 : decide (((l.length - (i + 1) : Nat) : Int) ≥ 0) = true := by simp
   have hw : IntKind.i64.wrap (((l.length - (i + 1) : Nat) : Int) - 1) = ((l.length - (i + 1) : Nat) : Int) - 1 := wrap_eq rfl (by omega) (by omega)
   rw [tm0] at hd
   clear hget hmem hz hxe hx hxb hc
   generalize listT (l.drop (l.length - i)) = t1 at *
   generalize listT (l.drop (l.length - (i + 1))) = t2 at *
   generalize numT x = t0 at *
   generalize l.length - (i + 1) = z at *
   repeat' (first
    |(refine ⟨?_,?_⟩; focus ((repeat' (first|refine ⟨?_,?_⟩|refine .inr ?_)); all_goals kernel_rfl))
    | (first|refine wp rfl ?_|refine spt rfl ?_|refine spf rfl ?_|(refine spl (fun hc => ?_) fun hc => ?_) <;> (try rw [beq_iff_eq] at hc) <;> try simp only [hc]|refine cp h2 ?_)<;>try simp only [go_sem, *])
   refine AR_weakBox ⟨gen, 5, 1⟩ (by simp only [go_sem, *]; rfl) ?_
   simp only [go_sem, *]
   refine AR_inv ?_
   simp only [go_sem, *]
   exact ⟨by rw [Tm.mk_cells]; rfl, by repeat (first|assumption|refine Agree.new ?_ (hfr' _ _))⟩
  ·obtain rfl : i = l.length := by omega
   have d1 : decide (((l.length - l.length : Nat) : Int) - 1 ≥ 0) = false := by simp
   rw [Nat.sub_self, List.drop_zero] at jb2
   clear hget hmem hz
   repeat' (first
    |(refine ⟨?_,?_⟩; focus ((repeat' (first|refine ⟨?_,?_⟩|refine .inr ?_)); all_goals kernel_rfl))
    |exact hin _|exact agf (by assumption)
    | (first|refine wp rfl ?_|refine spt rfl ?_|refine spf rfl ?_|(refine spl (fun hc => ?_) fun hc => ?_) <;> (try rw [beq_iff_eq] at hc) <;> try simp only [hc]|refine finF hrel ?_ ?_ ?_)<;>try simp only [go_sem, *])
 | unit =>
  intro hz h
  have h1 := c_N 13 [] (by simp) (by simp)
  simp only [List.map_nil] at h1
  clear hz
  rw [PVl.mk_cells]
  refine en Tryz.func119 [.cell 2 31] rfl rfl fun g0 w0 gen hrel hfr hfr' hres => ?_
  repeat' (first
   |(refine ⟨?_,?_⟩; focus ((repeat' (first|refine ⟨?_,?_⟩|refine .inr ?_)); all_goals kernel_rfl))
   |exact hin _|exact agf (by assumption)
   | (first|refine wp rfl ?_|refine spt rfl ?_|refine spf rfl ?_|(refine spl (fun hc => ?_) fun hc => ?_) <;> (try rw [beq_iff_eq] at hc) <;> try simp only [hc]|refine cp h1 ?_|refine finF hrel ?_ ?_ ?_)<;>try simp only [go_sem, *])
 | @pair a b x y s t _ _ ih1 ih2 =>
  intro hz h
  rw [tmSz_2] at hz
  have h1 : Pure Tryz.prog env 119 [.agg x.cells] (.agg s.cells) := ih1 (by omega)
  have h2 : Pure Tryz.prog env 119 [.agg y.cells] (.agg t.cells) := ih2 (by omega)
  clear ih1 ih2 hz
  rw [PVl.mk_cells]
  simp only [List.map_cons, List.map_nil]
  refine en Tryz.func119 [.cell 2 31] rfl rfl fun g0 w0 gen hrel hfr hfr' hres => ?_
  repeat' (first
   |(refine ⟨?_,?_⟩; focus ((repeat' (first|refine ⟨?_,?_⟩|refine .inr ?_)); all_goals kernel_rfl))
   |exact hin _|exact agf (by assumption)
   | (first|refine wp rfl ?_|refine spt rfl ?_|refine spf rfl ?_|(refine spl (fun hc => ?_) fun hc => ?_) <;> (try rw [beq_iff_eq] at hc) <;> try simp only [hc]|refine cp h1 ?_|refine cp h2 ?_|refine finF hrel ?_ ?_ ?_)<;>try simp only [go_sem, *])
  rw [tm0, Tm.mk_cells]; rfl
theorem c_refValue {a : Ty} {v : PVl} {t : Tm} (hv : IsVl a v t) (hz : tmSz t ≤ 4096) (ha : TyG a) : Pure Tryz.prog env 56 [.agg v.cells] (.tup [.agg t.cells, .int .i64 0]) := by
 intro h
 have h1 := c_vCheck hv hz ha
 have h2 := c_vCount hv hz
 have h3 := c_vTerm hv hz
 have d1 : decide ((tmSz t : Int) > 4096) = false := by simp; omega
 clear hz ha hv
 generalize tmSz t = n at *
 refine en Tryz.func56 [.cell 2 31, .tmp 3] rfl rfl fun g0 w0 gen hrel hfr hfr' hres => ?_
 repeat' (first
  |exact hin _|exact agf (by assumption)
  | (first|refine wp rfl ?_|refine spt rfl ?_|refine spf rfl ?_|(refine spl (fun hc => ?_) fun hc => ?_) <;> (try rw [beq_iff_eq] at hc) <;> try simp only [hc]|refine cp h1 ?_|refine cp h2 ?_|refine cp h3 ?_|refine finF hrel ?_ ?_ ?_)<;>try simp only [go_sem, *])
theorem c_vneg (n : Int) : Pure Tryz.prog env 216 [.int .i64 n] (.bool (decide (n < 0))) := by
 intro h
 refine en Tryz.func216 [.tmp 2] rfl rfl fun g0 w0 gen hrel hfr hfr' hres => ?_
 repeat' (first
  |exact hin _|exact agf (by assumption)
  | (first|refine wp rfl ?_|refine finF hrel ?_ ?_ ?_)<;>try simp only [go_sem, *])
theorem c_indexFunc (l : List Nat) (hlen : l.length ≤ 5000) : Pure Tryz.prog env 223 [.sl .any (ints (l.map fun (n : Nat) => (n : Int))), .fn (.func 216) [] []] (.int .i64 (-1)) := by
 intro h
 have hln := ints_nat_len l
 have hget := fun i x => ints_at (l := l) (i := i) (x := x)
 generalize ints (l.map fun (n : Nat) => (n : Int)) = L at *
 refine en Tryz.func223 [.tmp 4] rfl rfl fun g0 w0 gen hrel hfr hfr' hres => ?_
 repeat' (first
  |exact hin _|exact agf (by assumption)
  | (first|refine wp rfl ?_|refine spt rfl ?_|refine spf rfl ?_|(refine spl (fun hc => ?_) fun hc => ?_) <;> (try rw [beq_iff_eq] at hc) <;> try simp only [hc]|refine finF hrel ?_ ?_ ?_)<;>try simp only [go_sem, *])
 refine AR_range [0, 1] [] (fun i σ => Agree h σ.h ∧ True) (l).length (by first | omega | (simp only [go_sem, *] <;> omega)) ⟨rfl, rfl, rfl⟩ rfl (by simp only [go_sem, *]) (by simp only [go_sem, *]) ?_ (by intro i σ t v ht hK; simp only [List.mem_cons, List.not_mem_nil, or_false] at ht; rcases ht with rfl | rfl | rfl <;> exact hK) ?_ ?_
 ·simp only [go_sem, *]
  exact (by repeat (first|exact Agree.refl _|assumption|refine Agree.new ?_ (hgf0 _ _)|refine Agree.new ?_ (hfr' _ _)))
 ·
  intro i σ gr0 hgl_gr0 hgn hlt jI jN jS ⟨jA, _⟩
  obtain ⟨jT, jB⟩ := jS
  simp only [go_sem] at jT jB
  have hgf := fresh_of hgn
  have hgf0 := fun r i => agree_fresh jA (hgf r i)
  have eg_gen_gr0 := gen_lt (show gen < gr0 by omega)
  have eh_gen_gr0 := gen_lt' (show gen < gr0 by omega)
  obtain ⟨x, hx⟩ : ∃ x, (l)[i]? = some x := ⟨_, List.getElem?_eq_getElem hlt⟩
  have hxm := List.mem_of_getElem? hx
  have hm := min_lt hlt
  clear hgn
  have hg := hget i x hx
  have hc := c_vneg (x : Int)
  rw [show decide ((x : Int) < 0) = false by simp] at hc
  clear hget
  repeat' (first
   |exact hin _|exact agf (by assumption)
   | (first|refine wp rfl ?_|refine spt rfl ?_|refine spf rfl ?_|(refine spl (fun hc => ?_) fun hc => ?_) <;> (try rw [beq_iff_eq] at hc) <;> try simp only [hc]|refine AR_inv ?_|refine cp hc ?_|refine finF hrel ?_ ?_ ?_)<;>try simp only [go_sem, *])
 ·
  intro σ ga0 hgl_ga0 hgn jS ⟨jA, _⟩
  obtain ⟨jT, jB⟩ := jS
  simp only [go_sem] at jT jB
  have hgf := fresh_of hgn
  have hgf0 := fun r i => agree_fresh jA (hgf r i)
  have eg_gen_ga0 := gen_lt (show gen < ga0 by omega)
  have eh_gen_ga0 := gen_lt' (show gen < ga0 by omega)
  clear hgn
  clear hget
  repeat' (first
   |exact hin _|exact agf (by assumption)
   | (first|refine wp rfl ?_|refine spt rfl ?_|refine spf rfl ?_|(refine spl (fun hc => ?_) fun hc => ?_) <;> (try rw [beq_iff_eq] at hc) <;> try simp only [hc]|refine finF hrel ?_ ?_ ?_)<;>try simp only [go_sem, *])
theorem c_containsF (l : List Nat) (hlen : l.length ≤ 5000) : Pure Tryz.prog env 217 [.sl .any (ints (l.map fun (n : Nat) => (n : Int))), .fn (.func 216) [] []] (.bool false) := by
 intro h
 have h1 := c_indexFunc l hlen
 have d1 : decide ((-1 : Int) ≥ 0) = false := rfl
 have hwL : weakLL (ints (l.map fun (n : Nat) => (n : Int))) = ints (l.map fun (n : Nat) => (n : Int)) := weakLL_ints _
 generalize ints (l.map fun (n : Nat) => (n : Int)) = L at *
 refine en Tryz.func217 [.tmp 4] rfl rfl fun g0 w0 gen hrel hfr hfr' hres => ?_
 repeat' (first
  |exact hin _|exact agf (by assumption)
  | (first|refine wp rfl ?_|refine cp h1 ?_|refine finF hrel ?_ ?_ ?_)<;>try simp only [go_sem, *])
theorem sum_take2 : ∀ {l : List Nat} {i n : Nat}, l[i]? = some n → (l.take (i + 1)).sum = (l.take i).sum + n
 | [], i, n, h => by simp at h
 | y :: l, 0, n, h => by simp at h; subst h; simp
 | y :: l, i + 1, n, h => by
  have := sum_take2 (l := l) (i := i) (n := n) (by simpa using h)
  rw [List.take_succ_cons, List.take_succ_cons, List.sum_cons, List.sum_cons, this]; omega
theorem c_pNodes {a : Ty} {v : PVl} {t : Tm} (hv : IsVl a v t) : tmSz t ≤ 4096 → tySz a ≤ 1000 → Pure Tryz.prog env 193 [.agg v.cells] (.tup [.int .i64 (tySz a), .bool true]) := by
 induction hv with
 | num n =>
  intro hz ha h
  rw [tySz_nat]
  have d1 : decide ((n : Int) ≥ 0) = true := by simp
  clear hz ha
  rw [PVl.mk_cells]
  have dt : decide True = true := rfl
  have z0 : (((0 : Nat) : Int) == 0) = true := rfl
  have z2 : (((2 : Nat) : Int) == 2) = true := rfl
  refine en Tryz.func193 [.tmp 2, .tmp 3] rfl rfl fun g0 w0 gen hrel hfr hfr' hres => ?_
  repeat' (first
   |exact hin _|exact agf (by assumption)
   | (first|refine wp rfl ?_|refine spt rfl ?_|refine spf rfl ?_|(refine spl (fun hc => ?_) fun hc => ?_) <;> (try rw [beq_iff_eq] at hc) <;> try simp only [hc]|(refine gs (fun hb => ?_) fun hb => ?_) <;> try simp only [Bool.not_true, Bool.not_false] at hb|refine finF hrel ?_ ?_ ?_)<;>try simp only [go_sem, *])
  refine AR_range [2, 3, 82] [] (fun i σ => Agree h σ.h ∧ σ.tm 5 = .bool true ∧ σ.tm 6 = .int .i64 1) (([] : List PVl)).length (by first | omega | (simp only [go_sem, *] <;> omega)) ⟨rfl, rfl, rfl⟩ rfl (by simp only [go_sem, *]) (by simp only [go_sem, *]) ?_ (by intro i σ t v ht hK; simp only [List.mem_cons, List.not_mem_nil, or_false] at ht; rcases ht with rfl | rfl | rfl <;> exact hK) ?_ ?_
  ·simp only [go_sem, *]
   exact (by repeat (first|exact Agree.refl _|assumption|refine Agree.new ?_ (hgf0 _ _)|refine Agree.new ?_ (hfr' _ _)))
  ·
   intro i σ gr0 hgl_gr0 hgn hlt jI jN jS ⟨jA, j5, j6⟩
   obtain ⟨jT, jB⟩ := jS
   simp only [go_sem] at jT jB
   have hgf := fresh_of hgn
   have hgf0 := fun r i => agree_fresh jA (hgf r i)
   have eg_gen_gr0 := gen_lt (show gen < gr0 by omega)
   have eh_gen_gr0 := gen_lt' (show gen < gr0 by omega)
   obtain ⟨x, hx⟩ : ∃ x, (([] : List PVl))[i]? = some x := ⟨_, List.getElem?_eq_getElem hlt⟩
   have hxm := List.mem_of_getElem? hx
   have hm := min_lt hlt
   clear hgn
   simp at hx
  ·
   intro σ ga0 hgl_ga0 hgn jS ⟨jA, j5, j6⟩
   obtain ⟨jT, jB⟩ := jS
   simp only [go_sem] at jT jB
   have hgf := fresh_of hgn
   have hgf0 := fun r i => agree_fresh jA (hgf r i)
   have eg_gen_ga0 := gen_lt (show gen < ga0 by omega)
   have eh_gen_ga0 := gen_lt' (show gen < ga0 by omega)
   clear hgn
   repeat' (first
    |exact hin _|exact agf (by assumption)
    | (first|refine wp rfl ?_|refine spt rfl ?_|refine spf rfl ?_|(refine spl (fun hc => ?_) fun hc => ?_) <;> (try rw [beq_iff_eq] at hc) <;> try simp only [hc]|(refine gs (fun hb => ?_) fun hb => ?_) <;> try simp only [Bool.not_true, Bool.not_false] at hb|refine finF hrel ?_ ?_ ?_)<;>try simp only [go_sem, *])
   rfl
 | list l =>
  intro hz ha h
  rw [tySz_list]
  rw [listT_sz] at hz
  obtain ⟨_, hlen⟩ := IsVl.mem hz
  have h1 := c_containsF l (by omega)
  have hwL : weakLL (ints (l.map fun (n : Nat) => (n : Int))) = ints (l.map fun (n : Nat) => (n : Int)) := weakLL_ints _
  clear hz ha
  rw [PVl.mk_cells]
  generalize ints (l.map fun (n : Nat) => (n : Int)) = L at *
  have dt : decide True = true := rfl
  have z0 : (((0 : Nat) : Int) == 0) = true := rfl
  have z2 : (((2 : Nat) : Int) == 2) = true := rfl
  refine en Tryz.func193 [.tmp 2, .tmp 3] rfl rfl fun g0 w0 gen hrel hfr hfr' hres => ?_
  repeat' (first
   |exact hin _|exact agf (by assumption)
   | (first|refine wp rfl ?_|refine spt rfl ?_|refine spf rfl ?_|(refine spl (fun hc => ?_) fun hc => ?_) <;> (try rw [beq_iff_eq] at hc) <;> try simp only [hc]|(refine gs (fun hb => ?_) fun hb => ?_) <;> try simp only [Bool.not_true, Bool.not_false] at hb|refine cp h1 ?_|refine finF hrel ?_ ?_ ?_)<;>try simp only [go_sem, *])
  refine AR_range [2, 3, 82] [] (fun i σ => Agree h σ.h ∧ σ.tm 5 = .bool true ∧ σ.tm 6 = .int .i64 1) (([] : List PVl)).length (by first | omega | (simp only [go_sem, *] <;> omega)) ⟨rfl, rfl, rfl⟩ rfl (by simp only [go_sem, *]) (by simp only [go_sem, *]) ?_ (by intro i σ t v ht hK; simp only [List.mem_cons, List.not_mem_nil, or_false] at ht; rcases ht with rfl | rfl | rfl <;> exact hK) ?_ ?_
  ·simp only [go_sem, *]
   exact (by repeat (first|exact Agree.refl _|assumption|refine Agree.new ?_ (hgf0 _ _)|refine Agree.new ?_ (hfr' _ _)))
  ·
   intro i σ gr0 hgl_gr0 hgn hlt jI jN jS ⟨jA, j5, j6⟩
   obtain ⟨jT, jB⟩ := jS
   simp only [go_sem] at jT jB
   have hgf := fresh_of hgn
   have hgf0 := fun r i => agree_fresh jA (hgf r i)
   have eg_gen_gr0 := gen_lt (show gen < gr0 by omega)
   have eh_gen_gr0 := gen_lt' (show gen < gr0 by omega)
   obtain ⟨x, hx⟩ : ∃ x, (([] : List PVl))[i]? = some x := ⟨_, List.getElem?_eq_getElem hlt⟩
   have hxm := List.mem_of_getElem? hx
   have hm := min_lt hlt
   clear hgn
   simp at hx
  ·
   intro σ ga0 hgl_ga0 hgn jS ⟨jA, j5, j6⟩
   obtain ⟨jT, jB⟩ := jS
   simp only [go_sem] at jT jB
   have hgf := fresh_of hgn
   have hgf0 := fun r i => agree_fresh jA (hgf r i)
   have eg_gen_ga0 := gen_lt (show gen < ga0 by omega)
   have eh_gen_ga0 := gen_lt' (show gen < ga0 by omega)
   clear hgn
   repeat' (first
    |exact hin _|exact agf (by assumption)
    | (first|refine wp rfl ?_|refine spt rfl ?_|refine spf rfl ?_|(refine spl (fun hc => ?_) fun hc => ?_) <;> (try rw [beq_iff_eq] at hc) <;> try simp only [hc]|(refine gs (fun hb => ?_) fun hb => ?_) <;> try simp only [Bool.not_true, Bool.not_false] at hb|refine finF hrel ?_ ?_ ?_)<;>try simp only [go_sem, *])
   rfl
 | unit =>
  intro hz ha h
  rw [tySz_unit]
  clear hz ha
  rw [PVl.mk_cells]
  have dt : decide True = true := rfl
  have z0 : (((0 : Nat) : Int) == 0) = true := rfl
  have z2 : (((2 : Nat) : Int) == 2) = true := rfl
  refine en Tryz.func193 [.tmp 2, .tmp 3] rfl rfl fun g0 w0 gen hrel hfr hfr' hres => ?_
  repeat' (first
   |exact hin _|exact agf (by assumption)
   | (first|refine wp rfl ?_|refine spt rfl ?_|refine spf rfl ?_|(refine spl (fun hc => ?_) fun hc => ?_) <;> (try rw [beq_iff_eq] at hc) <;> try simp only [hc]|(refine gs (fun hb => ?_) fun hb => ?_) <;> try simp only [Bool.not_true, Bool.not_false] at hb|refine finF hrel ?_ ?_ ?_)<;>try simp only [go_sem, *])
  refine AR_range [2, 3, 82] [] (fun i σ => Agree h σ.h ∧ σ.tm 5 = .bool true ∧ σ.tm 6 = .int .i64 1) (([] : List PVl)).length (by first | omega | (simp only [go_sem, *] <;> omega)) ⟨rfl, rfl, rfl⟩ rfl (by simp only [go_sem, *]) (by simp only [go_sem, *]) ?_ (by intro i σ t v ht hK; simp only [List.mem_cons, List.not_mem_nil, or_false] at ht; rcases ht with rfl | rfl | rfl <;> exact hK) ?_ ?_
  ·simp only [go_sem, *]
   exact (by repeat (first|exact Agree.refl _|assumption|refine Agree.new ?_ (hgf0 _ _)|refine Agree.new ?_ (hfr' _ _)))
  ·
   intro i σ gr0 hgl_gr0 hgn hlt jI jN jS ⟨jA, j5, j6⟩
   obtain ⟨jT, jB⟩ := jS
   simp only [go_sem] at jT jB
   have hgf := fresh_of hgn
   have hgf0 := fun r i => agree_fresh jA (hgf r i)
   have eg_gen_gr0 := gen_lt (show gen < gr0 by omega)
   have eh_gen_gr0 := gen_lt' (show gen < gr0 by omega)
   obtain ⟨x, hx⟩ : ∃ x, (([] : List PVl))[i]? = some x := ⟨_, List.getElem?_eq_getElem hlt⟩
   have hxm := List.mem_of_getElem? hx
   have hm := min_lt hlt
   clear hgn
   simp at hx
  ·
   intro σ ga0 hgl_ga0 hgn jS ⟨jA, j5, j6⟩
   obtain ⟨jT, jB⟩ := jS
   simp only [go_sem] at jT jB
   have hgf := fresh_of hgn
   have hgf0 := fun r i => agree_fresh jA (hgf r i)
   have eg_gen_ga0 := gen_lt (show gen < ga0 by omega)
   have eh_gen_ga0 := gen_lt' (show gen < ga0 by omega)
   clear hgn
   repeat' (first
    |exact hin _|exact agf (by assumption)
    | (first|refine wp rfl ?_|refine spt rfl ?_|refine spf rfl ?_|(refine spl (fun hc => ?_) fun hc => ?_) <;> (try rw [beq_iff_eq] at hc) <;> try simp only [hc]|(refine gs (fun hb => ?_) fun hb => ?_) <;> try simp only [Bool.not_true, Bool.not_false] at hb|refine finF hrel ?_ ?_ ?_)<;>try simp only [go_sem, *])
   rfl
 | @pair a b x y s t _ _ ih1 ih2 =>
  intro hz ha h
  rw [tmSz_2] at hz
  rw [tySz_pair] at ha ⊢
  have hc : ∀ (i : Nat) (z : PVl), [x, y][i]? = some z → ∃ n : Nat, [tySz a, tySz b][i]? = some n ∧ Pure Tryz.prog env 193 [.agg z.cells] (.tup [.int .i64 n, .bool true]) := by
   intro i z hz'
   match i with
   | 0 => simp at hz'; subst hz'; exact ⟨_, rfl, ih1 (by omega) (by omega)⟩
   | 1 => simp at hz'; subst hz'; exact ⟨_, rfl, ih2 (by omega) (by omega)⟩
   | i + 2 => simp at hz'
  have hsum : ∀ i, ([tySz a, tySz b].take i).sum ≤ 1000 := by
   intro i
   match i with
   | 0 => simp
   | 1 => simp; omega
   | i + 2 => simp; omega
  have hend : 1 + ([tySz a, tySz b].take 2).sum = tySz a + tySz b + 1 := by simp; omega
  clear ih1 ih2 hz ha
  generalize tySz a + tySz b + 1 = R at *
  generalize [tySz a, tySz b] = ns at *
  have h2 : [x, y].length = 2 := rfl
  rw [PVl.mk_cells]
  generalize [x, y] = xs at *
  have dt : decide True = true := rfl
  have z0 : (((0 : Nat) : Int) == 0) = true := rfl
  have z2 : (((2 : Nat) : Int) == 2) = true := rfl
  refine en Tryz.func193 [.tmp 2, .tmp 3] rfl rfl fun g0 w0 gen hrel hfr hfr' hres => ?_
  repeat' (first
   |exact hin _|exact agf (by assumption)
   | (first|refine wp rfl ?_|refine spt rfl ?_|refine spf rfl ?_|(refine spl (fun hc => ?_) fun hc => ?_) <;> (try rw [beq_iff_eq] at hc) <;> try simp only [hc]|(refine gs (fun hb => ?_) fun hb => ?_) <;> try simp only [Bool.not_true, Bool.not_false] at hb|refine finF hrel ?_ ?_ ?_)<;>try simp only [go_sem, *])
  refine AR_range [2, 3, 82] [] (fun i σ => Agree h σ.h ∧ σ.tm 5 = .bool true ∧ σ.tm 6 = .int .i64 ((1 + (ns.take i).sum : Nat) : Int)) (xs).length (by first | omega | (simp only [go_sem, *] <;> omega)) ⟨rfl, rfl, rfl⟩ rfl (by simp only [go_sem, *]) (by simp only [go_sem, *]) ?_ (by intro i σ t v ht hK; simp only [List.mem_cons, List.not_mem_nil, or_false] at ht; rcases ht with rfl | rfl | rfl <;> exact hK) ?_ ?_
  ·simp only [go_sem, *]
   exact ⟨(by repeat (first|exact Agree.refl _|assumption|refine Agree.new ?_ (hgf0 _ _)|refine Agree.new ?_ (hfr' _ _))), rfl⟩
  ·
   intro i σ gr0 hgl_gr0 hgn hlt jI jN jS ⟨jA, j5, j6⟩
   obtain ⟨jT, jB⟩ := jS
   simp only [go_sem] at jT jB
   have hgf := fresh_of hgn
   have hgf0 := fun r i => agree_fresh jA (hgf r i)
   have eg_gen_gr0 := gen_lt (show gen < gr0 by omega)
   have eh_gen_gr0 := gen_lt' (show gen < gr0 by omega)
   obtain ⟨x, hx⟩ : ∃ x, (xs)[i]? = some x := ⟨_, List.getElem?_eq_getElem hlt⟩
   have hxm := List.mem_of_getElem? hx
   have hm := min_lt hlt
   clear hgn
   obtain ⟨n, hn, h1⟩ := hc i x hx
   have hs := sum_take2 hn
   have hb := hsum (i + 1)
   have hw1 : IntKind.i64.wrap (((1 + (ns.take i).sum : Nat) : Int) + (n : Int)) = ((1 + (ns.take (i + 1)).sum : Nat) : Int) := wrap_eq (by omega) (by omega) (by omega)
   clear hc hsum hb hs hn hend
   generalize 1 + (ns.take (i + 1)).sum = s2 at *
   generalize 1 + (ns.take i).sum = s1 at *
   repeat' (first
    |exact hin _|exact agf (by assumption)
    | (first|refine wp rfl ?_|refine spt rfl ?_|refine spf rfl ?_|(refine spl (fun hc => ?_) fun hc => ?_) <;> (try rw [beq_iff_eq] at hc) <;> try simp only [hc]|(refine gs (fun hb => ?_) fun hb => ?_) <;> try simp only [Bool.not_true, Bool.not_false] at hb|refine AR_inv ?_|refine cp h1 ?_|refine finF hrel ?_ ?_ ?_)<;>try simp only [go_sem, *])
   exact (by repeat (first|exact Agree.refl _|assumption|refine Agree.new ?_ (hgf0 _ _)|refine Agree.new ?_ (hfr' _ _)))
  ·
   intro σ ga0 hgl_ga0 hgn jS ⟨jA, j5, j6⟩
   obtain ⟨jT, jB⟩ := jS
   simp only [go_sem] at jT jB
   have hgf := fresh_of hgn
   have hgf0 := fun r i => agree_fresh jA (hgf r i)
   have eg_gen_ga0 := gen_lt (show gen < ga0 by omega)
   have eh_gen_ga0 := gen_lt' (show gen < ga0 by omega)
   clear hgn
   rw [h2, hend] at j6
   clear hc hsum hend
   repeat' (first
    |exact hin _|exact agf (by assumption)
    | (first|refine wp rfl ?_|refine spt rfl ?_|refine spf rfl ?_|(refine spl (fun hc => ?_) fun hc => ?_) <;> (try rw [beq_iff_eq] at hc) <;> try simp only [hc]|(refine gs (fun hb => ?_) fun hb => ?_) <;> try simp only [Bool.not_true, Bool.not_false] at hb|refine finF hrel ?_ ?_ ?_)<;>try simp only [go_sem, *])
theorem c_pCheck {a : Ty} {v : PVl} {t : Tm} (hv : IsVl a v t) (hz : tmSz t ≤ 4096) (ha : TyG a) : Pure Tryz.prog env 154 [.agg v.cells] (.int .i64 0) := by
 intro h
 have h1 := c_pNodes hv hz (by have := ha.2; omega)
 have d1 : decide ((tySz a : Int) > 64) = false := by have := ha.2; simp; omega
 clear hz ha hv
 refine en Tryz.func154 [.tmp 2] rfl rfl fun g0 w0 gen hrel hfr hfr' hres => ?_
 repeat' (first
  |exact hin _|exact agf (by assumption)
  | (first|refine wp rfl ?_|refine spt rfl ?_|refine spf rfl ?_|(refine spl (fun hc => ?_) fun hc => ?_) <;> (try rw [beq_iff_eq] at hc) <;> try simp only [hc]|refine cp h1 ?_|refine finF hrel ?_ ?_ ?_)<;>try simp only [go_sem, *])
theorem c_vSize (n : Nat) (hn : n ≤ 4096) : Pure Tryz.prog env 194 [.int .i64 n] (.int .i64 (n + 1 : Nat)) := by
 intro h
 have d1 : ((4096 : Int) < (n : Int)) = False := by simp; omega
 have d3 : IntKind.i64.wrap ((n : Int) + 1) = ((n + 1 : Nat) : Int) := wrap_eq (by omega) (by omega) (by omega)
 clear hn
 refine en Tryz.func194 [.tmp 2] rfl rfl fun g0 w0 gen hrel hfr hfr' hres => ?_
 repeat' (first
  |exact hin _|exact agf (by assumption)
  | (first|refine wp rfl ?_|refine finF hrel ?_ ?_ ?_)<;>try simp only [go_sem, *])
theorem c_pLength {a : Ty} {v : PVl} {t : Tm} (hv : IsVl a v t) : tmSz t ≤ 4096 → Pure Tryz.prog env 155 [.agg v.cells] (.int .i64 (tmSz t)) := by
 induction hv with
 | num n =>
  intro hz h
  rw [tmSz_num] at hz ⊢
  have h1 := c_vSize n (by omega)
  clear hz
  rw [PVl.mk_cells]
  generalize n + 1 = n1 at *
  refine en Tryz.func155 [.tmp 2] rfl rfl fun g0 w0 gen hrel hfr hfr' hres => ?_
  repeat' (first
   |exact hin _|exact agf (by assumption)
   | (first|refine wp rfl ?_|refine spt rfl ?_|refine spf rfl ?_|(refine spl (fun hc => ?_) fun hc => ?_) <;> (try rw [beq_iff_eq] at hc) <;> try simp only [hc]|refine cp h1 ?_|refine finF hrel ?_ ?_ ?_)<;>try simp only [go_sem, *])
  refine AR_range [2, 34] [] (fun i σ => Agree h σ.h ∧ σ.tm 3 = .int .i64 n1) (([] : List PVl)).length (by first | omega | (simp only [go_sem, *] <;> omega)) ⟨rfl, rfl, rfl⟩ rfl (by simp only [go_sem, *]) (by simp only [go_sem, *]) ?_ (by intro i σ t v ht hK; simp only [List.mem_cons, List.not_mem_nil, or_false] at ht; rcases ht with rfl | rfl | rfl <;> exact hK) ?_ ?_
  ·simp only [go_sem, *]
   exact (by repeat (first|exact Agree.refl _|assumption|refine Agree.new ?_ (hgf0 _ _)|refine Agree.new ?_ (hfr' _ _)))
  ·
   intro i σ gr1 hgl_gr1 hgn hlt jI jN jS ⟨jA, j3⟩
   obtain ⟨jT, jB⟩ := jS
   simp only [go_sem] at jT jB
   have hgf := fresh_of hgn
   have hgf0 := fun r i => agree_fresh jA (hgf r i)
   have eg_gen_gr1 := gen_lt (show gen < gr1 by omega)
   have eh_gen_gr1 := gen_lt' (show gen < gr1 by omega)
   obtain ⟨x, hx⟩ : ∃ x, (([] : List PVl))[i]? = some x := ⟨_, List.getElem?_eq_getElem hlt⟩
   have hxm := List.mem_of_getElem? hx
   have hm := min_lt hlt
   clear hgn
   simp at hx
  ·
   intro σ ga1 hgl_ga1 hgn jS ⟨jA, j3⟩
   obtain ⟨jT, jB⟩ := jS
   simp only [go_sem] at jT jB
   have hgf := fresh_of hgn
   have hgf0 := fun r i => agree_fresh jA (hgf r i)
   have eg_gen_ga1 := gen_lt (show gen < ga1 by omega)
   have eh_gen_ga1 := gen_lt' (show gen < ga1 by omega)
   clear hgn
   repeat' (first
    |exact hin _|exact agf (by assumption)
    | (first|refine wp rfl ?_|refine spt rfl ?_|refine spf rfl ?_|(refine spl (fun hc => ?_) fun hc => ?_) <;> (try rw [beq_iff_eq] at hc) <;> try simp only [hc]|refine finF hrel ?_ ?_ ?_)<;>try simp only [go_sem, *])
 | list l =>
  intro hz h
  rw [listT_sz] at hz ⊢
  obtain ⟨hmem, hlen⟩ := IsVl.mem hz
  have hln := ints_nat_len l
  have hget := fun i x => ints_at (l := l) (i := i) (x := x)
  rw [PVl.mk_cells]
  generalize ints (l.map fun (n : Nat) => (n : Int)) = L at *
  refine en Tryz.func155 [.tmp 2] rfl rfl fun g0 w0 gen hrel hfr hfr' hres => ?_
  repeat' (first
   |exact hin _|exact agf (by assumption)
   | (first|refine wp rfl ?_|refine spt rfl ?_|refine spf rfl ?_|(refine spl (fun hc => ?_) fun hc => ?_) <;> (try rw [beq_iff_eq] at hc) <;> try simp only [hc]|refine finF hrel ?_ ?_ ?_)<;>try simp only [go_sem, *])
  refine AR_range [1, 18] [⟨gen, 0, 0⟩] (fun i σ => Agree h σ.h ∧ σ.tm 3 = .int .i64 (lsz (l.take i) : Nat)) (l).length (by first | omega | (simp only [go_sem, *] <;> omega)) ⟨rfl, rfl, rfl⟩ rfl (by simp only [go_sem, *]) (by simp only [go_sem, *]) ?_ (by intro i σ t v ht hK; simp only [List.mem_cons, List.not_mem_nil, or_false] at ht; rcases ht with rfl | rfl | rfl <;> exact hK) ?_ ?_
  ·simp only [go_sem, *]
   exact ⟨(by repeat (first|exact Agree.refl _|assumption|refine Agree.new ?_ (hgf0 _ _)|refine Agree.new ?_ (hfr' _ _))), rfl⟩
  ·
   intro i σ gr0 hgl_gr0 hgn hlt jI jN jS ⟨jA, j3⟩
   obtain ⟨jT, jB⟩ := jS
   simp only [go_sem] at jT jB
   have hgf := fresh_of hgn
   have hgf0 := fun r i => agree_fresh jA (hgf r i)
   have eg_gen_gr0 := gen_lt (show gen < gr0 by omega)
   have eh_gen_gr0 := gen_lt' (show gen < gr0 by omega)
   obtain ⟨x, hx⟩ : ∃ x, (l)[i]? = some x := ⟨_, List.getElem?_eq_getElem hlt⟩
   have hxm := List.mem_of_getElem? hx
   have hm := min_lt hlt
   clear hgn
   have hg := hget i x hx
   have hxb := hmem x hxm
   have hs := lsz_take hx
   have hle := lsz_take_le l (i + 1)
   have h1 := c_vSize x (by omega)
   have d3 : IntKind.i64.wrap (1 + ((x + 1 : Nat) : Int)) = ((x + 2 : Nat) : Int) := wrap_eq (by omega) (by omega) (by omega)
   have d4 : IntKind.i64.wrap (((lsz (l.take i) : Nat) : Int) + ((x + 2 : Nat) : Int)) = ((lsz (l.take (i + 1)) : Nat) : Int) := wrap_eq (by omega) (by omega) (by omega)
   have d5 : decide (((lsz (l.take (i + 1)) : Nat) : Int) > 4096) = false := by simp; omega
   clear hget hz hmem hs hle hxb
   generalize lsz (l.take (i + 1)) = s2 at *
   generalize lsz (l.take i) = s1 at *
   generalize x + 1 = x1 at *
   generalize x + 2 = x2 at *
   repeat' (first
    |exact hin _|exact agf (by assumption)
    | (first|refine wp rfl ?_|refine spt rfl ?_|refine spf rfl ?_|(refine spl (fun hc => ?_) fun hc => ?_) <;> (try rw [beq_iff_eq] at hc) <;> try simp only [hc]|refine AR_inv ?_|refine cp h1 ?_|refine finF hrel ?_ ?_ ?_)<;>try simp only [go_sem, *])
  ·
   intro σ ga0 hgl_ga0 hgn jS ⟨jA, j3⟩
   obtain ⟨jT, jB⟩ := jS
   simp only [go_sem] at jT jB
   have hgf := fresh_of hgn
   have hgf0 := fun r i => agree_fresh jA (hgf r i)
   have eg_gen_ga0 := gen_lt (show gen < ga0 by omega)
   have eh_gen_ga0 := gen_lt' (show gen < ga0 by omega)
   clear hgn
   rw [List.take_length] at j3
   clear hget hz hmem
   repeat' (first
    |exact hin _|exact agf (by assumption)
    | (first|refine wp rfl ?_|refine spt rfl ?_|refine spf rfl ?_|(refine spl (fun hc => ?_) fun hc => ?_) <;> (try rw [beq_iff_eq] at hc) <;> try simp only [hc]|refine finF hrel ?_ ?_ ?_)<;>try simp only [go_sem, *])
   refine AR_range [2, 34] [] (fun i σ => Agree h σ.h ∧ σ.tm 3 = .int .i64 (lsz l : Nat)) (([] : List PVl)).length (by first | omega | (simp only [go_sem, *] <;> omega)) ⟨rfl, rfl, rfl⟩ rfl (by simp only [go_sem, *]) (by simp only [go_sem, *]) ?_ (by intro i σ t v ht hK; simp only [List.mem_cons, List.not_mem_nil, or_false] at ht; rcases ht with rfl | rfl | rfl <;> exact hK) ?_ ?_
   ·simp only [go_sem, *]
   ·
    intro i σ gr1 hgl_gr1 hgn hlt jI jN jS ⟨jA, j3'⟩
    obtain ⟨jT, jB⟩ := jS
    simp only [go_sem] at jT jB
    have hgf := fresh_of hgn
    have hgf0 := fun r i => agree_fresh jA (hgf r i)
    have eg_gen_gr1 := gen_lt (show gen < gr1 by omega)
    have eh_gen_gr1 := gen_lt' (show gen < gr1 by omega)
    have eg_ga0_gr1 := gen_lt (show ga0 < gr1 by omega)
    have eh_ga0_gr1 := gen_lt' (show ga0 < gr1 by omega)
    obtain ⟨x, hx⟩ : ∃ x, (([] : List PVl))[i]? = some x := ⟨_, List.getElem?_eq_getElem hlt⟩
    have hxm := List.mem_of_getElem? hx
    have hm := min_lt hlt
    clear hgn
    simp at hx
   ·
    intro σ ga1 hgl_ga1 hgn jS ⟨jA, j3'⟩
    obtain ⟨jT, jB⟩ := jS
    simp only [go_sem] at jT jB
    have hgf := fresh_of hgn
    have hgf0 := fun r i => agree_fresh jA (hgf r i)
    have eg_gen_ga1 := gen_lt (show gen < ga1 by omega)
    have eh_gen_ga1 := gen_lt' (show gen < ga1 by omega)
    have eg_ga0_ga1 := gen_lt (show ga0 < ga1 by omega)
    have eh_ga0_ga1 := gen_lt' (show ga0 < ga1 by omega)
    clear hgn
    repeat' (first
     |exact hin _|exact agf (by assumption)
     | (first|refine wp rfl ?_|refine spt rfl ?_|refine spf rfl ?_|(refine spl (fun hc => ?_) fun hc => ?_) <;> (try rw [beq_iff_eq] at hc) <;> try simp only [hc]|refine finF hrel ?_ ?_ ?_)<;>try simp only [go_sem, *])
 | unit =>
  intro hz h
  clear hz
  rw [PVl.mk_cells, tmSz_0]
  refine en Tryz.func155 [.tmp 2] rfl rfl fun g0 w0 gen hrel hfr hfr' hres => ?_
  repeat' (first
   |exact hin _|exact agf (by assumption)
   | (first|refine wp rfl ?_|refine spt rfl ?_|refine spf rfl ?_|(refine spl (fun hc => ?_) fun hc => ?_) <;> (try rw [beq_iff_eq] at hc) <;> try simp only [hc]|refine finF hrel ?_ ?_ ?_)<;>try simp only [go_sem, *])
  refine AR_range [2, 34] [] (fun i σ => Agree h σ.h ∧ σ.tm 3 = .int .i64 1) (([] : List PVl)).length (by first | omega | (simp only [go_sem, *] <;> omega)) ⟨rfl, rfl, rfl⟩ rfl (by simp only [go_sem, *]) (by simp only [go_sem, *]) ?_ (by intro i σ t v ht hK; simp only [List.mem_cons, List.not_mem_nil, or_false] at ht; rcases ht with rfl | rfl | rfl <;> exact hK) ?_ ?_
  ·simp only [go_sem, *]
   exact (by repeat (first|exact Agree.refl _|assumption|refine Agree.new ?_ (hgf0 _ _)|refine Agree.new ?_ (hfr' _ _)))
  ·
   intro i σ gr1 hgl_gr1 hgn hlt jI jN jS ⟨jA, j3⟩
   obtain ⟨jT, jB⟩ := jS
   simp only [go_sem] at jT jB
   have hgf := fresh_of hgn
   have hgf0 := fun r i => agree_fresh jA (hgf r i)
   have eg_gen_gr1 := gen_lt (show gen < gr1 by omega)
   have eh_gen_gr1 := gen_lt' (show gen < gr1 by omega)
   obtain ⟨x, hx⟩ : ∃ x, (([] : List PVl))[i]? = some x := ⟨_, List.getElem?_eq_getElem hlt⟩
   have hxm := List.mem_of_getElem? hx
   have hm := min_lt hlt
   clear hgn
   simp at hx
  ·
   intro σ ga1 hgl_ga1 hgn jS ⟨jA, j3⟩
   obtain ⟨jT, jB⟩ := jS
   simp only [go_sem] at jT jB
   have hgf := fresh_of hgn
   have hgf0 := fun r i => agree_fresh jA (hgf r i)
   have eg_gen_ga1 := gen_lt (show gen < ga1 by omega)
   have eh_gen_ga1 := gen_lt' (show gen < ga1 by omega)
   clear hgn
   repeat' (first
    |exact hin _|exact agf (by assumption)
    | (first|refine wp rfl ?_|refine spt rfl ?_|refine spf rfl ?_|(refine spl (fun hc => ?_) fun hc => ?_) <;> (try rw [beq_iff_eq] at hc) <;> try simp only [hc]|refine finF hrel ?_ ?_ ?_)<;>try simp only [go_sem, *])
   rfl
 | @pair a b x y s t _ _ ih1 ih2 =>
  intro hz h
  rw [tmSz_2] at hz ⊢
  have hc : ∀ (i : Nat) (z : PVl), [x, y][i]? = some z → ∃ n : Nat, [tmSz s, tmSz t][i]? = some n ∧ Pure Tryz.prog env 155 [.agg z.cells] (.int .i64 n) := by
   intro i z hz'
   match i with
   | 0 => simp at hz'; subst hz'; exact ⟨_, rfl, ih1 (by omega)⟩
   | 1 => simp at hz'; subst hz'; exact ⟨_, rfl, ih2 (by omega)⟩
   | i + 2 => simp at hz'
  have hsum : ∀ i, ([tmSz s, tmSz t].take i).sum ≤ 10000 := by
   intro i
   match i with
   | 0 => simp
   | 1 => simp; omega
   | i + 2 => simp; omega
  have hend : 1 + ([tmSz s, tmSz t].take 2).sum = tmSz s + tmSz t + 1 := by simp; omega
  clear ih1 ih2 hz
  generalize tmSz s + tmSz t + 1 = R at *
  generalize [tmSz s, tmSz t] = ns at *
  have h2 : [x, y].length = 2 := rfl
  rw [PVl.mk_cells]
  generalize [x, y] = xs at *
  refine en Tryz.func155 [.tmp 2] rfl rfl fun g0 w0 gen hrel hfr hfr' hres => ?_
  repeat' (first
   |exact hin _|exact agf (by assumption)
   | (first|refine wp rfl ?_|refine spt rfl ?_|refine spf rfl ?_|(refine spl (fun hc => ?_) fun hc => ?_) <;> (try rw [beq_iff_eq] at hc) <;> try simp only [hc]|refine finF hrel ?_ ?_ ?_)<;>try simp only [go_sem, *])
  refine AR_range [2, 34] [] (fun i σ => Agree h σ.h ∧ σ.tm 3 = .int .i64 ((1 + (ns.take i).sum : Nat) : Int)) (xs).length (by first | omega | (simp only [go_sem, *] <;> omega)) ⟨rfl, rfl, rfl⟩ rfl (by simp only [go_sem, *]) (by simp only [go_sem, *]) ?_ (by intro i σ t v ht hK; simp only [List.mem_cons, List.not_mem_nil, or_false] at ht; rcases ht with rfl | rfl | rfl <;> exact hK) ?_ ?_
  ·simp only [go_sem, *]
   exact ⟨(by repeat (first|exact Agree.refl _|assumption|refine Agree.new ?_ (hgf0 _ _)|refine Agree.new ?_ (hfr' _ _))), rfl⟩
  ·
   intro i σ gr1 hgl_gr1 hgn hlt jI jN jS ⟨jA, j3⟩
   obtain ⟨jT, jB⟩ := jS
   simp only [go_sem] at jT jB
   have hgf := fresh_of hgn
   have hgf0 := fun r i => agree_fresh jA (hgf r i)
   have eg_gen_gr1 := gen_lt (show gen < gr1 by omega)
   have eh_gen_gr1 := gen_lt' (show gen < gr1 by omega)
   obtain ⟨x, hx⟩ : ∃ x, (xs)[i]? = some x := ⟨_, List.getElem?_eq_getElem hlt⟩
   have hxm := List.mem_of_getElem? hx
   have hm := min_lt hlt
   clear hgn
   obtain ⟨n, hn, h1⟩ := hc i x hx
   have hs := sum_take2 hn
   have hb := hsum (i + 1)
   have hw1 : IntKind.i64.wrap (((1 + (ns.take i).sum : Nat) : Int) + (n : Int)) = ((1 + (ns.take (i + 1)).sum : Nat) : Int) := wrap_eq (by omega) (by omega) (by omega)
   clear hc hsum hb hs hn hend
   generalize 1 + (ns.take (i + 1)).sum = s2 at *
   generalize 1 + (ns.take i).sum = s1 at *
   repeat' (first
    |exact hin _|exact agf (by assumption)
    | (first|refine wp rfl ?_|refine spt rfl ?_|refine spf rfl ?_|(refine spl (fun hc => ?_) fun hc => ?_) <;> (try rw [beq_iff_eq] at hc) <;> try simp only [hc]|refine AR_inv ?_|refine cp h1 ?_|refine finF hrel ?_ ?_ ?_)<;>try simp only [go_sem, *])
   exact (by repeat (first|exact Agree.refl _|assumption|refine Agree.new ?_ (hgf0 _ _)|refine Agree.new ?_ (hfr' _ _)))
  ·
   intro σ ga1 hgl_ga1 hgn jS ⟨jA, j3⟩
   obtain ⟨jT, jB⟩ := jS
   simp only [go_sem] at jT jB
   have hgf := fresh_of hgn
   have hgf0 := fun r i => agree_fresh jA (hgf r i)
   have eg_gen_ga1 := gen_lt (show gen < ga1 by omega)
   have eh_gen_ga1 := gen_lt' (show gen < ga1 by omega)
   clear hgn
   rw [h2, hend] at j3
   clear hc hsum hend
   repeat' (first
    |exact hin _|exact agf (by assumption)
    | (first|refine wp rfl ?_|refine spt rfl ?_|refine spf rfl ?_|(refine spl (fun hc => ?_) fun hc => ?_) <;> (try rw [beq_iff_eq] at hc) <;> try simp only [hc]|refine finF hrel ?_ ?_ ?_)<;>try simp only [go_sem, *])
end Go.Proofs.YtenelbgbjmijiaaGreatDoor
