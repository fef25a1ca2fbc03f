/-
 Walks: several parts in one text.
-/
import Derived.Test.YtmbpmbofehmdaaaGreatDoorBase
import Derived.Test.YtmbpmbofehmdaaaGreatDoorAbsB
import Derived.Test.YtmbpmbofehmdaaaGreatDoorAbsC
import Derived.Test.YtmbpmbofehmdaaaGreatDoorAbsD
set_option linter.unusedSimpArgs false
set_option linter.unusedVariables false
set_option maxRecDepth 20000
set_option maxHeartbeats 4000000
namespace Go.Proofs.YtmbpmbofehmdaaaGreatDoor
open Go GoAbs Go.Proofs
def env : Nat → Option (List V)
 | 0 => some [.int .i64 0, .int .i64 0, .int .i64 1, .int .i64 2, .int .i64 0, .int .i64 1, .int .i64 3, .int .i64 0, .int .i64 2, .int .i64 3, .int .i64 2, .int .i64 1, .int .i64 1, .int .i64 0]
 | _ => none
theorem c_refNat : Pure Tryz.prog env 14 [] (.agg tNat.cells) := by
 intro h
 refine en_ Tryz.func14 [.cell 0 25] fun g0 w0 gen hrel hfr hfr' hres => ?_
 refine wq_ ?_
 rfl
theorem c_refList : Pure Tryz.prog env 46 [] (.agg tList.cells) := by
 intro h
 refine en_ Tryz.func46 [.cell 0 25] fun g0 w0 gen hrel hfr hfr' hres => ?_
 refine wq_ ?_
 rfl
theorem c_refUnit : Pure Tryz.prog env 47 [] (.agg tUnit.cells) := by
 intro h
 refine en_ Tryz.func47 [.cell 0 25] fun g0 w0 gen hrel hfr hfr' hres => ?_
 refine wq_ ?_
 rfl
theorem c_refCopy : ∀ t : Ty, TyW t → Pure Tryz.prog env 45 [.agg t.cells] (.agg t.cells) := by
 intro t
 induction t using Ty.ind with | h t ih => ?_
 intro ht h
 have hlen := ht.len
 have ih' : ∀ x ∈ t.args, Pure Tryz.prog env 45 [.agg x.cells] (.agg x.cells) := fun x hx => ih x hx (ht.arg hx)
 clear ih
 refine en_ Tryz.func45 [.cell 2 25] fun g0 w0 gen hrel hfr hfr' hres => ?_
 refine wq_ ?_
 refine AR_loop_nat (fun i σ => σ.tm 9 = .int .i64 i ∧ σ.tm 8 = .int .i64 t.args.length ∧ σ.tm 7 = .sl .any (t.args.map Ty.cells) ∧ σ.tm 1 = .ptr ⟨gen, 0, 0⟩ 0 ∧ σ.tm 2 = .ptr ⟨gen, 0, 1⟩ 0 ∧
  σ.h ⟨gen, 0, 0⟩ = some (.box t.cells) ∧ σ.h ⟨gen, 0, 1⟩ = some (.box [.int .i64 0, .sl .full []]) ∧ Agree h σ.h ∧ OwnS h σ.h (σ.tm 3) 2 ((t.args.take i).map Ty.cells)) t.args.length ?_ ?_
 ·simp only [go_sem, *]
  exact ⟨rfl, .new (.new (.refl _) (hfr' _ _)) (hfr' _ _), .inl (by simp)⟩
 intro i σ hi ⟨j1, j2, j3, j4, j5, j6, j7, j8, j9⟩
 refine AR_gen (fun gn hgn => ?_)
 have hgf := fresh_of hgn
 have hgf0 : ∀ r i, h ⟨gn, r, i⟩ = none := fun r i => agree_fresh j8 (hgf r i)
 have e1 := gen_ne hgn j6
 have e2 := gen_ne' hgn j6
 have hw := wrap_succ (i := i) (by omega)
 rcases Nat.lt_or_ge i t.args.length with hlt | hge
 ·have hd := lt_true hlt
  obtain ⟨x, hx⟩ : ∃ x, t.args[i]? = some x := ⟨_, List.getElem?_eq_getElem hlt⟩
  have hm := min_lt hlt
  have b1 : (i + 1) * 32 ≤ 140737488355328 := by omega
  have b2 : i + 1 ≤ 140737488355328 := by omega
  have hts := map_take_succ (f := Ty.cells) hx
  have hc := ih' x (List.mem_of_getElem? hx)
  rcases j9 with j9 | ⟨id, j9, j10, j11⟩
  ·
   clear hgn
   repeat' (first
    | (first|refine wp rfl ?_|refine spt rfl ?_|refine spf rfl ?_|(refine spl (fun hc => ?_) fun hc => ?_) <;> (try rw [beq_iff_eq] at hc) <;> try simp only [hc]|refine cp hc ?_)<;>try simp only [go_sem, *])
   refine AR_inv ?_
   simp only [go_sem, *]
   exact ⟨by repeat (first|assumption|refine Agree.new ?_ (hgf0 _ _)|refine Agree.new ?_ j11), .inr ⟨_, rfl, by simp only [go_sem, *], by first|exact hgf0 _ _|assumption⟩⟩
  ·
   have e3 := fresh_ne hgn j10
   have e4 := fresh_ne' hgn j10
   have e5 := obj_ne j6 j10
   have e6 := obj_ne j7 j10
   clear hgn
   repeat' (first
    | (first|refine wp rfl ?_|refine spt rfl ?_|refine spf rfl ?_|(refine spl (fun hc => ?_) fun hc => ?_) <;> (try rw [beq_iff_eq] at hc) <;> try simp only [hc]|refine cp hc ?_)<;>try simp only [go_sem, *])
   refine AR_inv ?_
   simp only [go_sem, *]
   exact ⟨by repeat (first|assumption|refine Agree.new ?_ (hgf0 _ _)|refine Agree.new ?_ j11), .inr ⟨_, rfl, by simp only [go_sem, *], by first|exact hgf0 _ _|assumption⟩⟩
 ·have hd := lt_false hge
  clear hgn
  obtain rfl : i = t.args.length := by omega
  rw [List.take_length] at j9
  obtain ⟨c, j9⟩ := j9.val
  refine wq_ ?_
  rw [Ty.cells_eq]
theorem c_tmCopy : ∀ t : Tm, TmW t → Pure Tryz.prog env 85 [.agg t.cells] (.agg t.cells) := by
 intro t
 induction t using Tm.ind with | h t ih => ?_
 intro ht h
 have hlen := ht.len
 have ih' : ∀ x ∈ t.args, Pure Tryz.prog env 85 [.agg x.cells] (.agg x.cells) := fun x hx => ih x hx (ht.arg hx)
 clear ih
 refine en_ Tryz.func85 [.cell 2 31] fun g0 w0 gen hrel hfr hfr' hres => ?_
 refine wq_ ?_
 refine AR_loop_nat (fun i σ => σ.tm 9 = .int .i64 i ∧ σ.tm 8 = .int .i64 t.args.length ∧ σ.tm 7 = .sl .any (t.args.map Tm.cells) ∧ σ.tm 1 = .ptr ⟨gen, 0, 0⟩ 0 ∧ σ.tm 2 = .ptr ⟨gen, 0, 1⟩ 0 ∧
  σ.h ⟨gen, 0, 0⟩ = some (.box t.cells) ∧ σ.h ⟨gen, 0, 1⟩ = some (.box [.int .i64 0, .int .i64 0, .int .i64 0, .sl .full [], .sl .full []]) ∧ Agree h σ.h ∧ OwnS h σ.h (σ.tm 3) 5 ((t.args.take i).map Tm.cells)) t.args.length ?_ ?_
 ·simp only [go_sem, *]
  exact ⟨rfl, .new (.new (.refl _) (hfr' _ _)) (hfr' _ _), .inl (by simp)⟩
 intro i σ hi ⟨j1, j2, j3, j4, j5, j6, j7, j8, j9⟩
 refine AR_gen (fun gn hgn => ?_)
 have hgf := fresh_of hgn
 have hgf0 : ∀ r i, h ⟨gn, r, i⟩ = none := fun r i => agree_fresh j8 (hgf r i)
 have e1 := gen_ne hgn j6
 have e2 := gen_ne' hgn j6
 have hw := wrap_succ (i := i) (by omega)
 rcases Nat.lt_or_ge i t.args.length with hlt | hge
 ·have hd := lt_true hlt
  obtain ⟨x, hx⟩ : ∃ x, t.args[i]? = some x := ⟨_, List.getElem?_eq_getElem hlt⟩
  have hm := min_lt hlt
  have b1 : (i + 1) * 72 ≤ 140737488355328 := by omega
  have b2 : i + 1 ≤ 140737488355328 := by omega
  have hts := map_take_succ (f := Tm.cells) hx
  have hc := ih' x (List.mem_of_getElem? hx)
  rcases j9 with j9 | ⟨id, j9, j10, j11⟩
  ·
   clear hgn
   repeat' (first
    |(refine ⟨?_,?_⟩; focus ((repeat' (first|refine ⟨?_,?_⟩|refine .inr ?_)); all_goals kernel_rfl))
    | (first|refine wp rfl ?_|refine spt rfl ?_|refine spf rfl ?_|(refine spl (fun hc => ?_) fun hc => ?_) <;> (try rw [beq_iff_eq] at hc) <;> try simp only [hc]|refine cp hc ?_)<;>try simp only [go_sem, *])
   refine AR_inv ?_
   simp only [go_sem, *]
   exact ⟨by repeat (first|assumption|refine Agree.new ?_ (hgf0 _ _)|refine Agree.new ?_ j11), .inr ⟨_, rfl, by simp only [go_sem, *], by first|exact hgf0 _ _|assumption⟩⟩
  ·
   have e3 := fresh_ne hgn j10
   have e4 := fresh_ne' hgn j10
   have e5 := obj_ne j6 j10
   have e6 := obj_ne j7 j10
   clear hgn
   repeat' (first
    |(refine ⟨?_,?_⟩; focus ((repeat' (first|refine ⟨?_,?_⟩|refine .inr ?_)); all_goals kernel_rfl))
    | (first|refine wp rfl ?_|refine spt rfl ?_|refine spf rfl ?_|(refine spl (fun hc => ?_) fun hc => ?_) <;> (try rw [beq_iff_eq] at hc) <;> try simp only [hc]|refine cp hc ?_)<;>try simp only [go_sem, *])
   refine AR_inv ?_
   simp only [go_sem, *]
   exact ⟨by repeat (first|assumption|refine Agree.new ?_ (hgf0 _ _)|refine Agree.new ?_ j11), .inr ⟨_, rfl, by simp only [go_sem, *], by first|exact hgf0 _ _|assumption⟩⟩
 ·have hd := lt_false hge
  clear hgn
  obtain rfl : i = t.args.length := by omega
  rw [List.take_length] at j9
  obtain ⟨c, j9⟩ := j9.val
  have hc := c_refCopy t.type ht.ty
  refine wq_ ?_
  rw [Tm.cells_eq]
theorem c_fmCopy : ∀ f : Fm, FmW f → Pure Tryz.prog env 44 [.agg f.cells] (.agg f.cells) := by
 intro f
 induction f using Fm.ind with | h f ih => ?_
 intro ht h
 have hlen := ht.len
 have htlen := ht.tlen
 have ih' : ∀ x ∈ f.args, Pure Tryz.prog env 44 [.agg x.cells] (.agg x.cells) := fun x hx => ih x hx (ht.arg hx)
 clear ih
 have hc0 := c_refCopy f.type ht.ty
 refine en_ Tryz.func44 [.cell 2 29] fun g0 w0 gen hrel hfr hfr' hres => ?_
 refine wq_ ?_
 clear hc0
 refine AR_loop_nat (fun i σ => σ.tm 17 = .int .i64 i ∧ σ.tm 16 = .int .i64 f.terms.length ∧ σ.tm 15 = .sl .any (f.terms.map Tm.cells) ∧ σ.tm 1 = .ptr ⟨gen, 0, 0⟩ 0 ∧ σ.tm 2 = .ptr ⟨gen, 0, 1⟩ 0 ∧
  σ.tm 3 = .ptr ⟨gen, 1, 6⟩ 0 ∧ σ.h ⟨gen, 0, 0⟩ = some (.box f.cells) ∧ σ.h ⟨gen, 0, 1⟩ = some (.box [.int .i64 0, .int .i64 0, .sl .full [], .sl .full [], .sl .full []]) ∧ Agree h σ.h ∧
  ∃ v, σ.h ⟨gen, 1, 6⟩ = some (.box [.int .i64 f.kind, .int .i64 f.type.kind, .sl .any (f.type.args.map Ty.cells), v, .sl .full []]) ∧ OwnS h σ.h v 5 ((f.terms.take i).map Tm.cells)) f.terms.length ?_ ?_
 ·simp only [go_sem, *]
  exact ⟨rfl, by repeat (first|exact Agree.refl _|refine Agree.new ?_ (hfr' _ _)), _, rfl, .inl (by simp)⟩
 intro i σ hi ⟨j1, j2, j3, j4, j5, j5', j6, j7, j8, v, jv, j9⟩
 refine AR_gen (fun gn hgn => ?_)
 have hgf := fresh_of hgn
 have hgf0 : ∀ r i, h ⟨gn, r, i⟩ = none := fun r i => agree_fresh j8 (hgf r i)
 have e1 := gen_ne hgn j6
 have e2 := gen_ne' hgn j6
 have hw := wrap_succ (i := i) (by omega)
 rcases Nat.lt_or_ge i f.terms.length with hlt | hge
 ·have hd := lt_true hlt
  obtain ⟨x, hx⟩ : ∃ x, f.terms[i]? = some x := ⟨_, List.getElem?_eq_getElem hlt⟩
  have hm := min_lt hlt
  have b1 : (i + 1) * 72 ≤ 140737488355328 := by omega
  have b2 : i + 1 ≤ 140737488355328 := by omega
  have hts := map_take_succ (f := Tm.cells) hx
  have hc := c_tmCopy x (ht.term (List.mem_of_getElem? hx))
  clear ih'
  rcases j9 with rfl | ⟨id, rfl, j10, j11⟩
  ·
   clear hgn
   repeat' (first
    |(refine ⟨?_,?_⟩; focus ((repeat' (first|refine ⟨?_,?_⟩|refine .inr ?_)); all_goals kernel_rfl))
    | (first|refine wp rfl ?_|refine spt rfl ?_|refine spf rfl ?_|(refine spl (fun hc => ?_) fun hc => ?_) <;> (try rw [beq_iff_eq] at hc) <;> try simp only [hc]|refine cp hc ?_)<;>try simp only [go_sem, *])
   refine AR_inv ?_
   simp only [go_sem, *]
   exact ⟨by repeat (first|assumption|refine Agree.new ?_ (hgf0 _ _)|refine Agree.new ?_ (hfr' _ _)), _, rfl, .inr ⟨_, rfl, by simp only [go_sem, *], by first|exact hgf0 _ _|assumption⟩⟩
  ·
   have e3 := fresh_ne hgn j10
   have e4 := fresh_ne' hgn j10
   have e5 := obj_ne j6 j10
   have e6 := obj_ne j7 j10
   have e7 := obj_ne jv j10
   have e8 := obj_ne' jv j10
   clear hgn
   repeat' (first
    |(refine ⟨?_,?_⟩; focus ((repeat' (first|refine ⟨?_,?_⟩|refine .inr ?_)); all_goals kernel_rfl))
    | (first|refine wp rfl ?_|refine spt rfl ?_|refine spf rfl ?_|(refine spl (fun hc => ?_) fun hc => ?_) <;> (try rw [beq_iff_eq] at hc) <;> try simp only [hc]|refine cp hc ?_)<;>try simp only [go_sem, *])
   refine AR_inv ?_
   simp only [go_sem, *]
   exact ⟨by repeat (first|assumption|refine Agree.new ?_ (hgf0 _ _)|refine Agree.new ?_ (hfr' _ _)|refine Agree.new ?_ j11), _, rfl, .inr ⟨_, rfl, by simp only [go_sem, *], by first|exact hgf0 _ _|assumption⟩⟩
 have hd := lt_false hge
 clear hgn
 obtain rfl : i = f.terms.length := by omega
 rw [List.take_length] at j9
 obtain ⟨c, rfl⟩ := j9.val
 clear j9
 refine wq_ ?_
 refine AR_loop_nat (fun i σ => σ.tm 32 = .int .i64 i ∧ σ.tm 31 = .int .i64 f.args.length ∧ σ.tm 30 = .sl .any (f.args.map Fm.cells) ∧ σ.tm 1 = .ptr ⟨gen, 0, 0⟩ 0 ∧ σ.tm 2 = .ptr ⟨gen, 0, 1⟩ 0 ∧
  σ.tm 3 = .ptr ⟨gen, 1, 6⟩ 0 ∧ σ.h ⟨gen, 0, 0⟩ = some (.box f.cells) ∧ σ.h ⟨gen, 0, 1⟩ = some (.box [.int .i64 0, .int .i64 0, .sl .full [], .sl .full [], .sl .full []]) ∧ Agree h σ.h ∧
  ∃ v, σ.h ⟨gen, 1, 6⟩ = some (.box [.int .i64 f.kind, .int .i64 f.type.kind, .sl .any (f.type.args.map Ty.cells), .sl c (f.terms.map Tm.cells), v]) ∧ OwnS h σ.h v 5 ((f.args.take i).map Fm.cells)) f.args.length ?_ ?_
 ·simp only [go_sem, *]
  exact ⟨rfl, _, rfl, .inl (by simp)⟩
 clear jv j1 j2 j3 j4 j5 j5' j6 j7 j8 hd hge hw hi hgf hgf0 e1 e2
 clear σ
 intro i σ hi ⟨j1, j2, j3, j4, j5, j5', j6, j7, j8, v, jv, j9⟩
 refine AR_gen (fun gn' hgn => ?_)
 have hgf := fresh_of hgn
 have hgf0 : ∀ r i, h ⟨gn', r, i⟩ = none := fun r i => agree_fresh j8 (hgf r i)
 have e1 := gen_ne hgn j6
 have e2 := gen_ne' hgn j6
 have hw := wrap_succ (i := i) (by omega)
 rcases Nat.lt_or_ge i f.args.length with hlt | hge
 ·have hd := lt_true hlt
  obtain ⟨x, hx⟩ : ∃ x, f.args[i]? = some x := ⟨_, List.getElem?_eq_getElem hlt⟩
  have hm := min_lt hlt
  have b1 : (i + 1) * 88 ≤ 140737488355328 := by omega
  have b2 : i + 1 ≤ 140737488355328 := by omega
  have hts := map_take_succ (f := Fm.cells) hx
  have hc := ih' x (List.mem_of_getElem? hx)
  clear ih'
  rcases j9 with rfl | ⟨id, rfl, j10, j11⟩
  ·
   clear hgn
   repeat' (first
    |(refine ⟨?_,?_⟩; focus ((repeat' (first|refine ⟨?_,?_⟩|refine .inr ?_)); all_goals kernel_rfl))
    | (first|refine wp rfl ?_|refine spt rfl ?_|refine spf rfl ?_|(refine spl (fun hc => ?_) fun hc => ?_) <;> (try rw [beq_iff_eq] at hc) <;> try simp only [hc]|refine cp hc ?_)<;>try simp only [go_sem, *])
   refine AR_inv ?_
   simp only [go_sem, *]
   exact ⟨by repeat (first|assumption|refine Agree.new ?_ (hgf0 _ _)|refine Agree.new ?_ (hfr' _ _)), _, rfl, .inr ⟨_, rfl, by simp only [go_sem, *], by first|exact hgf0 _ _|assumption⟩⟩
  ·
   have e3 := fresh_ne hgn j10
   have e4 := fresh_ne' hgn j10
   have e5 := obj_ne j6 j10
   have e6 := obj_ne j7 j10
   have e7 := obj_ne jv j10
   have e8 := obj_ne' jv j10
   clear hgn
   repeat' (first
    |(refine ⟨?_,?_⟩; focus ((repeat' (first|refine ⟨?_,?_⟩|refine .inr ?_)); all_goals kernel_rfl))
    | (first|refine wp rfl ?_|refine spt rfl ?_|refine spf rfl ?_|(refine spl (fun hc => ?_) fun hc => ?_) <;> (try rw [beq_iff_eq] at hc) <;> try simp only [hc]|refine cp hc ?_)<;>try simp only [go_sem, *])
   refine AR_inv ?_
   simp only [go_sem, *]
   exact ⟨by repeat (first|assumption|refine Agree.new ?_ (hgf0 _ _)|refine Agree.new ?_ (hfr' _ _)|refine Agree.new ?_ j11), _, rfl, .inr ⟨_, rfl, by simp only [go_sem, *], by first|exact hgf0 _ _|assumption⟩⟩
 have hd := lt_false hge
 clear hgn
 obtain rfl : i = f.args.length := by omega
 rw [List.take_length] at j9
 obtain ⟨c', rfl⟩ := j9.val
 clear j9
 refine wq_ ?_
 rw [Fm.cells_eq]
theorem c_Var (i : Int) : Pure Tryz.prog env 38 [.int .i64 i] (.agg (tmVar i).cells) := by
 intro h
 refine en_ Tryz.func38 [.cell 2 31] fun g0 w0 gen hrel hfr hfr' hres => ?_
 first|refine wq_ ?_|exact wk_
 all_goals simp [tmVar, Tm.mk_cells, Ty.mk_kind, Ty.mk_args]
theorem c_Eq (a b : Tm) (ha : TmW a) (hb : TmW b) : Pure Tryz.prog env 37 [.agg a.cells, .agg b.cells] (.agg (fmEq a b).cells) := by
 intro h
 refine en_ Tryz.func37 [.cell 4 29] fun g0 w0 gen hrel hfr hfr' hres => ?_
 repeat' (first
  |(refine ⟨?_,?_⟩; focus ((repeat' (first|refine ⟨?_,?_⟩|refine .inr ?_)); all_goals kernel_rfl))
  |exact hin _|exact agf (by assumption)
  | (first|refine wp rfl ?_|refine cp (c_tmCopy _ ha) ?_|refine cp (c_tmCopy _ hb) ?_|refine finF hrel ?_ ?_ ?_)<;>try simp only [go_sem, *])
 all_goals simp [fmEq, Fm.mk_cells, Ty.mk_kind, Ty.mk_args]
theorem c_fmTwo (k : Int) (a b : Fm) (ha : FmW a) (hb : FmW b) : Pure Tryz.prog env 42 [.int .i64 k, .agg a.cells, .agg b.cells] (.agg (fmTwo k a b).cells) := by
 intro h
 refine en_ Tryz.func42 [.cell 6 29] fun g0 w0 gen hrel hfr hfr' hres => ?_
 repeat' (first
  |(refine ⟨?_,?_⟩; focus ((repeat' (first|refine ⟨?_,?_⟩|refine .inr ?_)); all_goals kernel_rfl))
  |exact hin _|exact agf (by assumption)
  | (first|refine wp rfl ?_|refine cp (c_fmCopy _ ha) ?_|refine cp (c_fmCopy _ hb) ?_|refine finF hrel ?_ ?_ ?_)<;>try simp only [go_sem, *])
 all_goals simp [fmTwo, Fm.mk_cells, Ty.mk_kind, Ty.mk_args]
theorem c_fmQ (k : Int) (t : Ty) (a : Fm) (ht : TyW t) (ha : FmW a) : Pure Tryz.prog env 13 [.int .i64 k, .agg t.cells, .agg a.cells] (.agg (fmQ k t a).cells) := by
 intro h
 refine en_ Tryz.func13 [.cell 6 29] fun g0 w0 gen hrel hfr hfr' hres => ?_
 repeat' (first
  |(refine ⟨?_,?_⟩; focus ((repeat' (first|refine ⟨?_,?_⟩|refine .inr ?_)); all_goals kernel_rfl))
  |exact hin _|exact agf (by assumption)
  | (first|refine wp rfl ?_|refine cp (c_fmCopy _ ha) ?_|refine cp (c_refCopy _ ht) ?_|refine finF hrel ?_ ?_ ?_)<;>try simp only [go_sem, *])
 all_goals simp [fmQ, Fm.mk_cells, Ty.mk_kind, Ty.mk_args]
theorem c_refTwo (a b : Ty) (ha : TyW a) (hb : TyW b) : Pure Tryz.prog env 48 [.agg a.cells, .agg b.cells] (.agg (tPair a b).cells) := by
 intro h
 refine en_ Tryz.func48 [.cell 4 25] fun g0 w0 gen hrel hfr hfr' hres => ?_
 repeat' (first
  |(refine ⟨?_,?_⟩; focus ((repeat' (first|refine ⟨?_,?_⟩|refine .inr ?_)); all_goals kernel_rfl))
  |exact hin _|exact agf (by assumption)
  | (first|refine wp rfl ?_|refine cp (c_refCopy _ ha) ?_|refine cp (c_refCopy _ hb) ?_|refine finF hrel ?_ ?_ ?_)<;>try simp only [go_sem, *])
 all_goals simp [tPair, Ty.mk_cells]
theorem c_refFun (a b : Ty) (ha : TyW a) (hb : TyW b) : Pure Tryz.prog env 49 [.agg a.cells, .agg b.cells] (.agg (tFun a b).cells) := by
 intro h
 refine en_ Tryz.func49 [.cell 4 25] fun g0 w0 gen hrel hfr hfr' hres => ?_
 repeat' (first
  |(refine ⟨?_,?_⟩; focus ((repeat' (first|refine ⟨?_,?_⟩|refine .inr ?_)); all_goals kernel_rfl))
  |exact hin _|exact agf (by assumption)
  | (first|refine wp rfl ?_|refine cp (c_refCopy _ ha) ?_|refine cp (c_refCopy _ hb) ?_|refine finF hrel ?_ ?_ ?_)<;>try simp only [go_sem, *])
 all_goals simp [tFun, Ty.mk_cells]
theorem c_Few (l : List Int) : Pure Tryz.prog env 5 [.sl .any (ints l)] (.bool (decide ((l.length : Int) ≤ 500))) := by
 intro h
 exact ek_ Tryz.func5 [.tmp 2]
theorem c_Mod (n k : Int) (hk : k ≠ 0) : Pure Tryz.prog env 87 [.int .i64 n, .int .i64 k] (.int .i64 (modI n k)) := by
 intro h
 refine en_ Tryz.func87 [.tmp 4] fun g0 w0 gen hrel hfr hfr' hres => ?_
 first|refine wq_ ?_|exact wk_
 all_goals simp [modI]
theorem ne_of_beq {a b : Int} {r : Bool} (h : (a == b) = r) : (a != b) = !r := by simp [bne, h]
theorem sameTyL_len : ∀ {l l' : List Ty}, Ty.sameL l l' = true → l.length = l'.length
 | [], [], _ => rfl
 | a :: l, b :: l', h => by simp only [Ty.sameL, Bool.and_eq_true] at h; simp [sameTyL_len h.2]
 | [], _ :: _, h => by simp [Ty.sameL] at h
 | _ :: _, [], h => by simp [Ty.sameL] at h
theorem sameTmL_len : ∀ {l l' : List Tm}, Tm.sameL l l' = true → l.length = l'.length
 | [], [], _ => rfl
 | a :: l, b :: l', h => by simp only [Tm.sameL, Bool.and_eq_true] at h; simp [sameTmL_len h.2]
 | [], _ :: _, h => by simp [Tm.sameL] at h
 | _ :: _, [], h => by simp [Tm.sameL] at h
theorem sameFmL_len : ∀ {l l' : List Fm}, Fm.sameL l l' = true → l.length = l'.length
 | [], [], _ => rfl
 | a :: l, b :: l', h => by simp only [Fm.sameL, Bool.and_eq_true] at h; simp [sameFmL_len h.2]
 | [], _ :: _, h => by simp [Fm.sameL] at h
 | _ :: _, [], h => by simp [Fm.sameL] at h
theorem sameTyL_ne {l l' : List Ty} (h : ((l.length : Int) == (l'.length : Int)) = false) : Ty.sameL l l' = false := by
 cases e : Ty.sameL l l' with
 | true => rw [sameTyL_len e] at h; simp at h
 | false => rfl
theorem sameTmL_ne {l l' : List Tm} (h : ((l.length : Int) == (l'.length : Int)) = false) : Tm.sameL l l' = false := by
 cases e : Tm.sameL l l' with
 | true => rw [sameTmL_len e] at h; simp at h
 | false => rfl
theorem sameFmL_ne {l l' : List Fm} (h : ((l.length : Int) == (l'.length : Int)) = false) : Fm.sameL l l' = false := by
 cases e : Fm.sameL l l' with
 | true => rw [sameFmL_len e] at h; simp at h
 | false => rfl
theorem get_same {α β : Type} {l : List α} {l' : List β} (h : ((l.length : Int) == (l'.length : Int)) = true) : ∀ (i : Nat) (x : α), l[i]? = some x → ∃ y, l'[i]? = some y := by
 intro i x hx
 have := (List.getElem?_eq_some_iff.1 hx).1
 simp at h
 exact ⟨_, List.getElem?_eq_getElem (by omega)⟩
theorem c_SameType : ∀ a : Ty, TyW a → ∀ b : Ty, TyW b → Pure Tryz.prog env 118 [.agg a.cells, .agg b.cells] (.bool (Ty.same a b)) := by
 intro a
 induction a using Ty.ind with | h a ih => ?_
 intro ha b hb h
 have hlen := ha.len
 have ih' : ∀ x ∈ a.args, ∀ y ∈ b.args, Pure Tryz.prog env 118 [.agg x.cells, .agg y.cells] (.bool (Ty.same x y)) := fun x hx y hy => ih x hx (ha.arg hx) y (hb.arg hy)
 clear ih ha hb
 have hse := (Ty.same_eq a b).symm
 generalize Ty.same a b = v at hse ⊢
 cases k1 : (a.kind == b.kind) with
 | false =>
  rw [k1] at hse
  simp only [Bool.false_and] at hse
  subst hse
  have k1' := ne_of_beq k1
  clear k1 ih'
  exact ek_ Tryz.func118 [.tmp 4]
 | true =>
 have k1' := ne_of_beq k1
 cases k2 : ((a.args.length : Int) == (b.args.length : Int)) with
 | false =>
  rw [k1, sameTyL_ne k2] at hse
  simp only [Bool.and_false] at hse
  subst hse
  have k2' := ne_of_beq k2
  clear k1 k2 ih'
  exact ek_ Tryz.func118 [.tmp 4]
 | true =>
  have k2' := ne_of_beq k2
  have hget := get_same k2
  rw [k1] at hse
  simp only [Bool.true_and] at hse
  have hln : a.args.length ≤ b.args.length ∧ b.args.length ≤ a.args.length := by simp at k2; omega
  clear k1 k2
  simp only [Bool.not_true] at k1' k2'
  refine en_ Tryz.func118 [.tmp 4] fun g0 w0 gen hrel hfr hfr' hres => ?_
  refine wq_ ?_
  refine ar_ [3, 22] [⟨gen, 0, 1⟩] (fun i σ => Agree h σ.h ∧ Ty.sameL (a.args.drop i) (b.args.drop i) = v) (a.args).length ?_ ?_ ?_
  ·simp only [go_sem, *]
   first | done|exact ag_|exact ⟨ag_, hse⟩|exact hse
  ·clear hse
   intro i σ gr0 hgl_gr0 hgn hlt jI jN jS ⟨jA, jv⟩
   obtain ⟨jT, jB⟩ := jS
   simp only [go_sem] at jT jB
   obtain ⟨hgf, hgf0, eg_gen_gr0, eh_gen_gr0⟩ := rnd hgn hgl_gr0 jA
   obtain ⟨x, hx, hxm, hm⟩ := rnx hlt
   clear hgn
   obtain ⟨y, hy⟩ := hget i x hx
   rw [drop_get hx, drop_get hy, Ty.sameL] at jv
   have hc := ih' x hxm y (List.mem_of_getElem? hy)
   clear ih' hget
   cases hxy : Ty.same x y with
   | false =>
    rw [hxy] at hc jv
    simp only [Bool.false_and] at jv
    subst jv
    exact wk_
   | true =>
    rw [hxy] at hc jv
    simp only [Bool.true_and] at jv
    refine wq_ ?_
    first | done|exact ag_|exact ⟨ag_, jv⟩|exact jv
  ·clear hse
   intro σ ga0 hgl_ga0 hgn jS ⟨jA, jv⟩
   obtain ⟨jT, jB⟩ := jS
   simp only [go_sem] at jT jB
   obtain ⟨hgf, hgf0, eg_gen_ga0, eh_gen_ga0⟩ := rnd hgn hgl_ga0 jA
   clear hgn
   have hq : a.args.length = b.args.length := by omega
   rw [List.drop_length, hq, List.drop_length, Ty.sameL] at jv
   subst jv
   clear ih' hget hq hln
   exact wk_
theorem c_SameTerm : ∀ a : Tm, TmW a → ∀ b : Tm, TmW b → Pure Tryz.prog env 119 [.agg a.cells, .agg b.cells] (.bool (Tm.same a b)) := by
 intro a
 induction a using Tm.ind with | h a ih => ?_
 intro ha b hb h
 have hlen := ha.len
 have ih' : ∀ x ∈ a.args, ∀ y ∈ b.args, Pure Tryz.prog env 119 [.agg x.cells, .agg y.cells] (.bool (Tm.same x y)) := fun x hx y hy => ih x hx (ha.arg hx) y (hb.arg hy)
 have hT := c_SameType a.type ha.ty b.type hb.ty
 clear ih ha hb
 have hse := (Tm.same_eq a b).symm
 generalize Tm.same a b = v at hse ⊢
 cases k1 : (a.kind == b.kind) with
 | false =>
  rw [k1] at hse
  simp only [Bool.false_and] at hse
  subst hse
  have k1' := ne_of_beq k1
  clear k1 ih'
  exact ek_ Tryz.func119 [.tmp 4]
 | true =>
 have k1' := ne_of_beq k1
 rw [k1] at hse
 simp only [Bool.true_and] at hse
 cases k3 : (a.index == b.index) with
 | false =>
  rw [k3] at hse
  simp only [Bool.false_and] at hse
  subst hse
  have k3' := ne_of_beq k3
  clear k1 k3 ih'
  exact ek_ Tryz.func119 [.tmp 4]
 | true =>
 have k3' := ne_of_beq k3
 rw [k3] at hse
 simp only [Bool.true_and] at hse
 cases k4 : Ty.same a.type b.type with
 | false =>
  rw [k4] at hse hT
  simp only [Bool.false_and] at hse
  subst hse
  clear k1 k3 k4 ih'
  exact ek_ Tryz.func119 [.tmp 4]
 | true =>
 rw [k4] at hse hT
 simp only [Bool.true_and] at hse
 clear k1 k3 k4
 cases k2 : ((a.args.length : Int) == (b.args.length : Int)) with
 | false =>
  rw [sameTmL_ne k2] at hse
  subst hse
  have k2' := ne_of_beq k2
  clear k2 ih'
  exact ek_ Tryz.func119 [.tmp 4]
 | true =>
  have k2' := ne_of_beq k2
  have hget := get_same k2
  have hln : a.args.length ≤ b.args.length ∧ b.args.length ≤ a.args.length := by simp at k2; omega
  clear k2
  simp only [Bool.not_true] at k1' k2' k3'
  refine en_ Tryz.func119 [.tmp 4] fun g0 w0 gen hrel hfr hfr' hres => ?_
  refine wq_ ?_
  refine ar_ [3, 37] [⟨gen, 0, 1⟩] (fun i σ => Agree h σ.h ∧ Tm.sameL (a.args.drop i) (b.args.drop i) = v) (a.args).length ?_ ?_ ?_
  ·simp only [go_sem, *]
   first | done|exact ag_|exact ⟨ag_, hse⟩|exact hse
  ·clear hse
   intro i σ gr0 hgl_gr0 hgn hlt jI jN jS ⟨jA, jv⟩
   obtain ⟨jT, jB⟩ := jS
   simp only [go_sem] at jT jB
   obtain ⟨hgf, hgf0, eg_gen_gr0, eh_gen_gr0⟩ := rnd hgn hgl_gr0 jA
   obtain ⟨x, hx, hxm, hm⟩ := rnx hlt
   clear hgn
   obtain ⟨y, hy⟩ := hget i x hx
   rw [drop_get hx, drop_get hy, Tm.sameL] at jv
   have hc := ih' x hxm y (List.mem_of_getElem? hy)
   clear ih' hget
   cases hxy : Tm.same x y with
   | false =>
    rw [hxy] at hc jv
    simp only [Bool.false_and] at jv
    subst jv
    exact wk_
   | true =>
    rw [hxy] at hc jv
    simp only [Bool.true_and] at jv
    refine wq_ ?_
    first | done|exact ag_|exact ⟨ag_, jv⟩|exact jv
  ·clear hse
   intro σ ga0 hgl_ga0 hgn jS ⟨jA, jv⟩
   obtain ⟨jT, jB⟩ := jS
   simp only [go_sem] at jT jB
   obtain ⟨hgf, hgf0, eg_gen_ga0, eh_gen_ga0⟩ := rnd hgn hgl_ga0 jA
   clear hgn
   have hq : a.args.length = b.args.length := by omega
   rw [List.drop_length, hq, List.drop_length, Tm.sameL] at jv
   subst jv
   clear ih' hget hq hln
   exact wk_
theorem c_SameFormula : ∀ a : Fm, FmW a → ∀ b : Fm, FmW b → Pure Tryz.prog env 91 [.agg a.cells, .agg b.cells] (.bool (Fm.same a b)) := by
 intro a
 induction a using Fm.ind with | h a ih => ?_
 intro ha b hb h
 have hlen := ha.len
 have htlen := ha.tlen
 have ih' : ∀ x ∈ a.args, ∀ y ∈ b.args, Pure Tryz.prog env 91 [.agg x.cells, .agg y.cells] (.bool (Fm.same x y)) := fun x hx y hy => ih x hx (ha.arg hx) y (hb.arg hy)
 have hT := c_SameType a.type ha.ty b.type hb.ty
 have ht' : ∀ x ∈ a.terms, ∀ y ∈ b.terms, Pure Tryz.prog env 119 [.agg x.cells, .agg y.cells] (.bool (Tm.same x y)) := fun x hx y hy => c_SameTerm x (ha.term hx) y (hb.term hy)
 clear ih ha hb
 have hse := (Fm.same_eq a b).symm
 generalize Fm.same a b = v at hse ⊢
 cases k1 : (a.kind == b.kind) with
 | false =>
  rw [k1] at hse
  simp only [Bool.false_and] at hse
  subst hse
  have k1' := ne_of_beq k1
  clear k1 ih' ht'
  exact ek_ Tryz.func91 [.tmp 4]
 | true =>
 have k1' := ne_of_beq k1
 rw [k1] at hse
 simp only [Bool.true_and] at hse
 cases k4 : Ty.same a.type b.type with
 | false =>
  rw [k4] at hse hT
  simp only [Bool.false_and] at hse
  subst hse
  clear k1 k4 ih' ht'
  exact ek_ Tryz.func91 [.tmp 4]
 | true =>
 rw [k4] at hse hT
 simp only [Bool.true_and] at hse
 clear k1 k4
 cases k3 : ((a.terms.length : Int) == (b.terms.length : Int)) with
 | false =>
  rw [sameTmL_ne k3] at hse
  simp only [Bool.false_and] at hse
  subst hse
  have k3' := ne_of_beq k3
  clear k3 ih' ht'
  exact ek_ Tryz.func91 [.tmp 4]
 | true =>
 have k3' := ne_of_beq k3
 have hget3 := get_same k3
 have hln3 : a.terms.length ≤ b.terms.length ∧ b.terms.length ≤ a.terms.length := by simp at k3; omega
 clear k3
 cases k2 : ((a.args.length : Int) == (b.args.length : Int)) with
 | false =>
  rw [sameFmL_ne k2] at hse
  simp only [Bool.and_false] at hse
  subst hse
  have k2' := ne_of_beq k2
  clear k2 ih' ht' hget3 hln3
  exact ek_ Tryz.func91 [.tmp 4]
 | true =>
  have k2' := ne_of_beq k2
  have hget := get_same k2
  have hln : a.args.length ≤ b.args.length ∧ b.args.length ≤ a.args.length := by simp at k2; omega
  clear k2
  simp only [Bool.not_true] at k1' k2' k3'
  refine en_ Tryz.func91 [.tmp 4] fun g0 w0 gen hrel hfr hfr' hres => ?_
  refine wq_ ?_
  refine ar_ [2, 3, 41] [⟨gen, 0, 0⟩, ⟨gen, 0, 1⟩] (fun i σ => Agree h σ.h ∧ (Tm.sameL (a.terms.drop i) (b.terms.drop i) && Fm.sameL a.args b.args) = v) (a.terms).length ?_ ?_ ?_
  ·simp only [go_sem, *]
   first | done|exact ag_|exact ⟨ag_, hse⟩|exact hse
  ·clear hse ih' hget
   intro i σ gr0 hgl_gr0 hgn hlt jI jN jS ⟨jA, jv⟩
   obtain ⟨jT, jB⟩ := jS
   simp only [go_sem] at jT jB
   obtain ⟨hgf, hgf0, eg_gen_gr0, eh_gen_gr0⟩ := rnd hgn hgl_gr0 jA
   obtain ⟨x, hx, hxm, hm⟩ := rnx hlt
   clear hgn
   obtain ⟨y, hy⟩ := hget3 i x hx
   rw [drop_get hx, drop_get hy, Tm.sameL] at jv
   have hc := ht' x hxm y (List.mem_of_getElem? hy)
   clear ht' hget3
   cases hxy : Tm.same x y with
   | false =>
    rw [hxy] at hc jv
    simp only [Bool.false_and] at jv
    subst jv
    exact wk_
   | true =>
    rw [hxy] at hc jv
    simp only [Bool.true_and] at jv
    refine wq_ ?_
    first | done|exact ag_|exact ⟨ag_, jv⟩|exact jv
  clear hse ht' hget3
  intro σ ga0 hgl_ga0 hgn jS ⟨jA, jv0⟩
  obtain ⟨jT, jB⟩ := jS
  simp only [go_sem] at jT jB
  obtain ⟨hgf, hgf0, eg_gen_ga0, eh_gen_ga0⟩ := rnd hgn hgl_ga0 jA
  clear hgn
  have hq : a.terms.length = b.terms.length := by omega
  rw [List.drop_length, hq, List.drop_length, Tm.sameL] at jv0
  simp only [Bool.true_and] at jv0
  clear hq hln3
  refine wq_ ?_
  refine ar_ [3, 58] [⟨gen, 0, 1⟩] (fun i σ => Agree h σ.h ∧ Fm.sameL (a.args.drop i) (b.args.drop i) = v) (a.args).length ?_ ?_ ?_
  ·simp only [go_sem, *]
   first | done|exact ag_|exact ⟨ag_, jv0⟩|exact jv0
  ·clear jv0
   intro i σ gr1 hgl_gr1 hgn hlt jI jN jS ⟨jA, jv⟩
   obtain ⟨jT, jB⟩ := jS
   simp only [go_sem] at jT jB
   have hgf := fresh_of hgn
   have hgf0 := fun r i => agree_fresh jA (hgf r i)
   have eg_gen_gr1 := gen_lt (show gen < gr1 by omega)
   have eh_gen_gr1 := gen_lt' (show gen < gr1 by omega)
   have eg_ga0_gr1 := gen_lt (show ga0 < gr1 by omega)
   have eh_ga0_gr1 := gen_lt' (show ga0 < gr1 by omega)
   obtain ⟨x, hx, hxm, hm⟩ := rnx hlt
   clear hgn
   obtain ⟨y, hy⟩ := hget i x hx
   rw [drop_get hx, drop_get hy, Fm.sameL] at jv
   have hc := ih' x hxm y (List.mem_of_getElem? hy)
   clear ih' hget
   cases hxy : Fm.same x y with
   | false =>
    rw [hxy] at hc jv
    simp only [Bool.false_and] at jv
    subst jv
    exact wk_
   | true =>
    rw [hxy] at hc jv
    simp only [Bool.true_and] at jv
    refine wq_ ?_
    first | done|exact ag_|exact ⟨ag_, jv⟩|exact jv
  ·clear jv0
   intro σ ga1 hgl_ga1 hgn jS ⟨jA, jv⟩
   obtain ⟨jT, jB⟩ := jS
   simp only [go_sem] at jT jB
   have hgf := fresh_of hgn
   have hgf0 := fun r i => agree_fresh jA (hgf r i)
   have eg_gen_ga1 := gen_lt (show gen < ga1 by omega)
   have eh_gen_ga1 := gen_lt' (show gen < ga1 by omega)
   have eg_ga0_ga1 := gen_lt (show ga0 < ga1 by omega)
   have eh_ga0_ga1 := gen_lt' (show ga0 < ga1 by omega)
   clear hgn
   have hq : a.args.length = b.args.length := by omega
   rw [List.drop_length, hq, List.drop_length, Fm.sameL] at jv
   subst jv
   clear ih' hget hq hln
   exact wk_
theorem c_N (k : Int) (l : List Tm) (hl : l.length ≤ 1000) (hw0 : ∀ x ∈ l, TmW x) : Pure Tryz.prog env 65 [.int .i64 k, .sl .any (l.map Tm.cells)] (.agg (tm0 k l).cells) := by
 intro h
 have ih' : ∀ x ∈ l, Pure Tryz.prog env 85 [.agg x.cells] (.agg x.cells) := fun x hx => c_tmCopy x (hw0 x hx)
 clear hw0
 refine en_ Tryz.func65 [.cell 4 31] fun g0 w0 gen hrel hfr hfr' hres => ?_
 refine wq_ ?_
 refine AR_loop_nat (fun i σ => σ.tm 10 = .int .i64 i ∧ σ.tm 9 = .int .i64 l.length ∧ σ.tm 8 = .sl .any (l.map Tm.cells) ∧ σ.tm 0 = .int .i64 k ∧ σ.tm 4 = .ptr ⟨gen, 0, 0⟩ 0 ∧
  σ.h ⟨gen, 0, 0⟩ = some (.box [.int .i64 0, .int .i64 0, .int .i64 0, .sl .full [], .sl .full []]) ∧ Agree h σ.h ∧ OwnS h σ.h (σ.tm 5) 5 ((l.take i).map Tm.cells)) l.length ?_ ?_
 ·simp only [go_sem, *]
  exact ⟨rfl, .new (.refl _) (hfr' _ _), .inl (by simp)⟩
 intro i σ hi ⟨j1, j2, j3, j4, j5, j6, j8, j9⟩
 refine AR_gen (fun gn hgn => ?_)
 have hgf := fresh_of hgn
 have hgf0 : ∀ r i, h ⟨gn, r, i⟩ = none := fun r i => agree_fresh j8 (hgf r i)
 have e1 := gen_ne hgn j6
 have e2 := gen_ne' hgn j6
 have hw := wrap_succ (i := i) (by omega)
 rcases Nat.lt_or_ge i l.length with hlt | hge
 ·have hd := lt_true hlt
  obtain ⟨x, hx⟩ : ∃ x, l[i]? = some x := ⟨_, List.getElem?_eq_getElem hlt⟩
  have hm := min_lt hlt
  have b1 : (i + 1) * 72 ≤ 140737488355328 := by omega
  have b2 : i + 1 ≤ 140737488355328 := by omega
  have hts := map_take_succ (f := Tm.cells) hx
  have hc := ih' x (List.mem_of_getElem? hx)
  rcases j9 with j9 | ⟨id, j9, j10, j11⟩
  ·
   clear hgn
   repeat' (first
    | (first|refine wp rfl ?_|refine spt rfl ?_|refine spf rfl ?_|(refine spl (fun hc => ?_) fun hc => ?_) <;> (try rw [beq_iff_eq] at hc) <;> try simp only [hc]|refine cp hc ?_)<;>try simp only [go_sem, *])
   refine AR_inv ?_
   simp only [go_sem, *]
   exact ⟨by repeat (first|assumption|refine Agree.new ?_ (hgf0 _ _)|refine Agree.new ?_ j11), .inr ⟨_, rfl, by simp only [go_sem, *], by first|exact hgf0 _ _|assumption⟩⟩
  ·
   have e3 := fresh_ne hgn j10
   have e4 := fresh_ne' hgn j10
   have e5 := obj_ne j6 j10
   clear hgn
   repeat' (first
    | (first|refine wp rfl ?_|refine spt rfl ?_|refine spf rfl ?_|(refine spl (fun hc => ?_) fun hc => ?_) <;> (try rw [beq_iff_eq] at hc) <;> try simp only [hc]|refine cp hc ?_)<;>try simp only [go_sem, *])
   refine AR_inv ?_
   simp only [go_sem, *]
   exact ⟨by repeat (first|assumption|refine Agree.new ?_ (hgf0 _ _)|refine Agree.new ?_ j11), .inr ⟨_, rfl, by simp only [go_sem, *], by first|exact hgf0 _ _|assumption⟩⟩
 ·have hd := lt_false hge
  clear hgn
  obtain rfl : i = l.length := by omega
  rw [List.take_length] at j9
  obtain ⟨c, j9⟩ := j9.val
  refine wq_ ?_
  simp [tm0, Tm.mk_cells, Ty.mk_kind, Ty.mk_args]
theorem c_T (k : Int) (t : Ty) (l : List Tm) (ht : TyW t) (hl : l.length ≤ 1000) (hw0 : ∀ x ∈ l, TmW x) :
  Pure Tryz.prog env 66 [.int .i64 k, .agg t.cells, .sl .any (l.map Tm.cells)] (.agg (tmT k t l).cells) := by
 intro h
 have h1 := c_N k l hl hw0
 have h2 := c_refCopy t ht
 clear hw0
 rw [tm0, Tm.mk_cells] at h1
 simp only [Ty.mk_kind, Ty.mk_args, List.map_nil] at h1
 refine en_ Tryz.func66 [.cell 6 31] fun g0 w0 gen hrel hfr hfr' hres => ?_
 first|refine wq_ ?_|exact wk_
 all_goals simp [tmT, Tm.mk_cells, tm0, Tm.cells_eq, Tm.kind, Tm.index, Tm.type, Tm.args]
theorem Ty.sameL_len : ∀ {l l' : List Ty}, Ty.sameL l l' = true → l.length = l'.length
 | [], [], _ => rfl
 | a :: l, b :: l', h => by
  simp only [Ty.sameL, Bool.and_eq_true] at h
  simp [Ty.sameL_len h.2]
 | [], _ :: _, h => by simp [Ty.sameL] at h
 | _ :: _, [], h => by simp [Ty.sameL] at h
theorem Ty.sameL_all : ∀ {l l' : List Ty}, l.length = l'.length → (∀ (j : Nat) x y, l[j]? = some x → l'[j]? = some y → Ty.same x y = true) → Ty.sameL l l' = true
 | [], [], _, _ => by simp [Ty.sameL]
 | a :: l, b :: l', h, q => by
  simp only [Ty.sameL, Bool.and_eq_true]
  exact ⟨q 0 a b rfl rfl, Ty.sameL_all (by simpa using h) fun j x y h1 h2 => q (j + 1) x y (by simpa using h1) (by simpa using h2)⟩
 | [], _ :: _, h, _ => by simp at h
 | _ :: _, [], h, _ => by simp at h
theorem Ty.sameL_get : ∀ {l l' : List Ty}, Ty.sameL l l' = true → ∀ (j : Nat) x y, l[j]? = some x → l'[j]? = some y → Ty.same x y = true
 | [], _, _, j, x, y, h1, h2 => by simp at h1
 | a :: l, b :: l', h, 0, x, y, h1, h2 => by
  simp only [Ty.sameL, Bool.and_eq_true] at h
  simp at h1 h2; subst h1; subst h2; exact h.1
 | a :: l, b :: l', h, j + 1, x, y, h1, h2 => by
  simp only [Ty.sameL, Bool.and_eq_true] at h
  exact Ty.sameL_get h.2 j x y (by simpa using h1) (by simpa using h2)
 | _ :: _, [], h, j, x, y, h1, h2 => by simp at h2
theorem c_refSame : ∀ a : Ty, TyW a → ∀ b : Ty, TyW b → Pure Tryz.prog env 31 [.agg a.cells, .agg b.cells] (.bool (Ty.same a b)) := by
 intro a
 induction a using Ty.ind with | h a ih => ?_
 intro ha b hb h
 have hlen := ha.len
 have hlen2 := hb.len
 have ih' : ∀ x ∈ a.args, ∀ y ∈ b.args, Pure Tryz.prog env 31 [.agg x.cells, .agg y.cells] (.bool (Ty.same x y)) := fun x hx y hy => ih x hx (ha.arg hx) y (hb.arg hy)
 clear ih
 refine en_ Tryz.func31 [.tmp 4] fun g0 w0 gen hrel hfr hfr' hres => ?_
 by_cases hk : a.kind = b.kind
 case neg =>
  have hk1 : (a.kind != b.kind) = true := by simp [hk]
  have hk2 : (a.kind == b.kind) = false := by simp [hk]
  have hs : Ty.same a b = false := by rw [Ty.same_eq, hk2]; rfl
  clear ih'
  exact wk_
 by_cases hl : a.args.length = b.args.length
 case neg =>
  have hk0 : (a.kind != b.kind) = false := by simp [hk]
  have hk1 : ((a.args.length : Int) != (b.args.length : Int)) = true := by simp; omega
  have hs : Ty.same a b = false := by
   rw [Ty.same_eq]
   cases e : Ty.sameL a.args b.args with
   | true => exact absurd (Ty.sameL_len e) hl
   | false => simp
  clear ih'
  exact wk_
 have hk0 : (b.kind != b.kind) = false := by simp
 have hk1 : ((b.args.length : Int) != (b.args.length : Int)) = false := by simp
 clear hlen2
 refine wq_ ?_
 refine AR_loop_nat (fun i σ => σ.tm 23 = .int .i64 i ∧ σ.tm 22 = .int .i64 b.args.length ∧ σ.tm 2 = .ptr ⟨gen, 0, 0⟩ 0 ∧ σ.tm 3 = .ptr ⟨gen, 0, 1⟩ 0 ∧
  σ.h ⟨gen, 0, 0⟩ = some (.box a.cells) ∧ σ.h ⟨gen, 0, 1⟩ = some (.box b.cells) ∧ Agree h σ.h ∧ ∀ j x y, j < i → a.args[j]? = some x → b.args[j]? = some y → Ty.same x y = true) b.args.length ?_ ?_
 ·simp only [go_sem, *]
  exact ⟨rfl, .new (.new (.refl _) (hfr' _ _)) (hfr' _ _), fun j x y hj => absurd hj (by omega)⟩
 intro i σ hi ⟨j1, j2, j3, j4, j5, j6, j7, j8⟩
 refine AR_gen (fun gn hgn => ?_)
 have hw := wrap_succ (i := i) (by omega)
 clear hgn
 have hs0 : Ty.same a b = Ty.sameL a.args b.args := by rw [Ty.same_eq, hk]; simp
 rcases Nat.lt_or_ge i b.args.length with hlt | hge
 ·have hd := lt_true hlt
  obtain ⟨x, hx⟩ : ∃ x, a.args[i]? = some x := ⟨_, List.getElem?_eq_getElem (by omega)⟩
  obtain ⟨y, hy⟩ : ∃ y, b.args[i]? = some y := ⟨_, List.getElem?_eq_getElem hlt⟩
  have hc := ih' x (List.mem_of_getElem? hx) y (List.mem_of_getElem? hy)
  clear ih'
  cases hxy : Ty.same x y with
  | false =>
   have hs : Ty.same a b = false := by
    rw [hs0]
    cases e : Ty.sameL a.args b.args with
    | true => rw [Ty.sameL_get e i x y hx hy] at hxy; cases hxy
    | false => rfl
   clear j8 hs0
   rw [hxy] at hc
   exact wk_
  | true =>
   rw [hxy] at hc
   have j8' : ∀ j x y, j < i + 1 → a.args[j]? = some x → b.args[j]? = some y → Ty.same x y = true := by
    intro j x' y' hj h1 h2
    rcases Nat.lt_or_ge j i with h | h
    ·exact j8 j x' y' h h1 h2
    ·obtain rfl : j = i := by omega
     rw [hx] at h1; rw [hy] at h2; cases h1; cases h2; exact hxy
   clear j8 hs0
   repeat' (first
    |(refine ⟨?_,?_⟩; focus ((repeat' (first|refine ⟨?_,?_⟩|refine .inr ?_)); all_goals kernel_rfl))
    | (first|refine wp rfl ?_|refine spt rfl ?_|refine spf rfl ?_|(refine spl (fun hc => ?_) fun hc => ?_) <;> (try rw [beq_iff_eq] at hc) <;> try simp only [hc]|(refine gs (fun hb => ?_) fun hb => ?_) <;> try simp only [Bool.not_true, Bool.not_false] at hb|refine cp hc ?_)<;>try simp only [go_sem, *])
   refine AR_inv ?_
   simp only [go_sem, *]
   exact j8'
 ·have hd := lt_false hge
  obtain rfl : i = b.args.length := by omega
  have hs : Ty.same a b = true := by
   rw [hs0]
   refine Ty.sameL_all hl fun j x y h1 h2 => j8 j x y ?_ h1 h2
   have := (List.getElem?_eq_some_iff.1 h1).1
   omega
  clear ih' j8 hs0
  exact wk_
end Go.Proofs.YtmbpmbofehmdaaaGreatDoor
