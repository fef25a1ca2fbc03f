/-
 Walks: the type of a node.
-/
import Derived.Test.YtenelbgbjmijiaaGreatDoorOa
set_option linter.unusedSimpArgs false
set_option linter.unusedVariables false
set_option maxRecDepth 20000
set_option maxHeartbeats 4000000
namespace Go.Proofs.YtenelbgbjmijiaaGreatDoor
open Go GoAbs Go.Proofs
def zS : List V := [.int .i64 0, .sl .any [], .int .i64 0]
def padS (ts : List Ty) : List V := ts.flatMap szC ++ (List.replicate (3 - ts.length) zS).flatten
theorem padS0 : padS [] = [.int .i64 0, .sl .any [], .int .i64 0, .int .i64 0, .sl .any [], .int .i64 0, .int .i64 0, .sl .any [], .int .i64 0] := rfl
theorem padS1 {a : Ty} : padS [a] = [.int .i64 a.kind, .sl .any (a.args.map Ty.cells), .int .i64 (tyN a), .int .i64 0, .sl .any [], .int .i64 0, .int .i64 0, .sl .any [], .int .i64 0] := rfl
theorem padS2 {a b : Ty} : padS [a, b] = [.int .i64 a.kind, .sl .any (a.args.map Ty.cells), .int .i64 (tyN a), .int .i64 b.kind, .sl .any (b.args.map Ty.cells), .int .i64 (tyN b), .int .i64 0, .sl .any [], .int .i64 0] := rfl
theorem padS3 {a b c : Ty} : padS [a, b, c] = [.int .i64 a.kind, .sl .any (a.args.map Ty.cells), .int .i64 (tyN a), .int .i64 b.kind, .sl .any (b.args.map Ty.cells), .int .i64 (tyN b), .int .i64 c.kind, .sl .any (c.args.map Ty.cells), .int .i64 (tyN c)] := rfl
theorem c_node0 (t : Tm) (k : Int) (hk : plainK t.kind = [k]) (hw : TyW (.mk k [])) : Pure Tryz.prog env 229 [.agg t.cells, .agg (padS [])] (.tup [.agg (szC (.mk k [])), .int .i64 0]) := by
 intro h
 have h1 := c_plainK t.kind _ hk
 have h2 := c_sOf (.mk k []) hw
 simp only [ty_cells, Ty.mk_kind, Ty.mk_args, List.map_nil, List.map_cons] at h1 h2
 rw [padS0]
 unfold szC at *
 simp only [Ty.mk_kind, Ty.mk_args, List.map_nil] at *
 clear hk
 have mn : ∀ (f : Operand → V), Option.map f none = none := fun _ => rfl
 have p1 : decide (((1 : Nat) : Int) > 0) = true := rfl
 have p2 : decide (((2 : Nat) : Int) > 0) = true := rfl
 have p3 : decide (((3 : Nat) : Int) > 0) = true := rfl
 refine en Tryz.func229 [.cell 4 187, .tmp 5] rfl rfl fun g0 w0 gen hrel hfr hfr' hres => ?_
 repeat' (first
  | (refine ⟨?_, ?_⟩; focus ((repeat' (first | refine And.intro ?_ ?_ | refine Or.inr ?_)); all_goals kernel_rfl))
  | (first | refine wp rfl ?_ | refine spt rfl ?_ | refine spf rfl ?_ | (refine spl (fun hc => ?_) fun hc => ?_) <;> (try rw [beq_iff_eq] at hc) <;> try simp only [hc] | (refine gs (fun hb => ?_) fun hb => ?_) <;> try simp only [Bool.not_true, Bool.not_false] at hb | refine cp (h1) ?_) <;> try simp only [go_sem, *])
 refine AR_range [2, 3, 4, 6, 18] [⟨gen, 0, 0⟩, ⟨gen, 0, 1⟩, ⟨gen, 0, 2⟩] (fun i σ => Agree h σ.h ∧ True) (([] : List Int)).length (by first | omega | (simp only [go_sem, *] <;> omega)) ⟨rfl, rfl, rfl⟩ rfl (by simp only [go_sem, *]) (by simp only [go_sem, *]) ?_ (by intro i σ t v ht hK; simp only [List.mem_cons, List.not_mem_nil, or_false] at ht; rcases ht with rfl | rfl | rfl <;> exact hK) ?_ ?_
 ·simp only [go_sem, *]
  exact (by repeat (first | exact Agree.refl _ | assumption | refine Agree.new ?_ (hgf0 _ _) | refine Agree.new ?_ (hfr' _ _)))
 ·
  intro i σ gr0 hgl_gr0 hgn hlt jI jN jS ⟨jA, jU⟩
  obtain ⟨jT, jB⟩ := jS
  simp only [go_sem] at jT jB
  have hgf := fresh_of hgn
  have hgf0 : ∀ r i, h ⟨gr0, r, i⟩ = none := fun r i => agree_fresh jA (hgf r i)
  have eg_gen_gr0 := gen_lt (show gen < gr0 by omega)
  have eh_gen_gr0 := gen_lt' (show gen < gr0 by omega)
  obtain ⟨x, hx⟩ : ∃ x, (([] : List Int))[i]? = some x := ⟨_, List.getElem?_eq_getElem hlt⟩
  have hxm := List.mem_of_getElem? hx
  have hm := min_lt hlt
  clear hgn
  exact absurd hlt (by simp)
 ·
  intro σ ga0 hgl_ga0 hgn jS ⟨jA, jU⟩
  obtain ⟨jT, jB⟩ := jS
  simp only [go_sem] at jT jB
  have hgf := fresh_of hgn
  have hgf0 : ∀ r i, h ⟨ga0, r, i⟩ = none := fun r i => agree_fresh jA (hgf r i)
  have eg_gen_ga0 := gen_lt (show gen < ga0 by omega)
  have eh_gen_ga0 := gen_lt' (show gen < ga0 by omega)
  clear hgn
  repeat' (first
   | (refine ⟨?_, ?_⟩; focus ((repeat' (first | refine And.intro ?_ ?_ | refine Or.inr ?_)); all_goals kernel_rfl))
   | exact hin _ | exact agf (by assumption)
   | (first | refine wp rfl ?_ | refine spt rfl ?_ | refine spf rfl ?_ | (refine spl (fun hc => ?_) fun hc => ?_) <;> (try rw [beq_iff_eq] at hc) <;> try simp only [hc] | (refine gs (fun hb => ?_) fun hb => ?_) <;> try simp only [Bool.not_true, Bool.not_false] at hb | refine cp (h2) ?_ | refine finF hrel ?_ ?_ ?_) <;> try simp only [go_sem, *])
theorem c_node1 (t : Tm) (k : Int) (a : Ty) (hk : plainK t.kind = [k, a.kind]) (hw : TyW (.mk k [])) : Pure Tryz.prog env 229 [.agg t.cells, .agg (padS [a])] (.tup [.agg (szC (.mk k [])), .int .i64 0]) := by
 intro h
 have h1 := c_plainK t.kind _ hk
 have h2 := c_sOf (.mk k []) hw
 have i1 := c_sIs a a.kind
 rw [show (a.kind == a.kind) = true from beq_self_eq_true _] at i1
 simp only [ty_cells, Ty.mk_kind, Ty.mk_args, List.map_nil, List.map_cons] at h1 h2
 rw [padS1]
 unfold szC at *
 simp only [Ty.mk_kind, Ty.mk_args, List.map_nil] at *
 clear hk
 have mn : ∀ (f : Operand → V), Option.map f none = none := fun _ => rfl
 have p1 : decide (((1 : Nat) : Int) > 0) = true := rfl
 have p2 : decide (((2 : Nat) : Int) > 0) = true := rfl
 have p3 : decide (((3 : Nat) : Int) > 0) = true := rfl
 refine en Tryz.func229 [.cell 4 187, .tmp 5] rfl rfl fun g0 w0 gen hrel hfr hfr' hres => ?_
 repeat' (first
  | (refine ⟨?_, ?_⟩; focus ((repeat' (first | refine And.intro ?_ ?_ | refine Or.inr ?_)); all_goals kernel_rfl))
  | (first | refine wp rfl ?_ | refine spt rfl ?_ | refine spf rfl ?_ | (refine spl (fun hc => ?_) fun hc => ?_) <;> (try rw [beq_iff_eq] at hc) <;> try simp only [hc] | (refine gs (fun hb => ?_) fun hb => ?_) <;> try simp only [Bool.not_true, Bool.not_false] at hb | refine cp (h1) ?_) <;> try simp only [go_sem, *])
 refine AR_range [2, 3, 4, 6, 18] [⟨gen, 0, 0⟩, ⟨gen, 0, 1⟩, ⟨gen, 0, 2⟩] (fun i σ => Agree h σ.h ∧ True) ([a.kind]).length (by first | omega | (simp only [go_sem, *] <;> omega)) ⟨rfl, rfl, rfl⟩ rfl (by simp only [go_sem, *]) (by simp only [go_sem, *]) ?_ (by intro i σ t v ht hK; simp only [List.mem_cons, List.not_mem_nil, or_false] at ht; rcases ht with rfl | rfl | rfl <;> exact hK) ?_ ?_
 ·simp only [go_sem, *]
  exact (by repeat (first | exact Agree.refl _ | assumption | refine Agree.new ?_ (hgf0 _ _) | refine Agree.new ?_ (hfr' _ _)))
 ·
  intro i σ gr0 hgl_gr0 hgn hlt jI jN jS ⟨jA, jU⟩
  obtain ⟨jT, jB⟩ := jS
  simp only [go_sem] at jT jB
  have hgf := fresh_of hgn
  have hgf0 : ∀ r i, h ⟨gr0, r, i⟩ = none := fun r i => agree_fresh jA (hgf r i)
  have eg_gen_gr0 := gen_lt (show gen < gr0 by omega)
  have eh_gen_gr0 := gen_lt' (show gen < gr0 by omega)
  obtain ⟨x, hx⟩ : ∃ x, ([a.kind])[i]? = some x := ⟨_, List.getElem?_eq_getElem hlt⟩
  have hxm := List.mem_of_getElem? hx
  have hm := min_lt hlt
  clear hgn
  obtain rfl : i = 0 := by simpa using hlt
  replace jI : σ.tm 20 = .int .i64 0 := jI
  have z0 : ((0 : Int) < ((3 : Nat) : Int)) = True := by simp
  simp at hx
  subst hx
  repeat' (first
   | (refine ⟨?_, ?_⟩; focus ((repeat' (first | refine And.intro ?_ ?_ | refine Or.inr ?_)); all_goals kernel_rfl))
   | (first | refine wp rfl ?_ | refine spt rfl ?_ | refine spf rfl ?_ | (refine spl (fun hc => ?_) fun hc => ?_) <;> (try rw [beq_iff_eq] at hc) <;> try simp only [hc] | (refine gs (fun hb => ?_) fun hb => ?_) <;> try simp only [Bool.not_true, Bool.not_false] at hb | refine cp (i1) ?_ | refine AR_inv ?_) <;> try simp only [go_sem, *])
  all_goals rfl
 ·
  intro σ ga0 hgl_ga0 hgn jS ⟨jA, jU⟩
  obtain ⟨jT, jB⟩ := jS
  simp only [go_sem] at jT jB
  have hgf := fresh_of hgn
  have hgf0 : ∀ r i, h ⟨ga0, r, i⟩ = none := fun r i => agree_fresh jA (hgf r i)
  have eg_gen_ga0 := gen_lt (show gen < ga0 by omega)
  have eh_gen_ga0 := gen_lt' (show gen < ga0 by omega)
  clear hgn
  repeat' (first
   | (refine ⟨?_, ?_⟩; focus ((repeat' (first | refine And.intro ?_ ?_ | refine Or.inr ?_)); all_goals kernel_rfl))
   | exact hin _ | exact agf (by assumption)
   | (first | refine wp rfl ?_ | refine spt rfl ?_ | refine spf rfl ?_ | (refine spl (fun hc => ?_) fun hc => ?_) <;> (try rw [beq_iff_eq] at hc) <;> try simp only [hc] | (refine gs (fun hb => ?_) fun hb => ?_) <;> try simp only [Bool.not_true, Bool.not_false] at hb | refine cp (h2) ?_ | refine finF hrel ?_ ?_ ?_) <;> try simp only [go_sem, *])
theorem c_node2 (t : Tm) (k : Int) (a b : Ty) (hk : plainK t.kind = [k, a.kind, b.kind]) (hw : TyW (.mk k [])) : Pure Tryz.prog env 229 [.agg t.cells, .agg (padS [a, b])] (.tup [.agg (szC (.mk k [])), .int .i64 0]) := by
 intro h
 have h1 := c_plainK t.kind _ hk
 have h2 := c_sOf (.mk k []) hw
 have i1 := c_sIs a a.kind
 rw [show (a.kind == a.kind) = true from beq_self_eq_true _] at i1
 have i2 := c_sIs b b.kind
 rw [show (b.kind == b.kind) = true from beq_self_eq_true _] at i2
 simp only [ty_cells, Ty.mk_kind, Ty.mk_args, List.map_nil, List.map_cons] at h1 h2
 rw [padS2]
 unfold szC at *
 simp only [Ty.mk_kind, Ty.mk_args, List.map_nil] at *
 clear hk
 have mn : ∀ (f : Operand → V), Option.map f none = none := fun _ => rfl
 have p1 : decide (((1 : Nat) : Int) > 0) = true := rfl
 have p2 : decide (((2 : Nat) : Int) > 0) = true := rfl
 have p3 : decide (((3 : Nat) : Int) > 0) = true := rfl
 refine en Tryz.func229 [.cell 4 187, .tmp 5] rfl rfl fun g0 w0 gen hrel hfr hfr' hres => ?_
 repeat' (first
  | (refine ⟨?_, ?_⟩; focus ((repeat' (first | refine And.intro ?_ ?_ | refine Or.inr ?_)); all_goals kernel_rfl))
  | (first | refine wp rfl ?_ | refine spt rfl ?_ | refine spf rfl ?_ | (refine spl (fun hc => ?_) fun hc => ?_) <;> (try rw [beq_iff_eq] at hc) <;> try simp only [hc] | (refine gs (fun hb => ?_) fun hb => ?_) <;> try simp only [Bool.not_true, Bool.not_false] at hb | refine cp (h1) ?_) <;> try simp only [go_sem, *])
 refine AR_range [2, 3, 4, 6, 18] [⟨gen, 0, 0⟩, ⟨gen, 0, 1⟩, ⟨gen, 0, 2⟩] (fun i σ => Agree h σ.h ∧ True) ([a.kind, b.kind]).length (by first | omega | (simp only [go_sem, *] <;> omega)) ⟨rfl, rfl, rfl⟩ rfl (by simp only [go_sem, *]) (by simp only [go_sem, *]) ?_ (by intro i σ t v ht hK; simp only [List.mem_cons, List.not_mem_nil, or_false] at ht; rcases ht with rfl | rfl | rfl <;> exact hK) ?_ ?_
 ·simp only [go_sem, *]
  exact (by repeat (first | exact Agree.refl _ | assumption | refine Agree.new ?_ (hgf0 _ _) | refine Agree.new ?_ (hfr' _ _)))
 ·
  intro i σ gr0 hgl_gr0 hgn hlt jI jN jS ⟨jA, jU⟩
  obtain ⟨jT, jB⟩ := jS
  simp only [go_sem] at jT jB
  have hgf := fresh_of hgn
  have hgf0 : ∀ r i, h ⟨gr0, r, i⟩ = none := fun r i => agree_fresh jA (hgf r i)
  have eg_gen_gr0 := gen_lt (show gen < gr0 by omega)
  have eh_gen_gr0 := gen_lt' (show gen < gr0 by omega)
  obtain ⟨x, hx⟩ : ∃ x, ([a.kind, b.kind])[i]? = some x := ⟨_, List.getElem?_eq_getElem hlt⟩
  have hxm := List.mem_of_getElem? hx
  have hm := min_lt hlt
  clear hgn
  match i, hlt with
  | 0, _ =>
   replace jI : σ.tm 20 = .int .i64 0 := jI
   have z0 : ((0 : Int) < ((3 : Nat) : Int)) = True := by simp
   simp at hx
   subst hx
   repeat' (first
    | (refine ⟨?_, ?_⟩; focus ((repeat' (first | refine And.intro ?_ ?_ | refine Or.inr ?_)); all_goals kernel_rfl))
    | (first | refine wp rfl ?_ | refine spt rfl ?_ | refine spf rfl ?_ | (refine spl (fun hc => ?_) fun hc => ?_) <;> (try rw [beq_iff_eq] at hc) <;> try simp only [hc] | (refine gs (fun hb => ?_) fun hb => ?_) <;> try simp only [Bool.not_true, Bool.not_false] at hb | refine cp (i1) ?_ | refine AR_inv ?_) <;> try simp only [go_sem, *])
   all_goals rfl
  | 1, _ =>
   replace jI : σ.tm 20 = .int .i64 1 := jI
   have z1 : ((1 : Int) < ((3 : Nat) : Int)) = True := by simp
   simp at hx
   subst hx
   repeat' (first
    | (refine ⟨?_, ?_⟩; focus ((repeat' (first | refine And.intro ?_ ?_ | refine Or.inr ?_)); all_goals kernel_rfl))
    | (first | refine wp rfl ?_ | refine spt rfl ?_ | refine spf rfl ?_ | (refine spl (fun hc => ?_) fun hc => ?_) <;> (try rw [beq_iff_eq] at hc) <;> try simp only [hc] | (refine gs (fun hb => ?_) fun hb => ?_) <;> try simp only [Bool.not_true, Bool.not_false] at hb | refine cp (i2) ?_ | refine AR_inv ?_) <;> try simp only [go_sem, *])
   all_goals rfl
  | i + 2, h2 => simp at h2; omega
 ·
  intro σ ga0 hgl_ga0 hgn jS ⟨jA, jU⟩
  obtain ⟨jT, jB⟩ := jS
  simp only [go_sem] at jT jB
  have hgf := fresh_of hgn
  have hgf0 : ∀ r i, h ⟨ga0, r, i⟩ = none := fun r i => agree_fresh jA (hgf r i)
  have eg_gen_ga0 := gen_lt (show gen < ga0 by omega)
  have eh_gen_ga0 := gen_lt' (show gen < ga0 by omega)
  clear hgn
  repeat' (first
   | (refine ⟨?_, ?_⟩; focus ((repeat' (first | refine And.intro ?_ ?_ | refine Or.inr ?_)); all_goals kernel_rfl))
   | exact hin _ | exact agf (by assumption)
   | (first | refine wp rfl ?_ | refine spt rfl ?_ | refine spf rfl ?_ | (refine spl (fun hc => ?_) fun hc => ?_) <;> (try rw [beq_iff_eq] at hc) <;> try simp only [hc] | (refine gs (fun hb => ?_) fun hb => ?_) <;> try simp only [Bool.not_true, Bool.not_false] at hb | refine cp (h2) ?_ | refine finF hrel ?_ ?_ ?_) <;> try simp only [go_sem, *])
theorem c_nodeApp (t : Tm) (a b : Ty) (hk : t.kind = 3) (ha : TyW a) (hb : TyW b) : Pure Tryz.prog env 229 [.agg t.cells, .agg (padS [tFun a b, a])] (.tup [.agg (szC b), .int .i64 0]) := by
 intro h
 have h1 := c_plainK 3 [] rfl
 have i1 := c_sIs (tFun a b) 4
 have i2 := c_sPart (tFun a b) 0 a rfl ha
 have i3 := c_sPart (tFun a b) 1 b rfl hb
 have i4 := c_sSame a ha
 rw [show ((tFun a b).kind == 4) = true from rfl] at i1
 generalize tFun a b = f at *
 simp only [List.map_nil] at h1
 rw [padS2]
 unfold szC at *
 have p0 : decide (((0 : Nat) : Int) > 0) = false := rfl
 have z0 : ((0 : Int) < ((3 : Nat) : Int)) = True := by simp
 have z1 : ((1 : Int) < ((3 : Nat) : Int)) = True := by simp
 refine en Tryz.func229 [.cell 4 187, .tmp 5] rfl rfl fun g0 w0 gen hrel hfr hfr' hres => ?_
 repeat' (first
  | (refine ⟨?_, ?_⟩; focus ((repeat' (first | refine And.intro ?_ ?_ | refine Or.inr ?_)); all_goals kernel_rfl))
  | exact hin _ | exact agf (by assumption)
  | (first | refine wp rfl ?_ | refine spt rfl ?_ | refine spf rfl ?_ | (refine spl (fun hc => ?_) fun hc => ?_) <;> (try rw [beq_iff_eq] at hc) <;> try simp only [hc] | (refine gs (fun hb => ?_) fun hb => ?_) <;> try simp only [Bool.not_true, Bool.not_false] at hb | refine cp (h1) ?_ | refine cp (i1) ?_ | refine cp (i2) ?_ | refine cp (i3) ?_ | refine cp (i4) ?_ | refine finF hrel ?_ ?_ ?_) <;> try simp only [go_sem, *])
theorem c_nodeRec (t : Tm) (x : Ty) (hx : TyW x) (hk : (t.kind = 6 ∧ x = tNat) ∨ (t.kind = 9 ∧ x = tList)) (ht : TyW t.type) (hs : TyW (if t.kind == 9 then funs [tNat, tList, t.type] t.type else funs [tNat, t.type] t.type)) :
  Pure Tryz.prog env 229 [.agg t.cells, .agg (padS [t.type, if t.kind == 9 then funs [tNat, tList, t.type] t.type else funs [tNat, t.type] t.type, x])] (.tup [.agg (szC t.type), .int .i64 0]) := by
 intro h
 have h2 := c_tStep t (by rcases hk with h | h; exact .inl h.1; exact .inr h.1)
 have i1 := c_sOf t.type ht
 have i2 := c_sSame t.type ht
 have i3 := c_SameType _ hs _ hs
 rw [Ty.same_refl] at i3
 have n1 : (6 : Int) = 9 ↔ False := by simp
 have p0 : decide (((0 : Nat) : Int) > 0) = false := rfl
 have z0 : ((0 : Int) < ((3 : Nat) : Int)) = True := by simp
 have z1 : ((1 : Int) < ((3 : Nat) : Int)) = True := by simp
 have z2 : ((2 : Int) < ((3 : Nat) : Int)) = True := by simp
 generalize (if t.kind == 9 then funs [tNat, tList, t.type] t.type else funs [tNat, t.type] t.type) = f at *
 have fc := ty_cells f
 rw [fc] at i3 h2
 rcases hk with ⟨hk, rfl⟩ | ⟨hk, rfl⟩
 ·have h1 := c_plainK 6 [] rfl
  have i4 := c_sIs tNat 1
  rw [show (tNat.kind == 1) = true from rfl] at i4
  simp only [List.map_nil] at h1
  rw [padS3]
  unfold szC at *
  generalize tNat = u at *
  clear hs ht fc
  refine en Tryz.func229 [.cell 4 187, .tmp 5] rfl rfl fun g0 w0 gen hrel hfr hfr' hres => ?_
  repeat' (first
   | (refine ⟨?_, ?_⟩; focus ((repeat' (first | refine And.intro ?_ ?_ | refine Or.inr ?_)); all_goals kernel_rfl))
   | exact hin _ | exact agf (by assumption)
   | (first | refine wp rfl ?_ | refine spt rfl ?_ | refine spf rfl ?_ | (refine spl (fun hc => ?_) fun hc => ?_) <;> (try rw [beq_iff_eq] at hc) <;> try simp only [hc] | (refine gs (fun hb => ?_) fun hb => ?_) <;> try simp only [Bool.not_true, Bool.not_false] at hb | refine cp (h1) ?_ | refine cp (h2) ?_ | refine cp (i1) ?_ | refine cp (i2) ?_ | refine cp (i3) ?_ | refine cp (i4) ?_ | refine finF hrel ?_ ?_ ?_) <;> try simp only [go_sem, *])
 ·have h1 := c_plainK 9 [] rfl
  have i4 := c_sIs tList 2
  rw [show (tList.kind == 2) = true from rfl] at i4
  simp only [List.map_nil] at h1
  rw [padS3]
  unfold szC at *
  generalize tList = u at *
  clear hs ht fc
  refine en Tryz.func229 [.cell 4 187, .tmp 5] rfl rfl fun g0 w0 gen hrel hfr hfr' hres => ?_
  repeat' (first
   | (refine ⟨?_, ?_⟩; focus ((repeat' (first | refine And.intro ?_ ?_ | refine Or.inr ?_)); all_goals kernel_rfl))
   | exact hin _ | exact agf (by assumption)
   | (first | refine wp rfl ?_ | refine spt rfl ?_ | refine spf rfl ?_ | (refine spl (fun hc => ?_) fun hc => ?_) <;> (try rw [beq_iff_eq] at hc) <;> try simp only [hc] | (refine gs (fun hb => ?_) fun hb => ?_) <;> try simp only [Bool.not_true, Bool.not_false] at hb | refine cp (h1) ?_ | refine cp (h2) ?_ | refine cp (i1) ?_ | refine cp (i2) ?_ | refine cp (i3) ?_ | refine cp (i4) ?_ | refine finF hrel ?_ ?_ ?_) <;> try simp only [go_sem, *])
theorem c_nodePair (t : Tm) (a b : Ty) (hk : t.kind = 10) (hp : TyG (tPair a b)) : Pure Tryz.prog env 229 [.agg t.cells, .agg (padS [a, b])] (.tup [.agg (szC (tPair a b)), .int .i64 0]) := by
 intro h
 have h1 := c_plainK 10 [] rfl
 obtain ⟨ga, gb⟩ := hp.pair1
 have hz := hp.2
 rw [tySz_pair] at hz
 have i1 := c_sJoin 3 a b ga gb (by omega) (by have := tyN_G hp; rw [tySz_pair] at this; unfold tPair at this; rw [this]; omega)
 have e : Ty.mk 3 [a, b] = tPair a b := rfl
 rw [e] at i1
 generalize tPair a b = q at *
 simp only [List.map_nil] at h1
 rw [padS2]
 unfold szC at *
 have p0 : decide (((0 : Nat) : Int) > 0) = false := rfl
 have z0 : ((0 : Int) < ((3 : Nat) : Int)) = True := by simp
 have z1 : ((1 : Int) < ((3 : Nat) : Int)) = True := by simp
 clear hp hz e ga gb
 refine en Tryz.func229 [.cell 4 187, .tmp 5] rfl rfl fun g0 w0 gen hrel hfr hfr' hres => ?_
 repeat' (first
  | (refine ⟨?_, ?_⟩; focus ((repeat' (first | refine And.intro ?_ ?_ | refine Or.inr ?_)); all_goals kernel_rfl))
  | exact hin _ | exact agf (by assumption)
  | (first | refine wp rfl ?_ | refine spt rfl ?_ | refine spf rfl ?_ | (refine spl (fun hc => ?_) fun hc => ?_) <;> (try rw [beq_iff_eq] at hc) <;> try simp only [hc] | (refine gs (fun hb => ?_) fun hb => ?_) <;> try simp only [Bool.not_true, Bool.not_false] at hb | refine cp (h1) ?_ | refine cp (i1) ?_ | refine finF hrel ?_ ?_ ?_) <;> try simp only [go_sem, *])
theorem c_nodeProj (t : Tm) (a b : Ty) (j : Nat) (hj : (t.kind = 11 ∧ j = 0) ∨ (t.kind = 12 ∧ j = 1)) (s : Ty) (hs : [a, b][j]? = some s) (hw : TyW s) : Pure Tryz.prog env 229 [.agg t.cells, .agg (padS [tPair a b])] (.tup [.agg (szC s), .int .i64 0]) := by
 intro h
 have i1 := c_sIs (tPair a b) 3
 have i2 := c_sPart (tPair a b) j s hs hw
 rw [show ((tPair a b).kind == 3) = true from rfl] at i1
 generalize tPair a b = q at *
 have p0 : decide (((0 : Nat) : Int) > 0) = false := rfl
 have z0 : ((0 : Int) < ((3 : Nat) : Int)) = True := by simp
 rcases hj with ⟨hk, rfl⟩ | ⟨hk, rfl⟩
 ·have h1 := c_plainK 11 [] rfl
  simp only [List.map_nil] at h1
  replace i2 : Pure Tryz.prog env 238 [.agg (szC q), .int .i64 0] (.agg (szC s)) := i2
  rw [padS1]
  unfold szC at *
  clear hs
  refine en Tryz.func229 [.cell 4 187, .tmp 5] rfl rfl fun g0 w0 gen hrel hfr hfr' hres => ?_
  repeat' (first
   | (refine ⟨?_, ?_⟩; focus ((repeat' (first | refine And.intro ?_ ?_ | refine Or.inr ?_)); all_goals kernel_rfl))
   | exact hin _ | exact agf (by assumption)
   | (first | refine wp rfl ?_ | refine spt rfl ?_ | refine spf rfl ?_ | (refine spl (fun hc => ?_) fun hc => ?_) <;> (try rw [beq_iff_eq] at hc) <;> try simp only [hc] | (refine gs (fun hb => ?_) fun hb => ?_) <;> try simp only [Bool.not_true, Bool.not_false] at hb | refine cp (h1) ?_ | refine cp (i1) ?_ | refine cp (i2) ?_ | refine finF hrel ?_ ?_ ?_) <;> try simp only [go_sem, *])
 ·have h1 := c_plainK 12 [] rfl
  simp only [List.map_nil] at h1
  replace i2 : Pure Tryz.prog env 238 [.agg (szC q), .int .i64 1] (.agg (szC s)) := i2
  rw [padS1]
  unfold szC at *
  clear hs
  refine en Tryz.func229 [.cell 4 187, .tmp 5] rfl rfl fun g0 w0 gen hrel hfr hfr' hres => ?_
  repeat' (first
   | (refine ⟨?_, ?_⟩; focus ((repeat' (first | refine And.intro ?_ ?_ | refine Or.inr ?_)); all_goals kernel_rfl))
   | exact hin _ | exact agf (by assumption)
   | (first | refine wp rfl ?_ | refine spt rfl ?_ | refine spf rfl ?_ | (refine spl (fun hc => ?_) fun hc => ?_) <;> (try rw [beq_iff_eq] at hc) <;> try simp only [hc] | (refine gs (fun hb => ?_) fun hb => ?_) <;> try simp only [Bool.not_true, Bool.not_false] at hb | refine cp (h1) ?_ | refine cp (i1) ?_ | refine cp (i2) ?_ | refine finF hrel ?_ ?_ ?_) <;> try simp only [go_sem, *])
end Go.Proofs.YtenelbgbjmijiaaGreatDoor
