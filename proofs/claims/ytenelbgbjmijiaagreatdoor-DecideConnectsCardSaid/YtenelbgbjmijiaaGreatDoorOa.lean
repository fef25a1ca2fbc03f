/-
 Walks: types with their sizes.
-/
import Derived.Test.YtenelbgbjmijiaaGreatDoorGa
import Derived.Test.YtenelbgbjmijiaaGreatDoorGb
import Derived.Test.YtenelbgbjmijiaaGreatDoorMb
import Derived.Test.YtenelbgbjmijiaaGreatDoorAbsD
set_option linter.unusedSimpArgs false
set_option linter.unusedVariables false
set_option maxRecDepth 20000
set_option maxHeartbeats 4000000
namespace Go.Proofs.YtenelbgbjmijiaaGreatDoor
open Go GoAbs Go.Proofs
def tyN (t : Ty) : Int := (chk 64 t.nodes).1
theorem tyN_G {t : Ty} (h : TyG t) : tyN t = (tySz t : Int) := by
 unfold tyN
 rw [h.1.nodes (by have := h.2; omega), chk, if_neg (by have := h.2; omega)]
theorem ty_cells (t : Ty) : t.cells = [.int .i64 t.kind, .sl .any (t.args.map Ty.cells)] := by cases t; simp [Ty.mk_cells, Ty.mk_kind, Ty.mk_args]
/-- A type with its size. -/
def szC (t : Ty) : List V := [.int .i64 t.kind, .sl .any (t.args.map Ty.cells), .int .i64 (tyN t)]
theorem c_sOf (t : Ty) (ht : TyW t) : Pure Tryz.prog env 211 [.agg t.cells] (.agg (szC t)) := by
 intro h
 have hc := c_CheckType t ht
 unfold two at hc
 unfold szC tyN
 refine en Tryz.func211 [.cell 2 187] rfl rfl fun g0 w0 gen hrel hfr hfr' hres => ?_
 repeat' (first
  | exact hin _ | exact agf (by assumption)
  | (first | refine wp rfl ?_ | refine cp (hc) ?_ | refine finF hrel ?_ ?_ ?_) <;> try simp only [go_sem, *])
theorem c_sIs (t : Ty) (k : Int) : Pure Tryz.prog env 225 [.agg (szC t), .int .i64 k] (.bool (t.kind == k)) := by
 intro h
 unfold szC
 refine en Tryz.func225 [.tmp 4] rfl rfl fun g0 w0 gen hrel hfr hfr' hres => ?_
 repeat' (first
  | exact hin _ | exact agf (by assumption)
  | (first | refine wp rfl ?_ | refine finF hrel ?_ ?_ ?_) <;> try simp only [go_sem, *])
theorem c_sPart (t : Ty) (i : Nat) (a : Ty) (ha : t.args[i]? = some a) (hw : TyW a) : Pure Tryz.prog env 238 [.agg (szC t), .int .i64 i] (.agg (szC a)) := by
 intro h
 have hc := c_sOf a hw
 have hlt : i < t.args.length := (List.getElem?_eq_some_iff.1 ha).1
 unfold szC at *
 refine en Tryz.func238 [.cell 4 187] rfl rfl fun g0 w0 gen hrel hfr hfr' hres => ?_
 repeat' (first
  | exact hin _ | exact agf (by assumption)
  | (first | refine wp rfl ?_ | refine cp (hc) ?_ | refine finF hrel ?_ ?_ ?_) <;> try simp only [go_sem, *])
theorem c_sSame (t : Ty) (ht : TyW t) : Pure Tryz.prog env 239 [.agg (szC t), .agg (szC t)] (.bool true) := by
 intro h
 have hc := c_SameType t ht t ht
 rw [Ty.same_refl, ty_cells] at hc
 have bq : (tyN t == tyN t) = true := beq_self_eq_true _
 unfold szC
 refine en Tryz.func239 [.tmp 4] rfl rfl fun g0 w0 gen hrel hfr hfr' hres => ?_
 repeat' (first
  | exact hin _ | exact agf (by assumption)
  | (first | refine wp rfl ?_ | (refine gs (fun hb => ?_) fun hb => ?_) <;> try simp only [Bool.not_true, Bool.not_false] at hb | refine cp (hc) ?_ | refine finF hrel ?_ ?_ ?_) <;> try simp only [go_sem, *])
theorem c_sJoin (k : Int) (a b : Ty) (ha : TyG a) (hb : TyG b) (hs : tySz a + tySz b ≤ 63) (hn : (tyN (.mk k [a, b])) = 1 + (tySz a : Int) + (tySz b : Int)) :
  Pure Tryz.prog env 228 [.int .i64 k, .agg (szC a), .agg (szC b)] (.tup [.agg (szC (.mk k [a, b])), .int .i64 0]) := by
 intro h
 unfold szC
 rw [hn, tyN_G ha, tyN_G hb]
 have w1 : IntKind.i64.wrap (1 + (tySz a : Int)) = 1 + (tySz a : Int) := wrap_eq rfl (by omega) (by omega)
 have w2 : IntKind.i64.wrap (1 + (tySz a : Int) + (tySz b : Int)) = 1 + (tySz a : Int) + (tySz b : Int) := wrap_eq rfl (by omega) (by omega)
 have hd : decide (1 + (tySz a : Int) + (tySz b : Int) > 64) = false := by simp; omega
 clear hs hn
 refine en Tryz.func228 [.cell 6 187, .tmp 7] rfl rfl fun g0 w0 gen hrel hfr hfr' hres => ?_
 repeat' (first
  | exact hin _ | exact agf (by assumption)
  | (first | refine wp rfl ?_ | refine spt rfl ?_ | refine spf rfl ?_ | (refine spl (fun hc => ?_) fun hc => ?_) <;> (try rw [beq_iff_eq] at hc) <;> try simp only [hc] | refine finF hrel ?_ ?_ ?_) <;> try simp only [go_sem, *])
 all_goals simp [Ty.kind, Ty.args, ty_cells]
theorem c_tList : Pure Tryz.prog env 244 [] (.agg tList.cells) := by
 intro h
 unfold tList
 refine en Tryz.func244 [.cell 0 25] rfl rfl fun g0 w0 gen hrel hfr hfr' hres => ?_
 repeat' (first
  | exact hin _ | exact agf (by assumption)
  | (first | refine wp rfl ?_ | refine finF hrel ?_ ?_ ?_) <;> try simp only [go_sem, *])
 all_goals simp [ty_cells, Ty.kind, Ty.args]
def funs (l : List Ty) (r : Ty) : Ty := l.foldr tFun r
theorem funs_step {l : List Ty} {r : Ty} {j : Nat} {x : Ty} (h : l[j]? = some x) : tFun x (funs (l.drop (j + 1)) r) = funs (l.drop j) r := by
 rw [drop_get h]; rfl
theorem c_tFun (r : Ty) (l : List Ty) (hl : l.length ≤ 1000) : Pure Tryz.prog env 243 [.agg r.cells, .sl .any (l.map Ty.cells)] (.agg (funs l r).cells) := by
 intro h
 have hw0 : IntKind.i64.wrap ((l.length : Int) - 1) = (l.length : Int) - 1 := wrap_eq rfl (by omega) (by omega)
 refine en Tryz.func243 [.cell 4 25] rfl rfl fun g0 w0 gen hrel hfr hfr' hres => ?_
 repeat' (first
  | (refine ⟨?_, ?_⟩; focus ((repeat' (first | refine And.intro ?_ ?_ | refine Or.inr ?_)); all_goals kernel_rfl))
  | exact hin _ | exact agf (by assumption)
  | (first | refine wp rfl ?_ | refine spt rfl ?_ | refine spf rfl ?_ | (refine spl (fun hc => ?_) fun hc => ?_) <;> (try rw [beq_iff_eq] at hc) <;> try simp only [hc] | refine finF hrel ?_ ?_ ?_) <;> try simp only [go_sem, *])
 refine AR_loop_nat (fun i σ => σ.tm 5 = .int .i64 ((l.length : Int) - 1 - i) ∧ σ.tm 1 = .sl .any (l.map Ty.cells) ∧ σ.tm 2 = .ptr ⟨gen, 0, 0⟩ 0 ∧ σ.tm 4 = .ptr ⟨gen, 0, 1⟩ 0 ∧
  σ.h ⟨gen, 0, 0⟩ = some (.box (funs (l.drop (l.length - i)) r).cells) ∧ σ.h ⟨gen, 0, 1⟩ = some (.box [.int .i64 0, .sl .full []]) ∧ Agree h σ.h ∧ i ≤ l.length) l.length ?_ ?_
 ·have e : (l.drop (l.length - 0)) = [] := by simp
  simp only [go_sem, *, e]
  exact ⟨by simp, rfl, (by repeat (first | exact Agree.refl _ | assumption | refine Agree.new ?_ (hgf0 _ _) | refine Agree.new ?_ (hfr' _ _))), by omega⟩
 intro i σ hi ⟨j1, j2, j3, j4, j5, j6, j7, j8⟩
 clear j8
 have hw1 : IntKind.i64.wrap ((l.length : Int) - 1 - (i : Int) - 1) = (l.length : Int) - 1 - (i : Int) - 1 := wrap_eq rfl (by omega) (by omega)
 rcases Nat.lt_or_ge i l.length with hlt | hge
 ·have hd : decide ((l.length : Int) - 1 - (i : Int) ≥ 0) = true := by simp; omega
  have e0 : l.length - (i + 1) + 1 = l.length - i := by omega
  obtain ⟨x, hx⟩ : ∃ x, l[l.length - (i + 1)]? = some x := ⟨_, List.getElem?_eq_getElem (by omega)⟩
  have hst := funs_step (r := r) hx
  rw [e0] at hst
  rw [← hst]
  have e2 : ((l.length : Int) - 1 - (i : Int)).toNat = l.length - (i + 1) := by omega
  have e3 : 0 ≤ (l.length : Int) - 1 - (i : Int) := by omega
  have e4 : (l.length : Int) - 1 - ((i + 1 : Nat) : Int) = (l.length : Int) - 1 - (i : Int) - 1 := by omega
  have e5 : i + 1 ≤ l.length := by omega
  clear hst
  generalize funs (l.drop (l.length - i)) r = b' at *
  have hcell : (tFun x b').cells = [.int .i64 4, .sl .any [x.cells, b'.cells]] := by simp [ty_cells, tFun, Ty.kind, Ty.args]
  clear hi
  repeat' (first
   | (refine ⟨?_, ?_⟩; focus ((repeat' (first | refine And.intro ?_ ?_ | refine Or.inr ?_)); all_goals kernel_rfl))
   | (first | refine wp rfl ?_ | refine spt rfl ?_ | refine spf rfl ?_ | (refine spl (fun hc => ?_) fun hc => ?_) <;> (try rw [beq_iff_eq] at hc) <;> try simp only [hc]) <;> try simp only [go_sem, *])
  refine AR_weakBox ⟨gen, 0, 0⟩ (by simp only [go_sem, *] <;> rfl) ?_
  refine AR_inv ?_
  simp only [go_sem, *]
  exact (by repeat (first | exact Agree.refl _ | assumption | refine Agree.new ?_ (hgf0 _ _) | refine Agree.new ?_ (hfr' _ _)))
 ·have hd : decide ((l.length : Int) - 1 - (i : Int) ≥ 0) = false := by simp; omega
  have e0 : l.length - i = 0 := by omega
  rw [e0, List.drop_zero] at j5
  repeat' (first
   | (refine ⟨?_, ?_⟩; focus ((repeat' (first | refine And.intro ?_ ?_ | refine Or.inr ?_)); all_goals kernel_rfl))
   | exact hin _ | exact agf (by assumption)
   | (first | refine wp rfl ?_ | refine spt rfl ?_ | refine spf rfl ?_ | (refine spl (fun hc => ?_) fun hc => ?_) <;> (try rw [beq_iff_eq] at hc) <;> try simp only [hc] | refine finF hrel ?_ ?_ ?_) <;> try simp only [go_sem, *])
/-- The kinds of types that a kind of terms asks for. -/
def plainK (k : Int) : List Int := if k == 4 then [1] else if k == 5 then [1, 1] else if k == 7 then [2] else if k == 8 then [2, 1, 2] else if k == 13 then [5] else []
theorem c_plainK (k : Int) (vs : List Int) (hv : plainK k = vs) : Pure Tryz.prog env 237 [.int .i64 k] (.sl .any (vs.map fun i => [.int .i64 i])) := by
 intro h
 subst hv
 unfold plainK
 refine en Tryz.func237 [.tmp 2] rfl rfl fun g0 w0 gen hrel hfr hfr' hres => ?_
 repeat' (first
  | exact hin _ | exact agf (by assumption)
  | (first | refine wp rfl ?_ | refine spt rfl ?_ | refine spf rfl ?_ | (refine spl (fun hc => ?_) fun hc => ?_) <;> (try rw [beq_iff_eq] at hc) <;> try simp only [hc] | refine finF hrel ?_ ?_ ?_) <;> try simp only [go_sem, *])
 all_goals simp_all
theorem c_tStep (t : Tm) (hk : t.kind = 6 ∨ t.kind = 9) : Pure Tryz.prog env 240 [.agg t.cells] (.agg (if t.kind == 9 then funs [tNat, tList, t.type] t.type else funs [tNat, t.type] t.type).cells) := by
 intro h
 have h2 := c_tFun t.type [tNat, t.type] (by simp)
 have h3 := c_tFun t.type [tNat, tList, t.type] (by simp)
 simp only [List.map_cons, List.map_nil] at h2 h3
 rcases hk with hk | hk
 all_goals
  rw [hk]
  simp only [Int.reduceBEq, Bool.false_eq_true, if_false, if_true]
  refine en Tryz.func240 [.cell 2 25] rfl rfl fun g0 w0 gen hrel hfr hfr' hres => ?_
  repeat' (first
   | (refine ⟨?_, ?_⟩; focus ((repeat' (first | refine And.intro ?_ ?_ | refine Or.inr ?_)); all_goals kernel_rfl))
   | exact hin _ | exact agf (by assumption)
   | (first | refine wp rfl ?_ | refine spt rfl ?_ | refine spf rfl ?_ | (refine spl (fun hc => ?_) fun hc => ?_) <;> (try rw [beq_iff_eq] at hc) <;> try simp only [hc] | refine cp (c_tNat) ?_ | refine cp (c_tList) ?_ | refine cp (h2) ?_ | refine cp (h3) ?_ | refine finF hrel ?_ ?_ ?_) <;> try simp only [go_sem, *])
end Go.Proofs.YtenelbgbjmijiaaGreatDoor
