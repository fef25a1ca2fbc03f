/-
 Walks: deciding formulas: the parts.
-/
import Derived.Test.YtenelbgbjmijiaaGreatDoorOf
import Derived.Test.YtenelbgbjmijiaaGreatDoorOh
set_option linter.unusedSimpArgs false
set_option linter.unusedVariables false
set_option maxRecDepth 20000
set_option maxHeartbeats 4000000
namespace Go.Proofs.YtenelbgbjmijiaaGreatDoor
open Go GoAbs Go.Proofs
/-- The effort: the work that was done, and may be done; the first error. -/
def eb (w lim : Nat) (e : Int) : GoAbs.Obj := .box [.int .i64 w, .int .i64 lim, .int .i64 e]
theorem c_eFail (d : GoAbs.Id) (w lim : Nat) (e : Int) : Turns Tryz.prog env 150 [.ptr d 0, .int .i64 e] d (eb w lim 0) (.bool false) (eb w lim e) := by
 intro h hd
 unfold eb at *
 refine en Tryz.func150 [.tmp 4] rfl rfl fun g0 w0 gen hrel hfr hfr' hres => ?_
 have f1 := fresh_ne hfr hd
 have f2 := fresh_ne' hfr hd
 repeat' (first
  | exact agb (by assumption)
  | (first | refine wp rfl ?_ | refine spt rfl ?_ | refine spf rfl ?_ | (refine spl (fun hc => ?_) fun hc => ?_) <;> (try rw [beq_iff_eq] at hc) <;> try simp only [hc] | refine finT hrel hd ?_ ?_ ?_ ?_ ?_) <;> try simp only [go_sem, *])
/-- The value of a closed number within a limit: the number, the work, whether there was too much work. -/
def NumIs (m : Nat) (t : Tm) (x : Nat × Nat × Bool) : Prop := Pure Tryz.prog env 263 [.agg t.cells, .int .i64 m] (evalV x)
theorem c_eNumber (d : GoAbs.Id) (w lim : Nat) (t : Tm) (x : Nat × Nat × Bool) (hw : w ≤ lim) (hl : lim ≤ 65536) (hx : x.2.1 ≤ 65536) (hn : NumIs (lim - w) t x) :
  Turns Tryz.prog env 262 [.ptr d 0, .agg t.cells] d (eb w lim 0) (.tup [.int .i64 (if x.2.2 then 0 else (x.1 : Int)), .bool (!x.2.2)]) (if x.2.2 then eb w lim 5 else eb (w + x.2.1) lim 0) := by
 intro h hd
 obtain ⟨n, u, o⟩ := x
 unfold NumIs evalV at hn
 simp only at hn hx ⊢
 have w1 : IntKind.i64.wrap ((lim : Int) - (w : Int)) = ((lim - w : Nat) : Int) := wrap_eq (by omega) (by omega) (by omega)
 have w2 : IntKind.i64.wrap ((w : Int) + (u : Int)) = ((w + u : Nat) : Int) := wrap_eq (by omega) (by omega) (by omega)
 have hf := c_eFail d w lim 5
 have n0 : ((0 : Int) != 0) = false := rfl
 have n5 : ((5 : Int) != 0) = true := rfl
 unfold eb at *
 clear hw hl hx
 generalize lim - w = q at *
 generalize w + u = w' at *
 unfold numVal noVal at hn
 cases o with
 | true =>
  simp only [if_true, Bool.not_true] at hn ⊢
  refine en Tryz.func262 [.tmp 4, .tmp 5] rfl rfl fun g0 w0 gen hrel hfr hfr' hres => ?_
  have f1 := fresh_ne hfr hd
  have f2 := fresh_ne' hfr hd
  repeat' (first
   | (refine ⟨?_, ?_⟩; focus ((repeat' (first | refine And.intro ?_ ?_ | refine Or.inr ?_)); all_goals kernel_rfl))
   | exact agb (by assumption)
   | (first | refine wp rfl ?_ | refine spt rfl ?_ | refine spf rfl ?_ | (refine spl (fun hc => ?_) fun hc => ?_) <;> (try rw [beq_iff_eq] at hc) <;> try simp only [hc] | refine cp (hn) ?_ | (refine ct (hf) ?_ ?_; focus ((simp only [go_sem, *] <;> rfl); done)) | refine finT hrel hd ?_ ?_ ?_ ?_ ?_) <;> try simp only [go_sem, *])
 | false =>
  simp only [Bool.false_eq_true, if_false, Bool.not_false] at hn ⊢
  refine en Tryz.func262 [.tmp 4, .tmp 5] rfl rfl fun g0 w0 gen hrel hfr hfr' hres => ?_
  have f1 := fresh_ne hfr hd
  have f2 := fresh_ne' hfr hd
  repeat' (first
   | (refine ⟨?_, ?_⟩; focus ((repeat' (first | refine And.intro ?_ ?_ | refine Or.inr ?_)); all_goals kernel_rfl))
   | exact agb (by assumption)
   | (first | refine wp rfl ?_ | refine spt rfl ?_ | refine spf rfl ?_ | (refine spl (fun hc => ?_) fun hc => ?_) <;> (try rw [beq_iff_eq] at hc) <;> try simp only [hc] | refine cp (hn) ?_ | refine finT hrel hd ?_ ?_ ?_ ?_ ?_) <;> try simp only [go_sem, *])
/-- The truth of a formula: the answer, the work, the error. -/
def TrT (d : GoAbs.Id) (lim : Nat) (f : Fm) (w : Nat) (b : Bool) (w' : Nat) (e : Int) : Prop :=
 ∃ T u k, Pure Tryz.prog env 107 [.agg f.cells] (.iface T u) ∧ weak u = u ∧ meth Tryz.prog T "proofprograms/decide.truth" = some k ∧ Turns Tryz.prog env k [u, .ptr d 0] d (eb w lim 0) (.bool b) (eb w' lim e)
theorem c_ofEq (x y : Tm) : Pure Tryz.prog env 107 [.agg (fmEq x y).cells] (.iface 152 (.agg (x.cells ++ y.cells))) := by
 intro h
 have e1 : (fmEq x y).kind = 1 := rfl
 have e2 : (fmEq x y).terms = [x, y] := rfl
 have hx := Tm.cells_eq x
 have hy := Tm.cells_eq y
 generalize fmEq x y = f at *
 refine en Tryz.func107 [.tmp 2] rfl rfl fun g0 w0 gen hrel hfr hfr' hres => ?_
 repeat' (first
  | (refine ⟨?_, ?_⟩; focus ((repeat' (first | refine And.intro ?_ ?_ | refine Or.inr ?_)); all_goals kernel_rfl))
  | exact hin _ | exact agf (by assumption)
  | (first | refine wp rfl ?_ | refine spt rfl ?_ | refine spf rfl ?_ | (refine spl (fun hc => ?_) fun hc => ?_) <;> (try rw [beq_iff_eq] at hc) <;> try simp only [hc] | refine finF hrel ?_ ?_ ?_) <;> try simp only [go_sem, *])
theorem c_ofTwo (k : Int) (hk : k = 2 ∨ k = 3) (x y : Fm) : Pure Tryz.prog env 107 [.agg (fmTwo k x y).cells] (.iface (if k = 2 then 154 else 156) (.agg (x.cells ++ y.cells))) := by
 intro h
 have e1 : (fmTwo k x y).kind = k := rfl
 have e2 : (fmTwo k x y).args = [x, y] := rfl
 have hx := Fm.cells_eq x
 have hy := Fm.cells_eq y
 generalize fmTwo k x y = f at *
 rcases hk with rfl | rfl
 ·simp only [if_true]
  refine en Tryz.func107 [.tmp 2] rfl rfl fun g0 w0 gen hrel hfr hfr' hres => ?_
  repeat' (first
   | (refine ⟨?_, ?_⟩; focus ((repeat' (first | refine And.intro ?_ ?_ | refine Or.inr ?_)); all_goals kernel_rfl))
   | exact hin _ | exact agf (by assumption)
   | (first | refine wp rfl ?_ | refine spt rfl ?_ | refine spf rfl ?_ | (refine spl (fun hc => ?_) fun hc => ?_) <;> (try rw [beq_iff_eq] at hc) <;> try simp only [hc] | refine finF hrel ?_ ?_ ?_) <;> try simp only [go_sem, *])
 ·have n2 : ((3 : Int) = 2) = False := by simp
  simp only [n2, if_false]
  refine en Tryz.func107 [.tmp 2] rfl rfl fun g0 w0 gen hrel hfr hfr' hres => ?_
  repeat' (first
   | (refine ⟨?_, ?_⟩; focus ((repeat' (first | refine And.intro ?_ ?_ | refine Or.inr ?_)); all_goals kernel_rfl))
   | exact hin _ | exact agf (by assumption)
   | (first | refine wp rfl ?_ | refine spt rfl ?_ | refine spf rfl ?_ | (refine spl (fun hc => ?_) fun hc => ?_) <;> (try rw [beq_iff_eq] at hc) <;> try simp only [hc] | refine finF hrel ?_ ?_ ?_) <;> try simp only [go_sem, *])
/-- What is decided of the parts of a bounded quantifier. -/
theorem c_ofBnd (all : Bool) (q : Tm) (wq : TmW q) (hc : q.count 0 = 0) (a : Fm) (ha : FmW a) (hb : FmW (bndF all q a)) (he : fmErr (bndF all q a) = 0) :
  Pure Tryz.prog env 107 [.agg (bndF all q a).cells] (.iface 158 (.agg (.bool all :: ((tPut q 0 zeroT).cells ++ a.cells)))) := by
 intro h
 have e1 : (bndF all q a).kind = if all then 4 else 5 := rfl
 have h1 := c_clsBound2 all q wq hc a ha hb he
 have hx := Tm.cells_eq (tPut q 0 zeroT)
 have hy := Fm.cells_eq a
 clear wq hc hb he
 generalize bndF all q a = f at *
 generalize tPut q 0 zeroT = t at *
 cases all
 all_goals
  simp only [Bool.false_eq_true, if_false, if_true] at e1
  refine en Tryz.func107 [.tmp 2] rfl rfl fun g0 w0 gen hrel hfr hfr' hres => ?_
  repeat' (first
   | (refine ⟨?_, ?_⟩; focus ((repeat' (first | refine And.intro ?_ ?_ | refine Or.inr ?_)); all_goals kernel_rfl))
   | exact hin _ | exact agf (by assumption)
   | (first | refine wp rfl ?_ | refine spt rfl ?_ | refine spf rfl ?_ | (refine spl (fun hc => ?_) fun hc => ?_) <;> (try rw [beq_iff_eq] at hc) <;> try simp only [hc] | refine cp (h1) ?_ | refine finF hrel ?_ ?_ ?_) <;> try simp only [go_sem, *])
end Go.Proofs.YtenelbgbjmijiaaGreatDoor
