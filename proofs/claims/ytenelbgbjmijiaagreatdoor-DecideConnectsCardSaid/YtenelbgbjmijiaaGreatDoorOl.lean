/-
 Walks: deciding formulas: bounded quantifiers.
-/
import Derived.Test.YtenelbgbjmijiaaGreatDoorOk
set_option linter.unusedSimpArgs false
set_option linter.unusedVariables false
set_option maxRecDepth 20000
set_option maxHeartbeats 4000000
namespace Go.Proofs.YtenelbgbjmijiaaGreatDoor
open Go GoAbs Go.Proofs
/-- The truth of a formula with a number in place of the variable 0. -/
def WithT (d : GoAbs.Id) (lim : Nat) (f : Fm) (k w : Nat) (b : Bool) (w' : Nat) (e : Int) : Prop :=
 Turns Tryz.prog env 108 [.ptr d 0, .agg f.cells, .int .i64 k] d (eb w lim 0) (.bool b) (eb w' lim e)
theorem c_valNumber2 (n : Nat) (hn : 4096 ≤ n) : Pure Tryz.prog env 149 [.int .i64 n] (.tup [.agg zeroT.cells, .int .i64 4]) := by
 intro h
 have d1 : decide ((n : Int) < 0) = false := by simp
 have d2 : decide ((n : Int) ≥ 4096) = true := by simp; omega
 have hz := zeroT_cells
 clear hn
 refine en Tryz.func149 [.cell 2 31, .tmp 3] rfl rfl fun g0 w0 gen hrel hfr hfr' hres => ?_
 repeat' (first
  | exact hin _ | exact agf (by assumption)
  | (first | refine wp rfl ?_ | refine spt rfl ?_ | refine spf rfl ?_ | (refine spl (fun hc => ?_) fun hc => ?_) <;> (try rw [beq_iff_eq] at hc) <;> try simp only [hc] | refine finF hrel ?_ ?_ ?_) <;> try simp only [go_sem, *])
theorem c_withBig (d : GoAbs.Id) (lim : Nat) (f : Fm) (k w : Nat) (hk : 4096 ≤ k) : WithT d lim f k w false w 4 := by
 intro h hd
 have h1 := c_valNumber2 k hk
 have hf := c_eFail d w lim 4
 have n4 : ((4 : Int) != 0) = true := rfl
 unfold eb at *
 clear hk
 refine en Tryz.func108 [.tmp 6] rfl rfl fun g0 w0 gen hrel hfr hfr' hres => ?_
 have f1 := fresh_ne hfr hd
 have f2 := fresh_ne' hfr hd
 repeat' (first
  | exact agb (by assumption)
  | (first | refine wp rfl ?_ | refine spt rfl ?_ | refine spf rfl ?_ | (refine spl (fun hc => ?_) fun hc => ?_) <;> (try rw [beq_iff_eq] at hc) <;> try simp only [hc] | refine cp (h1) ?_ | (refine ct (hf) ?_ ?_; focus ((simp only [go_sem, *] <;> rfl); done)) | refine finT hrel hd ?_ ?_ ?_ ?_ ?_) <;> try simp only [go_sem, *])
theorem c_withErr (d : GoAbs.Id) (lim : Nat) (f : Fm) (k w : Nat) (hk : k < 4096) (v : Fm) (e : Int) (he : (e != 0) = true) (hP : Pure Tryz.prog env 114 [.agg f.cells, .int .i64 0, .agg (numT k).cells] (.tup [.agg v.cells, .int .i64 e])) :
  WithT d lim f k w false w e := by
 intro h hd
 have h1 := c_valNumber k hk
 have hf := c_eFail d w lim e
 have n0 : ((0 : Int) != 0) = false := rfl
 unfold eb at *
 clear hk
 generalize numT k = t at *
 refine en Tryz.func108 [.tmp 6] rfl rfl fun g0 w0 gen hrel hfr hfr' hres => ?_
 have f1 := fresh_ne hfr hd
 have f2 := fresh_ne' hfr hd
 repeat' (first
  | exact agb (by assumption)
  | (first | refine wp rfl ?_ | refine spt rfl ?_ | refine spf rfl ?_ | (refine spl (fun hc => ?_) fun hc => ?_) <;> (try rw [beq_iff_eq] at hc) <;> try simp only [hc] | refine cp (h1) ?_ | refine cp (hP) ?_ | (refine ct (hf) ?_ ?_; focus ((simp only [go_sem, *] <;> rfl); done)) | refine finT hrel hd ?_ ?_ ?_ ?_ ?_) <;> try simp only [go_sem, *])
theorem c_withOk (d : GoAbs.Id) (lim : Nat) (f : Fm) (k w : Nat) (hk : k < 4096) (v : Fm) (hP : Pure Tryz.prog env 114 [.agg f.cells, .int .i64 0, .agg (numT k).cells] (.tup [.agg v.cells, .int .i64 0]))
  {b : Bool} {w' : Nat} {e : Int} (hT : TrT d lim v w b w' e) : WithT d lim f k w b w' e := by
 intro h hd
 have h1 := c_valNumber k hk
 obtain ⟨T1, u1, k1, p1, q1, m1, t1⟩ := hT
 have n0 : ((0 : Int) != 0) = false := rfl
 unfold eb at *
 clear hk
 generalize numT k = t at *
 refine en Tryz.func108 [.tmp 6] rfl rfl fun g0 w0 gen hrel hfr hfr' hres => ?_
 have f1 := fresh_ne hfr hd
 have f2 := fresh_ne' hfr hd
 repeat' (first
  | exact agb (by assumption)
  | (first | refine wp rfl ?_ | refine spt rfl ?_ | refine spf rfl ?_ | (refine spl (fun hc => ?_) fun hc => ?_) <;> (try rw [beq_iff_eq] at hc) <;> try simp only [hc] | refine cp (h1) ?_ | refine cp (hP) ?_ | refine cp (p1) ?_ | refine invThen_at (m1) ?_ | (refine ct (t1) ?_ ?_; focus ((simp only [go_sem, *] <;> rfl); done)) | refine finT hrel hd ?_ ?_ ?_ ?_ ?_) <;> try simp only [go_sem, *])
inductive BndS (d : GoAbs.Id) (lim : Nat) (all : Bool) (f : Fm) : Nat → Nat → Nat → Bool → Nat → Int → Prop
 | done {k w : Nat} : BndS d lim all f 0 k w all w 0
 | limit {n k w : Nat} : lim ≤ w → BndS d lim all f (n + 1) k w false w 5
 | stop {n k w w' : Nat} {b : Bool} {e : Int} : w < lim → WithT d lim f k (w + 1) b w' e → (e != 0 || b != all) = true → BndS d lim all f (n + 1) k w b w' e
 | step {n k w w1 w' : Nat} {b : Bool} {e : Int} : w < lim → WithT d lim f k (w + 1) all w1 0 → BndS d lim all f n (k + 1) w1 b w' e → BndS d lim all f (n + 1) k w b w' e
theorem BndS.cons {d : GoAbs.Id} {lim n k w w' : Nat} {all b : Bool} {f : Fm} {e : Int} (h : BndS d lim all f (n + 1) k w b w' e) :
  (lim ≤ w ∧ b = false ∧ w' = w ∧ e = 5) ∨ (w < lim ∧ ((WithT d lim f k (w + 1) b w' e ∧ (e != 0 || b != all) = true) ∨ ∃ w1, WithT d lim f k (w + 1) all w1 0 ∧ BndS d lim all f n (k + 1) w1 b w' e)) := by
 cases h with
 | limit h => exact .inl ⟨h, rfl, rfl, rfl⟩
 | stop h1 h2 h3 => exact .inr ⟨h1, .inl ⟨h2, h3⟩⟩
 | step h1 h2 h3 => exact .inr ⟨h1, .inr ⟨_, h2, h3⟩⟩
theorem BndS.none {d : GoAbs.Id} {lim k w w' : Nat} {all b : Bool} {f : Fm} {e : Int} (h : BndS d lim all f 0 k w b w' e) : b = all ∧ w' = w ∧ e = 0 := by cases h; exact ⟨rfl, rfl, rfl⟩
theorem c_bndOver (d : GoAbs.Id) (lim w : Nat) (all : Bool) (t : Tm) (a : Fm) (hn : Turns Tryz.prog env 262 [.ptr d 0, .agg t.cells] d (eb w lim 0) (.tup [.int .i64 0, .bool false]) (eb w lim 5)) :
  Turns Tryz.prog env 283 [.agg (.bool all :: (t.cells ++ a.cells)), .ptr d 0] d (eb w lim 0) (.bool false) (eb w lim 5) := by
 intro h hd
 have cx := Tm.cells_eq t
 have cy := Fm.cells_eq a
 rw [cx] at hn
 rw [cx, cy]
 unfold eb at *
 refine en Tryz.func283 [.tmp 4] rfl rfl fun g0 w0 gen hrel hfr hfr' hres => ?_
 have f1 := fresh_ne hfr hd
 have f2 := fresh_ne' hfr hd
 repeat' (first
  | (refine ⟨?_, ?_⟩; focus ((repeat' (first | refine And.intro ?_ ?_ | refine Or.inr ?_)); all_goals kernel_rfl))
  | exact agb (by assumption)
  | (first | refine wp rfl ?_ | refine spt rfl ?_ | refine spf rfl ?_ | (refine spl (fun hc => ?_) fun hc => ?_) <;> (try rw [beq_iff_eq] at hc) <;> try simp only [hc] | (refine gs (fun hb => ?_) fun hb => ?_) <;> try simp only [Bool.not_true, Bool.not_false] at hb | (refine ct (hn) ?_ ?_; focus ((simp only [go_sem, *] <;> rfl); done)) | refine finT hrel hd ?_ ?_ ?_ ?_ ?_) <;> try simp only [go_sem, *])
theorem c_bndGo (d : GoAbs.Id) (lim w m w0' w' : Nat) (all b : Bool) (e : Int) (t : Tm) (a : Fm) (hm : m ≤ 100000) (hlim : lim ≤ 65536)
  (hn : Turns Tryz.prog env 262 [.ptr d 0, .agg t.cells] d (eb w lim 0) (.tup [.int .i64 m, .bool true]) (eb w0' lim 0))
  (hS : BndS d lim all a m 0 w0' b w' e) :
  Turns Tryz.prog env 283 [.agg (.bool all :: (t.cells ++ a.cells)), .ptr d 0] d (eb w lim 0) (.bool b) (eb w' lim e) := by
 intro h hd
 have cx := Tm.cells_eq t
 have cy := Fm.cells_eq a
 rw [cx] at hn
 rw [cx, cy]
 have hr0 : (List.range m).length = m := List.length_range
 unfold eb at *
 refine en Tryz.func283 [.tmp 4] rfl rfl fun g0 w0 gen hrel hfr hfr' hres => ?_
 have f1 := fresh_ne hfr hd
 have f2 := fresh_ne' hfr hd
 repeat' (first
  | (refine ⟨?_, ?_⟩; focus ((repeat' (first | refine And.intro ?_ ?_ | refine Or.inr ?_)); all_goals kernel_rfl))
  | (first | refine wp rfl ?_ | refine spt rfl ?_ | refine spf rfl ?_ | (refine spl (fun hc => ?_) fun hc => ?_) <;> (try rw [beq_iff_eq] at hc) <;> try simp only [hc] | (refine gs (fun hb => ?_) fun hb => ?_) <;> try simp only [Bool.not_true, Bool.not_false] at hb | (refine ct (hn) ?_ ?_; focus ((simp only [go_sem, *] <;> rfl); done))) <;> try simp only [go_sem, *])
 clear hn
 refine AR_range [1, 2] [⟨gen, 0, 0⟩] (fun i σ => AgreeBut d h σ.h ∧ ∃ wi : Nat, σ.h d = some (.box [.int .i64 wi, .int .i64 lim, .int .i64 0]) ∧ BndS d lim all a (m - i) i wi b w' e) (List.range m).length (by first | omega | (simp only [go_sem, *] <;> omega)) ⟨rfl, rfl, rfl⟩ rfl (by simp only [go_sem, *]) (by simp only [go_sem, *]) ?_ (by intro i σ t v ht hK; simp only [List.mem_cons, List.not_mem_nil, or_false] at ht; rcases ht with rfl | rfl | rfl <;> exact hK) ?_ ?_
 ·simp only [go_sem, *]
  exact ⟨by repeat (first | exact AgreeBut.refl _ _ | assumption | refine AgreeBut.new ?_ (hfr' _ _) | refine AgreeBut.set ?_), w0', rfl, hS⟩
 ·clear hS
  intro i σ gr0 hgl_gr0 hgn hlt jI jN jS ⟨jA, wi, js, jk⟩
  obtain ⟨jT, jB⟩ := jS
  simp only [go_sem] at jT jB
  have hgf := fresh_of hgn
  have hgf0 := agreeBut_fresh' hd jA hgf (fun r i e => by have := hfr d (by rw [hd]; simp); rw [e] at this; simp at this; omega)
  have fd_gr0 := fresh_ne2 hfr hd (show gen < gr0 by omega)
  have fe_gr0 := fresh_ne2' hfr hd (show gen < gr0 by omega)
  have eg_gen_gr0 := gen_lt (show gen < gr0 by omega)
  have eh_gen_gr0 := gen_lt' (show gen < gr0 by omega)
  obtain ⟨x, hx⟩ : ∃ x, (List.range m)[i]? = some x := ⟨_, List.getElem?_eq_getElem hlt⟩
  have hxm := List.mem_of_getElem? hx
  have hm := min_lt hlt
  clear hgn
  rw [hr0] at hlt
  rw [show m - i = (m - (i + 1)) + 1 by omega] at jk
  have hf := c_eFail d wi lim 5
  unfold eb at hf
  rcases jk.cons with ⟨hl, rfl, rfl, rfl⟩ | ⟨hl, ⟨hT, hq⟩ | ⟨w1, hT, hS⟩⟩
  ·have hd1 : decide ((w' : Int) ≥ (lim : Int)) = true := by simp; omega
   clear jk hl
   repeat' (first
    | (refine ⟨?_, ?_⟩; focus ((repeat' (first | refine And.intro ?_ ?_ | refine Or.inr ?_)); all_goals kernel_rfl))
    | exact agb (by assumption)
    | (first | refine wp rfl ?_ | refine spt rfl ?_ | refine spf rfl ?_ | (refine spl (fun hc => ?_) fun hc => ?_) <;> (try rw [beq_iff_eq] at hc) <;> try simp only [hc] | (refine gs (fun hb => ?_) fun hb => ?_) <;> try simp only [Bool.not_true, Bool.not_false] at hb | (refine ct (hf) ?_ ?_; focus ((simp only [go_sem, *] <;> rfl); done)) | refine finT hrel hd ?_ ?_ ?_ ?_ ?_) <;> try simp only [go_sem, *])
  ·have hd1 : decide ((wi : Int) ≥ (lim : Int)) = false := by simp; omega
   have hw1 := wrap_succ (i := wi) (by omega)
   unfold WithT eb at hT
   rw [cy] at hT
   clear jk hl hf
   generalize wi + 1 = wj at *
   cases he : (e != 0) with
   | true =>
    clear hq
    repeat' (first
     | (refine ⟨?_, ?_⟩; focus ((repeat' (first | refine And.intro ?_ ?_ | refine Or.inr ?_)); all_goals kernel_rfl))
     | exact agb (by assumption)
     | (first | refine wp rfl ?_ | refine spt rfl ?_ | refine spf rfl ?_ | (refine spl (fun hc => ?_) fun hc => ?_) <;> (try rw [beq_iff_eq] at hc) <;> try simp only [hc] | (refine gs (fun hb => ?_) fun hb => ?_) <;> try simp only [Bool.not_true, Bool.not_false] at hb | (refine ct (hT) ?_ ?_; focus ((simp only [go_sem, *] <;> rfl); done)) | refine finT hrel hd ?_ ?_ ?_ ?_ ?_) <;> try simp only [go_sem, *])
   | false =>
    rw [he, Bool.false_or] at hq
    repeat' (first
     | (refine ⟨?_, ?_⟩; focus ((repeat' (first | refine And.intro ?_ ?_ | refine Or.inr ?_)); all_goals kernel_rfl))
     | exact agb (by assumption)
     | (first | refine wp rfl ?_ | refine spt rfl ?_ | refine spf rfl ?_ | (refine spl (fun hc => ?_) fun hc => ?_) <;> (try rw [beq_iff_eq] at hc) <;> try simp only [hc] | (refine gs (fun hb => ?_) fun hb => ?_) <;> try simp only [Bool.not_true, Bool.not_false] at hb | (refine ct (hT) ?_ ?_; focus ((simp only [go_sem, *] <;> rfl); done)) | refine finT hrel hd ?_ ?_ ?_ ?_ ?_) <;> try simp only [go_sem, *])
  ·have hd1 : decide ((wi : Int) ≥ (lim : Int)) = false := by simp; omega
   have hw1 := wrap_succ (i := wi) (by omega)
   unfold WithT eb at hT
   rw [cy] at hT
   clear jk hl hf
   generalize wi + 1 = wj at *
   have n0 : ((0 : Int) != 0) = false := rfl
   have na : (all != all) = false := by cases all <;> rfl
   repeat' (first
    | (refine ⟨?_, ?_⟩; focus ((repeat' (first | refine And.intro ?_ ?_ | refine Or.inr ?_)); all_goals kernel_rfl))
    | (first | refine wp rfl ?_ | refine spt rfl ?_ | refine spf rfl ?_ | (refine spl (fun hc => ?_) fun hc => ?_) <;> (try rw [beq_iff_eq] at hc) <;> try simp only [hc] | (refine gs (fun hb => ?_) fun hb => ?_) <;> try simp only [Bool.not_true, Bool.not_false] at hb | (refine ct (hT) ?_ ?_; focus ((simp only [go_sem, *] <;> rfl); done)) | refine AR_inv ?_) <;> try simp only [go_sem, *])
   exact ⟨by repeat (first | exact jA | refine AgreeBut.new ?_ (hgf0 _ _) | refine AgreeBut.set ?_), w1, rfl, hS⟩
 ·clear hS
  intro σ ga0 hgl_ga0 hgn jS ⟨jA, wi, js, jk⟩
  obtain ⟨jT, jB⟩ := jS
  simp only [go_sem] at jT jB
  have hgf := fresh_of hgn
  have hgf0 := agreeBut_fresh' hd jA hgf (fun r i e => by have := hfr d (by rw [hd]; simp); rw [e] at this; simp at this; omega)
  have fd_ga0 := fresh_ne2 hfr hd (show gen < ga0 by omega)
  have fe_ga0 := fresh_ne2' hfr hd (show gen < ga0 by omega)
  have eg_gen_ga0 := gen_lt (show gen < ga0 by omega)
  have eh_gen_ga0 := gen_lt' (show gen < ga0 by omega)
  clear hgn
  rw [hr0, Nat.sub_self] at jk
  obtain ⟨rfl, rfl, rfl⟩ := jk.none
  repeat' (first
   | (refine ⟨?_, ?_⟩; focus ((repeat' (first | refine And.intro ?_ ?_ | refine Or.inr ?_)); all_goals kernel_rfl))
   | exact agb (by assumption)
   | (first | refine wp rfl ?_ | refine spt rfl ?_ | refine spf rfl ?_ | (refine spl (fun hc => ?_) fun hc => ?_) <;> (try rw [beq_iff_eq] at hc) <;> try simp only [hc] | (refine gs (fun hb => ?_) fun hb => ?_) <;> try simp only [Bool.not_true, Bool.not_false] at hb | refine finT hrel hd ?_ ?_ ?_ ?_ ?_) <;> try simp only [go_sem, *])
end Go.Proofs.YtenelbgbjmijiaaGreatDoor
