/-
 Walks: several parts in one text.
-/
import Derived.Test.YtmbpmbofehmdaaaGreatDoorGf
import Derived.Test.YtmbpmbofehmdaaaGreatDoorVc
set_option linter.unusedSimpArgs false
set_option linter.unusedVariables false
set_option maxRecDepth 20000
set_option maxHeartbeats 4000000
namespace Go.Proofs.YtmbpmbofehmdaaaGreatDoor
open Go GoAbs Go.Proofs
theorem c_r08c : ∀ (n : Nat) (f : Fm), fmSz f ≤ n → FmW f → f.good = true → Pure Tryz.prog env 52 [.agg f.cells] (.bool f.fl.c) := by
 intro n
 induction n with
 | zero =>
  intro f hn; have : 1 ≤ fmSz f := by (cases f; rw [fmSz]; omega)
  omega
 | succ n ih =>
 intro f hn hf hg h
 have hk := Fm.good_kind hg
 have hw2 : IntKind.i64.wrap (((2 : Nat) : Int) - 1) = 1 := rfl
 have hw2' : IntKind.i64.wrap ((2 : Int) - 1) = 1 := rfl
 have hw1 : IntKind.i64.wrap (((1 : Nat) : Int) - 1) = 0 := rfl
 have hw1' : IntKind.i64.wrap ((1 : Int) - 1) = 0 := rfl
 obtain hk | hk | hk : f.kind = 1 ∨ (f.kind = 2 ∨ f.kind = 3) ∨ (f.kind = 4 ∨ f.kind = 5 ∨ f.kind = 6 ∨ f.kind = 7) := by omega
 ·rw [Fm.fl_1 hk]
  clear ih hf hg hn
  exact ek_ Tryz.func52 [.tmp 2]
 ·obtain ⟨a, b, ha, ga, gb⟩ := Fm.good_two hg hk
  have la := fmSz_arg (f := f) (x := a) (by rw [ha]; simp)
  have lb := fmSz_arg (f := f) (x := b) (by rw [ha]; simp)
  have h1 := ih a (by omega) (hf.arg (by rw [ha]; simp)) ga
  have h2 := ih b (by omega) (hf.arg (by rw [ha]; simp)) gb
  rw [Fm.fl_2 hk ha]
  clear ih hf hg hn la lb ga gb
  generalize a.fl.c = fa at *
  generalize b.fl.c = fb at *
  rcases hk with hk | hk
  ·rw [hk]
   cases fa <;> cases fb <;> simp only [Int.reduceBEq, Bool.true_and, Bool.or_true, Bool.or_false, Bool.or_self]
   all_goals
    exact ek_ Tryz.func52 [.tmp 2]
  ·rw [hk]
   have hkk' : ((3 : Int) == 2) = false := rfl
   rw [hkk', Bool.false_and, Bool.or_false]
   clear h1
   exact ek_ Tryz.func52 [.tmp 2]
 ·obtain ⟨a, ha, ga⟩ := Fm.good_q hg hk
  have la := fmSz_arg (f := f) (x := a) (by rw [ha]; simp)
  have wa : FmW a := hf.arg (by rw [ha]; simp)
  have h1 := ih a (by omega) wa ga
  have h4 : 4 ≤ f.kind := by omega
  rw [Fm.fl_q h4 ha]
  clear ih hf hg hn la ga wa h4
  generalize a.fl.c = fa at *
  rcases hk with hk | hk | hk | hk
  all_goals
   rw [hk]
   simp only [Int.reduceBEq, Bool.or_false, Bool.or_true]
   exact ek_ Tryz.func52 [.tmp 2]
theorem good_eqn_args {f : Fm} (h : f.good = true) (hk : f.kind = 1) : f.args = [] := by
 obtain ⟨h1, _, _⟩ := Fm.good_head h
 unfold formed fmWant at h1
 rw [hk] at h1
 simp at h1
 exact h1.2
theorem c_r08f : ∀ (n : Nat) (f : Fm), fmSz f ≤ n → FmW f → f.good = true → Pure Tryz.prog env 53 [.agg f.cells] (.bool f.fl.f) := by
 intro n
 induction n with
 | zero =>
  intro f hn; have : 1 ≤ fmSz f := by (cases f; rw [fmSz]; omega)
  omega
 | succ n ih =>
 intro f hn hf hg h
 have hk := Fm.good_kind hg
 have hlen := hf.len
 have ih' : ∀ x ∈ f.args, Pure Tryz.prog env 53 [.agg x.cells] (.bool x.fl.f) := fun x hx => ih x (by have := fmSz_arg (f := f) hx; omega) (hf.arg hx) ((Fm.good_head hg).2.2 x hx)
 clear ih
 cases hd : decide (f.kind ≥ 4) with
 | true =>
  have hq : f.kind = 4 ∨ f.kind = 5 ∨ f.kind = 6 ∨ f.kind = 7 := by simp at hd; omega
  obtain ⟨a, ha, ga⟩ := Fm.good_q hg hq
  rw [Fm.fl_q (by omega) ha]
  clear hk hg hf ih' hq ha ga
  exact ek_ Tryz.func53 [.tmp 2]
 | false =>
  have hv : (f.args.drop 0).all (fun x => x.fl.f) = f.fl.f := by
   rw [List.drop_zero]
   obtain hk1 | hk2 : f.kind = 1 ∨ (f.kind = 2 ∨ f.kind = 3) := by simp at hd; omega
   ·have e : f.args = [] := good_eqn_args hg hk1
    rw [e, Fm.fl_1 hk1]; rfl
   ·obtain ⟨a, b, ha, _, _⟩ := Fm.good_two hg hk2
    rw [Fm.fl_2 hk2 ha, ha]
    simp
  generalize f.fl.f = v at *
  clear hk hg hf
  refine en_ Tryz.func53 [.tmp 2] fun g0 w0 gen hrel hfr hfr' hres => ?_
  refine wq_ ?_
  refine ar_ [9] [] (fun i σ => Agree h σ.h ∧ (f.args.drop i).all (fun x => x.fl.f) = v) (f.args).length ?_ ?_ ?_
  ·simp only [go_sem, *]
   first|exact hv|exact ⟨ag_, hv⟩
  ·clear hv
   intro i σ gr0 hgl_gr0 hgn hlt jI jN jS ⟨jA, jv⟩
   obtain ⟨jT, jB⟩ := jS
   simp only [go_sem] at jT jB
   obtain ⟨hgf, hgf0, eg_gen_gr0, eh_gen_gr0⟩ := rnd hgn hgl_gr0 jA
   obtain ⟨x, hx, hxm, hm⟩ := rnx hlt
   clear hgn
   rw [drop_get hx, List.all_cons] at jv
   have hc := ih' x hxm
   clear ih'
   cases hn : x.fl.f with
   | false =>
    rw [hn] at hc
    rw [hn, Bool.false_and] at jv
    subst jv
    exact wk_
   | true =>
    rw [hn] at hc
    rw [hn, Bool.true_and] at jv
    refine wq_ ?_
    first|exact ag_|exact ⟨ag_, jv⟩
  ·
   intro σ ga0 hgl_ga0 hgn jS ⟨jA, jv⟩
   obtain ⟨jT, jB⟩ := jS
   simp only [go_sem] at jT jB
   obtain ⟨hgf, hgf0, eg_gen_ga0, eh_gen_ga0⟩ := rnd hgn hgl_ga0 jA
   clear hgn
   rw [List.drop_length, List.all_nil] at jv
   subst jv
   clear ih'
   exact wk_
theorem c_r08Content (f : Fm) (hf : FmW f) : Pure Tryz.prog env 17 [.agg f.cells] (boolErrV (f.has 1)) := by
 intro h
 have hC := c_refFmCheck f hf
 unfold boolErrV Fm.has
 cases he : (fmErr f != 0) with
 | true =>
  simp only [if_true]
  clear hf
  generalize fmErr f = e at *
  exact ek_ Tryz.func17 [.tmp 2, .tmp 3]
 | false =>
  have h0 : fmErr f = 0 := by simpa using he
  have hO := c_r08c _ f (Nat.le_refl _) hf (Fm.ok_good he)
  simp only [Bool.false_eq_true, if_false]
  rw [h0] at hC
  have n0 : ((0 : Int) != 0) = false := rfl
  clear he h0 hf
  have e1 : ((2 : Int) == 1) = false := rfl
  simp only [beq_self_eq_true, if_true, e1, Bool.false_eq_true, if_false]
  generalize f.fl.c = x at *
  exact ek_ Tryz.func17 [.tmp 2, .tmp 3]
theorem c_r08Free (f : Fm) (hf : FmW f) : Pure Tryz.prog env 19 [.agg f.cells] (boolErrV (f.has 2)) := by
 intro h
 have hC := c_refFmCheck f hf
 unfold boolErrV Fm.has
 cases he : (fmErr f != 0) with
 | true =>
  simp only [if_true]
  clear hf
  generalize fmErr f = e at *
  exact ek_ Tryz.func19 [.tmp 2, .tmp 3]
 | false =>
  have h0 : fmErr f = 0 := by simpa using he
  have hO := c_r08f _ f (Nat.le_refl _) hf (Fm.ok_good he)
  simp only [Bool.false_eq_true, if_false]
  rw [h0] at hC
  have n0 : ((0 : Int) != 0) = false := rfl
  clear he h0 hf
  have e1 : ((2 : Int) == 1) = false := rfl
  simp only [beq_self_eq_true, if_true, e1, Bool.false_eq_true, if_false]
  generalize f.fl.f = x at *
  exact ek_ Tryz.func19 [.tmp 2, .tmp 3]
end Go.Proofs.YtmbpmbofehmdaaaGreatDoor
