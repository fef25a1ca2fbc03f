/-
 Walks: several parts in one text.
-/
import Derived.Test.YtmbpmbofehmdaaaGreatDoorMo
import Derived.Test.YtmbpmbofehmdaaaGreatDoorGk
import Derived.Test.YtmbpmbofehmdaaaGreatDoorAbsDd
set_option linter.unusedSimpArgs false
set_option linter.unusedVariables false
set_option maxRecDepth 20000
set_option maxHeartbeats 4000000
namespace Go.Proofs.YtmbpmbofehmdaaaGreatDoor
open Go GoAbs Go.Proofs
theorem c_substLiftC (t : Tm) (ht : TmW t) : Pure Tryz.prog env 71 [.agg t.cells, .int .i64 0, .int .i64 1] (tmErrV (liftC t)) := by
 intro h
 have h1 := c_termsCheck t ht
 have h2 := c_Near t ht
 have h3 := c_tLift t ht 0 1
 have h4 := c_within 0 (by omega) (by omega)
 have h5 := c_within 1 (by omega) (by omega)
 have hz := zT_cells
 unfold liftC tmErrV
 cases he : (tmErr t != 0) with
 | true =>
  simp only [if_true, hz]
  clear ht h2 h3
  generalize tmErr t = e at *
  exact ek_ Tryz.func71 [.cell 6 31, .tmp 7]
 | false =>
  have h0 : tmErr t = 0 := by simpa using he
  rw [h0] at h1
  have n0 : ((0 : Int) != 0) = false := rfl
  simp only [Bool.false_eq_true, if_false]
  clear he h0 ht
  generalize tLift t 0 1 = v at *
  cases hn : t.near
  all_goals
   rw [hn] at h2
   simp only [Bool.not_true, Bool.not_false, Bool.false_eq_true, if_true, if_false, hz]
   exact ek_ Tryz.func71 [.cell 6 31, .tmp 7]
theorem liftC_W {N : Nat} {t : Tm} (hN : N ≤ 100000) (ht : TmA N t) : TmW (liftC t).1 := by
 rw [liftC_eq hN ht]
 unfold tmLift
 repeat' split
 all_goals first|exact zeroT_W|exact tmUp_W _ _ ht.w
theorem c_clsBoundedC {N : Nat} (hN : N ≤ 100000) (all : Bool) (t : Tm) (ht : TmA N t) (f : Fm) (hf : FmW f) : Pure Tryz.prog env 33 [.bool all, .agg t.cells, .agg f.cells] (fmErrV (bndC all t f)) := by
 intro h
 have h1 := c_substLiftC t ht.w
 have h2 := c_fmCheck f hf
 have h3 := c_joint all
 have h4 := c_less (tmVar 0) (liftC t).1
 have h5 := c_OwnFormula f hf
 have wx := liftC_W hN ht
 have hz := zF_cells
 have h8 := c_fmCheck _ (bndF_W (all := all) wx hf)
 unfold bndC fmErrV
 unfold tmErrV at h1
 generalize liftC t = p at *
 obtain ⟨x, e⟩ := p
 simp only at h1 h4 wx h8 ⊢
 cases k1 : (e != 0) with
 | true =>
  simp only [if_true, hz]
  clear h2 h3 h4 h5 h8 ht hf
  exact ek_ Tryz.func33 [.cell 6 29, .tmp 7]
 | false =>
 simp only [Bool.false_eq_true, if_false]
 cases k2 : (fmErr f != 0) with
 | true =>
  simp only [if_true, hz]
  clear h3 h4 h5 h8 ht hf
  generalize fmErr f = e2 at *
  exact ek_ Tryz.func33 [.cell 6 29, .tmp 7]
 | false =>
 simp only [Bool.false_eq_true, if_false]
 have k2' : fmErr f = 0 := by simpa using k2
 rw [k2'] at h2
 have k1' : e = 0 := by simpa using k1
 subst k1'
 unfold bndF at h8 ⊢
 have h6 := c_Form (if all then 3 else 2) [lessF (tmVar 0) x, f]
 have h7 := c_Quantified (if all then 4 else 5) tNat (fmTwo (if all then 3 else 2) (lessF (tmVar 0) x) f)
 have e6 : Fm.mk (if all then 3 else 2) (.mk 0 []) [] [lessF (tmVar 0) x, f] = fmTwo (if all then 3 else 2) (lessF (tmVar 0) x) f := rfl
 rw [e6] at h6
 simp only [List.map_cons, List.map_nil] at h6
 have n0 : ((0 : Int) != 0) = false := rfl
 clear e6 wx hf ht k1 k2 k2'
 generalize lessF (tmVar 0) x = z1 at *
 generalize fmTwo (if all then 3 else 2) z1 f = z2 at *
 generalize fmQ (if all then 4 else 5) tNat z2 = z3 at *
 cases k3 : (fmErr z3 != 0)
 all_goals
  generalize fmErr z3 = e3 at *
  cases all
  all_goals
   simp only [if_true, Bool.false_eq_true, if_false, hz] at h3 h6 h7 ⊢
   have zq0 := c_tVar 0
   have zq1 := c_tNat
   exact ek_ Tryz.func33 [.cell 6 29, .tmp 7]
theorem c_clsLessC (s t : Tm) (hs : TmW s) (ht : TmW t) : Pure Tryz.prog env 35 [.agg s.cells, .agg t.cells] (fmErrV (lessC s t)) := by
 intro h
 have h1 := c_termsCheck s hs
 have h2 := c_termsCheck t ht
 have h3 := c_Own s hs
 have h4 := c_Own t ht
 have h5 := c_less s t
 have h6 := c_fmCheck (lessF s t) (lessF_W hs ht)
 have hz := zF_cells
 have ls := Tm.cells_len s
 have lt := Tm.cells_len t
 have t0 : (s.cells ++ t.cells).take 5 = s.cells := List.take_left' ls
 have t1 : ((s.cells ++ t.cells).drop 5).take 5 = t.cells := by rw [List.drop_left' ls, List.take_of_length_le (by omega)]
 have sa : ∀ a0 a1 a2 a3 a4 b0 b1 b2 b3 b4 : V, splice [a0, a1, a2, a3, a4, b0, b1, b2, b3, b4] 0 s.cells = s.cells ++ [b0, b1, b2, b3, b4] := by
  intros; rw [splice_eq _ _ _ (by simp [ls])]; simp [ls]
 have sb : ∀ b0 b1 b2 b3 b4 : V, splice (s.cells ++ [b0, b1, b2, b3, b4]) 5 t.cells = s.cells ++ t.cells := by
  intros; rw [splice_eq _ _ _ (by simp [ls, lt])]; simp [ls, lt]
 have la : ∀ b0 b1 b2 b3 b4 : V, (s.cells ++ [b0, b1, b2, b3, b4]).length = 10 := by intros; simp [ls]
 have lb : (s.cells ++ t.cells).length = 10 := by simp [ls, lt]
 have lc : s.cells.length + t.cells.length = 10 := by omega
 have n0 : ((0 : Int) != 0) = false := rfl
 have p02 : ((0 : Int) < ((2 : Nat) : Int)) = True := by simp
 have q02 : ((0 : Int) < 2) = True := by simp
 have q12 : ((1 : Int) < 2) = True := by simp
 have p12 : ((1 : Int) < ((2 : Nat) : Int)) = True := by simp
 unfold lessC fmErrV
 generalize lessF s t = z at *
 generalize tmErr s = es at *
 generalize tmErr t = et at *
 clear hs ht
 refine en_ Tryz.func35 [.cell 4 29, .tmp 5] fun g0 w0 gen hrel hfr hfr' hres => ?_
 refine wq_ ?_
 refine AR_loop_nat (fun i σ => σ.tm 13 = .int .i64 i ∧ σ.tm 12 = .agg (s.cells ++ t.cells) ∧ σ.tm 2 = .ptr ⟨gen, 0, 0⟩ 0 ∧ σ.tm 3 = .ptr ⟨gen, 0, 1⟩ 0 ∧ σ.tm 4 = .ptr ⟨gen, 0, 2⟩ 0 ∧ σ.tm 5 = .int .i64 0 ∧
  σ.h ⟨gen, 0, 0⟩ = some (.box s.cells) ∧ σ.h ⟨gen, 0, 1⟩ = some (.box t.cells) ∧ σ.h ⟨gen, 0, 2⟩ = some (.box [.int .i64 0, .int .i64 0, .sl .full [], .sl .full [], .sl .full []]) ∧ Agree h σ.h ∧ (0 < i → (es != 0) = false) ∧ (1 < i → (et != 0) = false)) 2 ?_ ?_
 ·simp only [go_sem, *]
  exact ⟨rfl, by repeat (first|exact Agree.refl _|refine Agree.new ?_ (hfr' _ _))⟩
 intro i σ hi ⟨j1, j2, j3, j4, j5, j6, j7, j8, j9, j10, j11, j12⟩
 refine AR_gen (fun gn hgn => ?_)
 have hgf := fresh_of hgn
 have hgf0 : ∀ r i, h ⟨gn, r, i⟩ = none := fun r i => agree_fresh j10 (hgf r i)
 have e1 := gen_ne hgn j7
 have e2 := gen_ne' hgn j7
 clear hgn
 obtain rfl | rfl | rfl : i = 0 ∨ i = 1 ∨ i = 2 := by omega
 ·clear j11 j12
  have m0 : ((0 : Nat) : Int) = 0 := rfl
  have m1 : (0 : Nat) < 2 := by omega
  have m2 : ((0 + 1 : Nat) : Int) = 1 := rfl
  have m3 : ¬ (1 : Nat) < 0 + 1 := by omega
  rw [m0] at j1
  cases k1 : (es != 0) with
  | true =>
   simp only [if_true]
   exact wk_
  | false =>
   simp only [Bool.false_eq_true, if_false]
   repeat' (first
    |(refine ⟨?_,?_⟩; focus ((repeat' (first|refine ⟨?_,?_⟩|refine .inr ?_)); all_goals kernel_rfl))
    | (first|refine wp rfl ?_|refine spt rfl ?_|refine spf rfl ?_|(refine spl (fun hc => ?_) fun hc => ?_) <;> (try rw [beq_iff_eq] at hc) <;> try simp only [hc]|refine cp h1 ?_)<;>try simp only [go_sem, *])
   refine AR_inv ?_
   simp only [go_sem, *]
   repeat' (first|assumption | rfl|refine And.intro ?_ ?_|refine Agree.new ?_ (hgf0 _ _) | (intros; omega))
 ·have k1 := j11 (by omega)
  clear j11 j12
  have m0 : ((1 : Nat) : Int) = 1 := rfl
  have m1 : (1 : Nat) < 2 := by omega
  have m2 : ((1 + 1 : Nat) : Int) = 2 := rfl
  rw [m0] at j1
  rw [k1]
  simp only [Bool.false_eq_true, if_false]
  cases k2 : (et != 0) with
  | true =>
   simp only [if_true]
   exact wk_
  | false =>
   simp only [Bool.false_eq_true, if_false]
   repeat' (first
    |(refine ⟨?_,?_⟩; focus ((repeat' (first|refine ⟨?_,?_⟩|refine .inr ?_)); all_goals kernel_rfl))
    | (first|refine wp rfl ?_|refine spt rfl ?_|refine spf rfl ?_|(refine spl (fun hc => ?_) fun hc => ?_) <;> (try rw [beq_iff_eq] at hc) <;> try simp only [hc]|refine cp h2 ?_)<;>try simp only [go_sem, *])
   refine AR_inv ?_
   simp only [go_sem, *]
   repeat' (first|assumption | rfl|refine And.intro ?_ ?_|refine Agree.new ?_ (hgf0 _ _) | (intros; omega))
 ·have k1 := j11 (by omega)
  have k2 := j12 (by omega)
  clear j11 j12 h1 h2
  have m0 : ((2 : Nat) : Int) = 2 := rfl
  rw [m0] at j1
  rw [k1, k2]
  simp only [Bool.false_eq_true, if_false]
  cases k3 : (fmErr z != 0)
  all_goals
   generalize fmErr z = ez at *
   simp only [Bool.false_eq_true, if_false, if_true]
   exact wk_
end Go.Proofs.YtmbpmbofehmdaaaGreatDoor
