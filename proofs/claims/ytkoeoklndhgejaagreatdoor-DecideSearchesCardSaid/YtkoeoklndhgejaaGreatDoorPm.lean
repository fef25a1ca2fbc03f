/-
 Walks: the truth of any decidable formula, closed (the reference).
-/
import Derived.Test.YtkoeoklndhgejaaGreatDoorMm
import Derived.Test.YtkoeoklndhgejaaGreatDoorOm
import Derived.Test.YtkoeoklndhgejaaGreatDoorAbsDc
set_option linter.unusedSimpArgs false
set_option linter.unusedVariables false
set_option maxRecDepth 20000
set_option maxHeartbeats 4000000
namespace Go.Proofs.YtkoeoklndhgejaaGreatDoor
open Go GoAbs Go.Proofs
theorem c_r09bndE {all : Bool} {f a : Fm} {t : Tm} {l l' m : Nat} {e : Int} (hk : f.kind = 4 ∨ f.kind = 5) (he : (e != 0) = true)
  (hB : Pure Tryz.prog env 173 [.agg f.cells] (.tup [.bool all, .agg t.cells, .agg a.cells, .bool true]))
  (hE : Pure Tryz.prog env 172 [.agg t.cells, .int .i64 l] (.tup [.int .i64 m, .int .i64 l', .int .i64 e])) :
  Pure Tryz.prog env 126 [.agg f.cells, .int .i64 l] (t9V (false, 0, e)) := by
 intro h
 unfold t9V
 rcases hk with hk | hk
 all_goals
  refine en_ Tryz.func126 [.tmp 4, .tmp 5, .tmp 6] fun g0 w0 gen hrel hfr hfr' hres => ?_
  first|refine wq_ ?_|exact wk_
  all_goals rfl
theorem evW_num {t : Tm} {l : Nat} (ht : HasTy TyG [] t tNat) (wt : TmW t) (hl : l ≤ 65536) : (evW t l).1 ≤ 65536 ∧ (evW t l).2.1 ≤ 65536 := by
 obtain ⟨r, u, o, h0, h1, hu⟩ := evN_at (m := l) ht
 obtain ⟨_, h3⟩ := evN_le ht wt hl
 rw [h1] at h3
 cases o with
 | true => simp [evW, h0]; omega
 | false =>
  have := h3 rfl
  simp only [evW, h0] at this ⊢
  omega
theorem rB_left {R : Nat → Fm → Ans} {all : Bool} {a : Fm} (hR : ∀ k l : Nat, k < 4096 → (putR a (numT k)).2 = 0 → l ≤ 65536 → (R l (putR a (numT k)).1).2.1 ≤ l) : ∀ n k l, l ≤ 65536 → (rB R all a n k l).2.1 ≤ l := by
 intro n
 induction n with
 | zero => intro k l _; exact Nat.le_refl _
 | succ n ih =>
  intro k l hl
  rw [rB]
  split
  ·exact Nat.zero_le _
  split
  ·exact Nat.zero_le _
  split
  ·exact Nat.zero_le _
  ·rename_i h1 h2 h3
   have := hR k (l - 1) (by omega) (by simpa using h3) (by omega)
   split
   ·omega
   ·exact Nat.le_trans (ih (k + 1) _ (by omega)) (by omega)
theorem c_r09truth : ∀ (n : Nat) (f : Fm), Dc [] f → fmSz f ≤ 4096 → fdp f ≤ n → ∀ l : Nat, l ≤ 65536 →
  Pure Tryz.prog env 126 [.agg f.cells, .int .i64 l] (t9V (rT n l f)) ∧ (rT n l f).2.1 ≤ l := by
 intro n
 induction n with
 | zero => intro f _ _ hn; have := fdp_pos f; omega
 | succ n ih =>
  intro f hf zf hn l hl
  generalize hg : ([] : List Ty) = g at hf
  cases hf with
  | @eq _ x y gx gy tx ty =>
   subst hg
   rw [fmSz_eq] at zf
   rw [rT_eq]
   refine ⟨c_t9Eq x y (fun w hw => c_r09eval x tx gx (by omega) gx.toW w hw) (fun w hw => c_r09eval y ty gy (by omega) gy.toW w hw) l hl, ?_⟩
   unfold t9Eq
   split
   ·exact Nat.zero_le _
   ·exact Nat.le_trans evW_left evW_left
  | @two _ k a b hk da db =>
   subst hg
   rw [fmSz_two] at zf
   rw [fdp_two] at hn
   rw [rT_two hk]
   obtain ⟨a1, a2⟩ := ih a da (by omega) (by omega) l hl
   refine ⟨c_t9Two k hk a b (fun l => rT n l a) (fun l => rT n l b) l a2 hl a1 (fun w hw => (ih b db (by omega) (by omega) w hw).1), ?_⟩
   unfold t9Two
   simp only
   split
   ·exact Nat.zero_le _
   split
   ·exact Nat.le_trans (ih b db (by omega) (by omega) _ (by omega)).2 a2
   ·exact a2
  | @bnd _ all q a gq tq oq da =>
   subst hg
   have hD : Dc [] (bndF all q a) := .bnd gq tq oq da
   have hB := c_r08Bound hD zf (hD.G (u := true)).toW
   have hk : (bndF all q a).kind = 4 ∨ (bndF all q a).kind = 5 := by cases all <;> simp [bndF, fmQ, Fm.kind]
   rw [bnd_sz] at zf
   rw [fdp_bnd] at hn
   rw [rT_bnd]
   obtain ⟨gt, tt, zt⟩ := bnd_term gq tq oq (by omega)
   have hE := c_r09eval _ tt gt (by omega) gt.toW l hl
   obtain ⟨u1, u2⟩ := evW_num (l := l) tt gt.toW hl
   have u3 := evW_left (t := tPut q 0 zeroT) (w := l)
   have da : Dc [tNat] a := by simpa using da
   have za : fmSz a ≤ 4096 := by omega
   have hR : ∀ k l : Nat, k < 4096 → (putR a (numT k)).2 = 0 → l ≤ 65536 → Pure Tryz.prog env 126 [.agg (putR a (numT k)).1.cells, .int .i64 l] (t9V (rT n l (putR a (numT k)).1)) ∧ (rT n l (putR a (numT k)).1).2.1 ≤ l := by
    intro k l h1 h2 h3
    obtain ⟨p1, p2, p3⟩ := da.put za h1 h2
    exact ih _ p1 p2 (by omega) l h3
   have hP : ∀ k : Nat, k < 4096 → Pure Tryz.prog env 72 [.agg a.cells, .int .i64 0, .agg (numT k).cells] (fmErrV (putR a (numT k))) := by
    intro k h1
    have zk : tmSz (numT k) = k + 1 := tmSz_num k
    have := c_fmPut a (da.G (u := true)).toW 0 (numT k) (numT_W k)
    rw [fmPut_R (da.G (u := true)) (numT_G k) za (by omega) (da.least (by simp; omega)) ((HasTy.num (Q := TyG) (g := []) k).least _ (by omega) (by simp; omega))] at this
    exact this
   generalize tPut q 0 zeroT = t at *
   generalize evW t l = p at *
   obtain ⟨m, l', e⟩ := p
   unfold evNV at hE
   simp only at hE u1 u2 u3 ⊢
   generalize bndF all q a = f at *
   cases he : (e != 0) with
   | true => simp only [if_true]; exact ⟨c_r09bndE hk he hB hE, Nat.zero_le _⟩
   | false =>
    obtain rfl : e = 0 := by simpa using he
    simp only [Bool.false_eq_true, if_false]
    have hS := rB_S9 (R := fun l f => rT n l f) (all := all) hP hR m 0 l' (by omega)
    refine ⟨c_r09bnd hk (by omega) (by omega) hB hE hS, ?_⟩
    exact Nat.le_trans (rB_left (R := fun l f => rT n l f) (fun k l h1 h2 h3 => (hR k l h1 h2 h3).2) m 0 l' (by omega)) u3
theorem dT_le {lim : Nat} (hl : lim ≤ 65536) {f : Fm} (hf : Dc [] f) (zf : fmSz f ≤ 4096) : (dT lim (fdp f) 0 f).2.1 ≤ lim := (tr_ok (d := ⟨0, 0, 0⟩) hl (fdp f) f 0 (Nat.le_refl _) hf zf (by omega)).2.1
theorem c_r09Truth {f : Fm} (hf : Dc [] f) (zf : fmSz f ≤ 4096) (lim : Nat) (hl : lim ≤ 65536) : Pure Tryz.prog env 73 [.agg f.cells, .int .i64 lim] (decV (dT lim (fdp f) 0 f)) := by
 have wf := (hf.G (u := true)).toW
 have h1 := c_fmTyped [] (by simp) (by simp) f hf.ty (hf.G (u := true)) zf wf
 have h2 := c_r08Decidable hf.ty (hf.G (u := true)) zf wf (by simp)
 rw [hf.fld (by simp; omega)] at h2
 obtain ⟨h3, h4⟩ := c_r09truth (fdp f) f hf zf (Nat.le_refl _) lim hl
 have h5 := dT_rT (lim := lim) (fdp f) f 0
 have h6 := dT_le hl hf zf
 have d1 : decide ((lim : Int) < 0) = false := by simp
 have d2 : decide ((lim : Int) > 65536) = false := by simp; omega
 rw [Nat.sub_zero] at h5
 unfold decV
 unfold t9V at h3
 clear hf zf wf
 generalize dT lim (fdp f) 0 f = p at *
 generalize rT (fdp f) lim f = r at *
 obtain ⟨pb, pw, pe⟩ := p
 obtain ⟨rb, rl, re⟩ := r
 obtain ⟨g1, g2, g3⟩ := h5
 simp only at *
 subst g1
 cases he : (re != 0) with
 | true =>
  simp only [if_true]
  clear g2 g3 h6
  intro h
  refine en_ Tryz.func73 [.tmp 4, .tmp 5, .tmp 6] fun g0 w0 gen hrel hfr hfr' hres => ?_
  repeat' (first
   |exact hin _|exact agf (by assumption)
   | (first|refine wp rfl ?_|refine spt rfl ?_|refine spf rfl ?_|(refine spl (fun hc => ?_) fun hc => ?_) <;> (try rw [beq_iff_eq] at hc) <;> try simp only [hc]|(refine gs (fun hb => ?_) fun hb => ?_) <;> try simp only [Bool.not_true, Bool.not_false] at hb|refine cp h1 ?_|refine cp h2 ?_|refine cp h3 ?_|refine finF hrel ?_ ?_ ?_)<;>try simp only [go_sem, *])
  all_goals rfl
 | false =>
  obtain rfl : re = 0 := by simpa using he
  obtain ⟨rfl, rfl⟩ := g3 rfl
  simp only [Bool.false_eq_true, if_false]
  have hw : IntKind.i64.wrap ((lim : Int) - ((lim - pw : Nat) : Int)) = (pw : Int) := wrap_eq (by omega) (by omega) (by omega)
  clear g2 g3 h6 h4
  generalize lim - pw = rl at *
  intro h
  exact ek_ Tryz.func73 [.tmp 4, .tmp 5, .tmp 6]
end Go.Proofs.YtkoeoklndhgejaaGreatDoor
