/-
  The abstract layer: plain laws, further ones.
-/
import Derived.Test.YtjpheflnapmdcaaGreatDoorAbsD
set_option linter.unusedSimpArgs false
set_option linter.unusedVariables false
set_option linter.unusedSectionVars false
set_option maxRecDepth 8000
namespace GoAbs
open Go

theorem wrap_r {a : Int} (h0 : -1000000000000 ≤ a) (h1 : a ≤ 1000000000000) : addW a 0 = a := by rw [addW_eq h0 h1 (by omega) (by omega)]; omega
theorem below_if {k d : Int} (h0 : 0 ≤ d) (h1 : d ≤ 1000000000000) : (if k == 2 then addW d 1 else d) = addW d (tmBelow k) := by
  unfold tmBelow
  cases hk : (k == 2)
  · simp only [Bool.false_eq_true, if_false]; rw [wrap_r (by omega) h1]
  · rfl

theorem up_zero : ∀ (n : Nat) {t : Tm}, TmG t → tmSz t ≤ n → t.least 1000000000 = true → ∀ fr : Int, t.up 0 fr = t
  | 0, t, h, hn, _, _ => by have := tmSz_pos t; omega
  | n + 1, t, h, hn, hl, fr => by
    revert hn hl
    refine h.cases' (p := fun t => tmSz t ≤ n + 1 → t.least 1000000000 = true → t.up 0 fr = t) ?_ ?_
    · intro i hi _ hl
      rw [tmVar, Tm.least_eq, Bool.and_eq_true] at hl
      have hi2 : i ≤ 1000000000 := of_decide_eq_true hl.1
      rw [tmVar, Tm.up, Tm.upL, wrap_r (by omega) (by omega)]
      split <;> rfl
    · intro k ty l hk _ hg _ hn hl
      rw [tmSz] at hn
      rw [Tm.least, Bool.and_eq_true] at hl
      rw [Tm.up, Tm.upL_map, hk]
      simp only [Bool.false_and, Bool.false_eq_true, if_false]
      congr 1
      refine (List.map_congr_left (g := id) fun x hx => ?_).trans (List.map_id _)
      exact up_zero n (hg x hx) (by have := tmSzL_mem hx; omega) (Tm.leastL_iff.1 hl.2 x hx) _

theorem sl_up {b : Int} (hb0 : 0 ≤ b) (hb : b ≤ 1000000) : ∀ (n : Nat) {t : Tm}, TmG t → tmSz t ≤ n → t.least 1000000000 = true → ∀ fr : Int, 0 ≤ fr → fr + n ≤ 1000000 → t.sl b fr = t.up b fr
  | 0, t, h, hn, _, _, _, _ => by have := tmSz_pos t; omega
  | n + 1, t, h, hn, hl, fr, hf, hf2 => by
    cases hb1 : (b == 0) with
    | true =>
      have : b = 0 := by simpa using hb1
      subst this
      rw [up_zero _ h hn hl, Tm.sl_eq]; rfl
    | false =>
    revert hn hl
    refine h.cases' (p := fun t => tmSz t ≤ n + 1 → t.least 1000000000 = true → t.sl b fr = t.up b fr) ?_ ?_
    · intro i hi _ hl
      rw [tmVar, Tm.up, Tm.upL, Tm.sl, hb1]
      rfl
    · intro k ty l hk _ hg _ hn hl
      rw [tmSz] at hn
      rw [Tm.least, Bool.and_eq_true] at hl
      have hr := tmBelow_range k
      have e : addW fr (tmBelow k) = fr + tmBelow k := addW_eq (by omega) (by omega) (by omega) (by omega)
      rw [Tm.up, Tm.upL_map, Tm.sl, Tm.slL_map, hb1, hk, below_if hf (by omega), e]
      simp only [Bool.false_and, Bool.false_eq_true, if_false]
      congr 1
      refine List.map_congr_left fun x hx => ?_
      exact sl_up hb0 hb n (hg x hx) (by have := tmSzL_mem hx; omega) (Tm.leastL_iff.1 hl.2 x hx) _ (by omega) (by omega)

theorem sp_inn {s : Tm} (hs : TmG s) (zs : tmSz s ≤ 10000) (ls : s.least 1000000000 = true) : ∀ (n : Nat) {t : Tm}, TmG t → tmSz t ≤ n → ∀ d : Int, 0 ≤ d → d + n ≤ 900000 → tmSp s 0 t d = tmInn s 0 t d
  | 0, t, h, hn, _, _, _ => by have := tmSz_pos t; omega
  | n + 1, t, h, hn, d, hd, hb => by
    revert hn
    have e0 : addW 0 d = d := by rw [addW_eq (by omega) (by omega) (by omega) (by omega)]; omega
    refine h.cases' (p := fun t => tmSz t ≤ n + 1 → tmSp s 0 t d = tmInn s 0 t d) ?_ ?_
    · intro i hi _
      rw [tmVar, tmSp, tmInn, e0, sl_up hd (by omega) _ hs (Nat.le_refl _) ls 0 (by omega) (by omega)]
      rfl
    · intro k ty l hk _ hg _ hn
      rw [tmSz] at hn
      have hr := tmBelow_range k
      have e : addW d (tmBelow k) = d + tmBelow k := addW_eq (by omega) (by omega) (by omega) (by omega)
      rw [tmInn, tmInnL_map, tmSp, tmSpL_map, hk, below_if hd (by omega), e]
      simp only [Bool.false_eq_true, if_false]
      congr 1
      refine List.map_congr_left fun x hx => ?_
      exact sp_inn hs zs ls n (hg x hx) (by have := tmSzL_mem hx; omega) _ (by omega) (by omega)

theorem usL_sum {a : Int} : ∀ (l : List Tm) (n : Nat), (∀ y ∈ l, y.us a = (tmOcc y a : Int)) → n + tmSzL l ≤ 1000000 → Tm.usL a (n : Int) l = ((n + tmOccL l a : Nat) : Int)
  | [], n, _, _ => by rw [Tm.usL, tmOccL]; rfl
  | t :: l, n, h, hn => by
    rw [tmSzL] at hn
    have := tmOcc_le t a
    rw [Tm.usL, h t (by simp), addW_eq (by omega) (by omega) (by omega) (by omega), tmOccL, show (n : Int) + (tmOcc t a : Int) = ((n + tmOcc t a : Nat) : Int) by simp,
      usL_sum l _ (fun y hy => h y (by simp [hy])) (by omega)]
    rw [Nat.add_assoc]
theorem us_occ : ∀ (n : Nat) {t : Tm}, TmG t → tmSz t ≤ n → ∀ x : Int, 0 ≤ x → x + n ≤ 1000000 → t.us x = (tmOcc t x : Int)
  | 0, t, h, hn, x, _, _ => by have := tmSz_pos t; omega
  | n + 1, t, h, hn, x, hx, hb => by
    revert hn
    refine h.cases' (p := fun t => tmSz t ≤ n + 1 → t.us x = (tmOcc t x : Int)) ?_ ?_
    · intro i hi _
      rw [tmVar, Tm.us, tmOcc, Tm.usL_nil]
      cases hix : (i == x) <;> simp [tmOccL]
    · intro k ty l hk _ hl _ hn
      rw [tmSz] at hn
      have hr := tmBelow_range k
      have e : addW x (tmBelow k) = x + tmBelow k := addW_eq (by omega) (by omega) (by omega) (by omega)
      rw [Tm.us, tmOcc, hk, below_if hx (by omega), e]
      simp only [Bool.false_and, Bool.false_eq_true, if_false]
      have := usL_sum (a := x + tmBelow k) l 0 (fun y hy => us_occ n (hl y hy) (by have := tmSzL_mem hy; omega) _ (by omega) (by omega)) (by omega)
      simpa using this

theorem evB_eq {k d : Int} (h0 : 0 ≤ d) (h1 : d ≤ 1000000) : evB k d = d + fmBelow k := by
  have e : quant k = (decide (k ≥ 4) && decide (k ≤ 7)) := by
    unfold quant
    by_cases h4 : k = 4
    · subst h4; rfl
    by_cases h5 : k = 5
    · subst h5; rfl
    by_cases h6 : k = 6
    · subst h6; rfl
    by_cases h7 : k = 7
    · subst h7; rfl
    have a4 : (k == 4) = false := by simpa using h4
    have a5 : (k == 5) = false := by simpa using h5
    have a6 : (k == 6) = false := by simpa using h6
    have a7 : (k == 7) = false := by simpa using h7
    rw [a4, a5, a6, a7]
    by_cases h : k ≥ 4
    · have : ¬ k ≤ 7 := by omega
      simp [h, this]
    · simp [h]
  unfold evB fmBelow
  rw [← e]
  split
  · exact addW_eq (by omega) (by omega) (by omega) (by omega)
  · omega

theorem fsp_inn {u : Bool} {s : Tm} (hs : TmG s) (zs : tmSz s ≤ 10000) (ls : s.least 1000000000 = true) {f : Fm} (h : FmG u f) : ∀ d : Int, 0 ≤ d → d + fmSz f ≤ 500000 →
    f.ev (fun t b => tmSp s 0 t b) d = fmInn s 0 f d := by
  induction h with
  | @eq x y hx hy =>
    intro d h0 hb
    rw [fmSz_eq] at hb
    rw [fmInn_eqn, fmEq, Fm.ev_eq]
    have e : evB 1 d = d := by rw [evB_eq h0 (by omega)]; show d + 0 = d; omega
    simp only [Fm.kind, Fm.terms, Fm.args, Fm.type, List.map_cons, List.map_nil, e]
    rw [sp_inn hs zs ls _ hx (Nat.le_refl _) d h0 (by omega), sp_inn hs zs ls _ hy (Nat.le_refl _) d h0 (by omega)]
    rfl
  | @two k p q hk _ _ h1 h2 =>
    intro d h0 hb
    rw [fmSz_two] at hb
    rw [fmInn_two, fmTwo, Fm.ev_eq]
    simp only [Fm.kind, Fm.terms, Fm.args, Fm.type, List.map_cons, List.map_nil]
    rw [evB_eq h0 (by omega), below_two hk, addW_zero h0 (by omega), Int.add_zero, h1 d h0 (by omega), h2 d h0 (by omega)]
    rfl
  | @q k t p hk hs _ h1 =>
    intro d h0 hb
    rw [fmSz_q] at hb
    have hr := fmBelow_range k
    have e := addW_eq (a := d) (b := fmBelow k) (by omega) (by omega) (by omega) (by omega)
    rw [fmInn_q, e, fmQ, Fm.ev_eq]
    simp only [Fm.kind, Fm.terms, Fm.args, Fm.type, List.map_cons, List.map_nil]
    rw [evB_eq h0 (by omega), h1 _ (by omega) (by omega)]
    rfl

theorem mul_b {a b m c : Nat} (h : a ≤ b) (hm : m ≤ c) : a * m ≤ b * c := Nat.le_trans (Nat.mul_le_mul_right m h) (Nat.mul_le_mul_left b hm)
theorem grown_occ {u : Bool} {m c : Nat} (hm : m ≤ c) {f : Fm} (h : FmG u f) : ∀ (d : Int) (n : Nat), 0 ≤ d → d + fmSz f ≤ 100000 → n + fmSz f * c ≤ 1000000000 →
    f.es (grownG (m : Int)) d (n : Int) = ((n + fmOcc f d * m : Nat) : Int) := by
  have step : ∀ {x : Tm} {d : Int} {n : Nat}, TmG x → 0 ≤ d → d + tmSz x ≤ 1000000 → n + tmSz x * c ≤ 1000000000 → tmSz x ≤ 100000 → grownG (m : Int) x d (n : Int) = ((n + tmOcc x d * m : Nat) : Int) := by
    intro x d n hx h0 hb hn hx2
    have ho := tmOcc_le x d
    have hp := mul_b ho hm
    unfold grownG mulW
    rw [us_occ _ hx (Nat.le_refl _) d h0 hb]
    have e : IntKind.i64.wrap ((m : Int) * (tmOcc x d : Int)) = ((tmOcc x d * m : Nat) : Int) := wrap_eq (by rw [Int.natCast_mul, Int.mul_comm]) (by omega) (by omega)
    rw [e, addW_eq (by omega) (by omega) (by omega) (by omega)]
    omega
  induction h with
  | @eq x y hx hy =>
    intro d n h0 hb hn
    rw [fmSz_eq] at hb hn; rw [Nat.add_mul, Nat.add_mul] at hn
    have e : evB 1 d = d := by rw [evB_eq h0 (by omega)]; show d + 0 = d; omega
    have h1 := step (n := n) hx h0 (by omega) (by omega) (by omega)
    have hp := mul_b (tmOcc_le x d) hm
    have h2 := step (n := n + tmOcc x d * m) hy h0 (by omega) (by omega) (by omega)
    rw [fmEq, Fm.es_eq]
    simp only [Fm.kind, Fm.terms, Fm.args, e, tmsS_cons, tmsS_nil, Fm.esL_nil]
    rw [h1, h2]
    simp only [fmOcc, tmOccL, fmOccL, Nat.add_zero, Nat.add_mul]
    omega
  | @two k p q hk _ _ h1 h2 =>
    intro d n h0 hb hn
    rw [fmSz_two] at hb hn; rw [Nat.add_mul, Nat.add_mul] at hn
    have hp := mul_b (fmOcc_le p d) hm
    rw [fmTwo, Fm.es_eq]
    simp only [Fm.kind, Fm.terms, Fm.args, tmsS_cons, tmsS_nil, Fm.esL_cons, Fm.esL_nil]
    rw [evB_eq h0 (by omega), below_two hk, Int.add_zero, h1 d n h0 (by omega) (by omega), h2 d _ h0 (by omega) (by omega)]
    simp only [fmOcc, tmOccL, fmOccL, Nat.add_zero, Nat.zero_add, below_two hk, Int.add_zero, Nat.add_mul]
    omega
  | @q k t p hk hs _ h1 =>
    intro d n h0 hb hn
    rw [fmSz_q] at hb hn; rw [Nat.add_mul] at hn
    have hr := fmBelow_range k
    rw [fmQ, Fm.es_eq]
    simp only [Fm.kind, Fm.terms, Fm.args, tmsS_cons, tmsS_nil, Fm.esL_cons, Fm.esL_nil]
    rw [evB_eq h0 (by omega), h1 _ n (by omega) (by omega) (by omega)]
    simp only [fmOcc, tmOccL, fmOccL, Nat.add_zero, Nat.zero_add]

theorem tmsS_far {b : Int} : ∀ (l : List Tm) (s : Bool), tmsS farG b s l = (s || !Tm.leastL 268435456 l)
  | [], s => by simp [tmsS, Tm.leastL]
  | t :: l, s => by rw [tmsS, tmsS_far l, Tm.leastL, farG]; cases s <;> cases t.least 268435456 <;> simp
mutual
theorem es_far : ∀ (f : Fm) (b : Int) (s : Bool), f.es farG b s = (s || !f.least 268435456)
  | .mk k t l a, b, s => by rw [Fm.es, esL_far a, tmsS_far, Fm.least]; cases s <;> cases Tm.leastL 268435456 l <;> simp
theorem esL_far : ∀ (l : List Fm) (b : Int) (s : Bool), Fm.esL farG l b s = (s || !Fm.leastL 268435456 l)
  | [], b, s => by simp [Fm.esL, Fm.leastL]
  | f :: l, b, s => by rw [Fm.esL, esL_far l, es_far f, Fm.leastL]; cases s <;> cases f.least 268435456 <;> simp
end
theorem far_least (f : Fm) : f.far = !f.least 268435456 := by rw [Fm.far, es_far]; rfl

end GoAbs

namespace GoAbs
open Go

theorem TyF.hsz {t : Ty} (h : TyF t) : 2 * tyH t ≤ tySz t + 1 := by
  induction h with
  | nat => rw [tyH_nat, tySz_nat]; omega
  | list => rw [tyH_list, tySz_list]; omega
  | unit => rw [tyH_unit, tySz_unit]; omega
  | @pair a b _ _ h1 h2 => rw [tyH_pair, tySz_pair]; have := tySz_pos a; have := tySz_pos b; omega
  | @func a b _ _ h1 h2 => rw [tyH_fun, tySz_fun]; have := tySz_pos a; have := tySz_pos b; omega
theorem TyG.h40 {t : Ty} (h : TyG t) : tyH t ≤ 32 := by have := h.1.hsz; have := h.2; omega

theorem mTwo_code {k : Int} {x y : Fm × Int} (hx : x.2 = 0 ∨ x.2 = 4) (hy : y.2 = 0 ∨ y.2 = 4) : (mTwo k x y).2 = 0 ∨ (mTwo k x y).2 = 4 := by
  unfold mTwo
  repeat' split
  · exact hx
  · exact hy
  · exact .inr rfl
  · exact .inl rfl
theorem fdp_pos (f : Fm) : 1 ≤ fdp f := by cases f; rw [fdp]; omega
theorem fdp_two {k : Int} {a b : Fm} : fdp (fmTwo k a b) = max (fdp a) (fdp b) + 1 := by simp [fmTwo, fdp, fdpL]
theorem fdp_eqn {x y : Tm} : fdp (fmEq x y) = 1 := by simp [fmEq, fdp, fdpL]

/-- What the matrix of a negation is. -/
theorem mTwo_ok {k : Int} {x y : Fm × Int} (h : (mTwo k x y).2 = 0) : x.2 = 0 ∧ y.2 = 0 ∧ (mTwo k x y).1 = fmTwo k x.1 y.1 := by
  unfold mTwo at h ⊢
  split at h
  · rename_i hh; rw [h] at hh; simp at hh
  · rename_i h1
    rw [if_neg h1]
    split at h
    · rename_i hh; rw [h] at hh; simp at hh
    · rename_i h2
      rw [if_neg h2]
      split at h
      · simp at h
      · rename_i h3
        rw [if_neg h3]
        exact ⟨by simpa using h1, by simpa using h2, rfl⟩

theorem least_tm0 {k : Int} {l : List Tm} {M : Int} (hM : 0 ≤ M) (h : ∀ x ∈ l, x.least M = true) : (tm0 k l).least M = true := least_mk (by omega) h
theorem chCall_G {a b : Ty} {f t : Tm} (h1 : TmG f) (h2 : TmG t) : TmG (chCall a b f t) := by
  unfold chCall
  repeat' split
  · exact .t0 ar13 rfl
  · exact h1
  · exact .t2 ar3 rfl h1 h2
theorem chCall_least {a b : Ty} {f t : Tm} {M : Int} (hM : 0 ≤ M) (h1 : f.least M = true) (h2 : t.least M = true) : (chCall a b f t).least M = true := by
  unfold chCall
  repeat' split
  · exact least_tm0 hM (by simp)
  · exact h1
  · exact least_tm0 hM (by simp [h1, h2])
theorem chCall_sz {a b : Ty} {f t : Tm} : tmSz (chCall a b f t) ≤ tmSz f + tmSz t + 1 := by
  unfold chCall
  repeat' split
  · rw [tmSz_0]; omega
  · omega
  · rw [tmSz_2]; omega
theorem fleast_two {k : Int} {a b : Fm} {M : Int} (h1 : a.least M = true) (h2 : b.least M = true) : (fmTwo k a b).least M = true := by
  rw [fmTwo, Fm.least]; simp [Tm.leastL_nil, Fm.leastL_cons, Fm.leastL_nil, h1, h2]
end GoAbs

namespace GoAbs
open Go

theorem chCall_ty {g : List Ty} {a b : Ty} {f t : Tm} (hb : TyF b) (h : HasTy TyF g f (chFun a b)) (ht : HasTy TyF g t a) : HasTy TyF g (chCall a b f t) b := by
  unfold chCall chFun at *
  cases kb : (b.kind == 5) with
  | true => simp only [if_true]; rw [hb.kind5 kb]; exact .n0 (ty := .mk 0 []) .unit
  | false =>
    rw [kb] at h
    simp only [Bool.false_eq_true, if_false] at h ⊢
    cases ka : (a.kind == 5) with
    | true => rw [ka] at h; simp only [if_true] at h ⊢; exact h
    | false =>
      rw [ka] at h
      simp only [Bool.false_eq_true, if_false] at h ⊢
      exact .n2 (ty := .mk 0 []) .app h ht

theorem FmTy.inn {a : Ty} {x : Tm} {f : Fm} {g' : List Ty} (h : FmTy TyF g' f) : ∀ g l : List Ty, g' = g ++ [a] ++ l → HasTy TyF g x a → l.length + fmSz f ≤ 40000 → g.length + tmSz x ≤ 40000 → FmTy TyF (g ++ l) (fmInn x 0 f (l.length : Int)) := by
  induction h with
  | @eq g' p q h1 h2 =>
    intro g l e hx hb hg
    rw [fmSz_eq] at hb
    rw [fmInn_eqn]
    exact .eq (h1.inn g l e hx (by omega) (by omega)) (h2.inn g l e hx (by omega) (by omega))
  | @two g' k p q hk _ _ ih1 ih2 =>
    intro g l e hx hb hg
    rw [fmSz_two] at hb
    rw [fmInn_two, below_two hk, addW_zero (by omega) (by omega)]
    exact .two hk (ih1 g l e hx (by omega) hg) (ih2 g l e hx (by omega) hg)
  | @q g' k s p hk _ ih =>
    intro g l e hx hb hg
    subst e
    rw [fmSz_q] at hb
    have hq : fmBelow k = 1 := by rcases hk with rfl | rfl | rfl | rfl <;> rfl
    have e1 : addW (l.length : Int) (fmBelow k) = ((l ++ [s]).length : Int) := by
      rw [hq, addW_eq (by omega) (by omega) (by omega) (by omega)]; simp
    rw [fmInn_q, e1]
    refine .q hk ?_
    have := ih g (l ++ [s]) (by simp) hx (by simp; omega) hg
    rw [List.append_assoc]; exact this
inductive Shp : Nat → Fm → Prop
  | eq {n : Nat} {x y : Tm} : TmG x → TmG y → Shp n (fmEq x y)
  | two {n : Nat} {k : Int} {a b : Fm} (hk : k = 2 ∨ k = 3) : Shp n a → Shp n b → Shp (n + 1) (fmTwo k a b)
  | q {n : Nat} {k : Int} {s : Ty} {a : Fm} (hk : k = 4 ∨ k = 5) (hs : TyG s) : Shp n a → Shp (n + 1) (fmQ k s a)
theorem Shp.G {n : Nat} {f : Fm} (h : Shp n f) : FmG false f := by
  induction h with
  | eq h1 h2 => exact .eq h1 h2
  | two hk _ _ h1 h2 => exact .two hk h1 h2
  | q hk hs _ h1 => exact .q (by rcases hk with h | h; exact .inl h; exact .inr (.inl h)) hs h1
theorem Shp.of {n : Nat} {g : List Ty} {f : Fm} (h : MkFm false n g f) : (∀ y ∈ g, TyG y) → Shp n f := by
  induction h with
  | eq h1 h2 => exact fun hg => .eq (h1.G hg .nat) (h2.G hg .nat)
  | two hk _ _ h1 h2 => exact fun hg => .two hk (h1 hg) (h2 hg)
  | q hk hs _ h1 =>
    intro hg
    have hG := hs.G (by split <;> omega)
    refine .q ?_ hG (h1 ?_)
    · rcases hk with h | h | ⟨h, _⟩
      · exact .inl h
      · exact .inr h
      · cases h
    · intro y hy
      rcases List.mem_append.1 hy with hy | hy
      · exact hg y hy
      · simp at hy; subst hy; exact hG
theorem fleast_parts2 {k M : Int} {a b : Fm} (h : (fmTwo k a b).least M = true) : a.least M = true ∧ b.least M = true := by
  rw [fmTwo, Fm.least] at h; simpa [Tm.leastL_nil, Fm.leastL_cons, Fm.leastL_nil] using h
theorem fleast_part {k M : Int} {s : Ty} {a : Fm} (h : (fmQ k s a).least M = true) : a.least M = true := by
  rw [fmQ, Fm.least] at h; simpa [Tm.leastL_nil, Fm.leastL_cons, Fm.leastL_nil] using h
theorem fleast_eq {M : Int} {x y : Tm} : (fmEq x y).least M = true ↔ x.least M = true ∧ y.least M = true := by
  rw [fmEq, Fm.least]; simp [Tm.leastL_nil, Tm.leastL_cons, Fm.leastL_nil]
theorem Shp.inn {s : Tm} (hs : TmG s) (hsl : s.least 536870912 = true) {n : Nat} {f : Fm} (h : Shp n f) : f.least 536870912 = true → ∀ d : Int, 0 ≤ d → d + fmSz f ≤ 500000 → Shp n (fmInn s 0 f d) := by
  induction h with
  | @eq n x y hx hy =>
    intro hl d h0 hb
    rw [fmSz_eq] at hb
    obtain ⟨l1, l2⟩ := fleast_eq.1 hl
    rw [fmInn_eqn]
    exact .eq (TmG.inn hs hsl _ hx (Nat.le_refl _) l1 d h0 (by omega)) (TmG.inn hs hsl _ hy (Nat.le_refl _) l2 d h0 (by omega))
  | @two n k p q hk _ _ h1 h2 =>
    intro hl d h0 hb
    rw [fmSz_two] at hb
    obtain ⟨l1, l2⟩ := fleast_parts2 hl
    rw [fmInn_two, below_two hk, addW_zero h0 (by omega)]
    exact .two hk (h1 l1 d h0 (by omega)) (h2 l2 d h0 (by omega))
  | @q n k t p hk ht _ h1 =>
    intro hl d h0 hb
    rw [fmSz_q] at hb
    have hr := fmBelow_range k
    have e := addW_eq (a := d) (b := fmBelow k) (by omega) (by omega) (by omega) (by omega)
    rw [fmInn_q, e]
    exact .q hk ht (h1 (fleast_part hl) _ (by omega) (by omega))
def ArgsOk (f : Fm) : Prop := (∀ a ∈ f.args, fmSz a ≤ 4096) ∧ (f.args = [] → fmSz f ≤ 4096)
end GoAbs

namespace GoAbs
open Go

theorem fdp_mapx {g : Fm → Fm} : ∀ l : List Fm, (∀ x ∈ l, fdp (g x) = fdp x) → fdpL (l.map g) = fdpL l
  | [], _ => rfl
  | x :: l, h => by rw [List.map_cons, fdpL, fdpL, h x (by simp), fdp_mapx l (fun y hy => h y (by simp [hy]))]
theorem fdp_evx {F : Tm → Int → Tm} : ∀ (f : Fm) (b : Int), fdp (f.ev F b) = fdp f := by
  intro f
  induction f using Fm.ind with | h f ih => ?_
  intro b
  rw [Fm.ev_eq]
  cases f with | mk k t l a =>
  rw [fdp, fdp]
  simp only [Fm.args] at ih ⊢
  rw [fdp_mapx a (fun x hx => ih x hx _)]

/-- What is kept of a term on the way. -/
structure TmOk (L : Int) (g : List Ty) (t : Tm) (s : Ty) : Prop where
  gd : TmG t
  sz : tmSz t ≤ 20000
  l : t.least L = true
  ty : HasTy TyF g t s
theorem TmOk.cut {L : Int} {g : List Ty} {t : Tm} {s : Ty} (h : TmOk L g t s) (hz : t.szW ≤ 4096) : tmSz t ≤ 4096 := by
  have := t.szW_nodes _ (h.gd.nodes_val (by have := h.sz; omega)); omega
theorem TmOk.call {L : Int} (hL : 0 ≤ L) {g : List Ty} {f t : Tm} {a b : Ty} (hf : TmOk L g f (chFun a b)) (h : TmOk L g t a) (hz : tmSz f + tmSz t ≤ 19000) (hb : TyF b) : TmOk L g (chCall a b f t) b :=
  ⟨chCall_G hf.gd h.gd, by have := chCall_sz (a := a) (b := b) (f := f) (t := t); omega, chCall_least hL hf.l h.l, chCall_ty hb hf.ty h.ty⟩

theorem argsOk_of {x : Fm} (hx : fmSz x ≤ 4096) : ArgsOk x := ⟨fun y hy => by
    have key : ∀ {l : List Fm} {y : Fm}, y ∈ l → fmSz y ≤ fmSzL l := fun {l} {y} => by
      intro h
      induction l with
      | nil => cases h
      | cons z l ih => rw [fmSzL]; rcases List.mem_cons.1 h with rfl | h; omega; have := ih h; omega
    have : fmSz y ≤ fmSz x := by
      cases x with | mk k t l a =>
      rw [fmSz]
      have := key (show y ∈ a from hy); omega
    omega, fun _ => hx⟩

end GoAbs

namespace GoAbs
open Go

mutual
def pUp (b : Int) : Tm → Int → Tm
  | .mk k i t l, c => .mk k (if k == 1 && decide (i ≥ c) then i + b else i) t (pUpL b l (c + tmBelow k))
def pUpL (b : Int) : List Tm → Int → List Tm
  | [], _ => []
  | t :: l, c => pUp b t c :: pUpL b l c
end
theorem pUpL_map {b : Int} : ∀ (l : List Tm) (c : Int), pUpL b l c = l.map fun t => pUp b t c
  | [], c => by simp [pUpL]
  | t :: l, c => by simp [pUpL, pUpL_map l c]
mutual
def pIn (s : Tm) : Tm → Int → Tm
  | .mk k i t l, e => if k == 1 then (if i == e then pUp e s 0 else if decide (i > e) then tmVar (i - 1) else .mk k i t l)
    else .mk k i t (pInL s l (e + tmBelow k))
def pInL (s : Tm) : List Tm → Int → List Tm
  | [], _ => []
  | t :: l, e => pIn s t e :: pInL s l e
end
theorem pInL_map {s : Tm} : ∀ (l : List Tm) (e : Int), pInL s l e = l.map fun t => pIn s t e
  | [], e => by simp [pInL]
  | t :: l, e => by simp [pInL, pInL_map l e]

theorem pUp_var {b i c : Int} : pUp b (tmVar i) c = tmVar (if i ≥ c then i + b else i) := by
  rw [tmVar, pUp, pUpL_map]
  by_cases h : i ≥ c <;> simp [tmVar, h]
theorem pUp_node {b k c : Int} {t : Ty} {l : List Tm} (hk : k ≠ 1) : pUp b (tmT k t l) c = tmT k t (l.map fun x => pUp b x (c + tmBelow k)) := by
  have : (k == 1) = false := by simpa using hk
  rw [tmT, pUp, pUpL_map, this]; rfl
theorem pIn_var {s : Tm} {i e : Int} : pIn s (tmVar i) e = if i = e then pUp e s 0 else if i > e then tmVar (i - 1) else tmVar i := by
  rw [tmVar, pIn]
  by_cases h : i = e
  · simp [h]
  · by_cases h' : i > e <;> simp [h, h', tmVar]
theorem pIn_node {s : Tm} {k e : Int} {t : Ty} {l : List Tm} (hk : k ≠ 1) : pIn s (tmT k t l) e = tmT k t (l.map fun x => pIn s x (e + tmBelow k)) := by
  have : (k == 1) = false := by simpa using hk
  rw [tmT, pIn, pInL_map, this]; rfl
theorem below_nn (k : Int) : 0 ≤ tmBelow k ∧ tmBelow k ≤ 1 := by unfold tmBelow; split <;> omega

theorem TmG.nd {P : (t : Tm) → TmG t → Prop} (hv : ∀ i (hi : 0 ≤ i), P (tmVar i) (.var hi))
    (hn : ∀ (k : Int) (t : Ty) (l : List Tm) (_ : k ≠ 1) (hl : ∀ x ∈ l, TmG x) (ht : TmG (tmT k t l)), (∀ x (hx : x ∈ l), P x (hl x hx)) → P (tmT k t l) ht) {t : Tm} (h : TmG t) : P t h := by
  induction h with
  | @plain k l a ha hl ht h ih =>
    by_cases hk : k = 1
    · subst hk
      have : a = 0 := by simp [arity, arities] at ha; omega
      subst this
      have : l = [] := by cases l with
        | nil => rfl
        | cons x l => simp at hl; omega
      subst this
      exact hv 0 (by omega)
    · exact hn k (.mk 0 []) l hk h _ ih
  | var hi => exact hv _ hi
  | @typd k t l a ha hl ht hg h ih =>
    refine hn k t l ?_ h _ ih
    intro e; subst e; simp [typed] at ht

theorem map_eq {f g : Tm → Tm} {l : List Tm} (h : ∀ x ∈ l, f x = g x) : l.map f = l.map g := List.map_congr_left h

theorem pUp_up {a b : Int} (hb : 0 ≤ b) {t : Tm} (h : TmG t) : ∀ c c' : Int, c' ≤ c → c ≤ c' + b → pUp a (pUp b t c') c = pUp (b + a) t c' := by
  induction h using TmG.nd with
  | hv i hi =>
    intro c c' h1 h2
    rw [pUp_var, pUp_var, pUp_var]
    congr 1
    split <;> split <;> omega
  | hn k t l hk hl _ ih =>
    intro c c' h1 h2
    rw [pUp_node hk, pUp_node hk, pUp_node hk, List.map_map]
    congr 1
    exact map_eq fun x hx => ih x hx _ _ (by omega) (by omega)

theorem pUp_in {b : Int} (hb : 0 ≤ b) {s : Tm} (hs : TmG s) {t : Tm} (h : TmG t) : ∀ c e : Int, 0 ≤ c → c ≤ e → pUp b (pIn s t e) c = pIn s (pUp b t c) (e + b) := by
  induction h using TmG.nd with
  | hv i hi =>
    intro c e h0 h1
    rw [pIn_var, pUp_var, pIn_var]
    by_cases h2 : i = e
    · rw [if_pos h2, if_pos (show i ≥ c by omega), if_pos (by omega), pUp_up (by omega) hs c 0 h0 (by omega)]
    · rw [if_neg h2]
      by_cases h3 : i > e
      · rw [if_pos h3, pUp_var, if_pos (show i - 1 ≥ c by omega), if_pos (show i ≥ c by omega), if_neg (by omega), if_pos (by omega)]
        congr 1; omega
      · rw [if_neg h3, pUp_var]
        by_cases h4 : i ≥ c
        · rw [if_pos h4, if_neg (by omega), if_neg (by omega)]
        · rw [if_neg h4, if_neg (by omega), if_neg (by omega)]
  | hn k t l hk hl _ ih =>
    intro c e h0 h1
    have hz := below_nn k
    rw [pIn_node hk, pUp_node hk, pUp_node hk, pIn_node hk, List.map_map, List.map_map]
    congr 1
    refine map_eq fun x hx => ?_
    have := ih x hx (c + tmBelow k) (e + tmBelow k) (by omega) (by omega)
    simp only [Function.comp_apply]
    rw [this]
    congr 1; omega

theorem pIn_up {b : Int} {x : Tm} {t : Tm} (h : TmG t) : ∀ c e : Int, c ≤ e → e ≤ c + b → pIn x (pUp (b + 1) t c) e = pUp b t c := by
  induction h using TmG.nd with
  | hv i hi =>
    intro c e h1 h2
    rw [pUp_var, pIn_var, pUp_var]
    by_cases h3 : i ≥ c
    · rw [if_pos h3, if_pos h3, if_neg (by omega), if_pos (by omega)]
      congr 1; omega
    · rw [if_neg h3, if_neg h3, if_neg (by omega), if_neg (by omega)]
  | hn k t l hk hl _ ih =>
    intro c e h1 h2
    rw [pUp_node hk, pIn_node hk, pUp_node hk, List.map_map]
    congr 1
    exact map_eq fun y hy => ih y hy _ _ (by omega) (by omega)

end GoAbs

namespace GoAbs
open Go

theorem up_p {b : Int} (hb0 : 0 ≤ b) (hb : b ≤ 100000000000) {t : Tm} (h : TmG t) : ∀ c : Int, t.least 1000000000 = true → 0 ≤ c → c + tmSz t ≤ 100000000000 → t.up b c = pUp b t c := by
  induction h using TmG.nd with
  | hv i hi =>
    intro c hl hc hz
    rw [tmVar, Tm.least_eq, Bool.and_eq_true] at hl
    have hi2 : i ≤ 1000000000 := of_decide_eq_true hl.1
    rw [pUp_var, tmVar, Tm.up, Tm.upL, addW_eq (by omega) (by omega) (by omega) (by omega)]
    by_cases h1 : i ≥ c <;> simp [tmVar, h1]
  | hn k t l hk hl _ ih =>
    intro c hle hc hz
    have hz' : tmSz (tmT k t l) = tmSzL l + 1 := by rw [tmT, tmSz]
    rw [tmT, Tm.least, Bool.and_eq_true] at hle
    have hr := below_nn k
    have hkb : (k == 1) = false := by simpa using hk
    rw [pUp_node hk, tmT, Tm.up, Tm.upL_map, hkb, show addW c (tmBelow k) = c + tmBelow k from addW_eq (by omega) (by omega) (by omega) (by omega)]
    simp only [Bool.false_and, Bool.false_eq_true, if_false, tmT]
    congr 1
    refine map_eq fun x hx => ih x hx _ (Tm.leastL_iff.1 hle.2 x hx) (by omega) ?_
    have := tmSzL_mem hx
    omega

theorem inn_p {s : Tm} (hs : TmG s) (ls : s.least 1000000000 = true) (zs : tmSz s ≤ 1000000000) {t : Tm} (h : TmG t) : ∀ d : Int, t.least 1000000000 = true → 0 ≤ d → d + tmSz t ≤ 50000000000 → tmInn s 0 t d = pIn s t d := by
  induction h using TmG.nd with
  | hv i hi =>
    intro d hl hd hz
    rw [tmVar, Tm.least_eq, Bool.and_eq_true] at hl
    have hi2 : i ≤ 1000000000 := of_decide_eq_true hl.1
    have e0 : addW 0 d = d := by rw [addW_eq (by omega) (by omega) (by omega) (by omega)]; omega
    rw [pIn_var, tmVar, tmInn, e0, subW_eq (by omega) (by omega) (by omega) (by omega)]
    by_cases h1 : i = d
    · simp [h1, up_p hd (by omega) hs 0 ls (by omega) (by omega)]
    · by_cases h2 : i > d <;> simp [h1, h2, tmVar]
  | hn k t l hk hl _ ih =>
    intro d hle hd hz
    have hz' : tmSz (tmT k t l) = tmSzL l + 1 := by rw [tmT, tmSz]
    rw [tmT, Tm.least, Bool.and_eq_true] at hle
    have hr := below_nn k
    have hkb : (k == 1) = false := by simpa using hk
    rw [pIn_node hk, tmT, tmInn, tmInnL_map, hkb, show addW d (tmBelow k) = d + tmBelow k from addW_eq (by omega) (by omega) (by omega) (by omega)]
    simp only [Bool.false_eq_true, if_false, tmT]
    congr 1
    refine map_eq fun x hx => ih x hx _ (Tm.leastL_iff.1 hle.2 x hx) (by omega) ?_
    have := tmSzL_mem hx
    omega

/-- Where a variable does not occur, what is put in for it does not matter. -/
theorem inn_occ0 {s s' : Tm} {t : Tm} (h : TmG t) : ∀ d : Int, 0 ≤ d → d + tmSz t ≤ 1000000 → tmOcc t d = 0 → tmInn s 0 t d = tmInn s' 0 t d := by
  induction h using TmG.nd with
  | hv i hi =>
    intro d hd hz ho
    have e0 : addW 0 d = d := by rw [addW_eq (by omega) (by omega) (by omega) (by omega)]; omega
    rw [tmVar, tmOcc] at ho
    have h1 : (i == d) = false := by
      cases hq : (i == d)
      · rfl
      · simp [hq] at ho
    rw [tmVar, tmInn, tmInn, e0, h1]
    rfl
  | hn k t l hk hl _ ih =>
    intro d hd hz ho
    have hz' : tmSz (tmT k t l) = tmSzL l + 1 := by rw [tmT, tmSz]
    have hr := below_nn k
    have hkb : (k == 1) = false := by simpa using hk
    rw [tmT, tmOcc, hkb] at ho
    simp only [Bool.false_eq_true, if_false] at ho
    have hoL : ∀ {l : List Tm} {e : Int}, tmOccL l e = 0 → ∀ x ∈ l, tmOcc x e = 0 := by
      intro l e
      induction l with
      | nil => intro _ x hx; cases hx
      | cons y l ihl =>
        intro h0 x hx
        rw [tmOccL] at h0
        rcases List.mem_cons.1 hx with rfl | hx
        · omega
        · exact ihl (by omega) x hx
    rw [tmT, tmInn, tmInnL_map, tmInn, tmInnL_map, hkb, show addW d (tmBelow k) = d + tmBelow k from addW_eq (by omega) (by omega) (by omega) (by omega)]
    simp only [Bool.false_eq_true, if_false]
    congr 1
    refine map_eq fun x hx => ih x hx _ (by omega) ?_ (hoL ho x hx)
    have := tmSzL_mem hx
    omega

theorem finn_occ0 {s s' : Tm} {n : Nat} {f : Fm} (h : Shp n f) : ∀ d : Int, 0 ≤ d → d + fmSz f ≤ 100000 → fmOcc f d = 0 → fmInn s 0 f d = fmInn s' 0 f d := by
  induction h with
  | @eq n u v hu hv =>
    intro d hd hz ho
    rw [fmSz_eq] at hz
    rw [fmOcc_eq] at ho
    rw [fmInn_eqn, fmInn_eqn, inn_occ0 (s := s) (s' := s') hu d hd (by omega) (by omega), inn_occ0 (s := s) (s' := s') hv d hd (by omega) (by omega)]
  | @two n k a b hk _ _ h1 h2 =>
    intro d hd hz ho
    rw [fmSz_two] at hz
    rw [fmOcc_two hk] at ho
    rw [fmInn_two, fmInn_two, below_two hk, addW_zero hd (by omega), h1 d hd (by omega) (by omega), h2 d hd (by omega) (by omega)]
  | @q n k ty a hk hs' _ h1 =>
    intro d hd hz ho
    rw [fmSz_q] at hz
    rw [fmOcc_q (by rcases hk with h | h; exact .inl h; exact .inr (.inl h))] at ho
    have hb : fmBelow k = 1 := by rcases hk with rfl | rfl <;> rfl
    rw [fmInn_q, fmInn_q, hb, addW_eq (by omega) (by omega) (by omega) (by omega), h1 (d + 1) (by omega) (by omega) ho]
end GoAbs

namespace GoAbs
open Go

/-- A term that is put in: not a big one. -/
structure SubOk (L : Int) (s : Tm) : Prop where
  gd : TmG s
  sz : tmSz s ≤ 2000
  l : s.least L = true

theorem TmOk.P {L : Int} (hL : 0 ≤ L) (hL2 : L ≤ 500000000) {g : List Ty} {s t : Tm} {ty : Ty} (hs : SubOk L s) (h : TmOk L g t ty) : TmG (tmInn s 0 t 0) ∧ (tmInn s 0 t 0).least (L + 1000000) = true :=
  ⟨TmG.inn hs.gd (least_mono (by omega) _ hs.l) _ h.gd (Nat.le_refl _) (least_mono (by omega) _ h.l) 0 (by omega) (by have := h.sz; omega), least_inn hL (by omega) hs.gd hs.l _ h.gd (Nat.le_refl _) h.l 0 (by omega) (by have := h.sz; omega)⟩
theorem G_cut {t : Tm} (h : TmG t) (hz0 : tmSz t ≤ 20000) (hz : t.szW ≤ 4096) : tmSz t ≤ 4096 := by
  have := t.szW_nodes _ (h.nodes_val (by omega)); omega

/-- Equal, or not seen. -/
theorem seen {n : Nat} {b : Fm} (hb : Shp n b) (zb : fmSz b ≤ 8200) {x x' : Tm} (h : x' = x ∨ 2 ≤ tmSz x') (hz : fmOcc b 0 * (tmSz x' - 1) = 0) : fmInn x' 0 b 0 = fmInn x 0 b 0 := by
  rcases h with rfl | h
  · rfl
  · refine finn_occ0 hb 0 (by omega) (by omega) ?_
    rcases Nat.mul_eq_zero.1 hz with h | h
    · exact h
    · omega

def qc (k : Int) (t : Ty) (p : Ty × Ty) (w c : Tm) : Tm := if k == 4 then chPart 12 p.2 t c else c
end GoAbs

namespace GoAbs
open Go

end GoAbs

namespace GoAbs
open Go

end GoAbs

namespace GoAbs
open Go

def tmPut (t : Tm) (a : Int) (s : Tm) : Tm × Int :=
  if tmErr t != 0 then (zeroT, tmErr t)
  else if decide (a < 0) || decide (a > 4096) then (zeroT, 1)
  else if tmErr s != 0 then (zeroT, tmErr s)
  else if !t.least 536870912 || !s.least 536870912 then (zeroT, 1)
  else if decide (addW t.szW (mulW (t.times a) (subW s.szW 1)) > 4096) then (zeroT, 4)
  else (tmInn s a t 0, 0)

theorem mulW_eq {a b : Int} (h0 : 0 ≤ a) (h1 : a ≤ 1000000) (h2 : 0 ≤ b) (h3 : b ≤ 1000000) : mulW a b = a * b := by
  have : a * b ≤ 1000000 * 1000000 := Int.mul_le_mul h1 h3 h2 (by omega)
  have : 0 ≤ a * b := Int.mul_nonneg h0 h2
  exact wrap_eq rfl (by omega) (by omega)

theorem tmPut_ok {t s : Tm} (ht : TmG t) (hs : TmG s) (zt : tmSz t ≤ 20000) (zs : tmSz s ≤ 20000) (h : (tmPut t 0 s).2 = 0) : tmPut t 0 s = (tmInn s 0 t 0, 0) ∧ tmSz (tmInn s 0 t 0) ≤ 4096 := by
  unfold tmPut at h ⊢
  have p := tmSz_pos s
  split at h
  · rename_i h1; simp only at h; rw [h] at h1; simp at h1
  · rename_i h1
    rw [if_neg h1]
    split at h
    · cases h
    · rename_i h2
      rw [if_neg h2]
      split at h
      · rename_i h3; simp only at h; rw [h] at h3; simp at h3
      · rename_i h3
        rw [if_neg h3]
        split at h
        · cases h
        · rename_i h4
          rw [if_neg h4]
          split at h
          · cases h
          · rename_i h5
            rw [if_neg h5]
            refine ⟨rfl, ?_⟩
            have o := tmOcc_le t 0
            rw [ht.times_occ _ (Nat.le_refl _) 0 (by omega) (by omega), t.szW_nodes _ (ht.nodes_val (by omega)), s.szW_nodes _ (hs.nodes_val (by omega)), subW_eq (by omega) (by omega) (by omega) (by omega), mulW_eq (by omega) (by omega) (by omega) (by omega)] at h5
            have hm : (tmOcc t 0 : Int) * ((tmSz s : Int) - 1) = ((tmOcc t 0 * (tmSz s - 1) : Nat) : Int) := by
              rw [Int.natCast_mul]; congr 1; omega
            have hb : tmOcc t 0 * (tmSz s - 1) ≤ 20000 * 20000 := Nat.mul_le_mul (by omega) (by omega)
            rw [hm, addW_eq (by omega) (by omega) (by omega) (by omega)] at h5
            rw [TmG.inn_sz _ ht (Nat.le_refl _) 0 (by omega) (by omega)]
            have := of_decide_eq_false (Bool.eq_false_iff.2 h5)
            omega

end GoAbs

namespace GoAbs
open Go

/- Content types. -/
def ctJoin (k : Int) (x y : Ty × Int) : Ty × Int :=
  if x.2 != 0 then (tZero, x.2) else if y.2 != 0 then (tZero, y.2) else if tyErr (.mk k [x.1, y.1]) != 0 then (tZero, tyErr (.mk k [x.1, y.1])) else (.mk k [x.1, y.1], 0)
def ctCase (k : Int) (t : Ty) (ps : List (Bool × (Ty × Int))) : Ty × Int :=
  if k == 2 then (if (ps.getD 0 (false, (tUnit, 0))).1 then (if (ps.getD 1 (false, (tUnit, 0))).1 then ctJoin 3 (ps.getD 0 (false, (tUnit, 0))).2 (ps.getD 1 (false, (tUnit, 0))).2 else (ps.getD 0 (false, (tUnit, 0))).2) else (ps.getD 1 (false, (tUnit, 0))).2)
  else if k == 3 then (if (ps.getD 1 (false, (tUnit, 0))).1 then (if (ps.getD 0 (false, (tUnit, 0))).1 then ctJoin 4 (ps.getD 0 (false, (tUnit, 0))).2 (ps.getD 1 (false, (tUnit, 0))).2 else (ps.getD 1 (false, (tUnit, 0))).2) else (tUnit, 0))
  else if k == 4 then (if (ps.getD 0 (false, (tUnit, 0))).1 then ctJoin 4 (t, 0) (ps.getD 0 (false, (tUnit, 0))).2 else (tUnit, 0))
  else if k == 5 then (if (ps.getD 0 (false, (tUnit, 0))).1 then ctJoin 3 (t, 0) (ps.getD 0 (false, (tUnit, 0))).2 else (t, 0))
  else if k == 1 then (tUnit, 0) else (ps.getD 0 (false, (tUnit, 0))).2
mutual
def Fm.ct : Fm → Ty × Int
  | .mk k t _ a => ctCase k t (Fm.ctL a)
def Fm.ctL : List Fm → List (Bool × (Ty × Int))
  | [] => []
  | f :: l => (f.fl.c, f.ct) :: Fm.ctL l
end
theorem ct_eqn {x y : Tm} : (fmEq x y).ct = (tUnit, 0) := rfl
theorem ct_two {k : Int} {a b : Fm} : (fmTwo k a b).ct = ctCase k (.mk 0 []) [(a.fl.c, a.ct), (b.fl.c, b.ct)] := by rw [fmTwo, Fm.ct, Fm.ctL, Fm.ctL, Fm.ctL]
theorem ct_and {a b : Fm} : (fmTwo 2 a b).ct = if a.fl.c then (if b.fl.c then ctJoin 3 a.ct b.ct else a.ct) else b.ct := by rw [ct_two]; rfl
theorem ct_imp {a b : Fm} : (fmTwo 3 a b).ct = if b.fl.c then (if a.fl.c then ctJoin 4 a.ct b.ct else b.ct) else (tUnit, 0) := by rw [ct_two]; rfl
theorem ct_q {k : Int} {t : Ty} {a : Fm} : (fmQ k t a).ct = ctCase k t [(a.fl.c, a.ct)] := by rw [fmQ, Fm.ct, Fm.ctL, Fm.ctL]
theorem ct_all {t : Ty} {a : Fm} : (fmQ 4 t a).ct = if a.fl.c then ctJoin 4 (t, 0) a.ct else (tUnit, 0) := by rw [ct_q]; rfl
theorem ct_ex {t : Ty} {a : Fm} : (fmQ 5 t a).ct = if a.fl.c then ctJoin 3 (t, 0) a.ct else (t, 0) := by rw [ct_q]; rfl
theorem ct_allu {t : Ty} {a : Fm} : (fmQ 6 t a).ct = a.ct := by rw [ct_q]; rfl
theorem ct_exu {t : Ty} {a : Fm} : (fmQ 7 t a).ct = a.ct := by rw [ct_q]; rfl

def Fm.cty (f : Fm) : Ty × Int := if fmErr f != 0 then (tZero, fmErr f) else f.ct
def Fm.hc (f : Fm) : Bool := (f.has 1).1

/- realize. -/
def rlCall (t : Tm) : Tm := tm0 3 [t.sl 1 0, tmVar 0]
def rlPart (b : Bool) (k : Int) (t : Tm) : Tm := if b then tm0 k [t] else t
def rlBuild (k : Int) (s : Ty) (x : Fm × Int) : Fm × Int := if x.2 != 0 then (zeroF, x.2) else if decide ((fmQ k s x.1).szW > 4096) then (zeroF, 4) else (fmQ k s x.1, 0)
def Fm.slf (f : Fm) (b : Int) : Fm := f.ev (fun t d => t.sl b d) 0
mutual
def Fm.exs : Fm → Int
  | .mk k _ _ a => Fm.exsL (if k == 5 then 1 else 0) a
def Fm.exsL : Int → List Fm → Int
  | n, [] => n
  | n, f :: l => Fm.exsL (addW n f.exs) l
end
theorem Fm.exs_eq (f : Fm) : f.exs = Fm.exsL (if f.kind == 5 then 1 else 0) f.args := by cases f; rw [Fm.exs]; rfl
theorem Fm.exsL_nil {n : Int} : Fm.exsL n [] = n := by rw [Fm.exsL]
theorem Fm.exsL_cons {n : Int} {f : Fm} {l : List Fm} : Fm.exsL n (f :: l) = Fm.exsL (addW n f.exs) l := by rw [Fm.exsL]

def rlAnd (r : Fm → Tm → Fm × Int) (a b : Fm) (t : Tm) : Fm × Int := mTwo 2 (r a (rlPart (a.hc && b.hc) 11 t)) (r b (rlPart (a.hc && b.hc) 12 t))
def rlUp (b : Bool) (t : Tm) : Tm := if b then rlCall t else t.sl 1 0
def rlImp (r : Fm → Tm → Fm × Int) (a b : Fm) (t : Tm) : Fm × Int :=
  if !a.hc then mTwo 3 (r a t) (r b t) else if a.cty.2 != 0 then (zeroF, a.cty.2)
  else rlBuild 4 a.cty.1 (mTwo 3 (r (a.slf 1) (tmVar 0)) (r (b.slf 1) (rlUp b.hc t)))
def rlQ (r : Fm → Tm → Fm × Int) (k : Int) (s : Ty) (a : Fm) (t : Tm) : Fm × Int := rlBuild (if k == 6 then 4 else k) s (r a (rlUp (k == 4 && a.hc) t))
def rlEx (r : Fm → Tm → Fm × Int) (a : Fm) (t : Tm) : Fm × Int :=
  if decide ((rlPart a.hc 11 t).szW > 4096) || decide (subW (a.grown (rlPart a.hc 11 t)) a.exs > 4096) then (zeroF, 4) else r (a.sp (rlPart a.hc 11 t)) (rlPart a.hc 12 t)
def rlOf : Nat → Fm → Tm → Fm × Int
  | 0, _, _ => (zeroF, 4)
  | n + 1, f, t =>
    if decide (t.szW > 4096) then (zeroF, 4)
    else if f.kind == 2 then rlAnd (rlOf n) (f.args.getD 0 zeroF) (f.args.getD 1 zeroF) t
    else if f.kind == 3 then rlImp (rlOf n) (f.args.getD 0 zeroF) (f.args.getD 1 zeroF) t
    else if f.kind == 4 || f.kind == 6 || f.kind == 7 then rlQ (rlOf n) f.kind f.type (f.args.getD 0 zeroF) t
    else if f.kind == 5 then rlEx (rlOf n) (f.args.getD 0 zeroF) t
    else (f, 0)
def rlF (f : Fm) (t : Tm) : Fm × Int :=
  if fmErr f != 0 then (zeroF, fmErr f) else if tmErr t != 0 then (zeroF, tmErr t)
  else if f.far || !t.least 268435456 then (zeroF, 1) else rlOf (fdp f) f (if f.hc then t else tm0 13 [])

/-- Content does not depend on terms. -/
theorem infoL_map : ∀ l : List Fm, Fm.infoL l = l.map Fm.info
  | [] => by simp [Fm.infoL]
  | x :: l => by simp [Fm.infoL, infoL_map l]
theorem fl_c_ev {F : Tm → Int → Tm} : ∀ (f : Fm) (b : Int), (f.ev F b).fl.c = f.fl.c := by
  intro f
  induction f using Fm.ind with | h f ih => ?_
  intro b
  rw [Fm.ev_eq]
  obtain ⟨k, t, l, a⟩ := f
  simp only [Fm.args, Fm.kind, Fm.type] at ih ⊢
  have key : ∀ i : Nat, (((a.map fun x => x.ev F (evB k b)).map Fm.info).getD i (.z, [])).1.c = ((a.map Fm.info).getD i (.z, [])).1.c := by
    intro i
    rw [List.getD_eq_getElem?_getD, List.getD_eq_getElem?_getD, List.getElem?_map, List.getElem?_map, List.getElem?_map]
    cases h : a[i]? with
    | none => rfl
    | some x => exact ih x (List.mem_of_getElem? h) _
  unfold Fm.fl
  rw [Fm.info, Fm.info, infoL_map, infoL_map]
  unfold flag
  split
  · rfl
  split
  · simp only [key]
  · simp only [key]
theorem fl_c_q {k : Int} {t : Ty} {a : Fm} (h : 4 ≤ k) : (fmQ k t a).fl.c = (a.fl.c || k == 5) := Fm.fl_qc h
theorem fl_c_two {k : Int} {a b : Fm} (h : k = 2 ∨ k = 3) : (fmTwo k a b).fl.c = (b.fl.c || (k == 2 && a.fl.c)) := by rw [Fm.fl_two h]
theorem ctL_map : ∀ l : List Fm, Fm.ctL l = l.map fun f => (f.fl.c, f.ct)
  | [] => by simp [Fm.ctL]
  | x :: l => by simp [Fm.ctL, ctL_map l]
theorem ct_ev {F : Tm → Int → Tm} : ∀ (f : Fm) (b : Int), (f.ev F b).ct = f.ct := by
  intro f
  induction f using Fm.ind with | h f ih => ?_
  intro b
  rw [Fm.ev_eq]
  obtain ⟨k, t, l, a⟩ := f
  simp only [Fm.args, Fm.kind, Fm.type] at ih ⊢
  rw [Fm.ct, Fm.ct, ctL_map, ctL_map, List.map_map]
  congr 1
  refine List.map_congr_left fun x hx => ?_
  simp only [Function.comp, fl_c_ev, ih x hx]
end GoAbs

namespace GoAbs
open Go

theorem FmG.qk {u : Bool} {k : Int} (hk : k = 4 ∨ k = 5 ∨ (u = true ∧ (k = 6 ∨ k = 7))) : k = 4 ∨ k = 5 ∨ k = 6 ∨ k = 7 := by
  rcases hk with h | h | ⟨_, h | h⟩ <;> simp [h]
theorem below_q {k : Int} (hk : k = 4 ∨ k = 5 ∨ k = 6 ∨ k = 7) : fmBelow k = 1 := by rcases hk with rfl | rfl | rfl | rfl <;> rfl
theorem fdp_q {k : Int} {t : Ty} {a : Fm} : fdp (fmQ k t a) = fdp a + 1 := by simp [fmQ, fdp, fdpL]

theorem fleastG_mono {M M' : Int} (hM : M ≤ M') {u : Bool} {f : Fm} (h : FmG u f) : f.least M = true → f.least M' = true := by
  induction h with
  | eq _ _ => intro hl; obtain ⟨l1, l2⟩ := fleast_eq.1 hl; exact fleast_eq.2 ⟨least_mono hM _ l1, least_mono hM _ l2⟩
  | two _ _ _ h1 h2 => intro hl; obtain ⟨l1, l2⟩ := fleast_parts2 hl; exact fleast_two (h1 l1) (h2 l2)
  | q _ _ _ h1 => intro hl; exact least_q (h1 (fleast_part hl))
theorem fleastG_inn {M : Int} (hM : 0 ≤ M) (hM2 : M ≤ 900000000) {s : Tm} (hs : TmG s) (hsl : s.least M = true) {u : Bool} {f : Fm} (h : FmG u f) : f.least M = true → ∀ d : Int, 0 ≤ d → d + fmSz f ≤ 500000 →
    (fmInn s 0 f d).least (M + 1000000) = true := by
  induction h with
  | @eq x y hx hy =>
    intro hl d h0 hb
    rw [fmSz_eq] at hb
    obtain ⟨l1, l2⟩ := fleast_eq.1 hl
    rw [fmInn_eqn]
    exact fleast_eq.2 ⟨least_inn hM hM2 hs hsl _ hx (Nat.le_refl _) l1 d h0 (by omega), least_inn hM hM2 hs hsl _ hy (Nat.le_refl _) l2 d h0 (by omega)⟩
  | @two k p q hk _ _ h1 h2 =>
    intro hl d h0 hb
    rw [fmSz_two] at hb
    obtain ⟨l1, l2⟩ := fleast_parts2 hl
    rw [fmInn_two, below_two hk, addW_zero h0 (by omega)]
    exact fleast_two (h1 l1 d h0 (by omega)) (h2 l2 d h0 (by omega))
  | @q k t p hk ht _ h1 =>
    intro hl d h0 hb
    rw [fmSz_q] at hb
    have hr := fmBelow_range k
    have e := addW_eq (a := d) (b := fmBelow k) (by omega) (by omega) (by omega) (by omega)
    rw [fmInn_q, e]
    exact least_q (h1 (fleast_part hl) _ (by omega) (by omega))

theorem fmUp2 {k b d : Int} {p q : Fm} (hk : k = 2 ∨ k = 3) (h0 : 0 ≤ d) (h1 : d ≤ 1000000) : (fmTwo k p q).up b d = fmTwo k (p.up b d) (q.up b d) := by
  rw [fmTwo, Fm.up_eq]
  simp only [Fm.kind, Fm.terms, Fm.args, Fm.type, List.map_cons, List.map_nil]
  rw [below_two hk, addW_zero h0 (by omega)]; rfl
theorem fmUpq {k b d : Int} {t : Ty} {p : Fm} (hk : k = 4 ∨ k = 5 ∨ k = 6 ∨ k = 7) (h0 : 0 ≤ d) (h1 : d ≤ 1000000) : (fmQ k t p).up b d = fmQ k t (p.up b (d + 1)) := by
  rw [fmQ, Fm.up_eq]
  simp only [Fm.kind, Fm.terms, Fm.args, Fm.type, List.map_cons, List.map_nil]
  rw [below_q hk, addW_eq (by omega) (by omega) (by omega) (by omega)]; rfl

/-- Lifting of the program and of the reference. -/
theorem slf_up {u : Bool} {b : Int} (hb0 : 0 ≤ b) (hb : b ≤ 1000000) {f : Fm} (h : FmG u f) : f.least 1000000000 = true → ∀ d : Int, 0 ≤ d → d + fmSz f ≤ 500000 → f.ev (fun t d => t.sl b d) d = f.up b d := by
  induction h with
  | @eq x y hx hy =>
    intro hl d h0 hd
    rw [fmSz_eq] at hd
    obtain ⟨l1, l2⟩ := fleast_eq.1 hl
    rw [fmUp_eqn, fmEq, Fm.ev_eq]
    have e : evB 1 d = d := by rw [evB_eq h0 (by omega)]; show d + 0 = d; omega
    simp only [Fm.kind, Fm.terms, Fm.args, Fm.type, List.map_cons, List.map_nil, e]
    rw [sl_up hb0 hb _ hx (Nat.le_refl _) l1 d h0 (by omega), sl_up hb0 hb _ hy (Nat.le_refl _) l2 d h0 (by omega)]
    rfl
  | @two k p q hk _ _ h1 h2 =>
    intro hl d h0 hd
    rw [fmSz_two] at hd
    obtain ⟨l1, l2⟩ := fleast_parts2 hl
    rw [fmUp2 hk h0 (by omega), fmTwo, Fm.ev_eq]
    simp only [Fm.kind, Fm.terms, Fm.args, Fm.type, List.map_cons, List.map_nil]
    rw [evB_eq h0 (by omega), below_two hk, Int.add_zero, h1 l1 d h0 (by omega), h2 l2 d h0 (by omega)]
    rfl
  | @q k t p hk hs _ h1 =>
    intro hl d h0 hd
    rw [fmSz_q] at hd
    rw [fmUpq (FmG.qk hk) h0 (by omega), fmQ, Fm.ev_eq]
    simp only [Fm.kind, Fm.terms, Fm.args, Fm.type, List.map_cons, List.map_nil]
    rw [evB_eq h0 (by omega), below_q (FmG.qk hk), h1 (fleast_part hl) _ (by omega) (by omega)]
    rfl
theorem fleastG_up {M b : Int} (hM : 0 ≤ M) (hM2 : M ≤ 900000000) (hb0 : 0 ≤ b) (hb : b ≤ 1000000) {u : Bool} {f : Fm} (h : FmG u f) : f.least M = true → ∀ d : Int, 0 ≤ d → d + fmSz f ≤ 500000 →
    (f.up b d).least (M + b) = true := by
  induction h with
  | @eq x y hx hy =>
    intro hl d h0 hd
    obtain ⟨l1, l2⟩ := fleast_eq.1 hl
    rw [fmUp_eqn]
    exact fleast_eq.2 ⟨least_up hM (by omega) hb0 hb _ hx (Nat.le_refl _) l1 d, least_up hM (by omega) hb0 hb _ hy (Nat.le_refl _) l2 d⟩
  | @two k p q hk _ _ h1 h2 =>
    intro hl d h0 hd
    rw [fmSz_two] at hd
    obtain ⟨l1, l2⟩ := fleast_parts2 hl
    rw [fmUp2 hk h0 (by omega)]
    exact fleast_two (h1 l1 d h0 (by omega)) (h2 l2 d h0 (by omega))
  | @q k t p hk ht _ h1 =>
    intro hl d h0 hd
    rw [fmSz_q] at hd
    rw [fmUpq (FmG.qk hk) h0 (by omega)]
    exact least_q (h1 (fleast_part hl) _ (by omega) (by omega))
theorem FmTy.upl {Q : Ty → Prop} {m g' : List Ty} {f : Fm} (h : FmTy Q g' f) : ∀ g l : List Ty, g' = g ++ l → l.length + fmSz f ≤ 40000 → g.length ≤ 40000 → m.length ≤ 40000 → FmTy Q (g ++ m ++ l) (f.up (m.length : Int) (l.length : Int)) := by
  induction h with
  | @eq g' p q h1 h2 =>
    intro g l e hb hg hm
    rw [fmSz_eq] at hb
    rw [fmUp_eqn]
    exact .eq (h1.upl g l e (by omega) (by omega) (by omega)) (h2.upl g l e (by omega) (by omega) (by omega))
  | @two g' k p q hk _ _ ih1 ih2 =>
    intro g l e hb hg hm
    rw [fmSz_two] at hb
    rw [fmUp2 hk (by omega) (by omega)]
    exact .two hk (ih1 g l e (by omega) hg hm) (ih2 g l e (by omega) hg hm)
  | @q g' k s p hk _ ih =>
    intro g l e hb hg hm
    subst e
    rw [fmSz_q] at hb
    rw [fmUpq hk (by omega) (by omega)]
    have := ih g (l ++ [s]) (by simp) (by simp; omega) hg hm
    refine .q hk ?_
    rw [List.append_assoc]
    have e1 : ((l ++ [s]).length : Int) = (l.length : Int) + 1 := by simp
    rw [e1] at this; exact this
theorem FmTy.innQ {Q : Ty → Prop} {a : Ty} {x : Tm} {f : Fm} {g' : List Ty} (h : FmTy Q g' f) : ∀ g l : List Ty, g' = g ++ [a] ++ l → HasTy Q g x a → l.length + fmSz f ≤ 40000 → g.length + tmSz x ≤ 40000 → FmTy Q (g ++ l) (fmInn x 0 f (l.length : Int)) := by
  induction h with
  | @eq g' p q h1 h2 =>
    intro g l e hx hb hg
    rw [fmSz_eq] at hb
    rw [fmInn_eqn]
    exact .eq (h1.inn g l e hx (by omega) (by omega)) (h2.inn g l e hx (by omega) (by omega))
  | @two g' k p q hk _ _ ih1 ih2 =>
    intro g l e hx hb hg
    rw [fmSz_two] at hb
    rw [fmInn_two, below_two hk, addW_zero (by omega) (by omega)]
    exact .two hk (ih1 g l e hx (by omega) hg) (ih2 g l e hx (by omega) hg)
  | @q g' k s p hk _ ih =>
    intro g l e hx hb hg
    subst e
    rw [fmSz_q] at hb
    have hq : fmBelow k = 1 := by rcases hk with rfl | rfl | rfl | rfl <;> rfl
    have e1 : addW (l.length : Int) (fmBelow k) = ((l ++ [s]).length : Int) := by
      rw [hq, addW_eq (by omega) (by omega) (by omega) (by omega)]; simp
    rw [fmInn_q, e1]
    refine .q hk ?_
    have := ih g (l ++ [s]) (by simp) hx (by simp; omega) hg
    rw [List.append_assoc]; exact this

/- Existential quantifiers are counted. -/
theorem exs_eqn {x y : Tm} : (fmEq x y).exs = 0 := by rw [fmEq, Fm.exs, Fm.exsL_nil]; rfl
theorem exs_range {u : Bool} {f : Fm} (h : FmG u f) : fmSz f ≤ 1000000 → 0 ≤ f.exs ∧ f.exs ≤ fmSz f := by
  induction h with
  | @eq x y hx hy => intro hb; rw [exs_eqn]; omega
  | @two k p q hk _ _ h1 h2 =>
    intro hb
    rw [fmSz_two] at hb ⊢
    obtain ⟨a1, a2⟩ := h1 (by omega)
    obtain ⟨b1, b2⟩ := h2 (by omega)
    have e : (k == 5) = false := by rcases hk with rfl | rfl <;> rfl
    rw [fmTwo, Fm.exs, e, Fm.exsL_cons, Fm.exsL_cons, Fm.exsL_nil]
    simp only [Bool.false_eq_true, if_false]
    rw [addW_z (by omega) (by omega), addW_eq (by omega) (by omega) (by omega) (by omega)]
    omega
  | @q k t p hk hs _ h1 =>
    intro hb
    rw [fmSz_q] at hb ⊢
    obtain ⟨a1, a2⟩ := h1 (by omega)
    rw [fmQ, Fm.exs, Fm.exsL_cons, Fm.exsL_nil]
    by_cases hq : (k == 5) = true
    · rw [if_pos hq, addW_eq (by omega) (by omega) (by omega) (by omega)]; omega
    · rw [if_neg hq, addW_z (by omega) (by omega)]; omega
theorem exs_two {k : Int} (hk : k = 2 ∨ k = 3) {u : Bool} {p q : Fm} (hp : FmG u p) (hq : FmG u q) (h1 : fmSz p ≤ 1000000) (h2 : fmSz q ≤ 1000000) : (fmTwo k p q).exs = p.exs + q.exs := by
  obtain ⟨a1, a2⟩ := exs_range hp h1
  obtain ⟨b1, b2⟩ := exs_range hq h2
  have e : (k == 5) = false := by rcases hk with rfl | rfl <;> rfl
  rw [fmTwo, Fm.exs, e, Fm.exsL_cons, Fm.exsL_cons, Fm.exsL_nil]
  simp only [Bool.false_eq_true, if_false]
  rw [addW_z (by omega) (by omega), addW_eq (by omega) (by omega) (by omega) (by omega)]
theorem exs_q {k : Int} {s : Ty} {u : Bool} {p : Fm} (hp : FmG u p) (h1 : fmSz p ≤ 1000000) : (fmQ k s p).exs = p.exs + (if k == 5 then 1 else 0) := by
  obtain ⟨a1, a2⟩ := exs_range hp h1
  rw [fmQ, Fm.exs, Fm.exsL_cons, Fm.exsL_nil]
  split
  · rw [addW_eq (by omega) (by omega) (by omega) (by omega)]; omega
  · rw [addW_z (by omega) (by omega)]; omega
theorem fmG_ge3 {u : Bool} {f : Fm} (h : FmG u f) : 3 ≤ fmSz f := by
  induction h with
  | @eq x y _ _ => rw [fmSz_eq]; have := tmSz_pos x; have := tmSz_pos y; omega
  | two _ _ _ h1 h2 => rw [fmSz_two]; omega
  | q _ _ _ h1 => rw [fmSz_q]; omega
theorem exs_1 {u : Bool} {f : Fm} (h : FmG u f) (hd : fdp f ≤ 1) : f.exs = 0 := by
  cases h with
  | eq _ _ => exact exs_eqn
  | @two k a b hk ha hb => rw [fdp_two] at hd; have := fdp_pos a; omega
  | @q k s a hk hs ha => rw [fdp_q] at hd; have := fdp_pos a; omega
theorem exs_2 {u : Bool} {f : Fm} (h : FmG u f) (hd : fdp f ≤ 2) (hz : fmSz f ≤ 100000) : f.exs = 0 ∨ (f.exs = 1 ∧ ∃ s x y, f = fmQ 5 s (fmEq x y)) := by
  cases h with
  | eq _ _ => exact .inl exs_eqn
  | @two k a b hk ha hb =>
    rw [fmSz_two] at hz; rw [fdp_two] at hd
    left; rw [exs_two hk ha hb (by omega) (by omega), exs_1 ha (by omega), exs_1 hb (by omega)]; rfl
  | @q k s a hk hs ha =>
    rw [fmSz_q] at hz; rw [fdp_q] at hd
    rw [exs_q ha (by omega), exs_1 ha (by omega)]
    by_cases h5 : k = 5
    · subst h5
      right
      refine ⟨rfl, ?_⟩
      cases ha with
      | @eq x y _ _ => exact ⟨s, x, y, rfl⟩
      | @two k a b hk ha hb => rw [fdp_two] at hd; have := fdp_pos a; omega
      | @q k s a hk hs ha => rw [fdp_q] at hd; have := fdp_pos a; omega
    · left; have : (k == 5) = false := by simpa using h5
      rw [this]; rfl

/-- Two existential quantifiers in front of an equation. -/
def EEE (a : Fm) : Prop := ∃ s s' x y, a = fmQ 5 s (fmQ 5 s' (fmEq x y))

theorem argsR_inn {u : Bool} {x : Tm} {a : Fm} (h : FmG u a) (hd : fdp a ≤ 3) (za : fmSz a ≤ 4096) (hz : (fmSz (fmInn x 0 a 0) : Int) ≤ 4096 + a.exs) (hc : EEE a → fmSz (fmInn x 0 a 0) ≤ 4096) : ArgsOk (fmInn x 0 a 0) := by
  have sz : ∀ {f : Fm}, FmG u f → ∀ d : Int, 0 ≤ d → d + fmSz f ≤ 500000 → 3 ≤ fmSz (fmInn x 0 f d) := fun {f} hf d h0 hb => by
    have := hf.inn_sz (s := x) d h0 hb
    have := fmG_ge3 hf
    omega
  cases h with
  | @eq p q _ _ =>
    rw [exs_eqn] at hz
    exact ⟨by rw [fmInn_eqn]; simp [fmEq, Fm.args], fun _ => by omega⟩
  | @two k p q hk h1 h2 =>
    rw [fmSz_two] at za
    rw [fdp_two] at hd
    rw [exs_two hk h1 h2 (by omega) (by omega)] at hz
    rw [fmInn_two, below_two hk, addW_zero (by omega) (by omega)] at hz ⊢
    rw [fmSz_two] at hz
    have s1 := sz h1 0 (by omega) (by omega)
    have s2 := sz h2 0 (by omega) (by omega)
    have hq : p.exs ≤ 1 ∧ q.exs ≤ 1 := by
      rcases exs_2 h1 (by omega) (by omega) with e | ⟨e, _⟩ <;> rcases exs_2 h2 (by omega) (by omega) with e' | ⟨e', _⟩ <;> omega
    refine ⟨fun b hb => ?_, fun e => by simp [fmTwo, Fm.args] at e⟩
    simp [fmTwo, Fm.args] at hb
    rcases hb with rfl | rfl <;> omega
  | @q k s p hk hs h1 =>
    rw [fmSz_q] at za
    rw [fdp_q] at hd
    rw [exs_q h1 (by omega)] at hz
    have e1 : addW 0 (fmBelow k) = 1 := by rw [below_q (FmG.qk hk)]; rfl
    rw [fmInn_q, e1] at hz hc ⊢
    rw [fmSz_q] at hz hc
    refine ⟨fun b hb => ?_, fun e => by simp [fmQ, Fm.args] at e⟩
    simp [fmQ, Fm.args] at hb
    subst hb
    rcases exs_2 h1 (by omega) (by omega) with e | ⟨e, s', u', v, rfl⟩
    · rw [e] at hz; split at hz <;> omega
    · rw [e] at hz
      by_cases h5 : k = 5
      · subst h5
        have := hc ⟨s, s', u', v, rfl⟩
        omega
      · have : (k == 5) = false := by simpa using h5
        rw [this] at hz; simp only [Bool.false_eq_true, if_false] at hz; omega
end GoAbs

namespace GoAbs
open Go

theorem ctJoin_G {k : Int} (hk : k = 3 ∨ k = 4) {x y : Ty × Int} (hx : (x.2 = 0 ∧ TyG x.1) ∨ x.2 = 4) (hy : (y.2 = 0 ∧ TyG y.1) ∨ y.2 = 4) :
    ((ctJoin k x y).2 = 0 ∧ TyG (ctJoin k x y).1 ∧ x.2 = 0 ∧ y.2 = 0 ∧ (ctJoin k x y).1 = .mk k [x.1, y.1]) ∨ (ctJoin k x y).2 = 4 := by
  unfold ctJoin
  rcases hx with ⟨ex, gx⟩ | ex
  case inr => rw [ex]; right; rfl
  rcases hy with ⟨ey, gy⟩ | ey
  case inr => rw [ex, ey]; right; rfl
  have hF : TyF (.mk k [x.1, y.1]) := by
    rcases hk with rfl | rfl
    · exact .pair gx.1 gy.1
    · exact .func gx.1 gy.1
  have hs : tySz (.mk k [x.1, y.1]) = tySz x.1 + tySz y.1 + 1 := by
    rcases hk with rfl | rfl
    · exact tySz_pair
    · exact tySz_fun
  have z1 := gx.2
  have z2 := gy.2
  have he := hF.err (by omega)
  rw [ex, ey]
  by_cases h64 : tySz (.mk k [x.1, y.1]) ≤ 64
  · rw [if_pos h64] at he
    rw [he]
    exact .inl ⟨rfl, ⟨hF, h64⟩, rfl, rfl, rfl⟩
  · rw [if_neg h64] at he
    rw [he]
    right; rfl
theorem ct_G {u : Bool} {f : Fm} (h : FmG u f) : (f.ct.2 = 0 ∧ TyG f.ct.1) ∨ f.ct.2 = 4 := by
  have fin : ∀ {k : Int} {x y : Ty × Int}, (k = 3 ∨ k = 4) → ((x.2 = 0 ∧ TyG x.1) ∨ x.2 = 4) → ((y.2 = 0 ∧ TyG y.1) ∨ y.2 = 4) → ((ctJoin k x y).2 = 0 ∧ TyG (ctJoin k x y).1) ∨ (ctJoin k x y).2 = 4 := by
    intro k x y hk hx hy
    rcases ctJoin_G hk hx hy with ⟨a, b, _⟩ | h
    · exact .inl ⟨a, b⟩
    · exact .inr h
  induction h with
  | eq _ _ => exact .inl ⟨rfl, TyG.unit⟩
  | @two k a b hk _ _ h1 h2 =>
    rcases hk with rfl | rfl
    · rw [ct_and]
      split
      · split
        · exact fin (.inl rfl) h1 h2
        · exact h1
      · exact h2
    · rw [ct_imp]
      split
      · split
        · exact fin (.inr rfl) h1 h2
        · exact h2
      · exact .inl ⟨rfl, TyG.unit⟩
  | @q k s a hk hs _ h1 =>
    rcases FmG.qk hk with rfl | rfl | rfl | rfl
    · rw [ct_all]; split
      · exact fin (.inr rfl) (.inl ⟨rfl, hs⟩) h1
      · exact .inl ⟨rfl, TyG.unit⟩
    · rw [ct_ex]; split
      · exact fin (.inl rfl) (.inl ⟨rfl, hs⟩) h1
      · exact .inl ⟨rfl, hs⟩
    · rw [ct_allu]; exact h1
    · rw [ct_exu]; exact h1
theorem ct_join2 {k : Int} (hk : k = 3 ∨ k = 4) {u : Bool} {a b : Fm} (ha : FmG u a) (hb : FmG u b) (h : (ctJoin k a.ct b.ct).2 = 0) : a.ct.2 = 0 ∧ b.ct.2 = 0 ∧ (ctJoin k a.ct b.ct).1 = .mk k [a.ct.1, b.ct.1] := by
  rcases ctJoin_G hk (ct_G ha) (ct_G hb) with ⟨_, _, h1, h2, h3⟩ | h4
  · exact ⟨h1, h2, h3⟩
  · rw [h] at h4; cases h4
theorem ct_join1 {k : Int} (hk : k = 3 ∨ k = 4) {u : Bool} {s : Ty} (hs : TyG s) {b : Fm} (hb : FmG u b) (h : (ctJoin k (s, 0) b.ct).2 = 0) : b.ct.2 = 0 ∧ (ctJoin k (s, 0) b.ct).1 = .mk k [s, b.ct.1] := by
  rcases ctJoin_G (x := (s, 0)) hk (.inl ⟨rfl, hs⟩) (ct_G hb) with ⟨_, _, _, h2, h3⟩ | h4
  · exact ⟨h2, h3⟩
  · rw [h] at h4; cases h4

/-- The content types of formulas that are made are small. -/
theorem ct_sz {n : Nat} {g : List Ty} {f : Fm} (h : MkFm true n g f) : (∀ y ∈ g, TyG y) → f.ct.2 = 0 → tySz f.ct.1 + 1 ≤ 2 * 2 ^ n ∧ (f.fl.c = true → 1 ≤ n) := by
  have p2 : ∀ n : Nat, 2 ^ (n + 1) = 2 * 2 ^ n := fun n => by rw [Nat.pow_succ, Nat.mul_comm]
  have pp : ∀ n : Nat, 1 ≤ 2 ^ n := fun n => Nat.one_le_two_pow
  induction h with
  | @eq n g x y h1 h2 =>
    intro _ _
    have := pp n
    exact ⟨by rw [ct_eqn, tySz_unit]; omega, fun h => by rw [Fm.fl_eqn] at h; cases h⟩
  | @two n g k a b hk ma mb h1 h2 =>
    intro hg ok
    refine ⟨?_, fun _ => by omega⟩
    rw [p2]
    have ga := ma.G hg
    have gb := mb.G hg
    have := pp n
    rcases hk with rfl | rfl
    · rw [ct_and] at ok ⊢
      cases ca : a.fl.c <;> rw [ca] at ok
      · have := (h2 hg ok).1; simp only [Bool.false_eq_true, if_false] at ok ⊢; omega
      cases cb : b.fl.c <;> rw [cb] at ok
      · have := (h1 hg ok).1; simp only [Bool.false_eq_true, if_false, if_true] at ok ⊢; omega
      simp only [if_true] at ok ⊢
      obtain ⟨e1, e2, e3⟩ := ct_join2 (.inl rfl) ga gb ok
      have z1 := (h1 hg e1).1
      have z2 := (h2 hg e2).1
      rw [e3]
      show tySz (tPair _ _) + 1 ≤ _
      rw [tySz_pair]; omega
    · rw [ct_imp] at ok ⊢
      cases cb : b.fl.c <;> rw [cb] at ok
      · simp only [Bool.false_eq_true, if_false]; rw [tySz_unit]; omega
      cases ca : a.fl.c <;> rw [ca] at ok
      · have := (h2 hg ok).1; simp only [Bool.false_eq_true, if_false, if_true] at ok ⊢; omega
      simp only [if_true] at ok ⊢
      obtain ⟨e1, e2, e3⟩ := ct_join2 (.inr rfl) ga gb ok
      have z1 := (h1 hg e1).1
      have z2 := (h2 hg e2).1
      rw [e3]
      show tySz (tFun _ _) + 1 ≤ _
      rw [tySz_fun]; omega
  | @q n g k s a hk hs ma h1 =>
    intro hg ok
    refine ⟨?_, fun _ => by omega⟩
    rw [p2]
    simp only [if_true] at hs
    have sG : TyG s := hs.G (by omega)
    have s3 := hs.sz1
    have hg' : ∀ y ∈ g ++ [s], TyG y := by
      intro y hy
      rcases List.mem_append.1 hy with hy | hy
      · exact hg y hy
      · simp at hy; subst hy; exact sG
    have ga := ma.G hg'
    have := pp n
    have two : a.fl.c = true → a.ct.2 = 0 → 2 ≤ 2 ^ n := fun hc e => by
      have := (h1 hg' e).2 hc
      obtain ⟨m, rfl⟩ : ∃ m, n = m + 1 := ⟨n - 1, by omega⟩
      rw [p2]; have := pp m; omega
    rcases FmG.qk hk with rfl | rfl | rfl | rfl
    · rw [ct_all] at ok ⊢
      cases ca : a.fl.c <;> rw [ca] at ok
      · simp only [Bool.false_eq_true, if_false]; rw [tySz_unit]; omega
      simp only [if_true] at ok ⊢
      obtain ⟨e2, e3⟩ := ct_join1 (.inr rfl) sG ga ok
      have z2 := (h1 hg' e2).1
      have := two ca e2
      rw [e3]
      show tySz (tFun _ _) + 1 ≤ _
      rw [tySz_fun]; omega
    · rw [ct_ex] at ok ⊢
      cases ca : a.fl.c <;> rw [ca] at ok
      · simp only [Bool.false_eq_true, if_false]; omega
      simp only [if_true] at ok ⊢
      obtain ⟨e2, e3⟩ := ct_join1 (.inl rfl) sG ga ok
      have z2 := (h1 hg' e2).1
      have := two ca e2
      rw [e3]
      show tySz (tPair _ _) + 1 ≤ _
      rw [tySz_pair]; omega
    · rw [ct_allu] at ok ⊢; have := (h1 hg' ok).1; omega
    · rw [ct_exu] at ok ⊢; have := (h1 hg' ok).1; omega

theorem fl_c_up {u : Bool} {b : Int} (hb0 : 0 ≤ b) (hb : b ≤ 1000000) {f : Fm} (h : FmG u f) (hl : f.least 1000000000 = true) (hz : fmSz f ≤ 400000) : (f.up b 0).fl.c = f.fl.c := by
  rw [← slf_up hb0 hb h hl 0 (by omega) (by omega), fl_c_ev]
theorem ct_up {u : Bool} {b : Int} (hb0 : 0 ≤ b) (hb : b ≤ 1000000) {f : Fm} (h : FmG u f) (hl : f.least 1000000000 = true) (hz : fmSz f ≤ 400000) : (f.up b 0).ct = f.ct := by
  rw [← slf_up hb0 hb h hl 0 (by omega) (by omega), ct_ev]

/-- What is kept of a term on the way. -/
structure TmR (L : Int) (t : Tm) : Prop where
  gd : TmG t
  sz : tmSz t ≤ 20000
  l : t.least L = true
theorem TmR.cut {L : Int} {t : Tm} (h : TmR L t) (hz : t.szW ≤ 4096) : tmSz t ≤ 4096 := by
  have := t.szW_nodes _ (h.gd.nodes_val (by have := h.sz; omega)); omega
theorem TmR.mono {L L' : Int} (hL : L ≤ L') {t : Tm} (h : TmR L t) : TmR L' t := ⟨h.gd, h.sz, least_mono hL _ h.l⟩

structure GoodR (g : List Ty) (m : Fm) : Prop where
  ty : FmTy TyG g m
  gd : FmG true m
  sz : fmSz m ≤ 4096
  nc : m.fl.c = false

def okR (g : List Ty) (r : Fm × Int) : Prop := r.2 = 4 ∨ (r.2 = 0 ∧ GoodR g r.1)

theorem two_okR {k : Int} (hk : k = 2 ∨ k = 3) {g : List Ty} {x y : Fm × Int} (hx : okR g x) (hy : okR g y) : okR g (mTwo k x y) := by
  unfold mTwo
  rcases hx with e | ⟨ex, gx⟩
  · rw [e]; exact .inl rfl
  rcases hy with e | ⟨ey, gy⟩
  · rw [ex, e]; exact .inl rfl
  rw [ex, ey]
  have z1 := gx.sz
  have z2 := gy.sz
  have gg : FmG true (fmTwo k x.1 y.1) := .two hk gx.gd gy.gd
  have hs := Fm.szW_nodes _ _ (gg.nodes_val (by rw [fmSz_two]; omega))
  by_cases h4 : (fmTwo k x.1 y.1).szW > 4096
  · rw [decide_eq_true h4]; exact .inl rfl
  · rw [decide_eq_false h4]
    refine .inr ⟨rfl, .two hk gx.ty gy.ty, gg, by show fmSz (fmTwo k x.1 y.1) ≤ _; omega, ?_⟩
    show (fmTwo k x.1 y.1).fl.c = false
    rw [fl_c_two hk, gx.nc, gy.nc]; simp
theorem build_okR {k : Int} (hk : k = 4 ∨ k = 7) {g : List Ty} {s : Ty} (hs : TyG s) {x : Fm × Int} (hx : okR (g ++ [s]) x) : okR g (rlBuild k s x) := by
  unfold rlBuild
  rcases hx with e | ⟨ex, gx⟩
  · rw [e]; exact .inl rfl
  rw [ex]
  have z1 := gx.sz
  have gg : FmG true (fmQ k s x.1) := .q (by rcases hk with rfl | rfl <;> simp) hs gx.gd
  have hz := Fm.szW_nodes _ _ (gg.nodes_val (by rw [fmSz_q]; omega))
  by_cases h4 : (fmQ k s x.1).szW > 4096
  · rw [decide_eq_true h4]; exact .inl rfl
  · rw [decide_eq_false h4]
    refine .inr ⟨rfl, .q (by rcases hk with rfl | rfl <;> simp) gx.ty, gg, by show fmSz (fmQ k s x.1) ≤ _; omega, ?_⟩
    show (fmQ k s x.1).fl.c = false
    rw [fl_c_q (by rcases hk with rfl | rfl <;> omega), gx.nc]
    rcases hk with rfl | rfl <;> rfl

theorem hc_c {u : Bool} {f : Fm} (h : FmG u f) (hz : fmSz f ≤ 4096) : f.hc = f.fl.c := by
  unfold Fm.hc; rw [h.has hz 1]; rfl
theorem cty_ct {u : Bool} {f : Fm} (h : FmG u f) (hz : fmSz f ≤ 4096) : f.cty = f.ct := by
  unfold Fm.cty; rw [h.err0 hz]; rfl

theorem rlPart_sz {b : Bool} {k : Int} {t : Tm} : tmSz (rlPart b k t) ≤ tmSz t + 1 := by
  unfold rlPart; split
  · rw [tmSz_1]; omega
  · omega
theorem rlPart_R {L : Int} (hL : 0 ≤ L) {b : Bool} {k : Int} (hk : k = 11 ∨ k = 12) {t : Tm} (h : TmR L t) (hz : tmSz t ≤ 4096) : TmR L (rlPart b k t) := by
  have := rlPart_sz (b := b) (k := k) (t := t)
  refine ⟨?_, by omega, ?_⟩
  · unfold rlPart; split
    · rcases hk with rfl | rfl
      · exact .t1 ar11 rfl h.gd
      · exact .t1 ar12 rfl h.gd
    · exact h.gd
  · unfold rlPart; split
    · exact least_tm0 hL (by simp [h.l])
    · exact h.l
theorem sl1_R {L : Int} (hL : 0 ≤ L) (hL2 : L ≤ 300000000) {t : Tm} (h : TmR L t) (hz : tmSz t ≤ 4096) : t.sl 1 0 = t.up 1 0 ∧ TmR (L + 1000000) (t.up 1 0) ∧ tmSz (t.up 1 0) = tmSz t := by
  have e := sl_up (b := 1) (by omega) (by omega) _ h.gd (Nat.le_refl _) (least_mono (by omega) _ h.l) 0 (by omega) (by omega)
  have l1 := least_up (b := 1) hL (by omega) (by omega) (by omega) _ h.gd (Nat.le_refl _) h.l 0
  refine ⟨e, ⟨TmG.up (by omega) (by omega) _ h.gd (Nat.le_refl _) (least_mono (by omega) _ h.l) 0, by rw [tmSz_up]; omega, least_mono (by omega) _ l1⟩, tmSz_up _ _⟩
theorem rlUp_R {L : Int} (hL : 0 ≤ L) (hL2 : L ≤ 300000000) {b : Bool} {t : Tm} (h : TmR L t) (hz : tmSz t ≤ 4096) : TmR (L + 1000000) (rlUp b t) := by
  obtain ⟨e, r, z⟩ := sl1_R hL hL2 h hz
  unfold rlUp rlCall
  rw [e]
  split
  · refine ⟨.t2 ar3 rfl r.gd (.var (by omega)), by rw [tmSz_2, tmSz_v]; omega, least_tm0 (by omega) ?_⟩
    intro x hx
    simp at hx
    rcases hx with rfl | rfl
    · exact r.l
    · exact least_v (by omega)
  · exact r
theorem rlUp_ty {L : Int} (hL : 0 ≤ L) (hL2 : L ≤ 300000000) {g : List Ty} (hg : g.length ≤ 100) {s c : Ty} {t : Tm} (h : TmR L t) (hz : tmSz t ≤ 4096) (ht : HasTy TyG g t (tFun s c)) : HasTy TyG (g ++ [s]) (rlUp true t) c := by
  obtain ⟨e, r, z⟩ := sl1_R hL hL2 h hz
  unfold rlUp rlCall
  rw [e]
  exact .n2 (ty := .mk 0 []) .app (ht.up0 (by omega) (by omega)) .v0
theorem rlUp_ty0 {L : Int} (hL : 0 ≤ L) (hL2 : L ≤ 300000000) {g : List Ty} (hg : g.length ≤ 100) {s c : Ty} {t : Tm} (h : TmR L t) (hz : tmSz t ≤ 4096) (ht : HasTy TyG g t c) : HasTy TyG (g ++ [s]) (rlUp false t) c := by
  obtain ⟨e, r, z⟩ := sl1_R hL hL2 h hz
  unfold rlUp
  rw [e]
  exact ht.up0 (by omega) (by omega)

/-- The corner in which sizes need more than the check. -/
def CornerR (f : Fm) (t : Tm) : Prop := ∀ k s a, f = fmQ k s a → EEE a → fmSz a + fmOcc a 0 * tmSz t ≤ 4096

theorem rlOf_else {n : Nat} {f : Fm} {t : Tm} (h : ¬ t.szW > 4096) : rlOf (n + 1) f t = if f.kind == 2 then rlAnd (rlOf n) (f.args.getD 0 zeroF) (f.args.getD 1 zeroF) t
    else if f.kind == 3 then rlImp (rlOf n) (f.args.getD 0 zeroF) (f.args.getD 1 zeroF) t
    else if f.kind == 4 || f.kind == 6 || f.kind == 7 then rlQ (rlOf n) f.kind f.type (f.args.getD 0 zeroF) t
    else if f.kind == 5 then rlEx (rlOf n) (f.args.getD 0 zeroF) t
    else (f, 0) := by rw [rlOf, decide_eq_false h]; rfl

theorem rlOf_good : ∀ (N : Nat), N ≤ 4 → ∀ (f : Fm) (g : List Ty) (t : Tm) (L : Int), FmG true f → fdp f ≤ N → ArgsOk f → fmSz f ≤ 8200 → (N = 4 → CornerR f t) → FmTy TyG g f → g.length + N ≤ 100 →
    0 ≤ L → L + (N : Int) * 1000000 ≤ 200000000 → f.least L = true → TmR L t → (f.fl.c = true → f.ct.2 = 0 ∧ HasTy TyG g t f.ct.1) → okR g (rlOf N f t) := by
  intro N
  induction N with
  | zero => intro _ f g t L _ hd; have := fdp_pos f; omega
  | succ N ih =>
    intro hN f g t L hF hd hA hz hC hT hg hL0 hL hl hr hc
    by_cases h4 : t.szW > 4096
    · rw [rlOf, decide_eq_true h4]; exact .inl rfl
    have zt := hr.cut (by omega)
    rw [rlOf_else h4]
    have ih' := ih (by omega)
    cases hF with
    | @eq x y hx hy =>
      change okR g (fmEq x y, 0)
      exact .inr ⟨rfl, hT, .eq hx hy, hA.2 rfl, by rw [Fm.fl_eqn]⟩
    | @two k a b hk ga gb =>
      have za := hA.1 a (by simp [fmTwo, Fm.args])
      have zb := hA.1 b (by simp [fmTwo, Fm.args])
      rw [fdp_two] at hd
      obtain ⟨la, lb⟩ := fleast_parts2 hl
      have ta : FmTy TyG g a ∧ FmTy TyG g b := by cases hT with | two _ a b => exact ⟨a, b⟩
      have ar1 := argsOk_of za
      have ar2 := argsOk_of zb
      rcases hk with rfl | rfl
      · change okR g (rlAnd (rlOf N) a b t)
        rw [fl_c_two (.inl rfl), ct_and] at hc
        unfold rlAnd
        rw [hc_c ga za, hc_c gb zb]
        have key : (a.fl.c = true → a.ct.2 = 0 ∧ HasTy TyG g (rlPart (a.fl.c && b.fl.c) 11 t) a.ct.1) ∧ (b.fl.c = true → b.ct.2 = 0 ∧ HasTy TyG g (rlPart (a.fl.c && b.fl.c) 12 t) b.ct.1) := by
          cases ca : a.fl.c <;> cases cb : b.fl.c <;> rw [ca, cb] at hc <;> simp only [Bool.and_true, Bool.and_false, Bool.false_eq_true, false_implies, true_implies, if_true, if_false, Bool.or_true, Bool.true_or, beq_self_eq_true, Bool.and_self, Bool.or_self, Bool.or_false, Bool.false_or, and_true, true_and] at hc ⊢
          · exact hc
          · exact hc
          · obtain ⟨h1, h2⟩ := hc
            obtain ⟨e1, e2, e3⟩ := ct_join2 (.inl rfl) ga gb h1
            rw [e3] at h2
            exact ⟨⟨e1, .n1 (ty := .mk 0 []) .fst h2⟩, ⟨e2, .n1 (ty := .mk 0 []) .snd h2⟩⟩
        exact two_okR (.inl rfl) (ih' a g _ L ga (by omega) ar1 (by omega) (by omega) ta.1 (by omega) hL0 (by omega) la (rlPart_R hL0 (.inl rfl) hr zt) key.1)
          (ih' b g _ L gb (by omega) ar2 (by omega) (by omega) ta.2 (by omega) hL0 (by omega) lb (rlPart_R hL0 (.inr rfl) hr zt) key.2)
      · change okR g (rlImp (rlOf N) a b t)
        rw [fl_c_two (.inr rfl), ct_imp] at hc
        unfold rlImp
        rw [hc_c ga za, hc_c gb zb, cty_ct ga za]
        cases ca : a.fl.c with
        | false =>
          rw [ca] at hc
          simp only [Bool.not_false, if_true, Bool.false_eq_true, if_false, Bool.and_false, Bool.or_false] at hc ⊢
          refine two_okR (.inr rfl) (ih' a g t L ga (by omega) ar1 (by omega) (by omega) ta.1 (by omega) hL0 (by omega) la hr (fun h => by rw [ca] at h; cases h))
            (ih' b g t L gb (by omega) ar2 (by omega) (by omega) ta.2 (by omega) hL0 (by omega) lb hr (fun h => ?_))
          rw [h] at hc; simp only [if_true] at hc; exact hc trivial
        | true =>
          simp only [Bool.not_true, Bool.false_eq_true, if_false]
          rcases ct_G ga with ⟨e, gs⟩ | e
          case inr => rw [e]; exact .inl rfl
          rw [e]
          have n0 : ((0 : Int) != 0) = false := rfl
          rw [n0]
          simp only [Bool.false_eq_true, if_false]
          have lm : ∀ {x : Fm}, x.least L = true → FmG true x → x.least 1000000000 = true := fun h hx => fleastG_mono (by omega) hx h
          have ea : a.slf 1 = a.up 1 0 := slf_up (by omega) (by omega) ga (lm la ga) 0 (by omega) (by omega)
          have eb : b.slf 1 = b.up 1 0 := slf_up (by omega) (by omega) gb (lm lb gb) 0 (by omega) (by omega)
          have fa : fdp (a.slf 1) = fdp a := fdp_evx _ _
          have fb : fdp (b.slf 1) = fdp b := fdp_evx _ _
          have ua := ga.up (b := 1) (by omega) (by omega) (fleastG_mono (M' := 536870912) (by omega) ga la) 0
          have ub := gb.up (b := 1) (by omega) (by omega) (fleastG_mono (M' := 536870912) (by omega) gb lb) 0
          have wa := fleastG_up (b := 1) hL0 (by omega) (by omega) (by omega) ga la 0 (by omega) (by omega)
          have wb := fleastG_up (b := 1) hL0 (by omega) (by omega) (by omega) gb lb 0 (by omega) (by omega)
          have ya := ta.1.upl (m := [a.ct.1]) g [] (by simp) (by simp; omega) (by omega) (by simp)
          have yb := ta.2.upl (m := [a.ct.1]) g [] (by simp) (by simp; omega) (by omega) (by simp)
          simp only [List.append_nil, List.length_cons, List.length_nil] at ya yb
          have hg1 : (g ++ [a.ct.1]).length + N ≤ 100 := by simp; omega
          refine build_okR (.inl rfl) gs (two_okR (.inr rfl) ?_ ?_)
          · rw [ea]
            refine ih' _ _ _ (L + 1000000) ua.1 (by rw [← ea, fa]; omega) (argsOk_of (by rw [ua.2]; exact za)) (by rw [ua.2]; omega) (by omega) ya hg1 (by omega) (by omega)
              (fleastG_mono (by omega) ua.1 wa) ⟨.var (by omega), by rw [tmSz_v]; omega, least_v (by omega)⟩ (fun _ => ?_)
            rw [ct_up (by omega) (by omega) ga (lm la ga) (by omega)]
            exact ⟨e, .v0⟩
          · rw [eb]
            refine ih' _ _ _ (L + 1000000) ub.1 (by rw [← eb, fb]; omega) (argsOk_of (by rw [ub.2]; exact zb)) (by rw [ub.2]; omega) (by omega) yb hg1 (by omega) (by omega)
              (fleastG_mono (by omega) ub.1 wb) (rlUp_R hL0 (by omega) hr zt) (fun h => ?_)
            rw [fl_c_up (by omega) (by omega) gb (lm lb gb) (by omega)] at h
            rw [ct_up (by omega) (by omega) gb (lm lb gb) (by omega), h]
            rw [h, ca] at hc
            simp only [if_true, Bool.true_or, true_implies] at hc
            obtain ⟨h1, h2⟩ := hc
            obtain ⟨e1, e2, e3⟩ := ct_join2 (.inr rfl) ga gb h1
            rw [e3] at h2
            exact ⟨e2, rlUp_ty hL0 (by omega) (by omega) hr zt h2⟩
    | @q k s a hk hs ga =>
      have za := hA.1 a (by simp [fmQ, Fm.args])
      rw [fdp_q] at hd
      have la := fleast_part hl
      have ta : FmTy TyG (g ++ [s]) a := by cases hT with | q _ a => exact a
      have ar1 := argsOk_of za
      have hg1 : (g ++ [s]).length + N ≤ 100 := by simp; omega
      have la1 : a.least (L + 1000000) = true := fleastG_mono (by omega) ga la
      have uni : ∀ (k' : Int), (k' = 4 ∨ k' = 7) → (a.fl.c = true → a.ct.2 = 0 ∧ HasTy TyG g t a.ct.1) → okR g (rlBuild k' s (rlOf N a (rlUp false t))) := by
        intro k' hk' hc'
        refine build_okR hk' hs (ih' a _ _ (L + 1000000) ga (by omega) ar1 (by omega) (by omega) ta hg1 (by omega) (by omega) la1 (rlUp_R hL0 (by omega) hr zt) (fun h => ?_))
        obtain ⟨h1, h2⟩ := hc' h
        exact ⟨h1, rlUp_ty0 hL0 (by omega) (by omega) hr zt h2⟩
      rcases FmG.qk hk with rfl | rfl | rfl | rfl
      · change okR g (rlQ (rlOf N) 4 s a t)
        rw [fl_c_q (by omega), ct_all] at hc
        unfold rlQ
        rw [hc_c ga za]
        show okR g (rlBuild 4 s (rlOf N a (rlUp a.fl.c t)))
        refine build_okR (.inl rfl) hs (ih' a _ _ (L + 1000000) ga (by omega) ar1 (by omega) (by omega) ta hg1 (by omega) (by omega) la1 (rlUp_R hL0 (by omega) hr zt) (fun h => ?_))
        rw [h] at hc ⊢
        simp only [if_true, Bool.true_or, true_implies] at hc
        obtain ⟨h1, h2⟩ := hc
        obtain ⟨e2, e3⟩ := ct_join1 (.inr rfl) hs ga h1
        rw [e3] at h2
        exact ⟨e2, rlUp_ty hL0 (by omega) (by omega) hr zt h2⟩
      · change okR g (rlEx (rlOf N) a t)
        rw [fl_c_q (by omega), ct_ex] at hc
        unfold rlEx
        rw [hc_c ga za]
        have key : HasTy TyG g (rlPart a.fl.c 11 t) s ∧ (a.fl.c = true → a.ct.2 = 0 ∧ HasTy TyG g (rlPart a.fl.c 12 t) a.ct.1) := by
          cases ca : a.fl.c <;> rw [ca] at hc <;> simp only [Bool.false_eq_true, false_implies, true_implies, if_true, if_false, Bool.or_true, Bool.true_or, beq_self_eq_true, and_true, true_and] at hc ⊢
          · exact hc
          · obtain ⟨h1, h2⟩ := hc
            obtain ⟨e2, e3⟩ := ct_join1 (.inl rfl) hs ga h1
            rw [e3] at h2
            exact ⟨.n1 (ty := .mk 0 []) .fst h2, e2, .n1 (ty := .mk 0 []) .snd h2⟩
        have hx := rlPart_R (b := a.fl.c) hL0 (.inl rfl) hr zt
        have hy := rlPart_R (b := a.fl.c) hL0 (.inr rfl) hr zt
        have hxz := rlPart_sz (b := a.fl.c) (k := 11) (t := t)
        have ec : ∀ x : Tm, (a.sp x).fl.c = a.fl.c := fun x => fl_c_ev _ _
        have et : ∀ x : Tm, (a.sp x).ct = a.ct := fun x => ct_ev _ _
        have ef : ∀ x : Tm, fdp (a.sp x) = fdp a := fun x => fdp_evx _ _
        generalize rlPart a.fl.c 11 t = x at *
        generalize rlPart a.fl.c 12 t = y at *
        by_cases s1 : x.szW > 4096
        · rw [decide_eq_true s1]; exact .inl rfl
        by_cases s2 : subW (a.grown x) a.exs > 4096
        · rw [decide_eq_true s2, Bool.or_true]; exact .inl rfl
        rw [decide_eq_false s1, decide_eq_false s2]
        simp only [Bool.or_self, Bool.false_eq_true, if_false]
        have zx := hx.cut (by omega)
        have esp : a.sp x = fmInn x 0 a 0 := fsp_inn hx.gd (by omega) (least_mono (by omega) _ hx.l) ga 0 (by omega) (by omega)
        have ec := ec x
        have et := et x
        have ef := ef x
        rw [esp] at ec et ef ⊢
        have hsz := ga.inn_sz (s := x) 0 (by omega) (by omega)
        have hqr := exs_range ga (by omega)
        have hpos := tmSz_pos x
        have hgr : a.grown x = (fmSz (fmInn x 0 a 0) : Int) := by
          unfold Fm.grown
          rw [x.szW_nodes _ (hx.gd.nodes_val (by omega)), a.szW_nodes _ (ga.nodes_val (by omega))]
          have e1 : subW (tmSz x : Int) 1 = ((tmSz x - 1 : Nat) : Int) := by rw [subW_eq (by omega) (by omega) (by omega) (by omega)]; omega
          rw [e1, grown_occ (c := 4096) (by omega) ga 0 _ (by omega) (by omega) (by omega), hsz]
        have hmul : fmOcc a 0 * (tmSz x - 1) ≤ 4096 * 4096 := Nat.mul_le_mul (by have := fmOcc_le a 0; omega) (by omega)
        rw [hgr, subW_eq (by omega) (by omega) (by omega) (by omega)] at s2
        have hAr := argsR_inn (x := x) ga (by omega) za (by omega) (fun hq => by
          obtain ⟨s1', s2', u, v, e⟩ := hq
          have hn3 : N = 3 := by
            subst e
            rw [fdp_q, fdp_q, fdp_eqn] at hd; omega
          have := hC (by omega) 5 s a rfl ⟨s1', s2', u, v, e⟩
          have hm2 : fmOcc a 0 * (tmSz x - 1) ≤ fmOcc a 0 * tmSz t := Nat.mul_le_mul_left _ (by omega)
          omega)
        have hl' := fleastG_inn hL0 (by omega) hx.gd hx.l ga la 0 (by omega) (by omega)
        have hty := ta.innQ g [] (by simp) key.1 (by simp; omega) (by omega)
        rw [List.append_nil] at hty
        refine ih' _ g y (L + 1000000) (ga.inn hx.gd (least_mono (by omega) _ hx.l) (fleastG_mono (M := L) (M' := 536870912) (by omega) ga la) 0 (by omega) (by omega)) (by omega) hAr (by omega) (by omega) hty (by omega) (by omega) (by omega) hl' (hy.mono (by omega)) (fun h => ?_)
        rw [ec] at h
        rw [et]
        exact key.2 h
      · change okR g (rlQ (rlOf N) 6 s a t)
        rw [fl_c_q (by omega), ct_allu] at hc
        exact uni 4 (.inl rfl) (by simpa using hc)
      · change okR g (rlQ (rlOf N) 7 s a t)
        rw [fl_c_q (by omega), ct_exu] at hc
        exact uni 7 (.inr rfl) (by simpa using hc)

theorem MkFm.fdp {u : Bool} {n : Nat} {g : List Ty} {f : Fm} (h : MkFm u n g f) : fdp f ≤ n + 1 := by
  induction h with
  | eq => rw [fdp_eqn]; omega
  | two _ _ _ h1 h2 => rw [fdp_two]; omega
  | q _ _ _ h1 => rw [fdp_q]; omega
theorem mkU_q_inv {n : Nat} {g : List Ty} {k : Int} {s : Ty} {a : Fm} (h : MkFm true n g (fmQ k s a)) : ∃ m, n = m + 1 ∧ MkTy 1 s ∧ MkFm true m (g ++ [s]) a := by
  cases h with
  | @q m _ _ _ _ hk hs ha => exact ⟨m, rfl, by simpa using hs, ha⟩
theorem mkU_eq_inv {n : Nat} {g : List Ty} {x y : Tm} (h : MkFm true n g (fmEq x y)) : MkTm 1 g tNat x ∧ MkTm 1 g tNat y := by
  cases h with
  | eq h1 h2 => exact ⟨h1, h2⟩
theorem corner_mk {n : Nat} {g : List Ty} {f : Fm} {t : Tm} (hm : MkFm true n g f) (hg : ∀ y ∈ g, MkTy 1 y) (zt : tmSz t ≤ 600) : CornerR f t := by
  rintro k s a rfl ⟨s1, s2, x, y, rfl⟩
  obtain ⟨n1, _, m1, h1⟩ := mkU_q_inv hm
  obtain ⟨n2, _, m2, h2⟩ := mkU_q_inv h1
  obtain ⟨n3, _, m3, h3⟩ := mkU_q_inv h2
  obtain ⟨hx, hy⟩ := mkU_eq_inv h3
  have hctx : ∀ z ∈ g ++ [s] ++ [s1] ++ [s2], MkTy 1 z := by
    intro z hz
    simp only [List.mem_append, List.mem_singleton] at hz
    rcases hz with ((hz | rfl) | rfl) | rfl
    · exact hg z hz
    · exact m1
    · exact m2
    · exact m3
  obtain ⟨x1, x2⟩ := hx.one hctx
  obtain ⟨y1, y2⟩ := hy.one hctx
  have oq : ∀ {t : Ty} {z : Fm} {d : Int}, fmOcc (fmQ 5 t z) d = fmOcc z (d + 1) := fun {t z d} => fmOcc_q (.inr (.inl rfl))
  rw [fmSz_q, fmSz_q, fmSz_eq, oq, oq, fmOcc_eq]
  have o1 := x2 (0 + 1 + 1) (by omega)
  have o2 := y2 (0 + 1 + 1) (by omega)
  have : (tmOcc x (0 + 1 + 1) + tmOcc y (0 + 1 + 1)) * tmSz t ≤ 6 * 600 := Nat.mul_le_mul (by omega) (by omega)
  omega

/-- What is known of a term that is made for the content type. -/
theorem mk_term {n : Nat} {g : List Ty} {s : Ty} {t : Tm} (hn : n ≤ 2) (hg : ∀ y ∈ g, MkTy 1 y) (hgl : g.length ≤ 10) (hs : TyG s) (zs : tySz s ≤ 15) (mt : MkTm n g s t) : TmR 10000 t ∧ tmSz t ≤ 565 ∧ HasTy TyG g t s := by
  have hgG : ∀ y ∈ g, TyG y := fun y hy => (hg y hy).G (by omega)
  have hg3 : ∀ y ∈ g, tySz y ≤ 15 := fun y hy => by have := (hg y hy).sz1; omega
  have b2 : ∀ n, n ≤ 2 → bndT 15 n ≤ 565 := fun n h => by
    match n, h with
    | 0, _ => decide
    | 1, _ => decide
    | 2, _ => decide
  have zt := (mt.sz (M := 15) (by omega) hg3 zs).1
  have := b2 n hn
  have lt := mt.least (M := 15) (m := 10000) (by omega) (by omega) hg3 zs (by omega)
  exact ⟨⟨mt.G hgG hs, by omega, by simpa using lt⟩, by omega, mt.ty (mk20 hg) ⟨hs.1, by omega⟩⟩

theorem fmErr_sz {n : Nat} {g : List Ty} {f : Fm} (hm : MkFm true n g f) (hn : n ≤ 3) (hg : ∀ y ∈ g, MkTy 1 y) (h : fmErr f = 0) : fmSz f ≤ 4096 := by
  have hgG : ∀ y ∈ g, TyG y := fun y hy => (hg y hy).G (by omega)
  have hz := hm.sz (fun y hy => (hg y hy).sz1)
  have p : 2 ^ n ≤ 2 ^ 3 := Nat.pow_le_pow_right (by omega) hn
  have p3 : 2 ^ 3 = 8 := rfl
  rcases Nat.lt_or_ge 4096 (fmSz f) with h' | h'
  · exfalso
    rw [(hm.G hgG).err_val (by omega), if_neg (by omega)] at h
    cases h
  · exact h'

/-- The law of RealizeNone: what it means that a term realizes a formula has no content, and is typed. -/
theorem law_rlNone {g : List Ty} {f : Fm} {t : Tm} (hm : MkFm true 3 g f) (hg : ∀ y ∈ g, MkTy 1 y) (hgl : g.length ≤ 10) (ok : f.cty.2 = 0) (mt : MkTm 2 g f.cty.1 t) : okR g (rlF f t) := by
  have hgG : ∀ y ∈ g, TyG y := fun y hy => (hg y hy).G (by omega)
  have hg3 : ∀ y ∈ g, tySz y ≤ 3 := fun y hy => (hg y hy).sz1
  have hG := hm.G hgG
  have he : fmErr f = 0 := by
    unfold Fm.cty at ok
    split at ok
    · exact ok
    · rename_i h; simpa using h
  have hsz := fmErr_sz hm (by omega) hg he
  rw [cty_ct hG hsz] at ok mt
  have hs : TyG f.ct.1 := by
    rcases ct_G hG with ⟨_, h⟩ | h
    · exact h
    · rw [ok] at h; cases h
  have p3 : 2 ^ 3 = 8 := rfl
  have zs := (ct_sz hm hgG ok).1
  obtain ⟨rt, zt, ht⟩ := mk_term (by omega) hg hgl hs (by omega) mt
  have lf := hm.least (m := 10000) (by omega) hg3 (by omega)
  have lf' : f.least 10000 = true := by simpa using lf
  unfold rlF
  rw [he, rt.gd.err0 (by omega), far_least, fleastG_mono (by omega) hG lf', least_mono (by omega) _ rt.l]
  show okR g (rlOf (fdp f) f (if f.hc then t else tm0 13 []))
  rw [hc_c hG hsz]
  have hd := hm.fdp
  have ru : TmR 10000 (tm0 13 []) := ⟨.t0 ar13 rfl, by rw [tmSz_0]; omega, least_tm0 (by omega) (by simp)⟩
  refine rlOf_good (fdp f) (by omega) f g _ 10000 hG (Nat.le_refl _) (argsOk_of hsz) (by omega) (fun _ => corner_mk hm hg ?_) (hm.ty hg) (by omega) (by omega) (by omega) lf' ?_ (fun h => ?_)
  · split
    · omega
    · rw [tmSz_0]; omega
  · split
    · exact rt
    · exact ru
  · rw [h]; exact ⟨ok, ht⟩
end GoAbs

namespace GoAbs
open Go

/-- Putting in twice, at two depths. -/
theorem pIn_inD {s x : Tm} {e : Int} (he : 0 ≤ e) (hs : TmG s) (hx : TmG x) {t : Tm} (h : TmG t) : ∀ c : Int, 0 ≤ c → pIn s (pIn x t c) (c + e) = pIn (pIn s x e) (pIn s t (c + e + 1)) c := by
  induction h using TmG.nd with
  | hv i hi =>
    intro d hd
    rw [pIn_var, pIn_var (i := i) (e := d + e + 1)]
    by_cases h1 : i = d
    · rw [if_pos h1, if_neg (by omega), if_neg (by omega), pIn_var, if_pos h1]
      have := pUp_in hd hs hx 0 e (by omega) (by omega)
      rw [this]; congr 1; omega
    · rw [if_neg h1]
      by_cases h2 : i = d + e + 1
      · rw [if_pos (show i > d by omega), if_pos h2, pIn_var, if_pos (by omega), pIn_up hs 0 d hd (by omega)]
      · by_cases h3 : i > d + e + 1
        · rw [if_pos (show i > d by omega), if_neg h2, if_pos h3, pIn_var, pIn_var, if_neg (by omega), if_pos (by omega), if_neg (by omega), if_pos (by omega)]
        · rw [if_neg h2, if_neg h3]
          by_cases h4 : i > d
          · rw [if_pos h4, pIn_var, pIn_var, if_neg (by omega), if_neg (by omega), if_neg h1, if_pos h4]
          · rw [if_neg h4, pIn_var, pIn_var, if_neg (by omega), if_neg (by omega), if_neg h1, if_neg h4]
  | hn k t l hk hl _ ih =>
    intro d hd
    have hz := below_nn k
    rw [pIn_node hk, pIn_node hk, pIn_node hk, pIn_node hk, List.map_map, List.map_map]
    congr 1
    refine map_eq fun y hy => ?_
    have := ih y hy (d + tmBelow k) (by omega)
    simp only [Function.comp_apply]
    rw [show d + e + tmBelow k = d + tmBelow k + e by omega, this]
    congr 2; omega

theorem inn_innD {L : Int} (hL : 0 ≤ L) (hL2 : L ≤ 500000000) {s x t : Tm} (hs : TmG s) (hx : TmG x) (h : TmG t) (ls : s.least L = true) (lx : x.least L = true) (lt : t.least L = true) (zs : tmSz s ≤ 20000) (zx : tmSz x ≤ 20000) (zt : tmSz t ≤ 20000)
    (d e : Int) (hd : 0 ≤ d) (hd2 : d ≤ 20000) (he : 0 ≤ e) (he2 : e ≤ 20000) : tmInn s 0 (tmInn x 0 t d) (d + e) = tmInn (tmInn s 0 x e) 0 (tmInn s 0 t (d + e + 1)) d := by
  have m := fun {t : Tm} (M M' : Int) (hM : M ≤ M') (h : t.least M = true) => least_mono hM t h
  have z1 := TmG.inn_sz (s := x) _ h (Nat.le_refl _) d hd (by omega)
  have z2 := TmG.inn_sz (s := s) _ h (Nat.le_refl _) (d + e + 1) (by omega) (by omega)
  have z3 := TmG.inn_sz (s := s) _ hx (Nat.le_refl _) e (by omega) (by omega)
  have o1 := tmOcc_le t d
  have o2 := tmOcc_le t (d + e + 1)
  have o3 := tmOcc_le x e
  have b1 : tmOcc t d * (tmSz x - 1) ≤ 20000 * 20000 := Nat.mul_le_mul (by omega) (by omega)
  have b2 : tmOcc t (d + e + 1) * (tmSz s - 1) ≤ 20000 * 20000 := Nat.mul_le_mul (by omega) (by omega)
  have b3 : tmOcc x e * (tmSz s - 1) ≤ 20000 * 20000 := Nat.mul_le_mul (by omega) (by omega)
  have g1 : TmG (tmInn x 0 t d) := TmG.inn hx (m L _ (by omega) lx) _ h (Nat.le_refl _) (m L _ (by omega) lt) d hd (by omega)
  have g2 : TmG (tmInn s 0 t (d + e + 1)) := TmG.inn hs (m L _ (by omega) ls) _ h (Nat.le_refl _) (m L _ (by omega) lt) (d + e + 1) (by omega) (by omega)
  have g3 : TmG (tmInn s 0 x e) := TmG.inn hs (m L _ (by omega) ls) _ hx (Nat.le_refl _) (m L _ (by omega) lx) e (by omega) (by omega)
  have l1 : (tmInn x 0 t d).least (L + 1000000) = true := least_inn hL (by omega) hx lx _ h (Nat.le_refl _) lt d hd (by omega)
  have l2 : (tmInn s 0 t (d + e + 1)).least (L + 1000000) = true := least_inn hL (by omega) hs ls _ h (Nat.le_refl _) lt (d + e + 1) (by omega) (by omega)
  have l3 : (tmInn s 0 x e).least (L + 1000000) = true := least_inn hL (by omega) hs ls _ hx (Nat.le_refl _) lx e (by omega) (by omega)
  rw [inn_p hs (m L _ (by omega) ls) (by omega) g1 (d + e) (m (L + 1000000) _ (by omega) l1) (by omega) (by omega),
    inn_p g3 (m (L + 1000000) _ (by omega) l3) (by omega) g2 d (m (L + 1000000) _ (by omega) l2) hd (by omega),
    inn_p hx (m L _ (by omega) lx) (by omega) h d (m L _ (by omega) lt) hd (by omega),
    inn_p hs (m L _ (by omega) ls) (by omega) hx e (m L _ (by omega) lx) (by omega) (by omega),
    inn_p hs (m L _ (by omega) ls) (by omega) h (d + e + 1) (m L _ (by omega) lt) (by omega) (by omega)]
  exact pIn_inD he hs hx h d hd

/-- Lifting and putting in. -/
theorem up_innD {L : Int} (hL : 0 ≤ L) (hL2 : L ≤ 500000000) {s t : Tm} (hs : TmG s) (h : TmG t) (ls : s.least L = true) (lt : t.least L = true) (zs : tmSz s ≤ 20000) (zt : tmSz t ≤ 20000)
    (c e : Int) (hc : 0 ≤ c) (he : c ≤ e) (he2 : e ≤ 20000) : (tmInn s 0 t e).up 1 c = tmInn s 0 (t.up 1 c) (e + 1) := by
  have m := fun {t : Tm} (M M' : Int) (hM : M ≤ M') (h : t.least M = true) => least_mono hM t h
  have z2 := TmG.inn_sz (s := s) _ h (Nat.le_refl _) e (by omega) (by omega)
  have o2 := tmOcc_le t e
  have b2 : tmOcc t e * (tmSz s - 1) ≤ 20000 * 20000 := Nat.mul_le_mul (by omega) (by omega)
  have g1 : TmG (tmInn s 0 t e) := TmG.inn hs (m L _ (by omega) ls) _ h (Nat.le_refl _) (m L _ (by omega) lt) e (by omega) (by omega)
  have g2 : TmG (t.up 1 c) := TmG.up (by omega) (by omega) _ h (Nat.le_refl _) (m L _ (by omega) lt) c
  have l1 : (tmInn s 0 t e).least (L + 1000000) = true := least_inn hL (by omega) hs ls _ h (Nat.le_refl _) lt e (by omega) (by omega)
  have l2 : (t.up 1 c).least (L + 1) = true := least_up hL (by omega) (by omega) (by omega) _ h (Nat.le_refl _) lt c
  rw [up_p (by omega) (by omega) g1 c (m (L + 1000000) _ (by omega) l1) hc (by omega),
    inn_p hs (m L _ (by omega) ls) (by omega) h e (m L _ (by omega) lt) (by omega) (by omega),
    inn_p hs (m L _ (by omega) ls) (by omega) g2 (e + 1) (m (L + 1) _ (by omega) l2) (by omega) (by rw [tmSz_up]; omega),
    up_p (by omega) (by omega) h c (m L _ (by omega) lt) hc (by omega)]
  exact pUp_in (by omega) hs h c e hc he

theorem finn_innD {L : Int} (hL : 0 ≤ L) (hL2 : L ≤ 500000000) {s x : Tm} (hs : TmG s) (hx : TmG x) (ls : s.least L = true) (lx : x.least L = true) (zs : tmSz s ≤ 20000) (zx : tmSz x ≤ 20000) {e : Int} (he : 0 ≤ e) (he2 : e ≤ 1000) {u : Bool} {f : Fm} (h : FmG u f) :
    f.least L = true → fmSz f ≤ 19000 → ∀ d : Int, 0 ≤ d → d + fmSz f ≤ 19000 → fmInn s 0 (fmInn x 0 f d) (d + e) = fmInn (tmInn s 0 x e) 0 (fmInn s 0 f (d + e + 1)) d := by
  induction h with
  | @eq u v hu hv =>
    intro hl hz d hd hz2
    obtain ⟨l1, l2⟩ := fleast_eq.1 hl
    rw [fmSz_eq] at hz hz2
    rw [fmInn_eqn, fmInn_eqn, fmInn_eqn, fmInn_eqn, inn_innD hL hL2 hs hx hu ls lx l1 zs zx (by omega) d e hd (by omega) he (by omega), inn_innD hL hL2 hs hx hv ls lx l2 zs zx (by omega) d e hd (by omega) he (by omega)]
  | @two k a b hk _ _ h1 h2 =>
    intro hl hz d hd hz2
    obtain ⟨l1, l2⟩ := fleast_parts2 hl
    rw [fmSz_two] at hz hz2
    rw [fmInn_two, fmInn_two, fmInn_two, fmInn_two, below_two hk, addW_zero hd (by omega), addW_zero (by omega) (by omega), addW_zero (by omega) (by omega), h1 l1 (by omega) d hd (by omega), h2 l2 (by omega) d hd (by omega)]
  | @q k ty a hk hs' _ h1 =>
    intro hl hz d hd hz2
    have l1 := fleast_part hl
    rw [fmSz_q] at hz hz2
    rw [fmInn_q, fmInn_q, fmInn_q, fmInn_q, below_q (FmG.qk hk), addW_eq (by omega) (by omega) (by omega) (by omega), addW_eq (by omega) (by omega) (by omega) (by omega), addW_eq (by omega) (by omega) (by omega) (by omega)]
    have := h1 l1 (by omega) (d + 1) (by omega) (by omega)
    rw [show d + e + 1 = d + 1 + e by omega, this]
theorem fup_innD {L : Int} (hL : 0 ≤ L) (hL2 : L ≤ 500000000) {s : Tm} (hs : TmG s) (ls : s.least L = true) (zs : tmSz s ≤ 20000) {u : Bool} {f : Fm} (h : FmG u f) :
    f.least L = true → fmSz f ≤ 18000 → ∀ c e : Int, 0 ≤ c → c ≤ e → e + fmSz f ≤ 19000 → (fmInn s 0 f e).up 1 c = fmInn s 0 (f.up 1 c) (e + 1) := by
  induction h with
  | @eq u v hu hv =>
    intro hl hz c e hc he hz2
    obtain ⟨l1, l2⟩ := fleast_eq.1 hl
    rw [fmSz_eq] at hz hz2
    rw [fmInn_eqn, fmUp_eqn, fmUp_eqn, fmInn_eqn, up_innD hL hL2 hs hu ls l1 zs (by omega) c e hc he (by omega), up_innD hL hL2 hs hv ls l2 zs (by omega) c e hc he (by omega)]
  | @two k a b hk _ _ h1 h2 =>
    intro hl hz c e hc he hz2
    obtain ⟨l1, l2⟩ := fleast_parts2 hl
    rw [fmSz_two] at hz hz2
    rw [fmInn_two, fmUp2 hk hc (by omega), fmUp2 hk hc (by omega), fmInn_two, below_two hk, addW_zero (by omega) (by omega), addW_zero (by omega) (by omega), h1 l1 (by omega) c e hc he (by omega), h2 l2 (by omega) c e hc he (by omega)]
  | @q k ty a hk hs' _ h1 =>
    intro hl hz c e hc he hz2
    have l1 := fleast_part hl
    rw [fmSz_q] at hz hz2
    rw [fmInn_q, fmUpq (FmG.qk hk) hc (by omega), fmUpq (FmG.qk hk) hc (by omega), fmInn_q, below_q (FmG.qk hk), addW_eq (by omega) (by omega) (by omega) (by omega), addW_eq (by omega) (by omega) (by omega) (by omega),
      h1 l1 (by omega) (c + 1) (e + 1) (by omega) (by omega) (by omega)]

theorem finnG_occ0 {s s' : Tm} {u : Bool} {f : Fm} (h : FmG u f) : ∀ d : Int, 0 ≤ d → d + fmSz f ≤ 100000 → fmOcc f d = 0 → fmInn s 0 f d = fmInn s' 0 f d := by
  induction h with
  | @eq u v hu hv =>
    intro d hd hz ho
    rw [fmSz_eq] at hz
    rw [fmOcc_eq] at ho
    rw [fmInn_eqn, fmInn_eqn, inn_occ0 (s := s) (s' := s') hu d hd (by omega) (by omega), inn_occ0 (s := s) (s' := s') hv d hd (by omega) (by omega)]
  | @two k a b hk _ _ h1 h2 =>
    intro d hd hz ho
    rw [fmSz_two] at hz
    rw [fmOcc_two hk] at ho
    rw [fmInn_two, fmInn_two, below_two hk, addW_zero hd (by omega), h1 d hd (by omega) (by omega), h2 d hd (by omega) (by omega)]
  | @q k ty a hk hs' _ h1 =>
    intro d hd hz ho
    rw [fmSz_q] at hz
    rw [fmOcc_q (FmG.qk hk)] at ho
    rw [fmInn_q, fmInn_q, below_q (FmG.qk hk), addW_eq (by omega) (by omega) (by omega) (by omega), h1 (d + 1) (by omega) (by omega) ho]
theorem seenG {u : Bool} {b : Fm} (hb : FmG u b) (zb : fmSz b ≤ 8200) {x x' : Tm} (h : x' = x ∨ 2 ≤ tmSz x') (hz : fmOcc b 0 * (tmSz x' - 1) = 0) : fmInn x' 0 b 0 = fmInn x 0 b 0 := by
  rcases h with rfl | h
  · rfl
  · refine finnG_occ0 hb 0 (by omega) (by omega) ?_
    rcases Nat.mul_eq_zero.1 hz with h | h
    · exact h
    · omega

theorem Pd_two {s : Tm} {k d : Int} (hk : k = 2 ∨ k = 3) (hd : 0 ≤ d) (hd2 : d ≤ 1000) {a b : Fm} : fmInn s 0 (fmTwo k a b) d = fmTwo k (fmInn s 0 a d) (fmInn s 0 b d) := by
  rw [fmInn_two, below_two hk, addW_zero hd (by omega)]
theorem Pd_q {s : Tm} {k : Int} (hk : k = 4 ∨ k = 5 ∨ k = 6 ∨ k = 7) {t : Ty} {a : Fm} {d : Int} (hd : 0 ≤ d) (hd2 : d ≤ 1000) : fmInn s 0 (fmQ k t a) d = fmQ k t (fmInn s 0 a (d + 1)) := by
  rw [fmInn_q, below_q hk, addW_eq (by omega) (by omega) (by omega) (by omega)]
theorem Pd_part {s : Tm} {b : Bool} {k d : Int} (hk : k = 11 ∨ k = 12) (hd : 0 ≤ d) (hd2 : d ≤ 1000) {t : Tm} : tmInn s 0 (rlPart b k t) d = rlPart b k (tmInn s 0 t d) := by
  unfold rlPart
  cases b
  · rfl
  · simp only [if_true]
    rw [inn_tm0 (by rcases hk with rfl | rfl <;> rfl)]
    have : tmBelow k = 0 := by rcases hk with rfl | rfl <;> rfl
    rw [this, addW_zero hd (by omega)]; rfl
theorem Pd_v0 {s : Tm} {d : Int} (hd : 0 ≤ d) (hd2 : d ≤ 1000) : tmInn s 0 (tmVar 0) (d + 1) = tmVar 0 := by
  have e0 : addW 0 (d + 1) = d + 1 := by rw [addW_eq (by omega) (by omega) (by omega) (by omega)]; omega
  have h1 : ((0 : Int) == d + 1) = false := by simp; omega
  have h2 : decide ((0 : Int) > d + 1) = false := by simp; omega
  rw [tmVar, tmInn, e0, h1, h2]; rfl
theorem TmR.P {L : Int} (hL : 0 ≤ L) (hL2 : L ≤ 500000000) {s t : Tm} (hs : SubOk L s) (h : TmR L t) {d : Int} (hd : 0 ≤ d) (hd2 : d ≤ 1000) : TmG (tmInn s 0 t d) ∧ (tmInn s 0 t d).least (L + 1000000) = true :=
  ⟨TmG.inn hs.gd (least_mono (by omega) _ hs.l) _ h.gd (Nat.le_refl _) (least_mono (by omega) _ h.l) d hd (by have := h.sz; omega), least_inn hL (by omega) hs.gd hs.l _ h.gd (Nat.le_refl _) h.l d hd (by have := h.sz; omega)⟩
theorem Pd_up {L : Int} (hL : 0 ≤ L) (hL2 : L ≤ 300000000) {s t : Tm} {b : Bool} (hs : SubOk L s) (h : TmR L t) (zt : tmSz t ≤ 4096) {d : Int} (hd : 0 ≤ d) (hd2 : d ≤ 1000) (zP : tmSz (tmInn s 0 t d) ≤ 4096) :
    tmInn s 0 (rlUp b t) (d + 1) = rlUp b (tmInn s 0 t d) := by
  have hzs := hs.sz
  obtain ⟨gP, lP⟩ := h.P hL (by omega) hs hd hd2
  have e1 := sl_up (b := 1) (by omega) (by omega) _ h.gd (Nat.le_refl _) (least_mono (by omega) _ h.l) 0 (by omega) (by omega)
  have e2 := sl_up (b := 1) (by omega) (by omega) _ gP (Nat.le_refl _) (least_mono (by omega) _ lP) 0 (by omega) (by omega)
  have e3 := up_innD hL (by omega) hs.gd h.gd hs.l h.l (by omega) h.sz 0 d (by omega) hd (by omega)
  unfold rlUp rlCall
  rw [e1, e2, e3]
  cases b
  · rfl
  · simp only [if_true]
    rw [inn_tm0 rfl]
    have : tmBelow 3 = 0 := rfl
    rw [this, addW_zero (by omega) (by omega)]
    simp only [List.map_cons, List.map_nil, Pd_v0 hd hd2]

theorem hc_big {u : Bool} {f : Fm} (h : FmG u f) (hz : 4096 < fmSz f) (hz2 : fmSz f ≤ 1000000) : f.hc = false := by
  have e : fmErr f = 4 := by rw [h.err_val hz2, if_neg (by omega)]
  unfold Fm.hc Fm.has
  rw [e]; rfl
theorem hc_none {f : Fm} (h : f.fl.c = false) : f.hc = false := by
  unfold Fm.hc Fm.has
  split
  · rfl
  · exact h

/-- What a step over an existential quantifier says about sizes. -/
theorem ex_sz {u : Bool} {b : Fm} (hb : FmG u b) (zb : fmSz b ≤ 8200) {x : Tm} (hx : TmG x) (zx : tmSz x ≤ 20000) (lx : x.least 1000000000 = true) (s1 : ¬ x.szW > 4096) (s2 : ¬ subW (b.grown x) b.exs > 4096) :
    tmSz x ≤ 4096 ∧ b.sp x = fmInn x 0 b 0 ∧ (fmSz (fmInn x 0 b 0) : Int) ≤ 4096 + b.exs ∧ fmSz (fmInn x 0 b 0) = fmSz b + fmOcc b 0 * (tmSz x - 1) := by
  have zx' := G_cut hx zx (by omega)
  have esp : b.sp x = fmInn x 0 b 0 := fsp_inn hx (by omega) lx hb 0 (by omega) (by omega)
  have hsz := hb.inn_sz (s := x) 0 (by omega) (by omega)
  have hqr := exs_range hb (by omega)
  have hpos := tmSz_pos x
  have hmul : fmOcc b 0 * (tmSz x - 1) ≤ 8200 * 4096 := Nat.mul_le_mul (by have := fmOcc_le b 0; omega) (by omega)
  have hgr : b.grown x = (fmSz (fmInn x 0 b 0) : Int) := by
    unfold Fm.grown
    rw [x.szW_nodes _ (hx.nodes_val (by omega)), b.szW_nodes _ (hb.nodes_val (by omega))]
    have e1 : subW (tmSz x : Int) 1 = ((tmSz x - 1 : Nat) : Int) := by rw [subW_eq (by omega) (by omega) (by omega) (by omega)]; omega
    rw [e1, grown_occ (c := 4096) (by omega) hb 0 _ (by omega) (by omega) (by omega), hsz]
  rw [hgr, subW_eq (by omega) (by omega) (by omega) (by omega)] at s2
  exact ⟨zx', esp, by omega, hsz⟩

theorem rlEx_ok {r : Fm → Tm → Fm × Int} {a : Fm} {t : Tm} (h : (rlEx r a t).2 = 0) : ¬ (rlPart a.hc 11 t).szW > 4096 ∧ ¬ subW (a.grown (rlPart a.hc 11 t)) a.exs > 4096 ∧ rlEx r a t = r (a.sp (rlPart a.hc 11 t)) (rlPart a.hc 12 t) := by
  unfold rlEx at h ⊢
  by_cases s1 : (rlPart a.hc 11 t).szW > 4096
  · rw [decide_eq_true s1] at h; cases h
  by_cases s2 : subW (a.grown (rlPart a.hc 11 t)) a.exs > 4096
  · rw [decide_eq_true s2, Bool.or_true] at h; cases h
  rw [decide_eq_false s1, decide_eq_false s2]
  exact ⟨s1, s2, rfl⟩
theorem rlBuild_ok {k : Int} {s : Ty} {x : Fm × Int} (h : (rlBuild k s x).2 = 0) : x.2 = 0 ∧ (rlBuild k s x).1 = fmQ k s x.1 := by
  unfold rlBuild at h ⊢
  cases h1 : (x.2 != 0) with
  | true => rw [h1] at h; simp only [if_true] at h; rw [h] at h1; cases h1
  | false =>
    rw [h1] at h
    by_cases h2 : (fmQ k s x.1).szW > 4096
    · rw [decide_eq_true h2] at h; cases h
    · rw [decide_eq_false h2]; exact ⟨by simpa using h1, rfl⟩
theorem rlOf_size {n : Nat} {f : Fm} {t : Tm} (h : (rlOf (n + 1) f t).2 = 0) : ¬ t.szW > 4096 := by
  intro h4
  rw [rlOf, decide_eq_true h4] at h; cases h
theorem rlOf_eq {n : Nat} {x y t : Tm} (h : (rlOf n (fmEq x y) t).2 = 0) : (rlOf n (fmEq x y) t).1 = fmEq x y := by
  cases n with
  | zero => cases h
  | succ n => rw [rlOf_else (rlOf_size h)]; rfl
theorem EEE_inv {u : Bool} {a : Fm} (h : FmG u a) {s : Tm} {d : Int} (hd : 0 ≤ d) (hd2 : d ≤ 100) (hq : EEE (fmInn s 0 a d)) :
    ∃ t1 t2 u v, a = fmQ 5 t1 (fmQ 5 t2 (fmEq u v)) ∧ TyG t1 ∧ TyG t2 ∧ TmG u ∧ TmG v := by
  obtain ⟨t1, t2, u, v, e⟩ := hq
  cases h with
  | eq _ _ => rw [fmInn_eqn] at e; simp [fmQ, fmEq] at e
  | two hk _ _ => rw [fmInn_two] at e; simp [fmQ, fmTwo] at e
  | @q k t b hk ht hb =>
    rw [Pd_q (FmG.qk hk) hd (by omega)] at e
    simp only [fmQ, Fm.mk.injEq, List.cons.injEq, and_true, true_and] at e
    obtain ⟨rfl, rfl, e⟩ := e
    cases hb with
    | eq _ _ => rw [fmInn_eqn] at e; simp [fmEq] at e
    | two hk _ _ => rw [fmInn_two] at e; simp [fmTwo] at e
    | @q k' t' b hk' ht' hb =>
      rw [Pd_q (FmG.qk hk') (by omega) (by omega)] at e
      simp only [fmQ, Fm.mk.injEq, List.cons.injEq, and_true, true_and] at e
      obtain ⟨rfl, rfl, e⟩ := e
      cases hb with
      | @eq x y hx hy => exact ⟨t, t', x, y, rfl, ht, ht', hx, hy⟩
      | two hk _ _ => rw [fmInn_two] at e; simp [fmEq, fmTwo] at e
      | @q k'' t'' b hk'' ht'' hb => rw [Pd_q (FmG.qk hk'') (by omega) (by omega)] at e; simp [fmEq, fmQ] at e
end GoAbs

namespace GoAbs
open Go

theorem ct_P {L : Int} (hL2 : L ≤ 500000000) {s : Tm} (hs : SubOk L s) {u : Bool} {f : Fm} (h : FmG u f) (hz : fmSz f ≤ 10000) {d : Int} (hd : 0 ≤ d) (hd2 : d ≤ 1000) : (fmInn s 0 f d).ct = f.ct ∧ (fmInn s 0 f d).fl.c = f.fl.c ∧ fdp (fmInn s 0 f d) = fdp f := by
  have := hs.sz
  rw [← fsp_inn hs.gd (by omega) (least_mono (by omega) _ hs.l) h d hd (by omega)]
  exact ⟨ct_ev _ _, fl_c_ev _ _, fdp_evx _ _⟩
theorem fdp_inn0 {x : Tm} (hx : TmG x) (zx : tmSz x ≤ 10000) (lx : x.least 1000000000 = true) {u : Bool} {f : Fm} (h : FmG u f) (hz : fmSz f ≤ 10000) : fdp (fmInn x 0 f 0) = fdp f := by
  rw [← fsp_inn hx zx lx h 0 (by omega) (by omega)]; exact fdp_evx _ _

theorem rlOf_ex {M : Nat} {t1 : Ty} {a : Fm} {t : Tm} (h : (rlOf (M + 1) (fmQ 5 t1 a) t).2 = 0) : rlOf (M + 1) (fmQ 5 t1 a) t = rlEx (rlOf M) a t := by
  rw [rlOf_else (rlOf_size h)]; rfl

/-- The corner: the body of two existential quantifiers has one node too much, and its content is not seen. -/
theorem rl_corner {L : Int} (hL0 : 0 ≤ L) (hL : L ≤ 200000000) {s : Tm} (hs : SubOk L s) {d : Int} (hd : 0 ≤ d) (hd2 : d ≤ 100) {t1 t2 : Ty} (ht1 : TyG t1) (ht2 : TyG t2) {u v : Tm} (gu : TmG u) (gv : TmG v)
    (hA : fmSz (fmQ 5 t2 (fmEq u v)) ≤ 4096) {t : Tm} (hr : TmR L t) (zSt : tmSz (tmInn s 0 t d) ≤ 20000) (h2t : 2 ≤ tmSz (tmInn s 0 t d)) (hl : (fmQ 5 t1 (fmQ 5 t2 (fmEq u v))).least L = true)
    (hz : fmSz (fmInn s 0 (fmQ 5 t1 (fmQ 5 t2 (fmEq u v))) d) = 4098) {N : Nat}
    (h : (rlOf N (fmQ 5 t1 (fmQ 5 t2 (fmEq u v))) t).2 = 0) (h' : (rlOf N (fmInn s 0 (fmQ 5 t1 (fmQ 5 t2 (fmEq u v))) d) (tmInn s 0 t d)).2 = 0) :
    (rlOf N (fmInn s 0 (fmQ 5 t1 (fmQ 5 t2 (fmEq u v))) d) (tmInn s 0 t d)).1 = fmInn s 0 (rlOf N (fmQ 5 t1 (fmQ 5 t2 (fmEq u v))) t).1 d := by
  have m := fun {t : Tm} (M M' : Int) (hM : M ≤ M') (h : t.least M = true) => least_mono hM t h
  have hE : FmG true (fmEq u v) := .eq gu gv
  have ha : FmG true (fmQ 5 t2 (fmEq u v)) := .q (.inr (.inl rfl)) ht2 hE
  have la := fleast_part hl
  have le := fleast_part la
  have zE := hA
  rw [fmSz_q] at zE
  have hzs := hs.sz
  obtain ⟨M, rfl⟩ : ∃ M, N = M + 1 := by
    cases N with
    | zero => cases h
    | succ M => exact ⟨M, rfl⟩
  have zt := hr.cut (by have := rlOf_size h; omega)
  have e0 := rlOf_ex h
  rw [e0] at h ⊢
  clear e0
  obtain ⟨s1, s2, e1⟩ := rlEx_ok h
  rw [e1] at h ⊢
  clear e1
  have hca : (fmQ 5 t2 (fmEq u v)).fl.c = true := by rw [fl_c_q (by omega)]; simp
  rw [hc_c ha hA, hca] at s1 s2 h ⊢
  have hx := rlPart_R (b := true) (k := 11) hL0 (.inl rfl) hr zt
  have hy := rlPart_R (b := true) (k := 12) hL0 (.inr rfl) hr zt
  have hxz := rlPart_sz (b := true) (k := 11) (t := t)
  have hyz := rlPart_sz (b := true) (k := 12) (t := t)
  generalize rlPart true 11 t = x at *
  generalize rlPart true 12 t = y at *
  obtain ⟨zx, esp, b3, b4⟩ := ex_sz ha (by omega) hx.gd hx.sz (m L _ (by omega) hx.l) s1 s2
  rw [esp] at h ⊢
  clear esp s1 s2
  -- the other run
  rw [Pd_q (.inr (.inl rfl)) hd (by omega)] at h' hz ⊢
  rw [fmSz_q] at hz
  obtain ⟨gP, lP⟩ := hr.P hL0 (by omega) hs hd (by omega)
  have zP := G_cut gP zSt (by have := rlOf_size h'; omega)
  have e0 := rlOf_ex h'
  rw [e0] at h' ⊢
  clear e0
  obtain ⟨s1, s2, e1⟩ := rlEx_ok h'
  rw [e1] at h' ⊢
  clear e1
  have lsa : (fmQ 5 t2 (fmEq u v)).least 536870912 = true := fleastG_mono (M := L) (by omega) ha la
  have ga' : FmG true (fmInn s 0 (fmQ 5 t2 (fmEq u v)) (d + 1)) := ha.inn hs.gd (m L _ (by omega) hs.l) lsa (d + 1) (by omega) (by omega)
  rw [hc_big ga' (by omega) (by omega)] at s1 s2 h' ⊢
  simp only [rlPart, Bool.false_eq_true, if_false] at s1 s2 h' ⊢
  obtain ⟨_, esp', d3, d4⟩ := ex_sz ga' (by omega) gP (by omega) (m (L + 1000000) _ (by omega) lP) s1 s2
  rw [esp'] at h' ⊢
  clear esp' s1 s2
  have ex' : (fmInn s 0 (fmQ 5 t2 (fmEq u v)) (d + 1)).exs = 1 := by
    have zE' : fmSz (fmInn s 0 (fmEq u v) (d + 1 + 1)) ≤ 5000 := by rw [Pd_q (.inr (.inl rfl)) (by omega) (by omega), fmSz_q] at hz; omega
    have gE' : FmG true (fmInn s 0 (fmEq u v) (d + 1 + 1)) := hE.inn hs.gd (m L _ (by omega) hs.l) (fleast_part lsa) (d + 1 + 1) (by omega) (by omega)
    rw [Pd_q (.inr (.inl rfl)) (by omega) (by omega), exs_q gE' (by omega), fmInn_eqn, exs_eqn]; rfl
  rw [ex'] at d3
  have hF := finn_innD hL0 (by omega) hs.gd hx.gd hs.l hx.l (by omega) (by omega) hd (by omega) ha la (by omega) 0 (by omega) (by omega)
  rw [Int.zero_add] at hF
  have hm0 : fmOcc (fmInn s 0 (fmQ 5 t2 (fmEq u v)) (d + 1)) 0 * (tmSz (tmInn s 0 t d) - 1) = 0 := by omega
  have hsn := seenG ga' (by omega) (x := tmInn s 0 x d) (.inr h2t) hm0
  have d5 : fmSz (fmInn s 0 (fmInn x 0 (fmQ 5 t2 (fmEq u v)) 0) d) = 4097 := by rw [hF, ← hsn]; omega
  rw [hsn, ← hF] at h' ⊢
  clear hF hsn d3 d4 hm0
  -- the inner quantifier
  have hb : fmInn x 0 (fmQ 5 t2 (fmEq u v)) 0 = fmQ 5 t2 (fmEq (tmInn x 0 u 1) (tmInn x 0 v 1)) := by
    rw [Pd_q (.inr (.inl rfl)) (by omega) (by omega), show (0 : Int) + 1 = 1 from rfl, fmInn_eqn]
  have gb : FmG true (fmInn x 0 (fmQ 5 t2 (fmEq u v)) 0) := ha.inn hx.gd (m L _ (by omega) hx.l) lsa 0 (by omega) (by omega)
  have lb : (fmInn x 0 (fmQ 5 t2 (fmEq u v)) 0).least (L + 1000000) = true := fleastG_inn hL0 (by omega) hx.gd hx.l ha la 0 (by omega) (by omega)
  have zb : fmSz (fmInn x 0 (fmQ 5 t2 (fmEq u v)) 0) ≤ 4098 := by
    have : (fmQ 5 t2 (fmEq u v)).exs = 1 := by rw [exs_q hE (by omega), exs_eqn]; rfl
    omega
  rw [hb] at h h' d5 gb lb zb ⊢
  clear hb b3 b4
  generalize tmInn x 0 u 1 = u1 at *
  generalize tmInn x 0 v 1 = v1 at *
  have gE : FmG true (fmEq u1 v1) := by cases gb with | q _ _ h => exact h
  have lE := fleast_part lb
  rw [fmSz_q] at zb
  have nc : (fmEq u1 v1).fl.c = false := by rw [Fm.fl_eqn]
  obtain ⟨K, rfl⟩ : ∃ K, M = K + 1 := by
    cases M with
    | zero => cases h
    | succ K => exact ⟨K, rfl⟩
  have zy := hy.cut (by have := rlOf_size h; omega)
  have e0 := rlOf_ex h
  rw [e0] at h ⊢
  clear e0
  obtain ⟨s1, s2, e1⟩ := rlEx_ok h
  rw [e1] at h ⊢
  rw [hc_none nc] at s1 s2 h ⊢
  simp only [rlPart, Bool.false_eq_true, if_false] at s1 s2 h ⊢
  obtain ⟨_, esp, b3, b4⟩ := ex_sz gE (by omega) hy.gd hy.sz (m L _ (by omega) hy.l) s1 s2
  rw [esp] at h ⊢
  clear esp s1 s2 e1
  rw [exs_eqn] at b3
  rw [Pd_q (.inr (.inl rfl)) hd (by omega)] at h' d5 ⊢
  rw [fmSz_q] at d5
  have gE' : FmG true (fmInn s 0 (fmEq u1 v1) (d + 1)) := gE.inn hs.gd (m L _ (by omega) hs.l) (fleastG_mono (M := L + 1000000) (by omega) gE lE) (d + 1) (by omega) (by omega)
  have nc' : (fmInn s 0 (fmEq u1 v1) (d + 1)).fl.c = false := by rw [fmInn_eqn, Fm.fl_eqn]
  have e0 := rlOf_ex h'
  rw [e0] at h' ⊢
  clear e0
  obtain ⟨s1, s2, e1⟩ := rlEx_ok h'
  rw [e1] at h' ⊢
  rw [hc_none nc'] at s1 s2 h' ⊢
  simp only [rlPart, Bool.false_eq_true, if_false] at s1 s2 h' ⊢
  obtain ⟨_, esp', i3, i4⟩ := ex_sz gE' (by omega) gP (by omega) (m (L + 1000000) _ (by omega) lP) s1 s2
  rw [esp'] at h' ⊢
  have hq0 : (fmInn s 0 (fmEq u1 v1) (d + 1)).exs = 0 := by rw [fmInn_eqn, exs_eqn]
  rw [hq0] at i3
  have hF := finn_innD (L := L + 1000000) (by omega) (by omega) hs.gd hy.gd (m L _ (by omega) hs.l) (m L _ (by omega) hy.l) (by omega) (by omega) hd (by omega) gE lE (by omega) 0 (by omega) (by omega)
  rw [Int.zero_add] at hF
  have hm1 : fmOcc (fmInn s 0 (fmEq u1 v1) (d + 1)) 0 * (tmSz (tmInn s 0 t d) - 1) = 0 := by omega
  have hsn := seenG gE' (by omega) (x := tmInn s 0 y d) (.inr h2t) hm1
  rw [hsn, ← hF] at h' ⊢
  rw [fmInn_eqn] at h h' ⊢
  rw [rlOf_eq h]
  rw [fmInn_eqn] at h' ⊢
  exact rlOf_eq h'

theorem two_putD {k : Int} (hk : k = 2 ∨ k = 3) {s : Tm} {d : Int} (hd : 0 ≤ d) (hd2 : d ≤ 100) {x y x' y' : Fm × Int} (h : (mTwo k x y).2 = 0) (h' : (mTwo k x' y').2 = 0) (hx : x.2 = 0 → x'.2 = 0 → x'.1 = fmInn s 0 x.1 d) (hy : y.2 = 0 → y'.2 = 0 → y'.1 = fmInn s 0 y.1 d) :
    (mTwo k x' y').1 = fmInn s 0 (mTwo k x y).1 d := by
  obtain ⟨a1, a2, a3⟩ := mTwo_ok h
  obtain ⟨b1, b2, b3⟩ := mTwo_ok h'
  rw [a3, b3, hx a1 b1, hy a2 b2, Pd_two hk hd (by omega)]

theorem rlOf_put {s : Tm} : ∀ (N : Nat), N ≤ 4 → ∀ (f : Fm) (t : Tm) (d L : Int), FmG true f → fdp f ≤ N → ArgsOk f → fmSz f ≤ 8200 → (N = 4 → CornerR f t) → 0 ≤ d → d + N ≤ 50 →
    0 ≤ L → L + (N : Int) * 1000000 ≤ 190000000 → f.least L = true → TmR L t → SubOk L s → tmSz (tmInn s 0 t d) ≤ 20000 → fmSz (fmInn s 0 f d) ≤ 8200 →
    (ArgsOk (fmInn s 0 f d) ∨ (N ≤ 3 ∧ EEE (fmInn s 0 f d) ∧ fmSz (fmInn s 0 f d) = 4098 ∧ 2 ≤ tmSz (tmInn s 0 t d))) →
    (rlOf N f t).2 = 0 → (rlOf N (fmInn s 0 f d) (tmInn s 0 t d)).2 = 0 → (rlOf N (fmInn s 0 f d) (tmInn s 0 t d)).1 = fmInn s 0 (rlOf N f t).1 d := by
  intro N
  induction N with
  | zero => intro _ f t d L _ hd; have := fdp_pos f; omega
  | succ N ih =>
    intro hN f t d L hF hfd hA hz hC hd hd2 hL0 hL hl hr hs zSt zF hAF h h'
    have m := fun {t : Tm} (M M' : Int) (hM : M ≤ M') (h : t.least M = true) => least_mono hM t h
    have hzs := hs.sz
    have s4 := rlOf_size h
    have s4' := rlOf_size h'
    have zt := hr.cut (by omega)
    obtain ⟨gP, lP⟩ := hr.P hL0 (by omega) hs hd (by omega)
    have zP := G_cut gP zSt (by omega)
    have rP : TmR (L + 1000000) (tmInn s 0 t d) := ⟨gP, zSt, lP⟩
    have e0 := rlOf_else (n := N) (f := f) s4
    have e0' := rlOf_else (n := N) (f := fmInn s 0 f d) s4'
    rw [e0] at h ⊢
    rw [e0'] at h' ⊢
    clear e0 e0'
    have ih' := ih (by omega)
    have hs1 : SubOk (L + 1000000) s := ⟨hs.gd, hs.sz, m L _ (by omega) hs.l⟩
    cases hF with
    | @eq x y hx hy =>
      rw [fmInn_eqn]
      show fmEq _ _ = fmInn s 0 (fmEq x y) d
      rw [fmInn_eqn]
    | @two k a b hk ga gb =>
      have za := hA.1 a (by simp [fmTwo, Fm.args])
      have zb := hA.1 b (by simp [fmTwo, Fm.args])
      rw [fdp_two] at hfd
      obtain ⟨la, lb⟩ := fleast_parts2 hl
      have ar1 := argsOk_of za
      have ar2 := argsOk_of zb
      rw [Pd_two hk hd (by omega)] at h' zF hAF ⊢
      have hAF' : fmSz (fmInn s 0 a d) ≤ 4096 ∧ fmSz (fmInn s 0 b d) ≤ 4096 := by
        rcases hAF with hAF | ⟨_, ⟨t1, t2, u, v, e⟩, _⟩
        · exact ⟨hAF.1 _ (by simp [fmTwo, Fm.args]), hAF.1 _ (by simp [fmTwo, Fm.args])⟩
        · simp [fmQ, fmTwo] at e
      obtain ⟨zFa, zFb⟩ := hAF'
      have lsa : a.least 536870912 = true := fleastG_mono (M := L) (by omega) ga la
      have lsb : b.least 536870912 = true := fleastG_mono (M := L) (by omega) gb lb
      have gPa : FmG true (fmInn s 0 a d) := ga.inn hs.gd (m L _ (by omega) hs.l) lsa d hd (by omega)
      have gPb : FmG true (fmInn s 0 b d) := gb.inn hs.gd (m L _ (by omega) hs.l) lsb d hd (by omega)
      obtain ⟨ca1, ca2, ca3⟩ := ct_P (L := L) (by omega) hs ga (by omega) hd (by omega)
      obtain ⟨cb1, cb2, cb3⟩ := ct_P (L := L) (by omega) hs gb (by omega) hd (by omega)
      rcases hk with rfl | rfl
      · change (rlAnd (rlOf N) a b t).2 = 0 at h
        change (rlAnd (rlOf N) (fmInn s 0 a d) (fmInn s 0 b d) (tmInn s 0 t d)).2 = 0 at h'
        show (rlAnd (rlOf N) (fmInn s 0 a d) (fmInn s 0 b d) (tmInn s 0 t d)).1 = fmInn s 0 (rlAnd (rlOf N) a b t).1 d
        unfold rlAnd at h h' ⊢
        rw [hc_c ga za, hc_c gb zb] at h ⊢
        rw [hc_c gPa zFa, hc_c gPb zFb, ca2, cb2, ← Pd_part (.inl rfl) hd (by omega), ← Pd_part (.inr rfl) hd (by omega)] at h' ⊢
        have z1 := rlPart_sz (b := a.fl.c && b.fl.c) (k := 11) (t := tmInn s 0 t d)
        have z2 := rlPart_sz (b := a.fl.c && b.fl.c) (k := 12) (t := tmInn s 0 t d)
        rw [← Pd_part (.inl rfl) hd (by omega)] at z1
        rw [← Pd_part (.inr rfl) hd (by omega)] at z2
        exact two_putD (.inl rfl) hd (by omega) h h' (fun e e' => ih' a _ d L ga (by omega) ar1 (by omega) (by omega) hd (by omega) hL0 (by omega) la (rlPart_R hL0 (.inl rfl) hr zt) hs (by omega) (by omega) (.inl (argsOk_of zFa)) e e')
          (fun e e' => ih' b _ d L gb (by omega) ar2 (by omega) (by omega) hd (by omega) hL0 (by omega) lb (rlPart_R hL0 (.inr rfl) hr zt) hs (by omega) (by omega) (.inl (argsOk_of zFb)) e e')
      · change (rlImp (rlOf N) a b t).2 = 0 at h
        change (rlImp (rlOf N) (fmInn s 0 a d) (fmInn s 0 b d) (tmInn s 0 t d)).2 = 0 at h'
        show (rlImp (rlOf N) (fmInn s 0 a d) (fmInn s 0 b d) (tmInn s 0 t d)).1 = fmInn s 0 (rlImp (rlOf N) a b t).1 d
        unfold rlImp at h h' ⊢
        rw [hc_c ga za, hc_c gb zb, cty_ct ga za] at h ⊢
        rw [hc_c gPa zFa, hc_c gPb zFb, ca2, cb2, cty_ct gPa zFa, ca1] at h' ⊢
        cases ca : a.fl.c with
        | false =>
          rw [ca] at h h'
          simp only [Bool.not_false, if_true] at h h' ⊢
          exact two_putD (.inr rfl) hd (by omega) h h' (fun e e' => ih' a t d L ga (by omega) ar1 (by omega) (by omega) hd (by omega) hL0 (by omega) la hr hs (by omega) (by omega) (.inl (argsOk_of zFa)) e e')
            (fun e e' => ih' b t d L gb (by omega) ar2 (by omega) (by omega) hd (by omega) hL0 (by omega) lb hr hs (by omega) (by omega) (.inl (argsOk_of zFb)) e e')
        | true =>
          rw [ca] at h h'
          simp only [Bool.not_true, Bool.false_eq_true, if_false] at h h' ⊢
          rcases ct_G ga with ⟨e, gs⟩ | e
          case inr => rw [e] at h; cases h
          rw [e] at h h' ⊢
          have n0 : ((0 : Int) != 0) = false := rfl
          rw [n0] at h h' ⊢
          simp only [Bool.false_eq_true, if_false] at h h' ⊢
          obtain ⟨h1, h2⟩ := rlBuild_ok h
          obtain ⟨h1', h2'⟩ := rlBuild_ok h'
          rw [h2, h2', Pd_q (.inl rfl) hd (by omega)]
          congr 1
          have lm : ∀ {x : Fm}, x.least L = true → FmG true x → x.least 1000000000 = true := fun h hx => fleastG_mono (by omega) hx h
          have la' := fleastG_inn hL0 (by omega) hs.gd hs.l ga la d hd (by omega)
          have lb' := fleastG_inn hL0 (by omega) hs.gd hs.l gb lb d hd (by omega)
          have ea : a.slf 1 = a.up 1 0 := slf_up (by omega) (by omega) ga (lm la ga) 0 (by omega) (by omega)
          have eb : b.slf 1 = b.up 1 0 := slf_up (by omega) (by omega) gb (lm lb gb) 0 (by omega) (by omega)
          have fa : fdp (a.slf 1) = fdp a := fdp_evx _ _
          have fb : fdp (b.slf 1) = fdp b := fdp_evx _ _
          have ea' : (fmInn s 0 a d).slf 1 = fmInn s 0 (a.up 1 0) (d + 1) := by
            rw [← fup_innD hL0 (by omega) hs.gd hs.l (by omega) ga la (by omega) 0 d (by omega) hd (by omega)]
            exact slf_up (by omega) (by omega) gPa (fleastG_mono (by omega) gPa la') 0 (by omega) (by omega)
          have eb' : (fmInn s 0 b d).slf 1 = fmInn s 0 (b.up 1 0) (d + 1) := by
            rw [← fup_innD hL0 (by omega) hs.gd hs.l (by omega) gb lb (by omega) 0 d (by omega) hd (by omega)]
            exact slf_up (by omega) (by omega) gPb (fleastG_mono (by omega) gPb lb') 0 (by omega) (by omega)
          have ua := ga.up (b := 1) (by omega) (by omega) lsa 0
          have ub := gb.up (b := 1) (by omega) (by omega) lsb 0
          have wa := fleastG_up (b := 1) hL0 (by omega) (by omega) (by omega) ga la 0 (by omega) (by omega)
          have wb := fleastG_up (b := 1) hL0 (by omega) (by omega) (by omega) gb lb 0 (by omega) (by omega)
          have va : fmSz (fmInn s 0 (a.up 1 0) (d + 1)) = fmSz (fmInn s 0 a d) := by
            rw [← fup_innD hL0 (by omega) hs.gd hs.l (by omega) ga la (by omega) 0 d (by omega) hd (by omega)]
            exact (gPa.up (b := 1) (by omega) (by omega) (fleastG_mono (by omega) gPa la') 0).2
          have vb : fmSz (fmInn s 0 (b.up 1 0) (d + 1)) = fmSz (fmInn s 0 b d) := by
            rw [← fup_innD hL0 (by omega) hs.gd hs.l (by omega) gb lb (by omega) 0 d (by omega) hd (by omega)]
            exact (gPb.up (b := 1) (by omega) (by omega) (fleastG_mono (by omega) gPb lb') 0).2
          have ru := rlUp_R (b := b.fl.c) hL0 (by omega) hr zt
          have eu := Pd_up (b := b.fl.c) hL0 (by omega) hs hr zt hd (by omega) zP
          have ru' := (rlUp_R (b := b.fl.c) (by omega) (by omega) rP zP).sz
          rw [← eu] at ru'
          rw [ea, eb] at h1 ⊢
          rw [ea', eb', ← eu] at h1' ⊢
          refine two_putD (.inr rfl) (by omega) (by omega) h1 h1' (fun e e' => ?_) (fun e e' => ?_)
          · have q := ih' _ (tmVar 0) (d + 1) (L + 1000000) ua.1 (by rw [← ea, fa]; omega) (argsOk_of (by rw [ua.2]; exact za)) (by rw [ua.2]; omega) (by omega) (by omega) (by omega) (by omega) (by omega)
              (fleastG_mono (by omega) ua.1 wa) ⟨.var (by omega), by rw [tmSz_v]; omega, least_v (by omega)⟩ hs1 (by rw [Pd_v0 hd (by omega), tmSz_v]; omega) (by omega) (.inl (argsOk_of (by omega))) e
            rw [Pd_v0 hd (by omega)] at q
            exact q e'
          · exact ih' _ _ (d + 1) (L + 1000000) ub.1 (by rw [← eb, fb]; omega) (argsOk_of (by rw [ub.2]; exact zb)) (by rw [ub.2]; omega) (by omega) (by omega) (by omega) (by omega) (by omega)
              (fleastG_mono (by omega) ub.1 wb) ru hs1 ru' (by omega) (.inl (argsOk_of (by omega))) e e'
    | @q k t1 a hk ht ga =>
      have za := hA.1 a (by simp [fmQ, Fm.args])
      rw [fdp_q] at hfd
      have la := fleast_part hl
      have ar1 := argsOk_of za
      have lsa : a.least 536870912 = true := fleastG_mono (M := L) (by omega) ga la
      rcases hAF with hAF | ⟨hn2, hq, h98, h2t⟩
      case inr =>
        obtain ⟨t1', t2, u, v, e, ht1, ht2, gu, gv⟩ := EEE_inv (.q hk ht ga) hd (by omega) hq
        simp only [fmQ, Fm.mk.injEq, List.cons.injEq, and_true, true_and] at e
        obtain ⟨rfl, rfl, rfl⟩ := e
        have e1 := rlOf_else (n := N) (f := fmQ 5 t1 (.mk 5 t2 [] [fmEq u v])) s4
        have e2 := rlOf_else (n := N) (f := fmInn s 0 (fmQ 5 t1 (.mk 5 t2 [] [fmEq u v])) d) s4'
        rw [← e1] at h ⊢
        rw [← e2] at h' ⊢
        exact rl_corner hL0 (by omega) hs hd (by omega) ht1 ht2 gu gv za hr zSt h2t hl h98 h h'
      have hkq := FmG.qk hk
      rw [Pd_q hkq hd (by omega)] at h' zF hAF ⊢
      have zFa := hAF.1 (fmInn s 0 a (d + 1)) (by simp [fmQ, Fm.args])
      have gPa : FmG true (fmInn s 0 a (d + 1)) := ga.inn hs.gd (m L _ (by omega) hs.l) lsa (d + 1) (by omega) (by omega)
      obtain ⟨ca1, ca2, ca3⟩ := ct_P (L := L) (by omega) hs ga (by omega) (d := d + 1) (by omega) (by omega)
      have la1 : a.least (L + 1000000) = true := fleastG_mono (by omega) ga la
      -- quantifiers that stay
      have stay : ∀ (k' : Int) (b : Bool), (k' = 4 ∨ k' = 5 ∨ k' = 6 ∨ k' = 7) → (rlBuild k' t1 (rlOf N a (rlUp b t))).2 = 0 → (rlBuild k' t1 (rlOf N (fmInn s 0 a (d + 1)) (rlUp b (tmInn s 0 t d)))).2 = 0 →
          (rlBuild k' t1 (rlOf N (fmInn s 0 a (d + 1)) (rlUp b (tmInn s 0 t d)))).1 = fmInn s 0 (rlBuild k' t1 (rlOf N a (rlUp b t))).1 d := by
        intro k' b hk' g g'
        obtain ⟨h1, h2⟩ := rlBuild_ok g
        obtain ⟨h1', h2'⟩ := rlBuild_ok g'
        rw [h2, h2', Pd_q hk' hd (by omega)]
        congr 1
        have ru := rlUp_R (b := b) hL0 (by omega) hr zt
        have eu := Pd_up (b := b) hL0 (by omega) hs hr zt hd (by omega) zP
        have ru' := (rlUp_R (b := b) (by omega) (by omega) rP zP).sz
        rw [← eu] at ru' h1' ⊢
        exact ih' a _ (d + 1) (L + 1000000) ga (by omega) ar1 (by omega) (by omega) (by omega) (by omega) (by omega) (by omega) la1 ru hs1 ru' (by omega) (.inl (argsOk_of zFa)) h1 h1'
      rcases hkq with rfl | rfl | rfl | rfl
      · change (rlQ (rlOf N) 4 t1 a t).2 = 0 at h
        change (rlQ (rlOf N) 4 t1 (fmInn s 0 a (d + 1)) (tmInn s 0 t d)).2 = 0 at h'
        show (rlQ (rlOf N) 4 t1 (fmInn s 0 a (d + 1)) (tmInn s 0 t d)).1 = fmInn s 0 (rlQ (rlOf N) 4 t1 a t).1 d
        unfold rlQ at h h' ⊢
        rw [hc_c ga za] at h ⊢
        rw [hc_c gPa zFa, ca2] at h' ⊢
        exact stay 4 a.fl.c (.inl rfl) h h'
      · change (rlEx (rlOf N) a t).2 = 0 at h
        change (rlEx (rlOf N) (fmInn s 0 a (d + 1)) (tmInn s 0 t d)).2 = 0 at h'
        show (rlEx (rlOf N) (fmInn s 0 a (d + 1)) (tmInn s 0 t d)).1 = fmInn s 0 (rlEx (rlOf N) a t).1 d
        obtain ⟨s1, s2, e1⟩ := rlEx_ok h
        obtain ⟨s1', s2', e1'⟩ := rlEx_ok h'
        rw [e1] at h ⊢
        rw [e1'] at h' ⊢
        clear e1 e1'
        rw [hc_c ga za] at s1 s2 h ⊢
        rw [hc_c gPa zFa, ca2, ← Pd_part (.inl rfl) hd (by omega)] at s1' s2'
        rw [hc_c gPa zFa, ca2, ← Pd_part (.inl rfl) hd (by omega), ← Pd_part (.inr rfl) hd (by omega)] at h' ⊢
        have hx := rlPart_R (b := a.fl.c) (k := 11) hL0 (.inl rfl) hr zt
        have hy := rlPart_R (b := a.fl.c) (k := 12) hL0 (.inr rfl) hr zt
        have hxz := rlPart_sz (b := a.fl.c) (k := 11) (t := t)
        have hx' := rlPart_R (b := a.fl.c) (k := 11) (by omega) (.inl rfl) rP zP
        have hy' := rlPart_R (b := a.fl.c) (k := 12) (by omega) (.inr rfl) rP zP
        have h2y : a.fl.c = true → 2 ≤ tmSz (tmInn s 0 (rlPart a.fl.c 12 t) d) := fun hc => by
          rw [hc, Pd_part (.inr rfl) hd (by omega)]
          show 2 ≤ tmSz (tm0 12 [tmInn s 0 t d])
          rw [tmSz_1]; have := tmSz_pos (tmInn s 0 t d); omega
        rw [← Pd_part (.inl rfl) hd (by omega)] at hx'
        rw [← Pd_part (.inr rfl) hd (by omega)] at hy'
        generalize rlPart a.fl.c 11 t = x at *
        generalize rlPart a.fl.c 12 t = y at *
        obtain ⟨zx, esp, b3, b4⟩ := ex_sz ga (by omega) hx.gd hx.sz (m L _ (by omega) hx.l) s1 s2
        obtain ⟨zx', esp', d3, d4⟩ := ex_sz gPa (by omega) hx'.gd hx'.sz (m (L + 1000000) _ (by omega) hx'.l) s1' s2'
        have hqr := exs_range ga (by omega)
        have hqr' := exs_range gPa (by omega)
        rw [esp] at h ⊢
        rw [esp'] at h' ⊢
        have hF := finn_innD hL0 (by omega) hs.gd hx.gd hs.l hx.l (by omega) (by omega) hd (by omega) ga la (by omega) 0 (by omega) (by omega)
        rw [Int.zero_add] at hF
        have hAr := argsR_inn (x := x) ga (by omega) za b3 (fun hq => by
          obtain ⟨s1', s2', u, v, e⟩ := hq
          have hn3 : N = 3 := by
            subst e
            rw [fdp_q, fdp_q, fdp_eqn] at hfd; omega
          have := hC (by omega) 5 t1 a rfl ⟨s1', s2', u, v, e⟩
          have hm2 : fmOcc a 0 * (tmSz x - 1) ≤ fmOcc a 0 * tmSz t := Nat.mul_le_mul_left _ (by omega)
          omega)
        have hl' := fleastG_inn hL0 (by omega) hx.gd hx.l ga la 0 (by omega) (by omega)
        have hcor : ArgsOk (fmInn s 0 (fmInn x 0 a 0) d) ∨ (N ≤ 3 ∧ EEE (fmInn s 0 (fmInn x 0 a 0) d) ∧ fmSz (fmInn s 0 (fmInn x 0 a 0) d) = 4098 ∧ 2 ≤ tmSz (tmInn s 0 y d)) := by
          rw [hF]
          by_cases hq : EEE (fmInn s 0 a (d + 1)) ∧ 4096 < fmSz (fmInn (tmInn s 0 x d) 0 (fmInn s 0 a (d + 1)) 0)
          · obtain ⟨hq, hbig⟩ := hq
            obtain ⟨t2, t3, u, v, rfl, ht2, ht3, gu, gv⟩ := EEE_inv ga (by omega) (by omega) hq
            have e : fmInn s 0 (fmQ 5 t2 (fmQ 5 t3 (fmEq u v))) (d + 1) = fmQ 5 t2 (fmQ 5 t3 (fmInn s 0 (fmEq u v) (d + 1 + 1 + 1))) := by
              rw [Pd_q (.inr (.inl rfl)) (by omega) (by omega), Pd_q (.inr (.inl rfl)) (by omega) (by omega)]
            have hE2 : (fmInn s 0 (fmQ 5 t2 (fmQ 5 t3 (fmEq u v))) (d + 1)).exs = 2 := by
              rw [e] at gPa zFa ⊢
              rw [fmSz_q, fmSz_q] at zFa
              have g1 : FmG true (fmQ 5 t3 (fmInn s 0 (fmEq u v) (d + 1 + 1 + 1))) := by cases gPa with | q _ _ h => exact h
              have g2 : FmG true (fmInn s 0 (fmEq u v) (d + 1 + 1 + 1)) := by cases g1 with | q _ _ h => exact h
              rw [exs_q g1 (by rw [fmSz_q]; omega), exs_q g2 (by omega), fmInn_eqn, exs_eqn]; rfl
            rw [hE2] at d3
            have cc : (fmQ 5 t2 (fmQ 5 t3 (fmEq u v))).fl.c = true := by rw [fl_c_q (by omega)]; simp
            have e2 : fmInn (tmInn s 0 x d) 0 (fmInn s 0 (fmQ 5 t2 (fmQ 5 t3 (fmEq u v))) (d + 1)) 0 = fmQ 5 t2 (fmQ 5 t3 (fmInn (tmInn s 0 x d) 0 (fmInn s 0 (fmEq u v) (d + 1 + 1 + 1)) (0 + 1 + 1))) := by
              rw [e, Pd_q (.inr (.inl rfl)) (by omega) (by omega), Pd_q (.inr (.inl rfl)) (by omega) (by omega)]
            rw [e2] at hbig d3 ⊢
            by_cases h98 : fmSz (fmQ 5 t2 (fmQ 5 t3 (fmInn (tmInn s 0 x d) 0 (fmInn s 0 (fmEq u v) (d + 1 + 1 + 1)) (0 + 1 + 1)))) = 4098
            · exact .inr ⟨by omega, ⟨t2, t3, _, _, by rw [fmInn_eqn, fmInn_eqn]⟩, h98, h2y cc⟩
            · refine .inl ⟨fun y hy => ?_, fun e => by simp [fmQ, Fm.args] at e⟩
              simp only [fmQ, Fm.args, List.mem_cons, List.not_mem_nil, or_false] at hy
              subst hy
              rw [fmSz_q] at d3 h98
              change fmSz (fmQ 5 t3 _) ≤ 4096
              omega
          · exact .inl (argsR_inn (x := tmInn s 0 x d) gPa (by omega) zFa d3 (fun hq' => Nat.le_of_not_lt fun hlt => hq ⟨hq', hlt⟩))
        have zF' : fmSz (fmInn s 0 (fmInn x 0 a 0) d) ≤ 8200 := by rw [hF]; omega
        rw [← hF] at h' ⊢
        exact ih' _ y d (L + 1000000) (ga.inn hx.gd (m L _ (by omega) hx.l) lsa 0 (by omega) (by omega)) (by rw [fdp_inn0 hx.gd (by omega) (m L _ (by omega) hx.l) ga (by omega)]; omega) hAr (by omega) (by omega) hd (by omega) (by omega) (by omega) hl'
          (hy.mono (by omega)) hs1 hy'.sz zF' hcor h h'
      · change (rlQ (rlOf N) 6 t1 a t).2 = 0 at h
        change (rlQ (rlOf N) 6 t1 (fmInn s 0 a (d + 1)) (tmInn s 0 t d)).2 = 0 at h'
        exact stay 4 false (.inl rfl) h h'
      · change (rlQ (rlOf N) 7 t1 a t).2 = 0 at h
        change (rlQ (rlOf N) 7 t1 (fmInn s 0 a (d + 1)) (tmInn s 0 t d)).2 = 0 at h'
        exact stay 7 false (.inr (.inr (.inr rfl))) h h'
end GoAbs

namespace GoAbs
open Go

theorem exs_3 {u : Bool} {f : Fm} (h : FmG u f) (hd : fdp f ≤ 3) (hz : fmSz f ≤ 100000) : f.exs ≤ 2 := by
  cases h with
  | eq _ _ => rw [exs_eqn]; omega
  | @two k a b hk ha hb =>
    rw [fmSz_two] at hz; rw [fdp_two] at hd
    rw [exs_two hk ha hb (by omega) (by omega)]
    rcases exs_2 ha (by omega) (by omega) with e | ⟨e, _⟩ <;> rcases exs_2 hb (by omega) (by omega) with e' | ⟨e', _⟩ <;> omega
  | @q k s a hk hs ha =>
    rw [fmSz_q] at hz; rw [fdp_q] at hd
    rw [exs_q ha (by omega)]
    rcases exs_2 ha (by omega) (by omega) with e | ⟨e, _⟩ <;> split <;> omega
theorem build_code {k : Int} {s : Ty} {x : Fm × Int} (hx : x.2 = 0 ∨ x.2 = 4) : (rlBuild k s x).2 = 0 ∨ (rlBuild k s x).2 = 4 := by
  unfold rlBuild
  repeat' split
  · exact hx
  · exact .inr rfl
  · exact .inl rfl

/-- The only error is that of a size. -/
theorem rlOf_code : ∀ (N : Nat), N ≤ 4 → ∀ (f : Fm) (t : Tm) (L : Int), FmG true f → fdp f ≤ N → fmSz f ≤ 8200 → 0 ≤ L → L + (N : Int) * 1000000 ≤ 200000000 → f.least L = true → TmR L t →
    (rlOf N f t).2 = 0 ∨ (rlOf N f t).2 = 4 := by
  intro N
  induction N with
  | zero => intro _ f t L _ hd; have := fdp_pos f; omega
  | succ N ih =>
    intro hN f t L hF hfd hz hL0 hL hl hr
    by_cases s4 : t.szW > 4096
    · rw [rlOf, decide_eq_true s4]; exact .inr rfl
    have m := fun {t : Tm} (M M' : Int) (hM : M ≤ M') (h : t.least M = true) => least_mono hM t h
    have zt := hr.cut (by omega)
    rw [rlOf_else s4]
    have ih' := ih (by omega)
    cases hF with
    | eq _ _ => exact .inl rfl
    | @two k a b hk ga gb =>
      rw [fdp_two] at hfd
      rw [fmSz_two] at hz
      obtain ⟨la, lb⟩ := fleast_parts2 hl
      have lsa : a.least 536870912 = true := fleastG_mono (M := L) (by omega) ga la
      have lsb : b.least 536870912 = true := fleastG_mono (M := L) (by omega) gb lb
      rcases hk with rfl | rfl
      · show (rlAnd (rlOf N) a b t).2 = 0 ∨ (rlAnd (rlOf N) a b t).2 = 4
        exact mTwo_code (ih' a _ L ga (by omega) (by omega) hL0 (by omega) la (rlPart_R hL0 (.inl rfl) hr zt)) (ih' b _ L gb (by omega) (by omega) hL0 (by omega) lb (rlPart_R hL0 (.inr rfl) hr zt))
      · show (rlImp (rlOf N) a b t).2 = 0 ∨ (rlImp (rlOf N) a b t).2 = 4
        unfold rlImp
        split
        · exact mTwo_code (ih' a _ L ga (by omega) (by omega) hL0 (by omega) la hr) (ih' b _ L gb (by omega) (by omega) hL0 (by omega) lb hr)
        split
        · rename_i hne
          right
          unfold Fm.cty at hne ⊢
          rcases ga.err with e | e
          · rw [e] at hne ⊢
            rcases ct_G ga with ⟨e2, _⟩ | e2
            · change (a.ct.2 != 0) = true at hne; rw [e2] at hne; cases hne
            · exact e2
          · rw [e]; rfl
        · have ea : a.slf 1 = a.up 1 0 := slf_up (by omega) (by omega) ga (fleastG_mono (M := L) (by omega) ga la) 0 (by omega) (by omega)
          have eb : b.slf 1 = b.up 1 0 := slf_up (by omega) (by omega) gb (fleastG_mono (M := L) (by omega) gb lb) 0 (by omega) (by omega)
          have fa : fdp (a.slf 1) = fdp a := fdp_evx _ _
          have fb : fdp (b.slf 1) = fdp b := fdp_evx _ _
          have ua := ga.up (b := 1) (by omega) (by omega) lsa 0
          have ub := gb.up (b := 1) (by omega) (by omega) lsb 0
          have wa := fleastG_up (b := 1) hL0 (by omega) (by omega) (by omega) ga la 0 (by omega) (by omega)
          have wb := fleastG_up (b := 1) hL0 (by omega) (by omega) (by omega) gb lb 0 (by omega) (by omega)
          refine build_code (mTwo_code ?_ ?_)
          · rw [ea]
            exact ih' _ _ (L + 1000000) ua.1 (by rw [← ea, fa]; omega) (by rw [ua.2]; omega) (by omega) (by omega) (fleastG_mono (by omega) ua.1 wa) ⟨.var (by omega), by rw [tmSz_v]; omega, least_v (by omega)⟩
          · rw [eb]
            exact ih' _ _ (L + 1000000) ub.1 (by rw [← eb, fb]; omega) (by rw [ub.2]; omega) (by omega) (by omega) (fleastG_mono (by omega) ub.1 wb) (rlUp_R hL0 (by omega) hr zt)
    | @q k s a hk hs ga =>
      rw [fdp_q] at hfd
      rw [fmSz_q] at hz
      have la := fleast_part hl
      have la1 : a.least (L + 1000000) = true := fleastG_mono (by omega) ga la
      have stay : ∀ (k' : Int) (b : Bool), (rlBuild k' s (rlOf N a (rlUp b t))).2 = 0 ∨ (rlBuild k' s (rlOf N a (rlUp b t))).2 = 4 := fun k' b =>
        build_code (ih' a _ (L + 1000000) ga (by omega) (by omega) (by omega) (by omega) la1 (rlUp_R hL0 (by omega) hr zt))
      rcases FmG.qk hk with rfl | rfl | rfl | rfl
      · exact stay 4 _
      · show (rlEx (rlOf N) a t).2 = 0 ∨ (rlEx (rlOf N) a t).2 = 4
        unfold rlEx
        have hx := rlPart_R (b := a.hc) (k := 11) hL0 (.inl rfl) hr zt
        have hy := rlPart_R (b := a.hc) (k := 12) hL0 (.inr rfl) hr zt
        generalize rlPart a.hc 11 t = x at *
        generalize rlPart a.hc 12 t = y at *
        by_cases s1 : x.szW > 4096
        · rw [decide_eq_true s1]; exact .inr rfl
        by_cases s2 : subW (a.grown x) a.exs > 4096
        · rw [decide_eq_true s2, Bool.or_true]; exact .inr rfl
        rw [decide_eq_false s1, decide_eq_false s2]
        simp only [Bool.or_self, Bool.false_eq_true, if_false]
        obtain ⟨zx, esp, b3, b4⟩ := ex_sz ga (by omega) hx.gd hx.sz (m L _ (by omega) hx.l) s1 s2
        have := exs_3 ga (by omega) (by omega)
        rw [esp]
        exact ih' _ y (L + 1000000) (ga.inn hx.gd (m L _ (by omega) hx.l) (fleastG_mono (M := L) (by omega) ga la) 0 (by omega) (by omega)) (by rw [fdp_inn0 hx.gd (by omega) (m L _ (by omega) hx.l) ga (by omega)]; omega) (by omega) (by omega) (by omega)
          (fleastG_inn hL0 (by omega) hx.gd hx.l ga la 0 (by omega) (by omega)) (hy.mono (by omega))
      · exact stay 4 _
      · exact stay 7 _

theorem fmPut_okU {u : Bool} {f : Fm} {s : Tm} (hf : FmG u f) (hs : TmG s) (zf : fmSz f ≤ 20000) (zs : tmSz s ≤ 20000) (h : (fmPut f 0 s).2 = 0) : fmPut f 0 s = (fmInn s 0 f 0, 0) ∧ fmSz (fmInn s 0 f 0) ≤ 4096 := by
  unfold fmPut at h ⊢
  have p := tmSz_pos s
  split at h
  · rename_i h1; simp only at h; rw [h] at h1; simp at h1
  · rename_i h1
    rw [if_neg h1]
    split at h
    · cases h
    · rename_i h2
      rw [if_neg h2]
      split at h
      · rename_i h3; simp only at h; rw [h] at h3; simp at h3
      · rename_i h3
        rw [if_neg h3]
        split at h
        · cases h
        · rename_i h4
          rw [if_neg h4]
          split at h
          · cases h
          · rename_i h5
            rw [if_neg h5]
            refine ⟨rfl, ?_⟩
            have o := fmOcc_le f 0
            rw [hf.times_occ 0 (by omega) (by omega), f.szW_nodes _ (hf.nodes_val (by omega)), s.szW_nodes _ (hs.nodes_val (by omega)), subW_eq (by omega) (by omega) (by omega) (by omega), mulW_eq (by omega) (by omega) (by omega) (by omega)] at h5
            have hm : (fmOcc f 0 : Int) * ((tmSz s : Int) - 1) = ((fmOcc f 0 * (tmSz s - 1) : Nat) : Int) := by
              rw [Int.natCast_mul]; congr 1; omega
            have hb : fmOcc f 0 * (tmSz s - 1) ≤ 20000 * 20000 := Nat.mul_le_mul (by omega) (by omega)
            rw [hm, addW_eq (by omega) (by omega) (by omega) (by omega)] at h5
            rw [hf.inn_sz 0 (by omega) (by omega)]
            have := of_decide_eq_false (Bool.eq_false_iff.2 h5)
            omega

theorem rlF_of {f : Fm} {t : Tm} (hf : FmG true f) (zf : fmSz f ≤ 4096) (ht : TmG t) (zt : tmSz t ≤ 4096) (lf : f.least 268435456 = true) (lt : t.least 268435456 = true) : rlF f t = rlOf (fdp f) f (if f.fl.c then t else tm0 13 []) := by
  unfold rlF
  rw [hf.err0 zf, ht.err0 zt, far_least, lf, lt, hc_c hf zf]
  rfl
theorem unit_R : TmR 10000 (tm0 13 []) := ⟨.t0 ar13 rfl, by rw [tmSz_0]; omega, least_tm0 (by omega) (by simp)⟩

/-- The law of RealizePut. -/
theorem law_rlPut {g : List Ty} {f : Fm} {t s : Tm} (hm : MkFm true 3 (g ++ [tNat]) f) (hg : ∀ y ∈ g, MkTy 1 y) (hgl : g.length ≤ 9) (ok : f.cty.2 = 0)
    (mt : MkTm 2 (g ++ [tNat]) f.cty.1 t) (ms : MkTm 2 g tNat s) (h : (rlF f t).2 = 0)
    (p1 : (fmPut (rlF f t).1 0 s).2 = 0) (p2 : (fmPut f 0 s).2 = 0) (p3 : (tmPut t 0 s).2 = 0) :
    (rlF (fmPut f 0 s).1 (tmPut t 0 s).1).2 = 4 ∨ ((rlF (fmPut f 0 s).1 (tmPut t 0 s).1).2 = 0 ∧ (rlF (fmPut f 0 s).1 (tmPut t 0 s).1).1 = (fmPut (rlF f t).1 0 s).1) := by
  have hg1 : ∀ y ∈ g ++ [tNat], MkTy 1 y := by
    intro y hy
    rcases List.mem_append.1 hy with hy | hy
    · exact hg y hy
    · simp at hy; subst hy; exact .nat
  have hgood := law_rlNone hm hg1 (by simp; omega) ok mt
  have hgG : ∀ y ∈ g ++ [tNat], TyG y := fun y hy => (hg1 y hy).G (by omega)
  have hg3 : ∀ y ∈ g ++ [tNat], tySz y ≤ 3 := fun y hy => (hg1 y hy).sz1
  have hG := hm.G hgG
  have he : fmErr f = 0 := by
    unfold Fm.cty at ok
    split at ok
    · exact ok
    · rename_i h; simpa using h
  have hsz := fmErr_sz hm (by omega) hg1 he
  rw [cty_ct hG hsz] at ok mt
  have hs : TyG f.ct.1 := by
    rcases ct_G hG with ⟨_, h⟩ | h
    · exact h
    · rw [ok] at h; cases h
  have p8 : 2 ^ 3 = 8 := rfl
  have zs := (ct_sz hm hgG ok).1
  obtain ⟨rt, zt, ht⟩ := mk_term (by omega) hg1 (by simp; omega) hs (by omega) mt
  obtain ⟨rs, zs', hs'⟩ := mk_term (by omega) hg (by omega) TyG.nat (by rw [tySz_nat]; omega) ms
  have os : SubOk 10000 s := ⟨rs.gd, by omega, rs.l⟩
  have lf := hm.least (m := 10000) (by omega) hg3 (by simp; omega)
  have lf' : f.least 10000 = true := by simpa using lf
  rcases hgood with h4 | ⟨_, hgood⟩
  · rw [h] at h4; cases h4
  obtain ⟨q1, z1⟩ := fmPut_okU hgood.gd rs.gd (by have := hgood.sz; omega) (by omega) p1
  obtain ⟨q2, z2⟩ := fmPut_okU hG rs.gd (by omega) (by omega) p2
  obtain ⟨q3, z3⟩ := tmPut_ok rt.gd rs.gd (by omega) (by omega) p3
  rw [q1, q2, q3]
  clear p1 p2 p3 q1 q2 q3
  obtain ⟨gt, lt⟩ := rt.P (d := 0) (by omega) (by omega) os (by omega) (by omega)
  have gf : FmG true (fmInn s 0 f 0) := hG.inn rs.gd (least_mono (by omega) _ rs.l) (fleastG_mono (M := 10000) (by omega) hG lf') 0 (by omega) (by omega)
  have lf2 := fleastG_inn (M := 10000) (by omega) (by omega) rs.gd rs.l hG lf' 0 (by omega) (by omega)
  obtain ⟨c1, c2, c3⟩ := ct_P (L := 10000) (by omega) os hG (by omega) (d := 0) (by omega) (by omega)
  have e1 := rlF_of hG hsz rt.gd (by omega) (fleastG_mono (M := 10000) (by omega) hG lf') (least_mono (by omega) _ rt.l)
  have e2 := rlF_of gf z2 gt z3 (fleastG_mono (M := 10000 + 1000000) (by omega) gf lf2) (least_mono (show (10000 : Int) + 1000000 ≤ 268435456 by omega) _ lt)
  rw [e1] at h ⊢
  rw [e2, c2, c3]
  have eu : tmInn s 0 (tm0 13 []) 0 = tm0 13 [] := by rw [inn_tm0 rfl]; rfl
  have ei : (if f.fl.c = true then tmInn s 0 t 0 else tm0 13 []) = tmInn s 0 (if f.fl.c = true then t else tm0 13 []) 0 := by
    split
    · rfl
    · exact eu.symm
  rw [ei]
  have r0 : TmR 10000 (if f.fl.c = true then t else tm0 13 []) := by
    split
    · exact rt
    · exact unit_R
  have z0 : tmSz (if f.fl.c = true then t else tm0 13 []) ≤ 600 := by
    split
    · omega
    · rw [tmSz_0]; omega
  have zP : tmSz (tmInn s 0 (if f.fl.c = true then t else tm0 13 []) 0) ≤ 4096 := by
    split
    · exact z3
    · rw [eu, tmSz_0]; omega
  generalize (if f.fl.c = true then t else tm0 13 []) = t0 at *
  obtain ⟨gt0, lt0⟩ := r0.P (d := 0) (by omega) (by omega) os (by omega) (by omega)
  have hd := hm.fdp
  rcases rlOf_code (fdp f) (by omega) (fmInn s 0 f 0) (tmInn s 0 t0 0) (10000 + 1000000) gf (by omega) (by omega) (by omega) (by omega) lf2 ⟨gt0, by omega, lt0⟩ with h0 | h4
  · exact .inr ⟨h0, rlOf_put (fdp f) (by omega) f t0 0 10000 hG (Nat.le_refl _) (argsOk_of hsz) (by omega) (fun _ => corner_mk hm hg1 z0) (by omega) (by omega) (by omega) (by omega) lf' r0 os (by omega) (by omega) (.inl (argsOk_of z2)) h h0⟩
  · exact .inl h4

/-- The law of RealizeSequent, for one hypothesis: m are the types of what realizes the hypotheses. -/
theorem law_rlHyp {g m : List Ty} {f : Fm} {t : Tm} (hm : MkFm true 2 g f) (hg : ∀ y ∈ g, MkTy 1 y) (hgl : g.length ≤ 10) (hml : m.length ≤ 10) (ok : f.ct.2 = 0) (rt : TmR 10000 t) (zt : tmSz t ≤ 4096)
    (ht : f.fl.c = true → HasTy TyG (g ++ m) t f.ct.1) : fmLift f 0 (m.length : Int) = (f.up (m.length : Int) 0, 0) ∧ fmSz (f.up (m.length : Int) 0) ≤ 4096 ∧ FmG true (f.up (m.length : Int) 0) ∧ (f.up (m.length : Int) 0).least 268435456 = true ∧ okR (g ++ m) (rlF (f.up (m.length : Int) 0) t) := by
  have hgG : ∀ y ∈ g, TyG y := fun y hy => (hg y hy).G (by omega)
  have hg3 : ∀ y ∈ g, tySz y ≤ 3 := fun y hy => (hg y hy).sz1
  have hG := hm.G hgG
  have p2 : 2 ^ 2 = 4 := rfl
  have hz := hm.sz hg3
  have hsz : fmSz f ≤ 4096 := by omega
  have lf := hm.least (m := 10000) (by omega) hg3 (by omega)
  have lf' : f.least 10000 = true := by simpa using lf
  have l29 : f.least 536870912 = true := fleastG_mono (M := 10000) (by omega) hG lf'
  have l30 : f.least 1000000000 = true := fleastG_mono (M := 10000) (by omega) hG lf'
  obtain ⟨gu, zu⟩ := hG.up (b := (m.length : Int)) (by omega) (by omega) l29 0
  have lu := fleastG_up (M := 10000) (b := (m.length : Int)) (by omega) (by omega) (by omega) (by omega) hG lf' 0 (by omega) (by omega)
  have lu' : (f.up (m.length : Int) 0).least 20000 = true := fleastG_mono (by omega) gu lu
  refine ⟨?_, by omega, gu, fleastG_mono (M := 20000) (by omega) gu lu', ?_⟩
  · unfold fmLift
    rw [hG.err0 hsz, l29]
    have d1 : decide ((0 : Int) < 0) = false := rfl
    have d2 : decide ((0 : Int) > 4096) = false := rfl
    have d3 : decide ((m.length : Int) < 0) = false := decide_eq_false (by omega)
    have d4 : decide ((m.length : Int) > 4096) = false := decide_eq_false (by omega)
    rw [d1, d2, d3, d4]; rfl
  · rw [rlF_of gu (by omega) rt.gd zt (fleastG_mono (M := 20000) (by omega) gu lu') (least_mono (by omega) _ rt.l), fl_c_up (by omega) (by omega) hG l30 (by omega)]
    have efd : fdp (f.up (m.length : Int) 0) = fdp f := by rw [← slf_up (by omega) (by omega) hG l30 0 (by omega) (by omega)]; exact fdp_evx _ _
    have hd := hm.fdp
    have hty := (hm.ty hg).upl (m := m) g [] (by simp) (by simp; omega) (by omega) (by omega)
    simp only [List.append_nil, List.length_nil] at hty
    refine rlOf_good (fdp (f.up (m.length : Int) 0)) (by omega) _ (g ++ m) _ 20000 gu (Nat.le_refl _) (argsOk_of (by omega)) (by omega) (fun e => by omega) hty (by simp; omega) (by omega) (by omega) lu' ?_ (fun h => ?_)
    · split
      · exact rt.mono (by omega)
      · exact unit_R.mono (by omega)
    · rw [fl_c_up (by omega) (by omega) hG l30 (by omega)] at h
      rw [ct_up (by omega) (by omega) hG l30 (by omega), h]
      exact ⟨ok, ht h⟩
end GoAbs

namespace GoAbs
open Go

/-- Formulas with the right kinds and types. -/
inductive FmC : Fm → Prop
  | eq {t : Ty} {l : List Tm} : FmC (.mk 1 t l [])
  | two {k : Int} {t : Ty} {l : List Tm} {a b : Fm} (hk : k = 2 ∨ k = 3) : FmC a → FmC b → FmC (.mk k t l [a, b])
  | q {k : Int} {s : Ty} {l : List Tm} {a : Fm} (hk : k = 4 ∨ k = 5 ∨ k = 6 ∨ k = 7) (hs : TyG s) : FmC a → FmC (.mk k s l [a])
theorem FmG.C {u : Bool} {f : Fm} (h : FmG u f) : FmC f := by
  induction h with
  | eq _ _ => exact .eq
  | two hk _ _ h1 h2 => exact .two hk h1 h2
  | q hk hs _ h1 => exact .q (FmG.qk hk) hs h1
theorem FmC.ev {F : Tm → Int → Tm} {f : Fm} (h : FmC f) : ∀ b : Int, FmC (f.ev F b) := by
  induction h with
  | eq => intro b; rw [Fm.ev_eq]; exact .eq
  | two hk _ _ h1 h2 => intro b; rw [Fm.ev_eq]; exact .two hk (h1 _) (h2 _)
  | q hk hs _ h1 => intro b; rw [Fm.ev_eq]; exact .q hk hs (h1 _)
theorem FmC.arg {f x : Fm} (h : FmC f) (hx : x ∈ f.args) : FmC x := by
  cases h with
  | eq => simp [Fm.args] at hx
  | two _ ha hb => simp [Fm.args] at hx; rcases hx with rfl | rfl <;> assumption
  | q _ _ ha => simp [Fm.args] at hx; subst hx; exact ha

theorem ctk_1 {t : Ty} {l : List Tm} : (Fm.mk 1 t l []).ct = (tUnit, 0) ∧ (Fm.mk 1 t l []).fl.c = false := ⟨rfl, by rw [Fm.fl_1 rfl]⟩
theorem ctk_2 {t : Ty} {l : List Tm} {a b : Fm} : (Fm.mk 2 t l [a, b]).ct = (if a.fl.c then (if b.fl.c then ctJoin 3 a.ct b.ct else a.ct) else b.ct) ∧ (Fm.mk 2 t l [a, b]).fl.c = (b.fl.c || a.fl.c) :=
  ⟨by rw [Fm.ct, Fm.ctL, Fm.ctL, Fm.ctL]; rfl, by rw [Fm.fl_2 (f := .mk 2 t l [a, b]) (.inl rfl) rfl]; rfl⟩
theorem ctk_3 {t : Ty} {l : List Tm} {a b : Fm} : (Fm.mk 3 t l [a, b]).ct = (if b.fl.c then (if a.fl.c then ctJoin 4 a.ct b.ct else b.ct) else (tUnit, 0)) ∧ (Fm.mk 3 t l [a, b]).fl.c = b.fl.c :=
  ⟨by rw [Fm.ct, Fm.ctL, Fm.ctL, Fm.ctL]; rfl, by rw [Fm.fl_2 (f := .mk 3 t l [a, b]) (.inr rfl) rfl]; show (b.fl.c || false) = _; rw [Bool.or_false]⟩
theorem ctk_4 {s : Ty} {l : List Tm} {a : Fm} : (Fm.mk 4 s l [a]).ct = (if a.fl.c then ctJoin 4 (s, 0) a.ct else (tUnit, 0)) ∧ (Fm.mk 4 s l [a]).fl.c = a.fl.c :=
  ⟨by rw [Fm.ct, Fm.ctL, Fm.ctL]; rfl, by rw [Fm.fl_q (f := .mk 4 s l [a]) (by simp [Fm.kind]) rfl]; show (a.fl.c || false) = _; rw [Bool.or_false]⟩
theorem ctk_5 {s : Ty} {l : List Tm} {a : Fm} : (Fm.mk 5 s l [a]).ct = (if a.fl.c then ctJoin 3 (s, 0) a.ct else (s, 0)) ∧ (Fm.mk 5 s l [a]).fl.c = true :=
  ⟨by rw [Fm.ct, Fm.ctL, Fm.ctL]; rfl, by rw [Fm.fl_q (f := .mk 5 s l [a]) (by simp [Fm.kind]) rfl]; show (a.fl.c || true) = _; rw [Bool.or_true]⟩
theorem ctk_67 {k : Int} (hk : k = 6 ∨ k = 7) {s : Ty} {l : List Tm} {a : Fm} : (Fm.mk k s l [a]).ct = a.ct ∧ (Fm.mk k s l [a]).fl.c = a.fl.c := by
  rcases hk with rfl | rfl
  · exact ⟨by rw [Fm.ct, Fm.ctL, Fm.ctL]; rfl, by rw [Fm.fl_q (f := .mk 6 s l [a]) (by simp [Fm.kind]) rfl]; show (a.fl.c || false) = _; rw [Bool.or_false]⟩
  · exact ⟨by rw [Fm.ct, Fm.ctL, Fm.ctL]; rfl, by rw [Fm.fl_q (f := .mk 7 s l [a]) (by simp [Fm.kind]) rfl]; show (a.fl.c || false) = _; rw [Bool.or_false]⟩

/-- What a content type may be. -/
def CtOk (p : Ty × Int) : Prop := (p.2 = 0 ∧ TyG p.1) ∨ p = (tZero, 4)
theorem ctJoin_ok {k : Int} (hk : k = 3 ∨ k = 4) {x y : Ty × Int} (hx : CtOk x) (hy : CtOk y) : CtOk (ctJoin k x y) := by
  rcases hx with ⟨ex, gx⟩ | rfl
  case inr => exact .inr rfl
  rcases hy with ⟨ey, gy⟩ | rfl
  case inr => unfold ctJoin; rw [ex]; exact .inr rfl
  rcases ctJoin_G hk (.inl ⟨ex, gx⟩) (.inl ⟨ey, gy⟩) with ⟨h1, h2, _⟩ | h4
  · exact .inl ⟨h1, h2⟩
  · right
    unfold ctJoin at h4 ⊢
    rw [ex, ey] at h4 ⊢
    have n0 : ((0 : Int) != 0) = false := rfl
    rw [n0] at h4 ⊢
    simp only [Bool.false_eq_true, if_false] at h4 ⊢
    split at h4
    · rename_i h; rw [if_pos h]; simp only at h4; rw [h4]
    · cases h4
theorem FmC.ok {f : Fm} (h : FmC f) : CtOk f.ct ∧ (f.fl.c = false → f.ct = (tUnit, 0)) := by
  induction h with
  | eq => exact ⟨.inl ⟨by rw [ctk_1.1], by rw [ctk_1.1]; exact TyG.unit⟩, fun _ => ctk_1.1⟩
  | @two k t l a b hk _ _ h1 h2 =>
    rcases hk with rfl | rfl
    · rw [ctk_2.1, ctk_2.2]
      cases ha : a.fl.c <;> cases hb : b.fl.c <;> simp only [Bool.or_false, Bool.or_true, Bool.or_self, if_true, Bool.false_eq_true, if_false, false_implies, and_true, true_implies]
      · exact ⟨h2.1, h2.2 hb⟩
      · exact ⟨h2.1, fun h => by cases h⟩
      · exact ⟨h1.1, fun h => by cases h⟩
      · exact ⟨ctJoin_ok (.inl rfl) h1.1 h2.1, fun h => by cases h⟩
    · rw [ctk_3.1, ctk_3.2]
      cases ha : a.fl.c <;> cases hb : b.fl.c <;> simp only [if_true, Bool.false_eq_true, if_false]
      · exact ⟨.inl ⟨rfl, TyG.unit⟩, fun _ => trivial⟩
      · exact ⟨h2.1, fun h => by cases h⟩
      · exact ⟨.inl ⟨rfl, TyG.unit⟩, fun _ => trivial⟩
      · exact ⟨ctJoin_ok (.inr rfl) h1.1 h2.1, fun h => by cases h⟩
  | @q k s l a hk hs _ h1 =>
    rcases hk with rfl | rfl | hk
    · rw [ctk_4.1, ctk_4.2]
      cases ha : a.fl.c <;> simp only [if_true, Bool.false_eq_true, if_false]
      · exact ⟨.inl ⟨rfl, TyG.unit⟩, fun _ => trivial⟩
      · exact ⟨ctJoin_ok (.inr rfl) (.inl ⟨rfl, hs⟩) h1.1, fun h => by cases h⟩
    · rw [ctk_5.1, ctk_5.2]
      refine ⟨?_, fun h => by cases h⟩
      cases ha : a.fl.c <;> simp only [if_true, Bool.false_eq_true, if_false]
      · exact .inl ⟨rfl, hs⟩
      · exact ctJoin_ok (.inl rfl) (.inl ⟨rfl, hs⟩) h1.1
    · rw [(ctk_67 hk).1, (ctk_67 hk).2]; exact h1

/-- What the function 'of' of the package content answers. -/
def CtR (f : Fm) (v : V) : Prop :=
  (f.ct.2 = 0 ∧ v = .tup [.agg (if f.fl.c then f.ct.1 else tZero).cells, .bool f.fl.c, .int .i64 0]) ∨ (f.ct = (tZero, 4) ∧ ∃ (x : Ty) (b : Bool), TyW x ∧ v = .tup [.agg x.cells, .bool b, .int .i64 4])
theorem tZero_cells : tZero.cells = [.int .i64 0, .sl .any []] := rfl
theorem mk_T {k : Int} {a b : Ty} : (Ty.mk k [a, b]).cells = [.int .i64 k, .sl .any [a.cells, b.cells]] := by simp [Ty.mk_cells]
end GoAbs

namespace GoAbs
open Go

mutual
def Fm.rv (F : Tm → Int → Tm) : Fm → Int → Fm
  | .mk k t l a, b => .mk k t (l.map fun x => F x b) (Fm.rvL F a (evB k b))
def Fm.rvL (F : Tm → Int → Tm) : List Fm → Int → List Fm
  | [], _ => []
  | t :: l, b => t.rv F b :: Fm.rvL F l b
end
theorem Fm.rvL_map {F : Tm → Int → Tm} : ∀ (l : List Fm) (b : Int), Fm.rvL F l b = l.map fun t => t.rv F b
  | [], b => by simp [Fm.rvL]
  | t :: l, b => by simp [Fm.rvL, Fm.rvL_map l b]
theorem Fm.rv_eq (F : Tm → Int → Tm) (f : Fm) (b : Int) : f.rv F b = .mk f.kind f.type (f.terms.map fun x => F x b) (f.args.map fun x => x.rv F (evB f.kind b)) := by
  cases f; rw [Fm.rv, Fm.rvL_map]; rfl

theorem rv_up {u : Bool} {m : Int} (hm0 : 0 ≤ m) (hm : m ≤ 1000000) {f : Fm} (h : FmG u f) : fmSz f ≤ 5000 → f.least 536870912 = true → ∀ d : Int, 0 ≤ d → d + fmSz f ≤ 100000 →
    f.rv (fun t b => tLift t (addW 0 b) m) d = f.up m d := by
  induction h with
  | @eq x y hx hy =>
    intro hz hl d h0 hd
    rw [fmSz_eq] at hd hz
    obtain ⟨l1, l2⟩ := fleast_eq.1 hl
    rw [fmUp_eqn, fmEq, Fm.rv_eq]
    simp only [Fm.kind, Fm.terms, Fm.args, Fm.type, List.map_cons, List.map_nil]
    rw [addW_z h0 (by omega), tLift_up hx (by omega) l1 hm0 hm h0 (by omega), tLift_up hy (by omega) l2 hm0 hm h0 (by omega)]
    rfl
  | @two k p q hk _ _ h1 h2 =>
    intro hz hl d h0 hd
    rw [fmSz_two] at hd hz
    obtain ⟨l1, l2⟩ := fleast_parts2 hl
    rw [fmUp2 hk h0 (by omega), fmTwo, Fm.rv_eq]
    simp only [Fm.kind, Fm.terms, Fm.args, Fm.type, List.map_cons, List.map_nil]
    rw [evB_eq h0 (by omega), below_two hk, Int.add_zero, h1 (by omega) l1 d h0 (by omega), h2 (by omega) l2 d h0 (by omega)]
    rfl
  | @q k t p hk hs _ h1 =>
    intro hz hl d h0 hd
    rw [fmSz_q] at hd hz
    rw [fmUpq (FmG.qk hk) h0 (by omega), fmQ, Fm.rv_eq]
    simp only [Fm.kind, Fm.terms, Fm.args, Fm.type, List.map_cons, List.map_nil]
    rw [evB_eq h0 (by omega), below_q (FmG.qk hk), h1 (by omega) (fleast_part hl) _ (by omega) (by omega)]
    rfl

/- The context of a sequent, and the places of its hypotheses. -/
def sqR : List Ty → List Int → List Fm → Option (List Ty × List Int)
  | g, p, [] => some (g, p)
  | g, p, f :: l => if f.ct.2 != 0 then none else if f.fl.c then sqR (g ++ [f.ct.1]) (p ++ [(g.length : Int)]) l else sqR g (p ++ [-1]) l
theorem sqR_nil {g : List Ty} {p : List Int} : sqR g p [] = some (g, p) := by rw [sqR]
theorem sqR_bad {g : List Ty} {p : List Int} {f : Fm} {l : List Fm} (h : f.ct = (tZero, 4)) : sqR g p (f :: l) = none := by rw [sqR, h]; rfl
theorem sqR_has {g : List Ty} {p : List Int} {f : Fm} {l : List Fm} (h : f.ct.2 = 0) (hc : f.fl.c = true) : sqR g p (f :: l) = sqR (g ++ [f.ct.1]) (p ++ [(g.length : Int)]) l := by
  rw [sqR, h, hc]; rfl
theorem sqR_not {g : List Ty} {p : List Int} {f : Fm} {l : List Fm} (h : f.ct.2 = 0) (hc : f.fl.c = false) : sqR g p (f :: l) = sqR g (p ++ [-1]) l := by
  rw [sqR, h, hc]; rfl
def lookV : Option (List Ty × List Int) → V
  | none => .tup [.sl .any [], .sl .any [], .int .i64 4]
  | some (g, p) => .tup [.sl .any (g.map Ty.cells), .sl .any (ints p), .int .i64 0]
def ctxV : Option (List Ty × List Int) → V
  | none => .tup [.sl .any [], .int .i64 4]
  | some (g, _) => .tup [.sl .any (g.map Ty.cells), .int .i64 0]
def plcV : Option (List Ty × List Int) → V
  | none => .tup [.sl .any [], .int .i64 4]
  | some (_, p) => .tup [.sl .any (ints p), .int .i64 0]

/-- The term that realizes the hypothesis at a place. -/
def sqT (n : Nat) (p : Int) : Tm := if decide (p ≥ 0) then tmVar (subW (subW n 1) p) else tm0 13 []
/-- The results of the hypotheses. -/
def sqX (n : Nat) (m : Int) : List Fm → List Int → List (Fm × Int)
  | f :: l, p :: ps => rlF (f.up m 0) (sqT n p) :: sqX n m l ps
  | _, _ => []
def sqH : List Fm → List (Fm × Int) → Option (List Fm)
  | a, [] => some a
  | a, x :: l => if x.2 != 0 then none else sqH (a ++ [x.1]) l
end GoAbs

namespace GoAbs
open Go

/-- Where a hypothesis stands. -/
inductive PlOk (A : List Ty) : List Fm → List Int → Prop
  | nil : PlOk A [] []
  | cons {f : Fm} {l : List Fm} {p : Int} {q : List Int} (h : (f.fl.c = false ∧ p = -1) ∨ (f.fl.c = true ∧ ∃ n : Nat, p = (n : Int) ∧ A[n]? = some f.ct.1)) (h0 : f.ct.2 = 0) : PlOk A l q → PlOk A (f :: l) (p :: q)

theorem sqR_ok : ∀ (l : List Fm) (g : List Ty) (p : List Int) (A : List Ty) (P : List Int), sqR g p l = some (A, P) →
    ∃ m q, A = g ++ m ∧ P = p ++ q ∧ m.length ≤ l.length ∧ PlOk A l q ∧ ((∀ f ∈ l, FmC f) → ∀ y ∈ m, TyG y)
  | [], g, p, A, P, h => by
    rw [sqR_nil] at h
    simp only [Option.some.injEq, Prod.mk.injEq] at h
    obtain ⟨rfl, rfl⟩ := h
    exact ⟨[], [], by simp, by simp, by simp, .nil, by simp⟩
  | f :: l, g, p, A, P, h => by
    cases h0 : (f.ct.2 != 0) with
    | true => rw [sqR, h0] at h; cases h
    | false =>
    have e0 : f.ct.2 = 0 := by simpa using h0
    cases hc : f.fl.c with
    | true =>
      rw [sqR_has e0 hc] at h
      obtain ⟨m, q, h1, h2, h3, h4, h5⟩ := sqR_ok l _ _ _ _ h
      refine ⟨f.ct.1 :: m, (g.length : Int) :: q, by simp [h1], by simp [h2], by simp; omega, .cons (.inr ⟨hc, g.length, rfl, by rw [h1]; simp⟩) e0 h4, ?_⟩
      intro hC y hy
      rcases List.mem_cons.1 hy with rfl | hy
      · rcases (hC f (by simp)).ok.1 with ⟨_, h⟩ | h
        · exact h
        · rw [h] at e0; cases e0
      · exact h5 (fun x hx => hC x (by simp [hx])) y hy
    | false =>
      rw [sqR_not e0 hc] at h
      obtain ⟨m, q, h1, h2, h3, h4, h5⟩ := sqR_ok l _ _ _ _ h
      exact ⟨m, -1 :: q, h1, by simp [h2], by simp; omega, .cons (.inl ⟨hc, rfl⟩) e0 h4, fun hC => h5 (fun x hx => hC x (by simp [hx]))⟩

theorem PlOk.len {A : List Ty} {l : List Fm} {q : List Int} (h : PlOk A l q) : q.length = l.length := by
  induction h with
  | nil => rfl
  | cons _ _ _ ih => simp [ih]
theorem PlOk.at {A : List Ty} {l : List Fm} {q : List Int} (h : PlOk A l q) : ∀ (i : Nat) (f : Fm) (p : Int), l[i]? = some f → q[i]? = some p →
    ((f.fl.c = false ∧ p = -1) ∨ (f.fl.c = true ∧ ∃ n : Nat, p = (n : Int) ∧ A[n]? = some f.ct.1)) ∧ f.ct.2 = 0 := by
  induction h with
  | nil => intro i f p h; simp at h
  | cons h h0 _ ih =>
    intro i f p hf hp
    match i with
    | 0 => simp at hf hp; subst hf; subst hp; exact ⟨h, h0⟩
    | i + 1 => exact ih i f p (by simpa using hf) (by simpa using hp)

theorem tmVar_R {i : Nat} (h : i ≤ 100) : TmR 10000 (tmVar (i : Int)) := ⟨.var (by omega), by rw [tmVar, tmSz, tmSzL]; omega, by rw [tmVar, Tm.least, Tm.leastL_nil]; simp; omega⟩

theorem sqT_ok {A : List Ty} {f : Fm} {p : Int} (hA : A.length ≤ 20) (h : (f.fl.c = false ∧ p = -1) ∨ (f.fl.c = true ∧ ∃ n : Nat, p = (n : Int) ∧ A[n]? = some f.ct.1)) :
    TmR 10000 (sqT A.length p) ∧ tmSz (sqT A.length p) ≤ 4096 ∧ (f.fl.c = true → HasTy TyG A (sqT A.length p) f.ct.1) := by
  unfold sqT
  rcases h with ⟨hc, rfl⟩ | ⟨hc, n, rfl, hn⟩
  · exact ⟨unit_R, by show tmSz (tm0 13 []) ≤ 4096; rw [tmSz_0]; omega, fun h => by rw [hc] at h; cases h⟩
  · have hl : n < A.length := (List.getElem?_eq_some_iff.1 hn).1
    have d : decide ((n : Int) ≥ 0) = true := by simp
    rw [d]
    simp only [if_true]
    have w1 : subW (A.length : Int) 1 = (A.length : Int) - 1 := subW_eq (by omega) (by omega) (by omega) (by omega)
    rw [w1, subW_eq (by omega) (by omega) (by omega) (by omega)]
    have e : (A.length : Int) - 1 - (n : Int) = ((A.length - 1 - n : Nat) : Int) := by omega
    rw [e]
    refine ⟨tmVar_R (by omega), (by rw [tmVar, tmSz, tmSzL]; omega), fun _ => .var (by omega) ?_⟩
    have : A.length - 1 - (A.length - 1 - n) = n := by omega
    rw [this]; exact hn

/-- The law of RealizeSequent. -/
theorem law_rlSeq {g A : List Ty} {P : List Int} {l : List Fm} (hm : ∀ f ∈ l, MkFm true 2 g f) (hg : ∀ y ∈ g, MkTy 1 y) (hgl : g.length ≤ 10) (hl : l.length ≤ 6) (h : sqR g [] l = some (A, P)) :
    ∃ m : List Ty, A = g ++ m ∧ m.length ≤ 6 ∧ (∀ y ∈ A, TyG y) ∧ P.length = l.length ∧
    ∀ (i : Nat) (f : Fm) (p : Int), l[i]? = some f → P[i]? = some p →
      fmLift f 0 (m.length : Int) = (f.up (m.length : Int) 0, 0) ∧ fmSz (f.up (m.length : Int) 0) ≤ 4096 ∧ FmG true (f.up (m.length : Int) 0) ∧ (f.up (m.length : Int) 0).least 268435456 = true ∧ okR A (rlF (f.up (m.length : Int) 0) (sqT A.length p)) := by
  obtain ⟨m, q, h1, h2, h3, h4, h5⟩ := sqR_ok l g [] A P h
  simp only [List.nil_append] at h2
  subst h2
  have hgG : ∀ y ∈ g, TyG y := fun y hy => (hg y hy).G (by omega)
  refine ⟨m, h1, by omega, ?_, h4.len, ?_⟩
  · intro y hy
    rw [h1] at hy
    rcases List.mem_append.1 hy with hy | hy
    · exact hgG y hy
    · exact h5 (fun f hf => ((hm f hf).G hgG).C) y hy
  intro i f p hf hp
  obtain ⟨h6, h7⟩ := h4.at i f p hf hp
  have hAl : A.length ≤ 20 := by rw [h1]; simp; omega
  obtain ⟨r1, r2, r3⟩ := sqT_ok hAl h6
  have := law_rlHyp (m := m) (t := sqT A.length p) (hm f (List.mem_of_getElem? hf)) hg hgl (by omega) h7 r1 r2 (by rw [← h1]; exact r3)
  rw [← h1] at this
  exact this
end GoAbs
