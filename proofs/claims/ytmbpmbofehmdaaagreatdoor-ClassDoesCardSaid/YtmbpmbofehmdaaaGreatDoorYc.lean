/-
 Walks: whether any formula is decidable (the reference).
-/
import Derived.Test.YtmbpmbofehmdaaaGreatDoorPg
import Derived.Test.YtmbpmbofehmdaaaGreatDoorAbsDd
set_option linter.unusedSimpArgs false
set_option linter.unusedVariables false
set_option maxRecDepth 20000
set_option maxHeartbeats 4000000
namespace Go.Proofs.YtmbpmbofehmdaaaGreatDoor
open Go GoAbs Go.Proofs
theorem c_r08decN : ∀ (n : Nat) {f : Fm}, fmSz f ≤ n → n ≤ 50000 → FmG true f → FmN f → f.good = true → FmW f → Pure Tryz.prog env 54 [.agg f.cells] (.bool f.fl.d) := by
 intro n
 induction n with
 | zero =>
  intro f hn
  obtain ⟨k, t, l, a⟩ := f
  rw [fmSz] at hn
  omega
 | succ n ih =>
  intro f hn hb gf lf hg wf
  cases gf with
  | @eq x y _ _ =>
   rw [Fm.fl_eqn]
   have e : (fmEq x y).cells = [.int .i64 1, .int .i64 0, .sl .any [], .sl .any [x.cells, y.cells], .sl .any []] := by rw [fmEq, Fm.mk_cells]; rfl
   rw [e]
   clear e ih hn hg wf lf
   intro h
   exact ek_ Tryz.func54 [.tmp 2]
  | @two k a b hk ga gb =>
   rw [fmSz_two] at hn
   rw [Fm.fl_two hk]
   obtain ⟨a', b', eab, ja, jb⟩ := Fm.good_two hg hk
   simp only [fmTwo, Fm.args, List.cons.injEq, and_true] at eab
   obtain ⟨rfl, rfl⟩ := eab
   have h1 := ih (by omega) (by omega) ga (lf.arg (by simp [fmTwo, Fm.args])) ja (wf.arg (by simp [fmTwo, Fm.args]))
   have h2 := ih (by omega) (by omega) gb (lf.arg (by simp [fmTwo, Fm.args])) jb (wf.arg (by simp [fmTwo, Fm.args]))
   have e : (fmTwo k a b).cells = [.int .i64 k, .int .i64 0, .sl .any [], .sl .any [], .sl .any [a.cells, b.cells]] := by rw [fmTwo, Fm.mk_cells]; rfl
   rw [e]
   simp only
   generalize a.fl.d = p at *
   generalize b.fl.d = q at *
   clear e ih hn hg wf lf ga gb ja jb
   intro h
   cases p with
   | true =>
    rw [Bool.true_and]
    rcases hk with rfl | rfl
    ·
     exact ek_ Tryz.func54 [.tmp 2]
    ·
     exact ek_ Tryz.func54 [.tmp 2]
   | false =>
    rw [Bool.false_and]
    rcases hk with rfl | rfl
    ·
     exact ek_ Tryz.func54 [.tmp 2]
    ·
     exact ek_ Tryz.func54 [.tmp 2]
  | @q k s a hk hs ga =>
   have gf : FmG true (fmQ k s a) := .q hk hs ga
   have hk' : k = 4 ∨ k = 5 ∨ k = 6 ∨ k = 7 := by rcases hk with h | h | ⟨_, h | h⟩ <;> simp [h]
   have h1 := c_r08bound (fmQ k s a) wf hg hk' (lf.hasQ (by omega))
   have h4 : 4 ≤ (fmQ k s a).kind := by
    have : (fmQ k s a).kind = k := rfl
    omega
   have hkk : (fmQ k s a).kind = 4 ∨ (fmQ k s a).kind = 5 ∨ (fmQ k s a).kind = 6 ∨ (fmQ k s a).kind = 7 := hk'
   have z1 : ((4 : Int) == 1) = false := rfl
   have z2 : ((5 : Int) == 1) = false := rfl
   have z3 : ((6 : Int) == 1) = false := rfl
   have z4 : ((7 : Int) == 1) = false := rfl
   cases hbn : isBnd (fmQ k s a) with
   | false =>
    rw [boundV9_no hbn] at h1
    rw [Fm.fl_qn h4 rfl hbn]
    have hzt := zeroT_cells
    have hzf := zeroF_cells
    clear ih hn hg wf lf ga gf hk hk' h4 hs hbn
    generalize fmQ k s a = f at *
    intro h
    rcases hkk with hk | hk | hk | hk
    all_goals
     exact ek_ Tryz.func54 [.tmp 2]
   | true =>
    obtain ⟨x, y, hx, hy, jy⟩ := bnd_body (f := fmQ k s a) rfl (by
     obtain ⟨a', ea, ja⟩ := Fm.good_q hg hk'
     simp only [fmQ, Fm.args, List.cons.injEq, and_true] at ea
     subst ea
     exact ja) hbn
    have ha : a ∈ (fmQ k s a).args := by simp [fmQ, Fm.args]
    have hya : y ∈ a.args := by rw [hx]; simp
    have s1 := fmSz_arg ha
    have s2 := fmSz_arg hya
    have h2 := ih (f := y) (by omega) (by omega) (ga.argG hya) ((lf.arg ha).arg hya) jy ((wf.arg ha).arg hya)
    rw [Fm.fl_qb h4 rfl hbn hx]
    unfold boundV9 at h1
    rw [hbn, hy] at h1
    simp only [if_true] at h1
    simp only
    generalize y.fl.d = p at *
    clear ih hn hg wf lf ga gf hk hk' h4 hs hbn hx hy jy ha hya s1 s2
    generalize bndTerm (fmQ k s a) = tq at *
    generalize tq.up (-1) 1 = tq at *
    generalize fmQ k s a = f at *
    generalize (f.kind == 4) = kb at *
    intro h
    rcases hkk with hk | hk | hk | hk
    all_goals
     exact ek_ Tryz.func54 [.tmp 2]
theorem c_r08Decidable {N : Nat} (hN : N ≤ 50000) (f : Fm) (hA : FmA N f) : Pure Tryz.prog env 21 [.agg f.cells] (boolErrV (f.has 4)) := by
 intro h
 have hC := c_refFmCheck f hA.w
 unfold boolErrV Fm.has
 cases he : (fmErr f != 0) with
 | true =>
  simp only [if_true]
  clear hA
  generalize fmErr f = e at *
  exact ek_ Tryz.func21 [.tmp 2, .tmp 3]
 | false =>
  have h0 : fmErr f = 0 := by simpa using he
  have hO := c_r08decN N hA.z hN (hA.g (Fm.ok_good he)) hA.n (Fm.ok_good he) hA.w
  simp only [Bool.false_eq_true, if_false]
  rw [h0] at hC
  have n0 : ((0 : Int) != 0) = false := rfl
  clear he h0 hA
  have e1 : ((4 : Int) == 1) = false := rfl
  have e2 : ((4 : Int) == 2) = false := rfl
  simp only [e1, e2, Bool.false_eq_true, if_false]
  generalize f.fl.d = x at *
  exact ek_ Tryz.func21 [.tmp 2, .tmp 3]
end Go.Proofs.YtmbpmbofehmdaaaGreatDoor
