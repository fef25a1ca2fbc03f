/-
 Walks: whether a variable is in a term (references); bounded quantifiers of any valid formula (references).
-/
import Derived.Test.YtkoeoklndhgejaaGreatDoorVd
import Derived.Test.YtkoeoklndhgejaaGreatDoorAbsD
set_option linter.unusedSimpArgs false
set_option linter.unusedVariables false
set_option maxRecDepth 20000
set_option maxHeartbeats 4000000
namespace Go.Proofs.YtkoeoklndhgejaaGreatDoor
open Go GoAbs Go.Proofs
theorem c_r03Has : ∀ t : Tm, TmW t → ∀ a : Int, Pure Tryz.prog env 167 [.agg t.cells, .int .i64 a] (.bool (t.hasV a)) := by
 intro t
 induction t using Tm.ind with | h t ih => ?_
 intro ht a h
 have hlen := ht.len
 have ih' : ∀ x ∈ t.args, Pure Tryz.prog env 167 [.agg x.cells, .int .i64 (addW a (tmBelow t.kind))] (.bool (x.hasV (addW a (tmBelow t.kind)))) := fun x hx => ih x hx (ht.arg hx) _
 clear ih
 have hB := c_tmBelow t
 have hv0 := (t.hasV_eq a).symm
 have hw : IntKind.i64.wrap (a + tmBelow t.kind) = addW a (tmBelow t.kind) := rfl
 generalize t.hasV a = v at hv0 ⊢
 generalize addW a (tmBelow t.kind) = a2 at *
 cases hk : (t.kind == 1 && t.index == a) with
 | true =>
  have hk1 : (t.kind == 1) = true := by cases h1 : (t.kind == 1) <;> simp_all
  have hk2 : (t.index == a) = true := by cases h1 : (t.index == a) <;> simp_all
  rw [hk, Bool.true_or] at hv0
  subst hv0
  clear hk ih' hw hB
  exact ek_ Tryz.func167 [.tmp 4]
 | false =>
  rw [hk, Bool.false_or] at hv0
  have hkk : ((t.kind == 1) = true ∧ (t.index == a) = false) ∨ (t.kind == 1) = false := by cases h1 : (t.kind == 1) <;> cases h2 : (t.index == a) <;> simp_all
  clear hk
  have hv1 : (t.args.drop 0).any (fun x => x.hasV a2) = v := hv0
  clear hv0
  rcases hkk with ⟨hk1, hk2⟩ | hk1
  all_goals
   refine en_ Tryz.func167 [.tmp 4] fun g0 w0 gen hrel hfr hfr' hres => ?_
   refine wq_ ?_
   refine ar_ [1, 2, 17] [⟨gen, 0, 0⟩] (fun i σ => Agree h σ.h ∧ (t.args.drop i).any (fun x => x.hasV a2) = v) (t.args).length ?_ ?_ ?_
   ·simp only [go_sem, *]
    first|exact hv1|exact ⟨ag_, hv1⟩
   ·clear hv1
    intro i σ gr0 hgl_gr0 hgn hlt jI jN jS ⟨jA, jv⟩
    obtain ⟨jT, jB⟩ := jS
    simp only [go_sem] at jT jB
    obtain ⟨hgf, hgf0, eg_gen_gr0, eh_gen_gr0⟩ := rnd hgn hgl_gr0 jA
    obtain ⟨x, hx, hxm, hm⟩ := rnx hlt
    clear hgn
    rw [drop_get hx, List.any_cons] at jv
    have hc := ih' x hxm
    clear ih'
    cases hn : x.hasV a2 with
    | true =>
     rw [hn] at hc
     rw [hn, Bool.true_or] at jv
     subst jv
     exact wk_
    | false =>
     rw [hn] at hc
     rw [hn, Bool.false_or] at jv
     refine wq_ ?_
     first|exact ag_|exact ⟨ag_, jv⟩
   ·clear hv1
    intro σ ga0 hgl_ga0 hgn jS ⟨jA, jv⟩
    obtain ⟨jT, jB⟩ := jS
    simp only [go_sem] at jT jB
    obtain ⟨hgf, hgf0, eg_gen_ga0, eh_gen_ga0⟩ := rnd hgn hgl_ga0 jA
    clear hgn
    rw [List.drop_length, List.any_nil] at jv
    subst jv
    clear ih'
    exact wk_
end Go.Proofs.YtkoeoklndhgejaaGreatDoor
