/-
  Walks: the truth of formulas without quantifiers (the reference).
-/
import Derived.Test.YtpnjamplciaopaaGreatDoorLi
set_option linter.unusedSimpArgs false
set_option linter.unusedVariables false
set_option maxRecDepth 20000
set_option maxHeartbeats 4000000
namespace Go.Proofs.YtpnjamplciaopaaGreatDoor
open Go GoAbs Go.Proofs

def evNV (p : Nat × Nat × Int) : V := .tup [.int .i64 p.1, .int .i64 p.2.1, .int .i64 p.2.2]
def t9V (p : Bool × Nat × Int) : V := .tup [.bool p.1, .int .i64 p.2.1, .int .i64 p.2.2]

theorem c_r09eval (t : Tm) (hT : HasTy TyG [] t tNat) (hG : TmG t) (hz : tmSz t ≤ 4096) (ht : TmW t) (w : Nat) (hw : w ≤ 65536) :
    Pure Tryz.prog env 125 [.agg t.cells, .int .i64 w] (evNV (evN t w)) := by
  obtain ⟨r, u, o, h0, hu⟩ := ev_some (w := w) hT
  have h1 := c_Eval0 hw hT hG hz ht h0
  cases o with
  | true =>
    have e : evN t w = (0, w, 5) := by simp [evN, h0]
    have w0 : IntKind.i64.wrap ((w : Int) - 0) = w := wrap_eq (by omega) (by omega) (by omega)
    rw [e]
    unfold evalV at h1
    simp only [if_true] at h1
    unfold evNV
    simp only
    clear e hT hG hz ht h0 hu hw
    intro h
    refine en Tryz.func125 [.tmp 4, .tmp 5, .tmp 6] rfl rfl fun g0 w0 gen hrel hfr hfr' hres => ?_
    repeat' (first
      | exact hin _ | exact agf (by assumption)
      | (first | refine wp rfl ?_ | refine cp (h1) ?_ | refine finF hrel ?_ ?_ ?_) <;> try simp only [go_sem, *])
    all_goals rfl
  | false =>
    have e : evN t w = (r.num, w - u, 0) := by simp [evN, h0]
    have w0 : IntKind.i64.wrap ((w : Int) - (u : Int)) = ((w - u : Nat) : Int) := wrap_eq (by omega) (by omega) (by omega)
    rw [e]
    unfold evalV valN at h1
    simp only [Bool.false_eq_true, if_false] at h1
    unfold evNV
    simp only
    clear e hT hG hz ht h0 hu hw
    intro h
    refine en Tryz.func125 [.tmp 4, .tmp 5, .tmp 6] rfl rfl fun g0 w0 gen hrel hfr hfr' hres => ?_
    repeat' (first
      | exact hin _ | exact agf (by assumption)
      | (first | refine wp rfl ?_ | refine cp (h1) ?_ | refine finF hrel ?_ ?_ ?_) <;> try simp only [go_sem, *])

theorem c_t9Eq (x y : Tm) (hx : ∀ w : Nat, w ≤ 65536 → Pure Tryz.prog env 125 [.agg x.cells, .int .i64 w] (evNV (evN x w)))
    (hy : ∀ w : Nat, w ≤ 65536 → Pure Tryz.prog env 125 [.agg y.cells, .int .i64 w] (evNV (evN y w))) (w : Nat) (hw : w ≤ 65536) :
    Pure Tryz.prog env 79 [.agg (fmEq x y).cells, .int .i64 w] (t9V (t9Eq x y w)) := by
  have h1 := hx w hw
  have hl := evN_left (t := x) (w := w)
  have e : (fmEq x y).cells = [.int .i64 1, .int .i64 0, .sl .any [], .sl .any [x.cells, y.cells], .sl .any []] := by rw [fmEq, Fm.mk_cells]; rfl
  rw [e]
  unfold t9Eq
  have h2 := hy (evN x w).2.1 (by omega)
  generalize evN x w = p at *
  obtain ⟨a, l, e1⟩ := p
  simp only at *
  generalize evN y l = q at *
  obtain ⟨b, l2, e2⟩ := q
  unfold evNV at *
  simp only at *
  have n0 : ((0 : Int) != 0) = false := rfl
  clear e hl hw hx hy
  cases q : (e1 != 0) with
  | true =>
    simp only [if_true, t9V]
    clear h2
    intro h
    refine en Tryz.func79 [.tmp 4, .tmp 5, .tmp 6] rfl rfl fun g0 w0 gen hrel hfr hfr' hres => ?_
    repeat' (first
      | exact hin _ | exact agf (by assumption)
      | (first | refine wp rfl ?_ | refine spt rfl ?_ | refine spf rfl ?_ | (refine spl (fun hc => ?_) fun hc => ?_) <;> (try rw [beq_iff_eq] at hc) <;> try simp only [hc] | (refine gs (fun hb => ?_) fun hb => ?_) <;> try simp only [Bool.not_true, Bool.not_false] at hb | refine cp (h1) ?_ | refine finF hrel ?_ ?_ ?_) <;> try simp only [go_sem, *])
    all_goals rfl
  | false =>
    simp only [Bool.false_eq_true, if_false, t9V]
    intro h
    refine en Tryz.func79 [.tmp 4, .tmp 5, .tmp 6] rfl rfl fun g0 w0 gen hrel hfr hfr' hres => ?_
    repeat' (first
      | exact hin _ | exact agf (by assumption)
      | (first | refine wp rfl ?_ | refine spt rfl ?_ | refine spf rfl ?_ | (refine spl (fun hc => ?_) fun hc => ?_) <;> (try rw [beq_iff_eq] at hc) <;> try simp only [hc] | (refine gs (fun hb => ?_) fun hb => ?_) <;> try simp only [Bool.not_true, Bool.not_false] at hb | refine cp (h1) ?_ | refine cp (h2) ?_ | refine finF hrel ?_ ?_ ?_) <;> try simp only [go_sem, *])

theorem c_t9Two (k : Int) (hk : k = 2 ∨ k = 3) (a b : Fm) (A B : Nat → Bool × Nat × Int) (w : Nat) (hl : (A w).2.1 ≤ w) (hw : w ≤ 65536)
    (h1 : Pure Tryz.prog env 79 [.agg a.cells, .int .i64 w] (t9V (A w)))
    (hB : ∀ w : Nat, w ≤ 65536 → Pure Tryz.prog env 79 [.agg b.cells, .int .i64 w] (t9V (B w))) :
    Pure Tryz.prog env 79 [.agg (fmTwo k a b).cells, .int .i64 w] (t9V (t9Two k A B w)) := by
  have e : (fmTwo k a b).cells = [.int .i64 k, .int .i64 0, .sl .any [], .sl .any [], .sl .any [a.cells, b.cells]] := by rw [fmTwo, Fm.mk_cells]; rfl
  rw [e]
  unfold t9Two
  have h2 := hB (A w).2.1 (by omega)
  generalize A w = p at *
  obtain ⟨r, l, e1⟩ := p
  simp only at *
  generalize B l = q at *
  obtain ⟨r2, l2, e2⟩ := q
  unfold t9V at *
  simp only at *
  clear e hl hw hB
  have k1 : (k == 1) = false := by rcases hk with rfl | rfl <;> rfl
  have n0 : ((0 : Int) != 0) = false := rfl
  cases q : (e1 != 0) with
  | true =>
    simp only [if_true]
    clear h2
    intro h
    rcases hk with rfl | rfl
    ·
      refine en Tryz.func79 [.tmp 4, .tmp 5, .tmp 6] rfl rfl fun g0 w0 gen hrel hfr hfr' hres => ?_
      repeat' (first
        | exact hin _ | exact agf (by assumption)
        | (first | refine wp rfl ?_ | refine spt rfl ?_ | refine spf rfl ?_ | (refine spl (fun hc => ?_) fun hc => ?_) <;> (try rw [beq_iff_eq] at hc) <;> try simp only [hc] | (refine gs (fun hb => ?_) fun hb => ?_) <;> try simp only [Bool.not_true, Bool.not_false] at hb | refine cp (h1) ?_ | refine finF hrel ?_ ?_ ?_) <;> try simp only [go_sem, *])
      all_goals rfl
    ·
      refine en Tryz.func79 [.tmp 4, .tmp 5, .tmp 6] rfl rfl fun g0 w0 gen hrel hfr hfr' hres => ?_
      repeat' (first
        | exact hin _ | exact agf (by assumption)
        | (first | refine wp rfl ?_ | refine spt rfl ?_ | refine spf rfl ?_ | (refine spl (fun hc => ?_) fun hc => ?_) <;> (try rw [beq_iff_eq] at hc) <;> try simp only [hc] | (refine gs (fun hb => ?_) fun hb => ?_) <;> try simp only [Bool.not_true, Bool.not_false] at hb | refine cp (h1) ?_ | refine finF hrel ?_ ?_ ?_) <;> try simp only [go_sem, *])
      all_goals rfl
  | false =>
    simp only [Bool.false_eq_true, if_false]
    cases r with
    | true =>
      simp only [if_true]
      intro h
      rcases hk with rfl | rfl
      ·
        refine en Tryz.func79 [.tmp 4, .tmp 5, .tmp 6] rfl rfl fun g0 w0 gen hrel hfr hfr' hres => ?_
        repeat' (first
          | exact hin _ | exact agf (by assumption)
          | (first | refine wp rfl ?_ | refine spt rfl ?_ | refine spf rfl ?_ | (refine spl (fun hc => ?_) fun hc => ?_) <;> (try rw [beq_iff_eq] at hc) <;> try simp only [hc] | (refine gs (fun hb => ?_) fun hb => ?_) <;> try simp only [Bool.not_true, Bool.not_false] at hb | refine cp (h1) ?_ | refine cp (h2) ?_ | refine finF hrel ?_ ?_ ?_) <;> try simp only [go_sem, *])
      ·
        refine en Tryz.func79 [.tmp 4, .tmp 5, .tmp 6] rfl rfl fun g0 w0 gen hrel hfr hfr' hres => ?_
        repeat' (first
          | exact hin _ | exact agf (by assumption)
          | (first | refine wp rfl ?_ | refine spt rfl ?_ | refine spf rfl ?_ | (refine spl (fun hc => ?_) fun hc => ?_) <;> (try rw [beq_iff_eq] at hc) <;> try simp only [hc] | (refine gs (fun hb => ?_) fun hb => ?_) <;> try simp only [Bool.not_true, Bool.not_false] at hb | refine cp (h1) ?_ | refine cp (h2) ?_ | refine finF hrel ?_ ?_ ?_) <;> try simp only [go_sem, *])
    | false =>
      simp only [Bool.false_eq_true, if_false]
      clear h2
      intro h
      rcases hk with rfl | rfl
      · rw [show ((2 : Int) == 3) = false from rfl]
        refine en Tryz.func79 [.tmp 4, .tmp 5, .tmp 6] rfl rfl fun g0 w0 gen hrel hfr hfr' hres => ?_
        repeat' (first
          | exact hin _ | exact agf (by assumption)
          | (first | refine wp rfl ?_ | refine spt rfl ?_ | refine spf rfl ?_ | (refine spl (fun hc => ?_) fun hc => ?_) <;> (try rw [beq_iff_eq] at hc) <;> try simp only [hc] | (refine gs (fun hb => ?_) fun hb => ?_) <;> try simp only [Bool.not_true, Bool.not_false] at hb | refine cp (h1) ?_ | refine finF hrel ?_ ?_ ?_) <;> try simp only [go_sem, *])
      · rw [show ((3 : Int) == 3) = true from rfl]
        refine en Tryz.func79 [.tmp 4, .tmp 5, .tmp 6] rfl rfl fun g0 w0 gen hrel hfr hfr' hres => ?_
        repeat' (first
          | exact hin _ | exact agf (by assumption)
          | (first | refine wp rfl ?_ | refine spt rfl ?_ | refine spf rfl ?_ | (refine spl (fun hc => ?_) fun hc => ?_) <;> (try rw [beq_iff_eq] at hc) <;> try simp only [hc] | (refine gs (fun hb => ?_) fun hb => ?_) <;> try simp only [Bool.not_true, Bool.not_false] at hb | refine cp (h1) ?_ | refine finF hrel ?_ ?_ ?_) <;> try simp only [go_sem, *])

theorem c_t9 {f : Fm} {g : List Ty} (hT : FmTy TyG g f) : g = [] → f.mfree = true → FmG true f → fmSz f ≤ 4096 → FmW f → ∀ w : Nat, w ≤ 65536 →
    Pure Tryz.prog env 79 [.agg f.cells, .int .i64 w] (t9V (f.t9 w)) := by
  induction hT with
  | @eq g x y hx hy =>
    intro hg _ hG hz hf w hw
    subst hg
    rw [fmSz_eq] at hz
    rw [t9_eqn]
    obtain ⟨gx, gy⟩ := hG.inv_eq
    exact c_t9Eq x y (c_r09eval x hx gx (by omega) (hf.term (by simp [fmEq, Fm.terms]))) (c_r09eval y hy gy (by omega) (hf.term (by simp [fmEq, Fm.terms]))) w hw
  | @two g k a b hk _ _ ih1 ih2 =>
    intro hg hm hG hz hf w hw
    rw [fmSz_two] at hz
    rw [t9_two]
    obtain ⟨m1, m2⟩ := mfree_two' hm
    obtain ⟨_, g1, g2⟩ := hG.inv_two
    exact c_t9Two k hk a b a.t9 b.t9 w (t9_left g1 m1 w) hw (ih1 hg m1 g1 (by omega) (hf.arg (by simp [fmTwo, Fm.args])) w hw) (ih2 hg m2 g2 (by omega) (hf.arg (by simp [fmTwo, Fm.args])))
  | q hk _ _ => intro _ hm; rw [mfree_q' hk] at hm; cases hm

theorem c_r08decF {u : Bool} {f : Fm} (hG : FmG u f) : f.mfree = true → Pure Tryz.prog env 124 [.agg f.cells] (.bool true) := by
  induction hG with
  | @eq x y _ _ =>
    intro _
    have e : (fmEq x y).cells = [.int .i64 1, .int .i64 0, .sl .any [], .sl .any [x.cells, y.cells], .sl .any []] := by rw [fmEq, Fm.mk_cells]; rfl
    rw [e]
    clear e
    intro h
    refine en Tryz.func124 [.tmp 2] rfl rfl fun g0 w0 gen hrel hfr hfr' hres => ?_
    repeat' (first
      | exact hin _ | exact agf (by assumption)
      | (first | refine wp rfl ?_ | refine spt rfl ?_ | refine spf rfl ?_ | (refine spl (fun hc => ?_) fun hc => ?_) <;> (try rw [beq_iff_eq] at hc) <;> try simp only [hc] | (refine gs (fun hb => ?_) fun hb => ?_) <;> try simp only [Bool.not_true, Bool.not_false] at hb | refine finF hrel ?_ ?_ ?_) <;> try simp only [go_sem, *])
  | @two k a b hk _ _ ih1 ih2 =>
    intro hm
    obtain ⟨m1, m2⟩ := mfree_two' hm
    have h1 := ih1 m1
    have h2 := ih2 m2
    have e : (fmTwo k a b).cells = [.int .i64 k, .int .i64 0, .sl .any [], .sl .any [], .sl .any [a.cells, b.cells]] := by rw [fmTwo, Fm.mk_cells]; rfl
    rw [e]
    clear e ih1 ih2 m1 m2 hm
    intro h
    rcases hk with rfl | rfl
    ·
      refine en Tryz.func124 [.tmp 2] rfl rfl fun g0 w0 gen hrel hfr hfr' hres => ?_
      repeat' (first
        | exact hin _ | exact agf (by assumption)
        | (first | refine wp rfl ?_ | refine spt rfl ?_ | refine spf rfl ?_ | (refine spl (fun hc => ?_) fun hc => ?_) <;> (try rw [beq_iff_eq] at hc) <;> try simp only [hc] | (refine gs (fun hb => ?_) fun hb => ?_) <;> try simp only [Bool.not_true, Bool.not_false] at hb | refine cp (h1) ?_ | refine cp (h2) ?_ | refine finF hrel ?_ ?_ ?_) <;> try simp only [go_sem, *])
    ·
      refine en Tryz.func124 [.tmp 2] rfl rfl fun g0 w0 gen hrel hfr hfr' hres => ?_
      repeat' (first
        | exact hin _ | exact agf (by assumption)
        | (first | refine wp rfl ?_ | refine spt rfl ?_ | refine spf rfl ?_ | (refine spl (fun hc => ?_) fun hc => ?_) <;> (try rw [beq_iff_eq] at hc) <;> try simp only [hc] | (refine gs (fun hb => ?_) fun hb => ?_) <;> try simp only [Bool.not_true, Bool.not_false] at hb | refine cp (h1) ?_ | refine cp (h2) ?_ | refine finF hrel ?_ ?_ ?_) <;> try simp only [go_sem, *])
  | q hk _ _ _ => intro hm; rw [mfree_q' (FmG.qk hk)] at hm; cases hm

/-- ref09.Truth. -/
def t9R (w : Nat) (p : Bool × Nat × Int) : Bool × Nat × Int := if p.2.2 != 0 then (false, 0, p.2.2) else (p.1, w - p.2.1, 0)
theorem c_r09Truth (f : Fm) (hf : FreeC f) (hz : fmSz f ≤ 4096) (wf : FmW f) (w : Nat) (hw : w ≤ 65536) :
    Pure Tryz.prog env 28 [.agg f.cells, .int .i64 w] (t9V (t9R w (f.t9 w))) := by
  have h1 := c_fmTyped [] (by simp) (by simp) f hf.ty hf.gd hz wf
  simp only [List.map_nil] at h1
  have h2 : Pure Tryz.prog env 78 [.agg f.cells] (.tup [.bool true, .int .i64 0]) := by
    have h3 := c_refFmCheck f wf
    rw [hf.gd.err0 hz] at h3
    have h4 := c_r08decF hf.gd hf.fr
    have n0 : ((0 : Int) != 0) = false := rfl
    clear h1 hf hz wf hw
    intro h
    refine en Tryz.func78 [.tmp 2, .tmp 3] rfl rfl fun g0 w0 gen hrel hfr hfr' hres => ?_
    repeat' (first
      | exact hin _ | exact agf (by assumption)
      | (first | refine wp rfl ?_ | refine spt rfl ?_ | refine spf rfl ?_ | (refine spl (fun hc => ?_) fun hc => ?_) <;> (try rw [beq_iff_eq] at hc) <;> try simp only [hc] | refine cp (h3) ?_ | refine cp (h4) ?_ | refine finF hrel ?_ ?_ ?_) <;> try simp only [go_sem, *])
  have h5 := c_t9 hf.ty rfl hf.fr hf.gd hz wf w hw
  have hl := t9_left hf.gd hf.fr w
  have d1 : decide ((w : Int) < 0) = false := by simp
  have d2 : decide ((w : Int) > 65536) = false := by simp; omega
  have n0 : ((0 : Int) != 0) = false := rfl
  clear hf hz wf
  generalize f.t9 w = p at *
  obtain ⟨r, l, e⟩ := p
  simp only at hl
  unfold t9R
  have w0 : IntKind.i64.wrap ((w : Int) - (l : Int)) = ((w - l : Nat) : Int) := wrap_eq (by omega) (by omega) (by omega)
  unfold t9V at *
  simp only at *
  clear hl hw
  cases q : (e != 0) with
  | true =>
    simp only [if_true]
    intro h
    refine en Tryz.func28 [.tmp 4, .tmp 5, .tmp 6] rfl rfl fun g0 w0 gen hrel hfr hfr' hres => ?_
    repeat' (first
      | exact hin _ | exact agf (by assumption)
      | (first | refine wp rfl ?_ | refine spt rfl ?_ | refine spf rfl ?_ | (refine spl (fun hc => ?_) fun hc => ?_) <;> (try rw [beq_iff_eq] at hc) <;> try simp only [hc] | (refine gs (fun hb => ?_) fun hb => ?_) <;> try simp only [Bool.not_true, Bool.not_false] at hb | refine cp (h1) ?_ | refine cp (h2) ?_ | refine cp (h5) ?_ | refine finF hrel ?_ ?_ ?_) <;> try simp only [go_sem, *])
    all_goals rfl
  | false =>
    simp only [Bool.false_eq_true, if_false]
    intro h
    refine en Tryz.func28 [.tmp 4, .tmp 5, .tmp 6] rfl rfl fun g0 w0 gen hrel hfr hfr' hres => ?_
    repeat' (first
      | exact hin _ | exact agf (by assumption)
      | (first | refine wp rfl ?_ | refine spt rfl ?_ | refine spf rfl ?_ | (refine spl (fun hc => ?_) fun hc => ?_) <;> (try rw [beq_iff_eq] at hc) <;> try simp only [hc] | (refine gs (fun hb => ?_) fun hb => ?_) <;> try simp only [Bool.not_true, Bool.not_false] at hb | refine cp (h1) ?_ | refine cp (h2) ?_ | refine cp (h5) ?_ | refine finF hrel ?_ ?_ ?_) <;> try simp only [go_sem, *])
end Go.Proofs.YtpnjamplciaopaaGreatDoor
