/-
 Walks: a term that is one of two (the reference).
-/
import Derived.Test.YtpnjamplciaopaaGreatDoorLg
import Derived.Test.YtpnjamplciaopaaGreatDoorAbsDc
set_option linter.unusedSimpArgs false
set_option linter.unusedVariables false
set_option maxRecDepth 20000
set_option maxHeartbeats 4000000
namespace Go.Proofs.YtpnjamplciaopaaGreatDoor
open Go GoAbs Go.Proofs
theorem c_r30If (t : Ty) (c a b : Tm) (ht : TyX t) (hc : TmX c) (ha : TmX a) (hb : TmX b) :
  Pure Tryz.prog env 26 [.agg t.cells, .agg c.cells, .agg a.cells, .agg b.cells] (tmErrV (ifF t c a b)) := by
 have hz := zT_cells2'
 have h1 := c_refTyCheck t ht.1
 have n0 : ((0 : Int) != 0) = false := rfl
 cases q : (tyErr t != 0) with
 | true =>
  rw [ifF_1 q]
  unfold tmErrV
  simp only
  clear hc ha hb ht
  intro h
  refine en Tryz.func26 [.cell 8 31, .tmp 9] rfl rfl fun g0 w0 gen hrel hfr hfr' hres => ?_
  repeat' (first
   | exact hin _ | exact agf (by assumption)
   | (first | refine wp rfl ?_ | refine spt rfl ?_ | refine spf rfl ?_ | (refine spl (fun hc => ?_) fun hc => ?_) <;> (try rw [beq_iff_eq] at hc) <;> try simp only [hc] | refine cp (h1) ?_ | refine finF hrel ?_ ?_ ?_) <;> try simp only [go_sem, *])
 | false =>
 have q0 : tyErr t = 0 := by simpa using q
 have e1 := c_tmCheck c hc.1
 have e2 := c_tmCheck a ha.1
 have e3 := c_tmCheck b hb.1
 have hF := c_Large a ha.1
 have hC := c_r30choose t c a b ha.1
 have hK : tmErr c = 0 → tmErr a = 0 → tmErr b = 0 → a.least 268435456 = true → Pure Tryz.prog env 75 [.agg (chooseT t c (tmLift a 0 2).1 b).cells, .int .i64 0] (tmErrV (ifF t c a b)) := by
  intro z1 z2 z3 z4
  obtain ⟨ga1, ga2⟩ := ha.2 z2
  have hl : (tmLift a 0 2).1 = a.up 2 0 := by
   unfold tmLift
   rw [ga1.err0 ga2, if_neg (by simp), if_neg (by simp [least_mono (show (268435456 : Int) ≤ 536870912 by omega) _ z4])]
  rw [hl, ifF_6 q0 z1 z2 z3 z4]
  exact c_r30cut _ (chooseT_W ht.1 hc.1 (tm_upW _ _ ha.1) hb.1)
 have f2 : tmErr c ≠ 0 → ifF t c a b = (zeroT, tmErr c) := fun h => ifF_2 q0 (by simpa using h)
 have f3 : tmErr c = 0 → tmErr a ≠ 0 → ifF t c a b = (zeroT, tmErr a) := fun h h' => ifF_3 q0 h (by simpa using h')
 have f4 : tmErr c = 0 → tmErr a = 0 → tmErr b ≠ 0 → ifF t c a b = (zeroT, tmErr b) := fun h h' h'' => ifF_4 q0 h h' (by simpa using h'')
 have f5 : tmErr c = 0 → tmErr a = 0 → tmErr b = 0 → a.least 268435456 = false → ifF t c a b = (zeroT, 1) := fun h h' h'' h3 => ifF_5 q0 h h' h'' h3
 rw [q0] at h1
 clear hc ha hb ht q q0
 generalize chooseT t c (tmLift a 0 2).1 b = CH at *
 generalize ifF t c a b = p at *
 generalize tmErr c = ec at *
 generalize tmErr a = ea at *
 generalize tmErr b = eb at *
 generalize a.least 268435456 = la at *
 intro h
 refine en Tryz.func26 [.cell 8 31, .tmp 9] rfl rfl fun g0 w0 gen hrel hfr hfr' hres => ?_
 repeat' (first
  | (first | refine wp rfl ?_ | refine spt rfl ?_ | refine spf rfl ?_ | (refine spl (fun hc => ?_) fun hc => ?_) <;> (try rw [beq_iff_eq] at hc) <;> try simp only [hc] | refine cp (h1) ?_) <;> try simp only [go_sem, *])
 refine AR_loop_nat (fun i σ => σ.tm 12 = .int .i64 i ∧ σ.tm 11 = .sl .full [c.cells, a.cells, b.cells] ∧
  σ.tm 4 = .ptr ⟨gen, 0, 0⟩ 0 ∧ σ.tm 5 = .ptr ⟨gen, 0, 1⟩ 0 ∧ σ.tm 6 = .ptr ⟨gen, 0, 2⟩ 0 ∧ σ.tm 7 = .ptr ⟨gen, 0, 3⟩ 0 ∧ σ.tm 8 = .ptr ⟨gen, 0, 4⟩ 0 ∧
  σ.h ⟨gen, 0, 0⟩ = some (.box t.cells) ∧ σ.h ⟨gen, 0, 1⟩ = some (.box c.cells) ∧
  σ.h ⟨gen, 0, 2⟩ = some (.box a.cells) ∧
  σ.h ⟨gen, 0, 3⟩ = some (.box b.cells) ∧
  σ.h ⟨gen, 0, 4⟩ = some (.box [.int .i64 0, .int .i64 0, .int .i64 0, .sl .full [], .sl .full []]) ∧ Agree h σ.h ∧ (1 ≤ i → ec = 0) ∧ (2 ≤ i → ea = 0) ∧ (3 ≤ i → eb = 0)) 3 ?_ ?_
 ·simp only [go_sem, *]
  exact ⟨rfl, by repeat (first | exact Agree.refl _ | assumption | refine Agree.new ?_ (hfr' _ _))⟩
 clear h1
 intro i σ hi ⟨j1, j2, j3, j4, j5, j6, j7, j8, j9, j10, j11, j12, jA, z1, z2, z3⟩
 refine AR_gen2 (fun gn hgl hgn => ?_)
 have hgf := fresh_of hgn
 have hgf0 : ∀ r i, h ⟨gn, r, i⟩ = none := fun r i => agree_fresh jA (hgf r i)
 have eg1 := gen_lt hgl
 have eg2 := gen_lt' hgl
 clear hgn
 match i, hi with
 | 0, _ =>
  replace j1 : σ.tm 12 = .int .i64 0 := j1
  have d1 : decide ((0 : Int) < 3) = true := rfl
  have d2 : ((0 : Int) < ((3 : Nat) : Int)) = True := by simp
  have d3 : IntKind.i64.wrap ((0 : Int) + 1) = ((0 + 1 : Nat) : Int) := rfl
  clear e2 e3 hC hK f3 f4 f5 z1 z2 z3
  cases q : (ec != 0) with
  | true =>
   have hp := f2 (by simpa using q)
   subst hp
   simp only
   repeat' (first
    | exact hin _ | exact agf (by assumption)
    | (first | refine wp rfl ?_ | refine spt rfl ?_ | refine spf rfl ?_ | (refine spl (fun hc => ?_) fun hc => ?_) <;> (try rw [beq_iff_eq] at hc) <;> try simp only [hc] | refine cp (e1) ?_ | refine finF hrel ?_ ?_ ?_) <;> try simp only [go_sem, *])
  | false =>
   have q0 : ec = 0 := by simpa using q
   clear f2 hz
   repeat' (first
    | (first | refine wp rfl ?_ | refine spt rfl ?_ | refine spf rfl ?_ | (refine spl (fun hc => ?_) fun hc => ?_) <;> (try rw [beq_iff_eq] at hc) <;> try simp only [hc] | refine cp (e1) ?_ | refine AR_inv ?_) <;> try simp only [go_sem, *])
 | 1, _ =>
  replace j1 : σ.tm 12 = .int .i64 1 := j1
  have d1 : decide ((1 : Int) < 3) = true := rfl
  have d2 : ((1 : Int) < ((3 : Nat) : Int)) = True := by simp
  have d3 : IntKind.i64.wrap ((1 : Int) + 1) = ((1 + 1 : Nat) : Int) := rfl
  clear e1 e3 hC hK f2 f4 f5 z2 z3
  have z1 := z1 (by omega)
  cases q : (ea != 0) with
  | true =>
   have hp := f3 z1 (by simpa using q)
   subst hp
   simp only
   repeat' (first
    | exact hin _ | exact agf (by assumption)
    | (first | refine wp rfl ?_ | refine spt rfl ?_ | refine spf rfl ?_ | (refine spl (fun hc => ?_) fun hc => ?_) <;> (try rw [beq_iff_eq] at hc) <;> try simp only [hc] | refine cp (e2) ?_ | refine finF hrel ?_ ?_ ?_) <;> try simp only [go_sem, *])
  | false =>
   have q0 : ea = 0 := by simpa using q
   clear f3 hz
   repeat' (first
    | (first | refine wp rfl ?_ | refine spt rfl ?_ | refine spf rfl ?_ | (refine spl (fun hc => ?_) fun hc => ?_) <;> (try rw [beq_iff_eq] at hc) <;> try simp only [hc] | refine cp (e2) ?_ | refine AR_inv ?_) <;> try simp only [go_sem, *])
 | 2, _ =>
  replace j1 : σ.tm 12 = .int .i64 2 := j1
  have d1 : decide ((2 : Int) < 3) = true := rfl
  have d2 : ((2 : Int) < ((3 : Nat) : Int)) = True := by simp
  have d3 : IntKind.i64.wrap ((2 : Int) + 1) = ((2 + 1 : Nat) : Int) := rfl
  clear e1 e2 hC hK f2 f3 f5 z3
  have z1 := z1 (by omega)
  have z2 := z2 (by omega)
  cases q : (eb != 0) with
  | true =>
   have hp := f4 z1 z2 (by simpa using q)
   subst hp
   simp only
   repeat' (first
    | exact hin _ | exact agf (by assumption)
    | (first | refine wp rfl ?_ | refine spt rfl ?_ | refine spf rfl ?_ | (refine spl (fun hc => ?_) fun hc => ?_) <;> (try rw [beq_iff_eq] at hc) <;> try simp only [hc] | refine cp (e3) ?_ | refine finF hrel ?_ ?_ ?_) <;> try simp only [go_sem, *])
  | false =>
   have q0 : eb = 0 := by simpa using q
   clear f4 hz
   repeat' (first
    | (first | refine wp rfl ?_ | refine spt rfl ?_ | refine spf rfl ?_ | (refine spl (fun hc => ?_) fun hc => ?_) <;> (try rw [beq_iff_eq] at hc) <;> try simp only [hc] | refine cp (e3) ?_ | refine AR_inv ?_) <;> try simp only [go_sem, *])
 | 3, _ =>
  replace j1 : σ.tm 12 = .int .i64 3 := j1
  have d1 : decide ((3 : Int) < 3) = false := rfl
  clear e1 e2 e3 f2 f3 f4
  have z1 := z1 (by omega)
  have z2 := z2 (by omega)
  have z3 := z3 (by omega)
  cases q : la with
  | false =>
   have hp := f5 z1 z2 z3 q
   subst hp
   rw [q] at hF
   simp only [Bool.not_false] at hF ⊢
   clear hC hK
   repeat' (first
    | exact hin _ | exact agf (by assumption)
    | (first | refine wp rfl ?_ | refine spt rfl ?_ | refine spf rfl ?_ | (refine spl (fun hc => ?_) fun hc => ?_) <;> (try rw [beq_iff_eq] at hc) <;> try simp only [hc] | refine cp (hF) ?_ | refine finF hrel ?_ ?_ ?_) <;> try simp only [go_sem, *])
  | true =>
   have hK := hK z1 z2 z3 q
   rw [q] at hF
   simp only [Bool.not_true] at hF
   clear f5
   obtain ⟨p1, p2⟩ := p
   unfold tmErrV at *
   simp only at *
   repeat' (first
    | exact hin _ | exact agf (by assumption)
    | (first | refine wp rfl ?_ | refine spt rfl ?_ | refine spf rfl ?_ | (refine spl (fun hc => ?_) fun hc => ?_) <;> (try rw [beq_iff_eq] at hc) <;> try simp only [hc] | refine cp (hF) ?_ | refine cp (hC) ?_ | refine cp (hK) ?_ | refine finF hrel ?_ ?_ ?_) <;> try simp only [go_sem, *])
end Go.Proofs.YtpnjamplciaopaaGreatDoor
