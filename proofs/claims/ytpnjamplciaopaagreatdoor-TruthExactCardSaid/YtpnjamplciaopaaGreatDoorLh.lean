/-
 Walks: a term that is one of two (the program).
-/
import Derived.Test.YtpnjamplciaopaaGreatDoorLe
set_option linter.unusedSimpArgs false
set_option linter.unusedVariables false
set_option maxRecDepth 20000
set_option maxHeartbeats 4000000
namespace Go.Proofs.YtpnjamplciaopaaGreatDoor
open Go GoAbs Go.Proofs
theorem c_trIf (t : Ty) (c a b : Tm) (ht : TyW t) (hc : TmW c) (ha : TmW a) (hb : TmW b) (gt : tyErr t = 0 → TyG t) (gc : tmErr c = 0 → TmG c ∧ tmSz c ≤ 4096) (ga : tmErr a = 0 → TmG a ∧ tmSz a ≤ 4096) (gb : tmErr b = 0 → TmG b ∧ tmSz b ≤ 4096) :
  Pure Tryz.prog env 25 [.agg t.cells, .agg c.cells, .agg a.cells, .agg b.cells] (tmErrV (ifF t c a b)) := by
 have hz := zT_cells2
 have h1 := c_typesCheck t ht
 have n0 : ((0 : Int) != 0) = false := rfl
 cases q : (tyErr t != 0) with
 | true =>
  rw [ifF_1 q]
  unfold tmErrV
  simp only
  clear gt gc ga gb hc ha hb ht
  intro h
  refine en Tryz.func25 [.cell 8 31, .tmp 9] rfl rfl fun g0 w0 gen hrel hfr hfr' hres => ?_
  repeat' (first
   | exact hin _ | exact agf (by assumption)
   | (first | refine wp rfl ?_ | refine spt rfl ?_ | refine spf rfl ?_ | (refine spl (fun hc => ?_) fun hc => ?_) <;> (try rw [beq_iff_eq] at hc) <;> try simp only [hc] | refine cp (h1) ?_ | refine finF hrel ?_ ?_ ?_) <;> try simp only [go_sem, *])
 | false =>
 have q0 : tyErr t = 0 := by simpa using q
 have e1 := c_termsCheck c hc
 have e2 := c_termsCheck a ha
 have e3 := c_termsCheck b hb
 have hF := c_Far a ha
 have hC : tmErr c = 0 → tmErr a = 0 → tmErr b = 0 → a.least 268435456 = true → Pure Tryz.prog env 71 [.agg t.cells, .agg c.cells, .agg a.cells, .agg b.cells] (tmErrV (ifF t c a b)) := by
  intro z1 z2 z3 z4
  obtain ⟨ga1, ga2⟩ := ga z2
  have hs := sl_up (b := 2) (by omega) (by omega) _ ga1 (Nat.le_refl _) (least_mono (by omega) _ z4) 0 (by omega) (by omega)
  have hu := TmG.up (b := 2) (by omega) (by omega) _ ga1 (Nat.le_refl _) (least_mono (by omega) _ z4) 0
  have hsz := tmSz_up (b := 2) a 0
  have := c_trChoose t c a b ht hc ha hb (by rw [hs]; exact tm_upW _ _ ha)
  obtain ⟨gc1, gc2⟩ := gc z1
  obtain ⟨gb1, gb2⟩ := gb z3
  rw [ifF_6 q0 z1 z2 z3 z4, ← bldT_cut (chooseT_G (gt q0) gc1 hu gb1) (by rw [chooseT_sz, hsz]; omega), ← hs]
  exact this
 have f2 : tmErr c ≠ 0 → ifF t c a b = (zeroT, tmErr c) := fun h => ifF_2 q0 (by simpa using h)
 have f3 : tmErr c = 0 → tmErr a ≠ 0 → ifF t c a b = (zeroT, tmErr a) := fun h h' => ifF_3 q0 h (by simpa using h')
 have f4 : tmErr c = 0 → tmErr a = 0 → tmErr b ≠ 0 → ifF t c a b = (zeroT, tmErr b) := fun h h' h'' => ifF_4 q0 h h' (by simpa using h'')
 have f5 : tmErr c = 0 → tmErr a = 0 → tmErr b = 0 → a.least 268435456 = false → ifF t c a b = (zeroT, 1) := fun h h' h'' h3 => ifF_5 q0 h h' h'' h3
 rw [q0] at h1
 clear gt gc ga gb hc ha hb ht q q0
 have c1 := Tm.cells_eq c
 have c2 := Tm.cells_eq a
 have c3 := Tm.cells_eq b
 rw [c1] at e1
 rw [c2] at e2 hF
 rw [c3] at e3
 rw [c1, c2, c3] at hC
 rw [c1, c2, c3]
 generalize ifF t c a b = p at *
 generalize tmErr c = ec at *
 generalize tmErr a = ea at *
 generalize tmErr b = eb at *
 generalize a.least 268435456 = la at *
 clear c1 c2 c3
 generalize c.kind = k1 at *
 generalize c.index = i1 at *
 generalize c.type = t1 at *
 generalize c.args = l1 at *
 generalize a.kind = k2 at *
 generalize a.index = i2 at *
 generalize a.type = t2 at *
 generalize a.args = l2 at *
 generalize b.kind = k3 at *
 generalize b.index = i3 at *
 generalize b.type = t3 at *
 generalize b.args = l3 at *
 intro h
 refine en Tryz.func25 [.cell 8 31, .tmp 9] rfl rfl fun g0 w0 gen hrel hfr hfr' hres => ?_
 repeat' (first
  | (first | refine wp rfl ?_ | refine spt rfl ?_ | refine spf rfl ?_ | (refine spl (fun hc => ?_) fun hc => ?_) <;> (try rw [beq_iff_eq] at hc) <;> try simp only [hc] | refine cp (h1) ?_) <;> try simp only [go_sem, *])
 refine AR_loop_nat (fun i σ => σ.tm 24 = .int .i64 i ∧ σ.tm 23 = .agg [.int .i64 k1, .int .i64 i1, .int .i64 t1.kind, .sl .any (t1.args.map Ty.cells), .sl .any (l1.map Tm.cells), .int .i64 k2, .int .i64 i2, .int .i64 t2.kind, .sl .any (t2.args.map Ty.cells), .sl .any (l2.map Tm.cells), .int .i64 k3, .int .i64 i3, .int .i64 t3.kind, .sl .any (t3.args.map Ty.cells), .sl .any (l3.map Tm.cells)] ∧
  σ.tm 4 = .ptr ⟨gen, 0, 0⟩ 0 ∧ σ.tm 5 = .ptr ⟨gen, 0, 1⟩ 0 ∧ σ.tm 6 = .ptr ⟨gen, 0, 2⟩ 0 ∧ σ.tm 7 = .ptr ⟨gen, 0, 3⟩ 0 ∧ σ.tm 8 = .ptr ⟨gen, 0, 4⟩ 0 ∧
  σ.h ⟨gen, 0, 0⟩ = some (.box t.cells) ∧ σ.h ⟨gen, 0, 1⟩ = some (.box [.int .i64 k1, .int .i64 i1, .int .i64 t1.kind, .sl .any (t1.args.map Ty.cells), .sl .any (l1.map Tm.cells)]) ∧
  σ.h ⟨gen, 0, 2⟩ = some (.box [.int .i64 k2, .int .i64 i2, .int .i64 t2.kind, .sl .any (t2.args.map Ty.cells), .sl .any (l2.map Tm.cells)]) ∧
  σ.h ⟨gen, 0, 3⟩ = some (.box [.int .i64 k3, .int .i64 i3, .int .i64 t3.kind, .sl .any (t3.args.map Ty.cells), .sl .any (l3.map Tm.cells)]) ∧
  σ.h ⟨gen, 0, 4⟩ = some (.box [.int .i64 0, .int .i64 0, .int .i64 0, .sl .full [], .sl .full []]) ∧ Agree h σ.h ∧ (1 ≤ i → ec = 0) ∧ (2 ≤ i → ea = 0) ∧ (3 ≤ i → eb = 0)) 3 ?_ ?_
 ·simp only [go_sem, *]
  exact ⟨rfl, by repeat (first | exact Agree.refl _ | assumption | refine Agree.new ?_ (hfr' _ _))⟩
 clear h1
 intro i σ hi ⟨j1, j2, j3, j4, j5, j6, j7, j8, j9, j10, j11, j12, jA, z1, z2, z3⟩
 refine AR_gen2 (fun gn hgl hgn => ?_)
 have hgf := fresh_of hgn
 have hgf0 : ∀ r i, h ⟨gn, r, i⟩ = none := fun r i => agree_fresh jA (hgf r i)
 have eg1 := gen_lt hgl
 have eg2 := gen_lt' hgl
 clear hgn
 match i, hi with
 | 0, _ =>
  replace j1 : σ.tm 24 = .int .i64 0 := j1
  have d1 : decide ((0 : Int) < 3) = true := rfl
  have d2 : ((0 : Int) < ((3 : Nat) : Int)) = True := by simp
  have d3 : IntKind.i64.wrap ((0 : Int) + 1) = ((0 + 1 : Nat) : Int) := rfl
  clear e2 e3 hC f3 f4 f5 z1 z2 z3
  cases q : (ec != 0) with
  | true =>
   have hp := f2 (by simpa using q)
   subst hp
   simp only
   repeat' (first
    | exact hin _ | exact agf (by assumption)
    | (first | refine wp rfl ?_ | refine spt rfl ?_ | refine spf rfl ?_ | (refine spl (fun hc => ?_) fun hc => ?_) <;> (try rw [beq_iff_eq] at hc) <;> try simp only [hc] | refine cp (e1) ?_ | refine finF hrel ?_ ?_ ?_) <;> try simp only [go_sem, *])
  | false =>
   have q0 : ec = 0 := by simpa using q
   clear f2 hz
   repeat' (first
    | (first | refine wp rfl ?_ | refine spt rfl ?_ | refine spf rfl ?_ | (refine spl (fun hc => ?_) fun hc => ?_) <;> (try rw [beq_iff_eq] at hc) <;> try simp only [hc] | refine cp (e1) ?_ | refine AR_inv ?_) <;> try simp only [go_sem, *])
   exact by repeat (first | exact jA | refine Agree.new ?_ (hgf0 _ _))
 | 1, _ =>
  replace j1 : σ.tm 24 = .int .i64 1 := j1
  have d1 : decide ((1 : Int) < 3) = true := rfl
  have d2 : ((1 : Int) < ((3 : Nat) : Int)) = True := by simp
  have d3 : IntKind.i64.wrap ((1 : Int) + 1) = ((1 + 1 : Nat) : Int) := rfl
  clear e1 e3 hC f2 f4 f5 z2 z3
  have z1 := z1 (by omega)
  cases q : (ea != 0) with
  | true =>
   have hp := f3 z1 (by simpa using q)
   subst hp
   simp only
   repeat' (first
    | exact hin _ | exact agf (by assumption)
    | (first | refine wp rfl ?_ | refine spt rfl ?_ | refine spf rfl ?_ | (refine spl (fun hc => ?_) fun hc => ?_) <;> (try rw [beq_iff_eq] at hc) <;> try simp only [hc] | refine cp (e2) ?_ | refine finF hrel ?_ ?_ ?_) <;> try simp only [go_sem, *])
  | false =>
   have q0 : ea = 0 := by simpa using q
   clear f3 hz
   repeat' (first
    | (first | refine wp rfl ?_ | refine spt rfl ?_ | refine spf rfl ?_ | (refine spl (fun hc => ?_) fun hc => ?_) <;> (try rw [beq_iff_eq] at hc) <;> try simp only [hc] | refine cp (e2) ?_ | refine AR_inv ?_) <;> try simp only [go_sem, *])
   exact by repeat (first | exact jA | refine Agree.new ?_ (hgf0 _ _))
 | 2, _ =>
  replace j1 : σ.tm 24 = .int .i64 2 := j1
  have d1 : decide ((2 : Int) < 3) = true := rfl
  have d2 : ((2 : Int) < ((3 : Nat) : Int)) = True := by simp
  have d3 : IntKind.i64.wrap ((2 : Int) + 1) = ((2 + 1 : Nat) : Int) := rfl
  clear e1 e2 hC f2 f3 f5 z3
  have z1 := z1 (by omega)
  have z2 := z2 (by omega)
  cases q : (eb != 0) with
  | true =>
   have hp := f4 z1 z2 (by simpa using q)
   subst hp
   simp only
   repeat' (first
    | exact hin _ | exact agf (by assumption)
    | (first | refine wp rfl ?_ | refine spt rfl ?_ | refine spf rfl ?_ | (refine spl (fun hc => ?_) fun hc => ?_) <;> (try rw [beq_iff_eq] at hc) <;> try simp only [hc] | refine cp (e3) ?_ | refine finF hrel ?_ ?_ ?_) <;> try simp only [go_sem, *])
  | false =>
   have q0 : eb = 0 := by simpa using q
   clear f4 hz
   repeat' (first
    | (first | refine wp rfl ?_ | refine spt rfl ?_ | refine spf rfl ?_ | (refine spl (fun hc => ?_) fun hc => ?_) <;> (try rw [beq_iff_eq] at hc) <;> try simp only [hc] | refine cp (e3) ?_ | refine AR_inv ?_) <;> try simp only [go_sem, *])
   exact by repeat (first | exact jA | refine Agree.new ?_ (hgf0 _ _))
 | 3, _ =>
  replace j1 : σ.tm 24 = .int .i64 3 := j1
  have d1 : decide ((3 : Int) < 3) = false := rfl
  clear e1 e2 e3 f2 f3 f4
  have z1 := z1 (by omega)
  have z2 := z2 (by omega)
  have z3 := z3 (by omega)
  cases q : la with
  | false =>
   have hp := f5 z1 z2 z3 q
   subst hp
   rw [q] at hF
   simp only [Bool.not_false] at hF ⊢
   clear hC
   repeat' (first
    | exact hin _ | exact agf (by assumption)
    | (first | refine wp rfl ?_ | refine spt rfl ?_ | refine spf rfl ?_ | (refine spl (fun hc => ?_) fun hc => ?_) <;> (try rw [beq_iff_eq] at hc) <;> try simp only [hc] | refine cp (hF) ?_ | refine finF hrel ?_ ?_ ?_) <;> try simp only [go_sem, *])
  | true =>
   have hC := hC z1 z2 z3 q
   rw [q] at hF
   simp only [Bool.not_true] at hF
   clear f5
   obtain ⟨p1, p2⟩ := p
   unfold tmErrV at *
   simp only at *
   repeat' (first
    | exact hin _ | exact agf (by assumption)
    | (first | refine wp rfl ?_ | refine spt rfl ?_ | refine spf rfl ?_ | (refine spl (fun hc => ?_) fun hc => ?_) <;> (try rw [beq_iff_eq] at hc) <;> try simp only [hc] | refine cp (hF) ?_ | refine cp (hC) ?_ | refine finF hrel ?_ ?_ ?_) <;> try simp only [go_sem, *])
end Go.Proofs.YtpnjamplciaopaaGreatDoor
