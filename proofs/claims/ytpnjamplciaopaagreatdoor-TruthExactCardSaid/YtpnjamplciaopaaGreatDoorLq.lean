/-
 Walks: the law of the exact terms.
-/
import Derived.Test.YtpnjamplciaopaaGreatDoorLi
import Derived.Test.YtpnjamplciaopaaGreatDoorLo
import Derived.Test.YtpnjamplciaopaaGreatDoorLp
import Derived.Test.YtpnjamplciaopaaGreatDoorGl
import Derived.Test.YtpnjamplciaopaaGreatDoorGm
import Derived.Test.YtpnjamplciaopaaGreatDoorWv
set_option linter.unusedSimpArgs false
set_option linter.unusedVariables false
set_option maxRecDepth 20000
set_option maxHeartbeats 4000000
namespace Go.Proofs.YtpnjamplciaopaaGreatDoor
open Go GoAbs Go.Proofs
theorem tm_cells5 (t : Tm) : ∃ (A0 A1 A2 : Int) (A3 A4 : List (List V)), t.cells = [.int .i64 A0, .int .i64 A1, .int .i64 A2, .sl .any A3, .sl .any A4] ∧ weakLL A3 = A3 ∧ weakLL A4 = A4 :=
 ⟨_, _, _, _, _, Tm.cells_eq t, by simp only [go_sem], by simp only [go_sem]⟩
theorem fm_cells5 (t : Fm) : ∃ (A0 A1 : Int) (A2 A3 A4 : List (List V)), t.cells = [.int .i64 A0, .int .i64 A1, .sl .any A2, .sl .any A3, .sl .any A4] ∧ weakLL A2 = A2 ∧ weakLL A3 = A3 ∧ weakLL A4 = A4 :=
 ⟨_, _, _, _, _, Fm.cells_eq t, by simp only [go_sem], by simp only [go_sem], by simp only [go_sem]⟩
/-- Both forms of the program say the same of a formula, and of a choice. -/
def SayF (c : List V) : Prop := ∃ u : Tm × Int, Pure Tryz.prog env 19 [.agg c] (.tup [.agg u.1.cells, .int .i64 u.2]) ∧ Pure Tryz.prog env 20 [.agg c] (.tup [.agg u.1.cells, .int .i64 u.2]) ∧
 Pure Tryz.prog env 21 [.agg u.1.cells, .agg u.1.cells] (.bool true)
def SayI (y c a b : List V) : Prop := ∃ u : Tm × Int, Pure Tryz.prog env 25 [.agg y, .agg c, .agg a, .agg b] (.tup [.agg u.1.cells, .int .i64 u.2]) ∧ Pure Tryz.prog env 26 [.agg y, .agg c, .agg a, .agg b] (.tup [.agg u.1.cells, .int .i64 u.2]) ∧
 Pure Tryz.prog env 21 [.agg u.1.cells, .agg u.1.cells] (.bool true)
theorem say_F {f : Fm} (h : FmX f) : SayF f.cells := by
 refine ⟨trF f, c_trTerm f h.1 h.2 (far_least f), c_r30Term f h.1 h.2, ?_⟩
 have := c_refTmSame _ (trF_W h) _ (trF_W h)
 rwa [Tm.same_refl] at this
theorem say_I {y : Ty} {c a b : Tm} (hy : TyX y) (hc : TmX c) (ha : TmX a) (hb : TmX b) : SayI y.cells c.cells a.cells b.cells := by
 refine ⟨ifF y c a b, c_trIf y c a b hy.1 hc.1 ha.1 hb.1 hy.2 hc.2 ha.2 hb.2, c_r30If y c a b hy hc ha hb, ?_⟩
 have := c_refTmSame _ (ifF_W hy hc ha hb) _ (ifF_W hy hc ha hb)
 rwa [Tm.same_refl] at this
theorem c_TruthExact (l : List Int) (raw : Fm) (s : Ty) (c a b : Tm) : Pure Tryz.prog env 3 [.sl .any (ints l), .agg raw.cells, .agg s.cells, .agg c.cells, .agg a.cells, .agg b.cells] (.bool true) := by
 have hF := c_Few l
 have s0 := c_sumCount
 have s1 := c_sumFm 0 (by omega) [raw]
 have n1 : sumFm 0 [raw] ≤ 20002 := by rw [(sum_one (f := raw) (s := s)).1]; exact raw.cnt_le 20000
 have s2 := c_sumTy (sumFm 0 [raw]) (by omega) [s]
 have n2 : sumTy (sumFm 0 [raw]) [s] ≤ 45000 := by
  by_cases h1 : sumFm 0 [raw] ≤ 20000
  ·rw [sumTy_cons h1, sumTy]; have := s.cnt_le 20000; omega
  ·rw [sumTy_stop h1]; omega
 have s3 := c_sumTm2 (sumTy (sumFm 0 [raw]) [s]) n2 [c, a, b]
 have s4 := c_sumFew (sumTm (sumTy (sumFm 0 [raw]) [s]) [c, a, b])
 have fits := sum_fits (f := raw) (s := s) (c := c) (a := a) (b := b)
 simp only [List.map_cons, List.map_nil, List.length_cons, List.length_nil] at s1 s2 s3
 replace s1 := s1 (by omega)
 replace s2 := s2 (by omega)
 replace s3 := s3 (by omega)
 generalize sumTm (sumTy (sumFm 0 [raw]) [s]) [c, a, b] = m3 at *
 generalize sumTy (sumFm 0 [raw]) [s] = m2 at *
 generalize sumFm 0 [raw] = m1 at *
 replace s1 : Pure Tryz.prog env 11 [.agg [.int .i64 0], .sl .any [raw.cells]] (.agg [.int .i64 (m1 : Nat)]) := s1
 clear n1 n2
 cases hf : decide ((l.length : Int) ≤ 500) with
 | false =>
  rw [hf] at hF
  clear hf fits s1 s2 s3 s4
  intro h
  refine en Tryz.func3 [.tmp 12] rfl rfl fun g0 w0 gen hrel hfr hfr' hres => ?_
  repeat' (first
   | (refine ⟨?_, ?_⟩; focus ((repeat' (first | refine And.intro ?_ ?_ | refine Or.inr ?_)); all_goals kernel_rfl))
   | exact hin _ | exact agf (by assumption)
   | (first | refine wp rfl ?_ | refine spt rfl ?_ | refine spf rfl ?_ | (refine spl (fun hc => ?_) fun hc => ?_) <;> (try rw [beq_iff_eq] at hc) <;> try simp only [hc] | (refine gs (fun hb => ?_) fun hb => ?_) <;> try simp only [Bool.not_true, Bool.not_false] at hb | refine cp (hF) ?_ | refine cp (c_awake30) ?_ | refine finF hrel ?_ ?_ ?_) <;> try simp only [go_sem, *])
 | true =>
 rw [hf] at hF
 have hl : l.length ≤ 1000 := by simp at hf; omega
 clear hf
 cases hm : decide ((m3 : Int) ≤ 20000) with
 | false =>
  rw [hm] at s4
  clear fits hm
  intro h
  refine en Tryz.func3 [.tmp 12] rfl rfl fun g0 w0 gen hrel hfr hfr' hres => ?_
  repeat' (first
   | (refine ⟨?_, ?_⟩; focus ((repeat' (first | refine And.intro ?_ ?_ | refine Or.inr ?_)); all_goals kernel_rfl))
   | exact hin _ | exact agf (by assumption)
   | (first | refine wp rfl ?_ | refine spt rfl ?_ | refine spf rfl ?_ | (refine spl (fun hc => ?_) fun hc => ?_) <;> (try rw [beq_iff_eq] at hc) <;> try simp only [hc] | (refine gs (fun hb => ?_) fun hb => ?_) <;> try simp only [Bool.not_true, Bool.not_false] at hb | refine cp (hF) ?_ | refine cp (c_awake30) ?_ | refine cp (s0) ?_ | refine cp (s1) ?_ | refine cp (s2) ?_ | refine cp (s3) ?_ | refine cp (s4) ?_ | refine finF hrel ?_ ?_ ?_) <;> try simp only [go_sem, *])
 | true =>
 rw [hm] at s4
 obtain ⟨r1, r2, r3, r4, r5⟩ := fits (by simp at hm; omega)
 clear hm
 have X1 := FmX.raw r1
 have Y1 := TyX.raw r2
 have Z1 := TmX.raw r3
 have Z2 := TmX.raw r4
 have Z3 := TmX.raw r5
 have Z4 := TmX.far (i := 268435457) (by omega)
 clear r1 r2 r3 r4 r5
 have hN := c_New l
 have hNt := c_playNat
 obtain ⟨g, a1, hg, hgl, hC⟩ := c_Context l hl 0
 have hgF : ∀ y ∈ g, TyF y ∧ tyH y ≤ 40 := fun y hy => ⟨(hg y hy).F, by have := (hg y hy).H; omega⟩
 have hg3 : ∀ y ∈ g, tySz y ≤ 3 := fun y hy => (hg y hy).sz1
 have hgG : ∀ y ∈ g, TyG y := fun y hy => (hg y hy).G (by omega)
 obtain ⟨f1, a2, mf1, wf1, T1⟩ := c_Formula l hl 2 (by omega) g a1 hgF (by omega)
 obtain ⟨f2, a3, mf2, wf2, T2⟩ := c_Decidable l hl 2 (by omega) g a2 hg (by omega)
 obtain ⟨f3, a4, mf3, wf3, T3⟩ := c_Decidable l hl 0 (by omega) g a3 hg (by omega)
 obtain ⟨f4, a5, mf4, wf4, T4⟩ := c_Decidable l hl 0 (by omega) g a4 hg (by omega)
 have X2 : FmX f1 := .of (mf1.G hgG) (by have := mf1.sz hg3; omega) wf1
 obtain ⟨d1, d2, -⟩ := mf2.all hg (by omega)
 obtain ⟨d3, d4, -⟩ := mf3.all hg (by omega)
 obtain ⟨d5, d6, -⟩ := mf4.all hg (by omega)
 have X3 : FmX f2 := .of d1 (by omega) wf2
 have X4 : FmX (fmTwo 3 f3 f4) := .of (.two (.inr rfl) d3 d5) (by rw [fmSz_two]; omega) (fmTwo_W wf3 wf4)
 clear d1 d2 d3 d4 d5 d6 mf1 mf2 mf3 mf4 wf1 wf2 wf3 wf4
 have ms := mkType_Mk (l := l) 1 a5
 have hTs := fun d => c_Type l hl d 1 (by omega) a5
 generalize mkType l 1 a5 = q at ms hTs
 obtain ⟨t, a6⟩ := q
 simp only at ms hTs
 have hH : tyH t ≤ 40 := by have := ms.H; omega
 have gt : TyG t := ms.G (by omega)
 have zt := ms.sz1
 have n3 := tySz_nat
 have e2 : Int.toNat 2 = 2 := rfl
 obtain ⟨m1, a7, mm1, wm1, T5⟩ := c_Term l hl 2 g tNat a6 hgF .nat (by have := (TyG.nat).h40; omega) (by have := (TyG.nat).h40; omega) (by have := (TyG.nat).h40; omega)
 obtain ⟨m2', a8, mm2, wm2, T6⟩ := c_Term l hl 2 g t a7 hgF ms.F hH (by omega) (by omega)
 obtain ⟨m3', a9, mm3, wm3, T7⟩ := c_Term l hl 2 g t a8 hgF ms.F hH (by omega) (by omega)
 rw [e2] at mm1 mm2 mm3
 have tx : ∀ {s : Ty} {x : Tm}, TyG s → tySz s ≤ 15 → MkTm 2 g s x → TmW x → TmX x := fun gs zs mx wx => by
  obtain ⟨ra, za, ta⟩ := mk_term (by omega) hg (by omega) gs zs mx
  exact ⟨wx, fun _ => ⟨ra.gd, by omega⟩⟩
 have Z5 := tx .nat (by omega) mm1 wm1
 have Z6 := tx gt (by omega) mm2 wm2
 have Z7 := tx gt (by omega) mm3 wm3
 have Y2 : TyX t := ⟨ms.F.W, fun _ => gt⟩
 have I1 := fun {y : Ty} (hy : TyX y) => say_I hy Z1 Z2 Z3
 have I2 := fun {y : Ty} (hy : TyX y) => say_I hy Z5 Z6 Z7
 have I3 := fun {y : Ty} (hy : TyX y) => say_I hy Z1 Z4 Z3
 have F1 := say_F X1
 have F2 := say_F X2
 have F3 := say_F X3
 have F4 := say_F X4
 have ef : (fmTwo 3 f3 f4).cells = [.int .i64 3, .int .i64 0, .sl .any [], .sl .any [], .sl .any [f3.cells, f4.cells]] := by rw [fmTwo, Fm.mk_cells]; rfl
 have ev : (tmVar 268435457).cells = [.int .i64 1, .int .i64 268435457, .int .i64 0, .sl .any [], .sl .any []] := by rw [tmVar, Tm.mk_cells]; rfl
 rw [ef] at F4
 rw [ev] at I3
 have hwk : weakLL (g.map Ty.cells) = g.map Ty.cells := weakLL_Ty g
 clear ef ev tx mm1 mm2 mm3 wm1 wm2 wm3 ms hH gt zt n3 e2 hgF hg3 hgG hg X1 X2 X3 X4 Z1 Z2 Z3 Z4 Z5 Z6 Z7
 obtain ⟨q0, q1, q2, q3, q4, ec, qw2, qw3, qw4⟩ := fm_cells5 raw
 obtain ⟨p0, p1, p2, p3, p4, ed, pw2, pw3, pw4⟩ := fm_cells5 f1
 obtain ⟨k0, k1, k2, k3, k4, ee, kw2, kw3, kw4⟩ := fm_cells5 f2
 obtain ⟨A0, A1, A2, A3, A4, eA, Aw3, Aw4⟩ := tm_cells5 c
 obtain ⟨B0, B1, B2, B3, B4, eB, Bw3, Bw4⟩ := tm_cells5 a
 obtain ⟨C0, C1, C2, C3, C4, eC, Cw3, Cw4⟩ := tm_cells5 b
 obtain ⟨D0, D1, D2, D3, D4, eD, Dw3, Dw4⟩ := tm_cells5 m1
 obtain ⟨E0, E1, E2, E3, E4, eE, Ew3, Ew4⟩ := tm_cells5 m2'
 obtain ⟨G0, G1, G2, G3, G4, eG, Gw3, Gw4⟩ := tm_cells5 m3'
 rw [ec] at F1 s1
 rw [ed] at F2 T1
 rw [ee] at F3 T2
 rw [eA, eB, eC] at s3
 simp only [eA, eB, eC] at I1
 simp only [eD, eE, eG] at I2
 simp only [eA, eC] at I3
 rw [eD] at T5
 rw [eE] at T6
 rw [eG] at T7
 rw [ec, eA, eB, eC]
 clear ec ed ee eA eB eC eD eE eG
 have row1 : ∀ x ∈ ([[.int .i64 q0, .int .i64 q1, .sl .any q2, .sl .any q3, .sl .any q4], [.int .i64 p0, .int .i64 p1, .sl .any p2, .sl .any p3, .sl .any p4], [.int .i64 k0, .int .i64 k1, .sl .any k2, .sl .any k3, .sl .any k4], [.int .i64 3, .int .i64 0, .sl .full [], .sl .full [], .sl .full [f3.cells, f4.cells]]] : List (List V)),
   ∃ (A0 A1 : Int) (c2 c3 c4 : Cap) (A2 A3 A4 : List (List V)), x = [.int .i64 A0, .int .i64 A1, .sl c2 A2, .sl c3 A3, .sl c4 A4] ∧ SayF [.int .i64 A0, .int .i64 A1, .sl .any (weakLL A2), .sl .any (weakLL A3), .sl .any (weakLL A4)] := by
  intro x hx
  simp only [List.mem_cons, List.not_mem_nil, or_false] at hx
  rcases hx with rfl | rfl | rfl | rfl
  ·exact ⟨_, _, _, _, _, _, _, _, rfl, by rw [qw2, qw3, qw4]; exact F1⟩
  ·exact ⟨_, _, _, _, _, _, _, _, rfl, by rw [pw2, pw3, pw4]; exact F2⟩
  ·exact ⟨_, _, _, _, _, _, _, _, rfl, by rw [kw2, kw3, kw4]; exact F3⟩
  ·refine ⟨_, _, _, _, _, _, _, _, rfl, ?_⟩
   simp only [weakLL, weakL_Fm]
   exact F4
 have row2 : ∀ x ∈ ([[.int .i64 A0, .int .i64 A1, .int .i64 A2, .sl .any A3, .sl .any A4, .int .i64 B0, .int .i64 B1, .int .i64 B2, .sl .any B3, .sl .any B4, .int .i64 C0, .int .i64 C1, .int .i64 C2, .sl .any C3, .sl .any C4], [.int .i64 D0, .int .i64 D1, .int .i64 D2, .sl .any D3, .sl .any D4, .int .i64 E0, .int .i64 E1, .int .i64 E2, .sl .any E3, .sl .any E4, .int .i64 G0, .int .i64 G1, .int .i64 G2, .sl .any G3, .sl .any G4], [.int .i64 A0, .int .i64 A1, .int .i64 A2, .sl .any A3, .sl .any A4, .int .i64 1, .int .i64 268435457, .int .i64 0, .sl .full [], .sl .full [], .int .i64 C0, .int .i64 C1, .int .i64 C2, .sl .any C3, .sl .any C4]] : List (List V)),
   ∃ (A0 A1 A2 B0 B1 B2 C0 C1 C2 : Int) (a3 a4 b3 b4 c3 c4 : Cap) (A3 A4 B3 B4 C3 C4 : List (List V)), x = [.int .i64 A0, .int .i64 A1, .int .i64 A2, .sl a3 A3, .sl a4 A4, .int .i64 B0, .int .i64 B1, .int .i64 B2, .sl b3 B3, .sl b4 B4, .int .i64 C0, .int .i64 C1, .int .i64 C2, .sl c3 C3, .sl c4 C4] ∧
    ∀ {y : Ty}, TyX y → SayI y.cells [.int .i64 A0, .int .i64 A1, .int .i64 A2, .sl .any (weakLL A3), .sl .any (weakLL A4)] [.int .i64 B0, .int .i64 B1, .int .i64 B2, .sl .any (weakLL B3), .sl .any (weakLL B4)] [.int .i64 C0, .int .i64 C1, .int .i64 C2, .sl .any (weakLL C3), .sl .any (weakLL C4)] := by
  intro x hx
  simp only [List.mem_cons, List.not_mem_nil, or_false] at hx
  rcases hx with rfl | rfl | rfl
  ·exact ⟨_, _, _, _, _, _, _, _, _, _, _, _, _, _, _, _, _, _, _, _, _, rfl, by rw [Aw3, Aw4, Bw3, Bw4, Cw3, Cw4]; exact I1⟩
  ·exact ⟨_, _, _, _, _, _, _, _, _, _, _, _, _, _, _, _, _, _, _, _, _, rfl, by rw [Dw3, Dw4, Ew3, Ew4, Gw3, Gw4]; exact I2⟩
  ·refine ⟨_, _, _, _, _, _, _, _, _, _, _, _, _, _, _, _, _, _, _, _, _, rfl, ?_⟩
   simp only [weakLL, Aw3, Aw4, Cw3, Cw4]
   exact I3
 clear I1 I2 I3 F1 F2 F3 F4
 intro h
 refine en Tryz.func3 [.tmp 12] rfl rfl fun g0 w0 gen hrel hfr hfr' hres => ?_
 repeat' (first
  | (refine ⟨?_, ?_⟩; focus ((repeat' (first | refine And.intro ?_ ?_ | refine Or.inr ?_)); all_goals kernel_rfl))
  | (first | refine wp rfl ?_ | refine spt rfl ?_ | refine spf rfl ?_ | (refine spl (fun hc => ?_) fun hc => ?_) <;> (try rw [beq_iff_eq] at hc) <;> try simp only [hc] | (refine gs (fun hb => ?_) fun hb => ?_) <;> try simp only [Bool.not_true, Bool.not_false] at hb | refine cp (hF) ?_ | refine cp (c_awake30) ?_ | refine cp (s0) ?_ | refine cp (s1) ?_ | refine cp (s2) ?_ | refine cp (s3) ?_ | refine cp (s4) ?_ | refine Call1_new ⟨gen, 1000, 0⟩ (hN) (by first | exact hfr' _ _ | simp only [go_sem, *]) ?_ | (refine ct (hC _) ?_ ?_; focus ((simp only [go_sem, *] <;> rfl); done)) | (refine ct (T1 _) ?_ ?_; focus ((simp only [go_sem, *] <;> rfl); done)) | (refine ct (T2 _) ?_ ?_; focus ((simp only [go_sem, *] <;> rfl); done)) | (refine ct (T3 _) ?_ ?_; focus ((simp only [go_sem, *] <;> rfl); done)) | (refine ct (T4 _) ?_ ?_; focus ((simp only [go_sem, *] <;> rfl); done))) <;> try simp only [go_sem, *])
 clear hF s0 s1 s2 s3 s4 T1 T2 T3 T4 hC hN
 refine AR_range [8, 9, 10, 11, 13, 14, 73] [⟨gen, 0, 1⟩, ⟨gen, 0, 2⟩, ⟨gen, 0, 3⟩, ⟨gen, 0, 4⟩] (fun i σ => Agree h σ.h ∧ σ.h ⟨gen, 1000, 0⟩ = some (.box (deckC l a5))) (([[.int .i64 q0, .int .i64 q1, .sl .any q2, .sl .any q3, .sl .any q4], [.int .i64 p0, .int .i64 p1, .sl .any p2, .sl .any p3, .sl .any p4], [.int .i64 k0, .int .i64 k1, .sl .any k2, .sl .any k3, .sl .any k4], [.int .i64 3, .int .i64 0, .sl .full [], .sl .full [], .sl .full [f3.cells, f4.cells]]] : List (List V))).length (by first | omega | (simp only [go_sem, *] <;> omega)) ⟨rfl, rfl, rfl⟩ rfl (by simp only [go_sem, *]) (by simp only [go_sem, *]) ?_ (by intro i σ t v ht hK; simp only [List.mem_cons, List.not_mem_nil, or_false] at ht; rcases ht with rfl | rfl | rfl <;> exact hK) ?_ ?_
 ·simp only [go_sem, *]
  first | exact (by repeat (first | exact Agree.refl _ | assumption | refine Agree.new ?_ (hgf0 _ _) | refine Agree.new ?_ (hfr' _ _))) | exact ⟨(by repeat (first | exact Agree.refl _ | assumption | refine Agree.new ?_ (hgf0 _ _) | refine Agree.new ?_ (hfr' _ _))), trivial⟩ | exact ⟨(by repeat (first | exact Agree.refl _ | assumption | refine Agree.new ?_ (hgf0 _ _) | refine Agree.new ?_ (hfr' _ _))), rfl⟩
 ·clear row2 T5 T6 T7 hTs hNt
  intro i σ gr0 hgl_gr0 hgn hlt jI jN jS ⟨jA, jd⟩
  obtain ⟨jT, jB⟩ := jS
  simp only [go_sem] at jT jB
  have hgf := fresh_of hgn
  have hgf0 : ∀ r i, h ⟨gr0, r, i⟩ = none := fun r i => agree_fresh jA (hgf r i)
  have eg_gen_gr0 := gen_lt (show gen < gr0 by omega)
  have eh_gen_gr0 := gen_lt' (show gen < gr0 by omega)
  obtain ⟨x, hx⟩ : ∃ x, (([[.int .i64 q0, .int .i64 q1, .sl .any q2, .sl .any q3, .sl .any q4], [.int .i64 p0, .int .i64 p1, .sl .any p2, .sl .any p3, .sl .any p4], [.int .i64 k0, .int .i64 k1, .sl .any k2, .sl .any k3, .sl .any k4], [.int .i64 3, .int .i64 0, .sl .full [], .sl .full [], .sl .full [f3.cells, f4.cells]]] : List (List V)))[i]? = some x := ⟨_, List.getElem?_eq_getElem hlt⟩
  have hxm := List.mem_of_getElem? hx
  have hm := min_lt hlt
  clear hgn
  obtain ⟨x0, x1, y2, y3, y4, x2, x3, x4, rfl, ⟨ua, ue⟩, c1, c2, c3⟩ := row1 x hxm
  simp only at c1 c2 c3
  have ee : (ue != ue) = false := by simp
  clear hxm row1
  repeat' (first
   | (refine ⟨?_, ?_⟩; focus ((repeat' (first | refine And.intro ?_ ?_ | refine Or.inr ?_)); all_goals kernel_rfl))
   | (first | refine wp rfl ?_ | refine spt rfl ?_ | refine spf rfl ?_ | (refine spl (fun hc => ?_) fun hc => ?_) <;> (try rw [beq_iff_eq] at hc) <;> try simp only [hc] | (refine gs (fun hb => ?_) fun hb => ?_) <;> try simp only [Bool.not_true, Bool.not_false] at hb | refine cp (c1) ?_ | refine cp (c2) ?_ | refine cp (c3) ?_ | refine AR_inv ?_) <;> try simp only [go_sem, *])
  all_goals first | exact (by repeat (first | exact Agree.refl _ | assumption | refine Agree.new ?_ (hgf0 _ _) | refine Agree.new ?_ (hfr' _ _))) | exact ⟨(by repeat (first | exact Agree.refl _ | assumption | refine Agree.new ?_ (hgf0 _ _) | refine Agree.new ?_ (hfr' _ _))), trivial⟩ | exact ⟨(by repeat (first | exact Agree.refl _ | assumption | refine Agree.new ?_ (hgf0 _ _) | refine Agree.new ?_ (hfr' _ _))), rfl⟩ | skip
 clear row1
 ·
  intro σ ga0 hgl_ga0 hgn jS ⟨jA, jd⟩
  obtain ⟨jT, jB⟩ := jS
  simp only [go_sem] at jT jB
  have hgf := fresh_of hgn
  have hgf0 : ∀ r i, h ⟨ga0, r, i⟩ = none := fun r i => agree_fresh jA (hgf r i)
  have eg_gen_ga0 := gen_lt (show gen < ga0 by omega)
  have eh_gen_ga0 := gen_lt' (show gen < ga0 by omega)
  clear hgn
  repeat' (first
   | (refine ⟨?_, ?_⟩; focus ((repeat' (first | refine And.intro ?_ ?_ | refine Or.inr ?_)); all_goals kernel_rfl))
   | (first | refine wp rfl ?_ | refine spt rfl ?_ | refine spf rfl ?_ | (refine spl (fun hc => ?_) fun hc => ?_) <;> (try rw [beq_iff_eq] at hc) <;> try simp only [hc] | (refine gs (fun hb => ?_) fun hb => ?_) <;> try simp only [Bool.not_true, Bool.not_false] at hb | refine cp (hNt) ?_ | (refine ct (hTs _) ?_ ?_; focus ((simp only [go_sem, *] <;> rfl); done)) | (refine ct (T5 _) ?_ ?_; focus ((simp only [go_sem, *] <;> rfl); done)) | (refine ct (T6 _) ?_ ?_; focus ((simp only [go_sem, *] <;> rfl); done)) | (refine ct (T7 _) ?_ ?_; focus ((simp only [go_sem, *] <;> rfl); done))) <;> try simp only [go_sem, *])
  clear T5 T6 T7 hTs hNt
  refine AR_range [8, 21, 122] [⟨gen, 0, 1⟩, ⟨ga0, 13, 2⟩] (fun i σ => Agree h σ.h ∧ True) (([[.int .i64 A0, .int .i64 A1, .int .i64 A2, .sl .any A3, .sl .any A4, .int .i64 B0, .int .i64 B1, .int .i64 B2, .sl .any B3, .sl .any B4, .int .i64 C0, .int .i64 C1, .int .i64 C2, .sl .any C3, .sl .any C4], [.int .i64 D0, .int .i64 D1, .int .i64 D2, .sl .any D3, .sl .any D4, .int .i64 E0, .int .i64 E1, .int .i64 E2, .sl .any E3, .sl .any E4, .int .i64 G0, .int .i64 G1, .int .i64 G2, .sl .any G3, .sl .any G4], [.int .i64 A0, .int .i64 A1, .int .i64 A2, .sl .any A3, .sl .any A4, .int .i64 1, .int .i64 268435457, .int .i64 0, .sl .full [], .sl .full [], .int .i64 C0, .int .i64 C1, .int .i64 C2, .sl .any C3, .sl .any C4]] : List (List V))).length (by first | omega | (simp only [go_sem, *] <;> omega)) ⟨rfl, rfl, rfl⟩ rfl (by simp only [go_sem, *]) (by simp only [go_sem, *]) ?_ (by intro i σ t v ht hK; simp only [List.mem_cons, List.not_mem_nil, or_false] at ht; rcases ht with rfl | rfl | rfl <;> exact hK) ?_ ?_
  ·simp only [go_sem, *]
   first | exact (by repeat (first | exact Agree.refl _ | assumption | refine Agree.new ?_ (hgf0 _ _) | refine Agree.new ?_ (hfr' _ _))) | exact ⟨(by repeat (first | exact Agree.refl _ | assumption | refine Agree.new ?_ (hgf0 _ _) | refine Agree.new ?_ (hfr' _ _))), trivial⟩
  ·
   intro i σ gr1 hgl_gr1 hgn hlt jI jN jS ⟨jA, _⟩
   obtain ⟨jT, jB⟩ := jS
   simp only [go_sem] at jT jB
   have hgf := fresh_of hgn
   have hgf0 : ∀ r i, h ⟨gr1, r, i⟩ = none := fun r i => agree_fresh jA (hgf r i)
   have eg_gen_gr1 := gen_lt (show gen < gr1 by omega)
   have eh_gen_gr1 := gen_lt' (show gen < gr1 by omega)
   have eg_ga0_gr1 := gen_lt (show ga0 < gr1 by omega)
   have eh_ga0_gr1 := gen_lt' (show ga0 < gr1 by omega)
   obtain ⟨x, hx⟩ : ∃ x, (([[.int .i64 A0, .int .i64 A1, .int .i64 A2, .sl .any A3, .sl .any A4, .int .i64 B0, .int .i64 B1, .int .i64 B2, .sl .any B3, .sl .any B4, .int .i64 C0, .int .i64 C1, .int .i64 C2, .sl .any C3, .sl .any C4], [.int .i64 D0, .int .i64 D1, .int .i64 D2, .sl .any D3, .sl .any D4, .int .i64 E0, .int .i64 E1, .int .i64 E2, .sl .any E3, .sl .any E4, .int .i64 G0, .int .i64 G1, .int .i64 G2, .sl .any G3, .sl .any G4], [.int .i64 A0, .int .i64 A1, .int .i64 A2, .sl .any A3, .sl .any A4, .int .i64 1, .int .i64 268435457, .int .i64 0, .sl .full [], .sl .full [], .int .i64 C0, .int .i64 C1, .int .i64 C2, .sl .any C3, .sl .any C4]] : List (List V)))[i]? = some x := ⟨_, List.getElem?_eq_getElem hlt⟩
   have hxm := List.mem_of_getElem? hx
   have hm := min_lt hlt
   clear hgn
   obtain ⟨a0, a1, a2, b0, b1, b2, c0, c1, c2, u3, u4, v3, v4, w3, w4, a3, a4, b3, b4, c3, c4, rfl, hS⟩ := row2 x hxm
   clear hxm row2
   repeat' (first
    | (refine ⟨?_, ?_⟩; focus ((repeat' (first | refine And.intro ?_ ?_ | refine Or.inr ?_)); all_goals kernel_rfl))
    | (first | refine wp rfl ?_ | refine spt rfl ?_ | refine spf rfl ?_ | (refine spl (fun hc => ?_) fun hc => ?_) <;> (try rw [beq_iff_eq] at hc) <;> try simp only [hc] | (refine gs (fun hb => ?_) fun hb => ?_) <;> try simp only [Bool.not_true, Bool.not_false] at hb) <;> try simp only [go_sem, *])
   refine AR_range [8, 21, 23, 122, 123, 124, 130] [⟨gen, 0, 1⟩, ⟨ga0, 13, 2⟩, ⟨gr1, 16, 2⟩] (fun i σ => Agree h σ.h ∧ True) (([s.cells, t.cells] : List (List V))).length (by first | omega | (simp only [go_sem, *] <;> omega)) ⟨rfl, rfl, rfl⟩ rfl (by simp only [go_sem, *]) (by simp only [go_sem, *]) ?_ (by intro i σ t v ht hK; simp only [List.mem_cons, List.not_mem_nil, or_false] at ht; rcases ht with rfl | rfl | rfl <;> exact hK) ?_ ?_
   ·simp only [go_sem, *]
    first | exact (by repeat (first | exact Agree.refl _ | assumption | refine Agree.new ?_ (hgf0 _ _) | refine Agree.new ?_ (hfr' _ _))) | exact ⟨(by repeat (first | exact Agree.refl _ | assumption | refine Agree.new ?_ (hgf0 _ _) | refine Agree.new ?_ (hfr' _ _))), trivial⟩
   ·clear hx
    intro i σ gr2 hgl_gr2 hgn hlt jI jN jS ⟨jA, _⟩
    obtain ⟨jT, jB⟩ := jS
    simp only [go_sem] at jT jB
    have hgf := fresh_of hgn
    have hgf0 : ∀ r i, h ⟨gr2, r, i⟩ = none := fun r i => agree_fresh jA (hgf r i)
    have eg_gen_gr2 := gen_lt (show gen < gr2 by omega)
    have eh_gen_gr2 := gen_lt' (show gen < gr2 by omega)
    have eg_ga0_gr2 := gen_lt (show ga0 < gr2 by omega)
    have eh_ga0_gr2 := gen_lt' (show ga0 < gr2 by omega)
    have eg_gr1_gr2 := gen_lt (show gr1 < gr2 by omega)
    have eh_gr1_gr2 := gen_lt' (show gr1 < gr2 by omega)
    obtain ⟨x, hx⟩ : ∃ x, (([s.cells, t.cells] : List (List V)))[i]? = some x := ⟨_, List.getElem?_eq_getElem hlt⟩
    have hxm := List.mem_of_getElem? hx
    have hm := min_lt hlt
    clear hgn
    have hy : ∃ y : Ty, x = y.cells ∧ TyX y := by
     simp only [List.mem_cons, List.not_mem_nil, or_false] at hxm
     rcases hxm with rfl | rfl
     ·exact ⟨s, rfl, Y1⟩
     ·exact ⟨t, rfl, Y2⟩
    obtain ⟨y, rfl, hy⟩ := hy
    obtain ⟨⟨ua, ue⟩, h1, h2, h3⟩ := hS hy
    simp only at h1 h2 h3
    have ee : (ue != ue) = false := by simp
    clear hxm hS hy
    have d0 : ((0 : Int) < ((3 : Nat) : Int)) = True := by simp
    have d1 : ((1 : Int) < ((3 : Nat) : Int)) = True := by simp
    have d2 : ((2 : Int) < ((3 : Nat) : Int)) = True := by simp
    repeat' (first
     | (refine ⟨?_, ?_⟩; focus ((repeat' (first | refine And.intro ?_ ?_ | refine Or.inr ?_)); all_goals kernel_rfl))
     | (first | refine wp rfl ?_ | refine spt rfl ?_ | refine spf rfl ?_ | (refine spl (fun hc => ?_) fun hc => ?_) <;> (try rw [beq_iff_eq] at hc) <;> try simp only [hc] | (refine gs (fun hb => ?_) fun hb => ?_) <;> try simp only [Bool.not_true, Bool.not_false] at hb | refine cp (h1) ?_ | refine cp (h2) ?_ | refine cp (h3) ?_ | refine AR_inv ?_) <;> try simp only [go_sem, *])
    all_goals first | exact (by repeat (first | exact Agree.refl _ | assumption | refine Agree.new ?_ (hgf0 _ _) | refine Agree.new ?_ (hfr' _ _))) | exact ⟨(by repeat (first | exact Agree.refl _ | assumption | refine Agree.new ?_ (hgf0 _ _) | refine Agree.new ?_ (hfr' _ _))), trivial⟩ | skip
   ·
    intro σ ga2 hgl_ga2 hgn jS ⟨jA, _⟩
    obtain ⟨jT, jB⟩ := jS
    simp only [go_sem] at jT jB
    have hgf := fresh_of hgn
    have hgf0 : ∀ r i, h ⟨ga2, r, i⟩ = none := fun r i => agree_fresh jA (hgf r i)
    have eg_gen_ga2 := gen_lt (show gen < ga2 by omega)
    have eh_gen_ga2 := gen_lt' (show gen < ga2 by omega)
    have eg_ga0_ga2 := gen_lt (show ga0 < ga2 by omega)
    have eh_ga0_ga2 := gen_lt' (show ga0 < ga2 by omega)
    have eg_gr1_ga2 := gen_lt (show gr1 < ga2 by omega)
    have eh_gr1_ga2 := gen_lt' (show gr1 < ga2 by omega)
    clear hgn
    repeat' (first
     | (refine ⟨?_, ?_⟩; focus ((repeat' (first | refine And.intro ?_ ?_ | refine Or.inr ?_)); all_goals kernel_rfl))
     | (first | refine wp rfl ?_ | refine spt rfl ?_ | refine spf rfl ?_ | (refine spl (fun hc => ?_) fun hc => ?_) <;> (try rw [beq_iff_eq] at hc) <;> try simp only [hc] | (refine gs (fun hb => ?_) fun hb => ?_) <;> try simp only [Bool.not_true, Bool.not_false] at hb | refine AR_inv ?_) <;> try simp only [go_sem, *])
    all_goals first | exact (by repeat (first | exact Agree.refl _ | assumption | refine Agree.new ?_ (hgf0 _ _) | refine Agree.new ?_ (hfr' _ _))) | exact ⟨(by repeat (first | exact Agree.refl _ | assumption | refine Agree.new ?_ (hgf0 _ _) | refine Agree.new ?_ (hfr' _ _))), trivial⟩ | skip
  ·
   intro σ ga1 hgl_ga1 hgn jS ⟨jA, _⟩
   obtain ⟨jT, jB⟩ := jS
   simp only [go_sem] at jT jB
   have hgf := fresh_of hgn
   have hgf0 : ∀ r i, h ⟨ga1, r, i⟩ = none := fun r i => agree_fresh jA (hgf r i)
   have eg_gen_ga1 := gen_lt (show gen < ga1 by omega)
   have eh_gen_ga1 := gen_lt' (show gen < ga1 by omega)
   have eg_ga0_ga1 := gen_lt (show ga0 < ga1 by omega)
   have eh_ga0_ga1 := gen_lt' (show ga0 < ga1 by omega)
   clear hgn
   repeat' (first
    | (refine ⟨?_, ?_⟩; focus ((repeat' (first | refine And.intro ?_ ?_ | refine Or.inr ?_)); all_goals kernel_rfl))
    | exact hin _ | exact agf (by assumption)
    | (first | refine wp rfl ?_ | refine spt rfl ?_ | refine spf rfl ?_ | (refine spl (fun hc => ?_) fun hc => ?_) <;> (try rw [beq_iff_eq] at hc) <;> try simp only [hc] | (refine gs (fun hb => ?_) fun hb => ?_) <;> try simp only [Bool.not_true, Bool.not_false] at hb | refine finF hrel ?_ ?_ ?_) <;> try simp only [go_sem, *])
end Go.Proofs.YtpnjamplciaopaaGreatDoor
