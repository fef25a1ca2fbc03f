/-
 Walks: putting values for variables.
-/
import Derived.Test.YtenelbgbjmijiaaGreatDoorOs
import Derived.Test.YtenelbgbjmijiaaGreatDoorOv
import Derived.Test.YtenelbgbjmijiaaGreatDoorOn
import Derived.Test.YtenelbgbjmijiaaGreatDoorVf
import Derived.Test.YtenelbgbjmijiaaGreatDoorAbsDc
set_option linter.unusedSimpArgs false
set_option linter.unusedVariables false
set_option maxRecDepth 20000
set_option maxHeartbeats 4000000
namespace Go.Proofs.YtenelbgbjmijiaaGreatDoor
open Go GoAbs Go.Proofs
def WorldOk (l : List Int) (a : Nat) : Prop := ∃ (g : List Ty) (vs : List PVl) (ts : List Tm) (f : Fm) (a' : Nat), IsVls g vs ts ∧ g.length ≤ 2 ∧ (∀ t ∈ ts, tmSz t ≤ 22) ∧ (∀ y ∈ g, MkTy 1 y) ∧ MkDec 2 g f ∧ FmW f ∧
  ∀ d, Turns Tryz.prog env 55 [.ptr d 0] d (.box (deckC l a)) (.tup [.sl .any (g.map Ty.cells), .agg f.cells, .sl .any (vs.map PVl.cells)]) (.box (deckC l a'))
theorem c_world (l : List Int) (hl : l.length ≤ 1000) (a : Nat) : WorldOk l a := by
 have hr := nextD_range (l := l) (a := a) (n := 3) (by omega) (by omega)
 have hX := c_Next l hl
 generalize hq : nextD l a 3 = q at hr
 obtain ⟨c, a1⟩ := q
 have hN : ∀ d, Turns Tryz.prog env 61 [.ptr d 0, .int .i64 3] d (.box (deckC l a)) (.int .i64 c) (.box (deckC l a1)) := fun d => by
  have := hX d a 3
  rw [hq] at this
  exact this
 simp only at hr
 obtain ⟨s1, a2, p1, P1⟩ := c_Plain l hl a1
 obtain ⟨v1, m1, a3, i1, z1, V1⟩ := c_Value l hl p1 a2
 obtain ⟨s2, a4, p2, P2⟩ := c_Plain l hl a3
 obtain ⟨v2, m2, a5, i2, z2, V2⟩ := c_Value l hl p2 a4
 obtain ⟨n, hn, rfl⟩ : ∃ n : Nat, n ≤ 2 ∧ c = n := ⟨c.toNat, by omega, by omega⟩
 have mk := fun (g : List Ty) (hg : ∀ y ∈ g, MkTy 1 y) (hgl : g.length ≤ 2) (b : Nat) => c_Decidable l hl 2 (by omega) g b hg (by omega)
 have k0 : IsVls [] [] [] := .nil
 have k1 : IsVls [s1] [v1] [m1] := .snoc k0 i1 p1.G (by omega)
 have k2 : IsVls [s1, s2] [v1, v2] [m1, m2] := .snoc k1 i2 p2.G (by omega)
 have fin : ∀ (g : List Ty) (vs : List PVl) (ts : List Tm) (b : Nat), IsVls g vs ts → g.length ≤ 2 → (∀ t ∈ ts, tmSz t ≤ 22) → (∀ y ∈ g, MkTy 1 y) → (∀ (f : Fm) (a' : Nat), (∀ d, Turns Tryz.prog env 16 [.ptr d 0, .sl .any (g.map Ty.cells), .int .i64 2] d (.box (deckC l b)) (.agg f.cells) (.box (deckC l a'))) →
   ∀ d, Turns Tryz.prog env 55 [.ptr d 0] d (.box (deckC l a)) (.tup [.sl .any (g.map Ty.cells), .agg f.cells, .sl .any (vs.map PVl.cells)]) (.box (deckC l a'))) → WorldOk l a := by
  intro g vs ts b h1 h2 h3 h4 h5
  obtain ⟨f, a', mf, wf, Tf⟩ := mk g h4 h2 b
  exact ⟨g, vs, ts, f, a', h1, h2, h3, h4, mf, wf, h5 f a' Tf⟩
 have hc : n = 0 ∨ n = 1 ∨ n = 2 := by omega
 have go : ∀ (G : Nat → List Ty) (W : Nat → List PVl) (T : Nat → List Tm) (D : Nat → Nat), D 0 = a1 → D 1 = a3 → D 2 = a5 → G 0 = [] → G 1 = [s1] → G 2 = [s1, s2] → W 0 = [] → W 1 = [v1] → W 2 = [v1, v2] → T 0 = [] → T 1 = [m1] → T 2 = [m1, m2] → _ :=
  fun G W T D d0 d1 d2 g0 g1 g2 w0 w1 w2 t0 t1 t2 => fin (G n) (W n) (T n) (D n)
   (by
    rcases hc with rfl | rfl | rfl
    ·rw [g0, w0, t0]; exact k0
    ·rw [g1, w1, t1]; exact k1
    ·rw [g2, w2, t2]; exact k2)
   (by
    rcases hc with rfl | rfl | rfl
    ·rw [g0]; simp
    ·rw [g1]; simp
    ·rw [g2]; simp)
   (by
    rcases hc with rfl | rfl | rfl
    ·rw [t0]; simp
    ·rw [t1]; simp [z1]
    ·rw [t2]; simp [z1, z2])
   (by
    rcases hc with rfl | rfl | rfl
    ·rw [g0]; simp
    ·rw [g1]; simp [p1.mk]
    ·rw [g2]; simp [p1.mk, p2.mk])
   (fun f a' Tf => c_worldN l hn d0 d1 d2 g0 g1 g2 w0 w1 w2 hN P1 V1 P2 V2 Tf)
 exact go (fun i => [s1, s2].take i) (fun i => [v1, v2].take i) (fun i => [m1, m2].take i) (fun i => if i = 0 then a1 else if i = 1 then a3 else a5) rfl rfl rfl rfl rfl rfl rfl rfl rfl rfl rfl rfl
theorem c_DecidePuts (l : List Int) : Pure Tryz.prog env 8 [.sl .any (ints l)] (.bool true) := by
 have hS := c_sane09
 have hF := c_Few l
 cases hf : decide ((l.length : Int) ≤ 500) with
 | false =>
  rw [hf] at hF
  clear hf
  intro h
  refine en Tryz.func8 [.tmp 2] rfl rfl fun g0 w0 gen hrel hfr hfr' hres => ?_
  repeat' (first
   |exact hin _|exact agf (by assumption)
   | (first|refine wp rfl ?_|refine spt rfl ?_|refine spf rfl ?_|(refine spl (fun hc => ?_) fun hc => ?_) <;> (try rw [beq_iff_eq] at hc) <;> try simp only [hc]|(refine gs (fun hb => ?_) fun hb => ?_) <;> try simp only [Bool.not_true, Bool.not_false] at hb|refine cp hS ?_|refine cp hF ?_|refine finF hrel ?_ ?_ ?_)<;>try simp only [go_sem, *])
 | true =>
 rw [hf] at hF
 have hl : l.length ≤ 1000 := by simp at hf; omega
 clear hf
 have hN := c_New l
 obtain ⟨g, vs, ts, f, a', hs, hg2, hz, hgm, mf, wf, Tw⟩ := c_world l hl 0
 replace Tw : ∀ d, Turns Tryz.prog env 55 [.ptr d 0] d (.box (deckC l 0)) (.tup [.sl .any (g.map Ty.cells), .agg f.cells, .sl .any (vs.map PVl.cells)]) (.box (deckC l a')) := Tw
 have df : Dc g f := mf.dc hgm (by omega)
 have p0 : PutOk 0 f := putOk_0 mf hgm (by omega)
 have hH := c_decHolds hs (by omega) df (by have := p0.1; omega) 4000 (by omega)
 obtain ⟨lv, lt⟩ := hs.len
 have hput : ∀ i X, i < g.length → Dc (g.take (i + 1)) X → PutOk (g.length - (i + 1)) X → ∃ v t, vs[i]? = some v ∧ ts[i]? = some t ∧
   Pure Tryz.prog env 56 [.agg v.cells] (.tup [.agg t.cells, .int .i64 0]) ∧ Pure Tryz.prog env 57 [.agg X.cells, .int .i64 0, .agg t.cells] (.tup [.agg (fmInn t 0 X 0).cells, .int .i64 0]) ∧
   putR X t = (fmInn t 0 X 0, 0) ∧ Dc (g.take i) (fmInn t 0 X 0) ∧ PutOk (g.length - i) (fmInn t 0 X 0) := by
  intro i X hi dX pX
  obtain ⟨a, v, t, q1, q2, q3, q4, q5, q6⟩ := hs.at i hi
  rw [take_ty q1] at dX
  have hz' := hz t (List.mem_of_getElem? q3)
  have htk : (g.take i).length ≤ 10 := by simp; omega
  obtain ⟨r1, r2, r3⟩ := putOk_1 pX (by omega) dX q4 q5 hz' htk
  rw [show g.length - (i + 1) + 1 = g.length - i by omega] at r3
  have hX1 := pX.1
  have hp := c_fmPut X (dX.G (u := true)).toW 0 t q4.G.toW
  have hXs : fmSz X ≤ 4096 := by
   have : (g.length - (i + 1)) * 504 ≤ 2 * 504 := Nat.mul_le_mul_right _ (by omega)
   omega
  rw [fmPut_R (dX.G (u := true)) q4.G hXs (by omega) (dX.least (by simp at htk ⊢; omega)) ((q4.ty q5 []).least _ (by omega) (by simp; omega)), r1] at hp
  exact ⟨v, t, q2, q3, c_refValue q4 q6 q5, hp, r1, r2, r3⟩
 have hTr : ∀ X, Dc [] X → PutOk g.length X → Pure Tryz.prog env 44 [.agg X.cells, .int .i64 4000] (decV (dA 4000 X)) := fun X hX pX => c_decTruth hX (by
  have := pX.1
  have : g.length * 504 ≤ 2 * 504 := Nat.mul_le_mul_right _ (by omega)
  omega) 4000 (by omega)
 have hRt : putsR f ts.reverse = putsR f (ts.take g.length).reverse := by rw [← lt, List.take_length]
 have dfg : Dc (g.take g.length) f := by rw [List.take_length]; exact df
 have p0' : PutOk (g.length - g.length) f := by rw [Nat.sub_self]; exact p0
 have hln : ∀ i, i ≤ g.length → i ≤ 2 := fun i hi => by omega
 have hvl : vs.length ≤ 2 := by omega
 unfold holdsR at hH
 rw [hRt] at hH
 generalize hR : putsR f (ts.take g.length).reverse = R at hH
 clear mf wf df p0 hz hgm hs lv lt hRt
 have gl : ((g.map Ty.cells).length : Int) = (g.length : Int) := by simp
 have w0 : IntKind.i64.wrap ((g.length : Int) - 1) = (g.length : Int) - 1 := wrap_eq rfl (by omega) (by omega)
 have n0 : ((0 : Int) != 0) = false := rfl
 intro h
 refine en Tryz.func8 [.tmp 2] rfl rfl fun g0 w0 gen hrel hfr hfr' hres => ?_
 repeat' (first
  | (first|refine wp rfl ?_|refine spt rfl ?_|refine spf rfl ?_|(refine spl (fun hc => ?_) fun hc => ?_) <;> (try rw [beq_iff_eq] at hc) <;> try simp only [hc]|(refine gs (fun hb => ?_) fun hb => ?_) <;> try simp only [Bool.not_true, Bool.not_false] at hb|refine cp hS ?_|refine cp hF ?_|refine Call1_new ⟨gen, 1000, 0⟩ (hN) (by first|exact hfr' _ _ | simp only [go_sem, *]) ?_|(refine ct (Tw _) ?_ ?_; focus ((simp only [go_sem, *] <;> rfl); done)))<;>try simp only [go_sem, *])
 clear hS hF hN Tw
 refine AR_loop_nat (fun i σ => σ.tm 4 = .sl .any (g.map Ty.cells) ∧ σ.tm 6 = .sl .any (vs.map PVl.cells) ∧ σ.tm 5 = .ptr ⟨gen, 6, 6⟩ 0 ∧ σ.tm 7 = .ptr ⟨gen, 7, 1⟩ 0 ∧ σ.tm 8 = .int .i64 ((g.length - i : Nat) - 1 : Int) ∧
  σ.h ⟨gen, 6, 6⟩ = some (.box f.cells) ∧ Agree h σ.h ∧ ∃ X : Fm, σ.h ⟨gen, 7, 1⟩ = some (.box X.cells) ∧ Dc (g.take (g.length - i)) X ∧ PutOk (g.length - (g.length - i)) X ∧ putsR X (ts.take (g.length - i)).reverse = R) g.length ?_ ?_
 ·simp only [go_sem, *]
  rw [Nat.sub_zero]
  exact ⟨rfl, (by repeat (first|exact Agree.refl _|assumption|refine Agree.new ?_ (hgf0 _ _)|refine Agree.new ?_ (hfr' _ _))), f, rfl, dfg, p0', hR⟩
 intro i σ hi ⟨j4, j6, j5, j7, j8, jb, jA, X, jX, dX, pX, rX⟩
 refine AR_gen2 (fun gn hgl hgn => ?_)
 have hgf := fresh_of hgn
 have hgf0 := fun r i => agree_fresh jA (hgf r i)
 have eg1 := gen_lt hgl
 have eg2 := gen_lt' hgl
 clear hgn
 rcases Nat.lt_or_ge i g.length with hlt | hge
 ·rw [show g.length - i = g.length - (i + 1) + 1 by omega] at dX pX rX
  obtain ⟨v, t, q2, q3, hc1, hc2, r1, r2, r3⟩ := hput (g.length - (i + 1)) X (by omega) dX pX
  rw [take_rev q3, putsR, r1] at rX
  simp only [n0, Bool.false_eq_true, if_false] at rX
  have hjc : ((g.length - i : Nat) : Int) - 1 = ((g.length - (i + 1) : Nat) : Int) := by omega
  rw [hjc] at j8
  have hdec : decide (((g.length - (i + 1) : Nat) : Int) ≥ 0) = true := by simp
  have hw : IntKind.i64.wrap (((g.length - (i + 1) : Nat) : Int) - 1) = ((g.length - (i + 1) : Nat) : Int) - 1 := wrap_eq rfl (by omega) (by omega)
  clear hput hTr hH dX pX q3 r1 hR dfg p0' hjc
  generalize fmInn t 0 X 0 = X1 at *
  repeat' (first
   | (first|refine wp rfl ?_|refine spt rfl ?_|refine spf rfl ?_|(refine spl (fun hc => ?_) fun hc => ?_) <;> (try rw [beq_iff_eq] at hc) <;> try simp only [hc]|(refine gs (fun hb => ?_) fun hb => ?_) <;> try simp only [Bool.not_true, Bool.not_false] at hb|refine cp hc1 ?_|refine cp hc2 ?_|refine AR_inv ?_)<;>try simp only [go_sem, *])
  exact ⟨by repeat (first|exact jA|refine Agree.new ?_ (hgf0 _ _)|refine Agree.new ?_ (hfr' _ _)), X1, rfl, r2, r3, rX⟩
 ·obtain rfl : i = g.length := by omega
  rw [Nat.sub_self] at dX pX rX
  have hdec : decide (((g.length - g.length : Nat) : Int) - 1 ≥ 0) = false := by simp
  have hT := hTr X (by simpa using dX) (by simpa using pX)
  have rX' : R = (X, 0) := by rw [← rX]; rfl
  rw [rX'] at hH
  simp only [n0, Bool.false_eq_true, if_false] at hH
  clear hput hTr dX pX rX hR dfg p0' rX'
  unfold decV at hH hT
  generalize dA 4000 X = A at *
  obtain ⟨b, u, e⟩ := A
  simp only at hH hT
  have bb : (b == b) = true := by simp
  have uu : ((u : Int) == (u : Int)) = true := by simp
  have ee : (e == e) = true := by simp
  have ff : (false == false) = true := rfl
  have zz : ((0 : Int) == 0) = true := rfl
  cases he : (e != 0) with
  | true =>
   simp only [he, if_true] at hH hT
   clear he
   repeat' (first
    |exact hin _|exact agf (by assumption)
    | (first|refine wp rfl ?_|refine spt rfl ?_|refine spf rfl ?_|(refine spl (fun hc => ?_) fun hc => ?_) <;> (try rw [beq_iff_eq] at hc) <;> try simp only [hc]|(refine gs (fun hb => ?_) fun hb => ?_) <;> try simp only [Bool.not_true, Bool.not_false] at hb|refine cp hH ?_|refine cp hT ?_|refine finF hrel ?_ ?_ ?_)<;>try simp only [go_sem, *])
  | false =>
   simp only [he, Bool.false_eq_true, if_false] at hH hT
   clear he
   repeat' (first
    |exact hin _|exact agf (by assumption)
    | (first|refine wp rfl ?_|refine spt rfl ?_|refine spf rfl ?_|(refine spl (fun hc => ?_) fun hc => ?_) <;> (try rw [beq_iff_eq] at hc) <;> try simp only [hc]|(refine gs (fun hb => ?_) fun hb => ?_) <;> try simp only [Bool.not_true, Bool.not_false] at hb|refine cp hH ?_|refine cp hT ?_|refine finF hrel ?_ ?_ ?_)<;>try simp only [go_sem, *])
end Go.Proofs.YtenelbgbjmijiaaGreatDoor
