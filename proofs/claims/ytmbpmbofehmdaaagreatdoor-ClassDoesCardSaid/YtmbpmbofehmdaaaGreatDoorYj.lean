/-
 Walks: what the package and the reference find about a formula, and about a term.
-/
import Derived.Test.YtmbpmbofehmdaaaGreatDoorMk
import Derived.Test.YtmbpmbofehmdaaaGreatDoorYc
import Derived.Test.YtmbpmbofehmdaaaGreatDoorYd
import Derived.Test.YtmbpmbofehmdaaaGreatDoorYe
import Derived.Test.YtmbpmbofehmdaaaGreatDoorMq
import Derived.Test.YtmbpmbofehmdaaaGreatDoorMr
import Derived.Test.YtmbpmbofehmdaaaGreatDoorAbsDe
set_option linter.unusedSimpArgs false
set_option linter.unusedVariables false
set_option maxRecDepth 20000
set_option maxHeartbeats 4000000
namespace Go.Proofs.YtmbpmbofehmdaaaGreatDoor
open Go GoAbs Go.Proofs
theorem c_nodes (t : Fm) : Pure Tryz.prog env 6 [.agg t.cells] (.int .i64 (t.cnt 20000 : Nat)) := by
 intro h
 have h1 := c_cntFm t 20000 (by omega)
 exact ek_ Tryz.func6 [.tmp 2]
theorem c_terms (t : Tm) : Pure Tryz.prog env 7 [.agg t.cells] (.int .i64 (t.cnt 20000 : Nat)) := by
 intro h
 have h1 := c_cntTm t 20000 (by omega)
 exact ek_ Tryz.func7 [.tmp 2]
structure FormOk (f : Fm) (p1 p2 p3 : Bool × Int) (b1 : Bool) (T : Tm) (B : Fm) (b2 : Bool) (L : List Ty) (F : Fm) (e : Int) (L2 : List Ty) (S : Ty) (F2 : Fm) (b3 : Bool) : Prop where
 c1 : Pure Tryz.prog env 16 [.agg f.cells] (boolErrV p1)
 d1 : Pure Tryz.prog env 17 [.agg f.cells] (boolErrV p1)
 c2 : Pure Tryz.prog env 18 [.agg f.cells] (boolErrV p2)
 d2 : Pure Tryz.prog env 19 [.agg f.cells] (boolErrV p2)
 c3 : Pure Tryz.prog env 20 [.agg f.cells] (boolErrV p3)
 d3 : Pure Tryz.prog env 21 [.agg f.cells] (boolErrV p3)
 c4 : Pure Tryz.prog env 22 [.agg f.cells] (.tup [.bool b1, .agg T.cells, .agg B.cells, .bool b2])
 d4 : Pure Tryz.prog env 23 [.agg f.cells] (.tup [.bool b1, .agg T.cells, .agg B.cells, .bool b2])
 c5 : Pure Tryz.prog env 26 [.agg f.cells] (.tup [.sl .any (L.map Ty.cells), .agg F.cells, .int .i64 e])
 d5 : Pure Tryz.prog env 27 [.agg f.cells] (.tup [.sl .any (L.map Ty.cells), .agg F.cells, .int .i64 e])
 c6 : Pure Tryz.prog env 28 [.agg f.cells] (.tup [.sl .any (L2.map Ty.cells), .agg S.cells, .agg F2.cells, .bool b3])
 d6 : Pure Tryz.prog env 29 [.agg f.cells] (.tup [.sl .any (L2.map Ty.cells), .agg S.cells, .agg F2.cells, .bool b3])
 s1 : Pure Tryz.prog env 24 [.agg T.cells, .agg T.cells] (.bool true)
 s2 : Pure Tryz.prog env 25 [.agg B.cells, .agg B.cells] (.bool true)
 s3 : Pure Tryz.prog env 30 [.sl .any (L.map Ty.cells), .sl .any (L.map Ty.cells)] (.bool true)
 s4 : Pure Tryz.prog env 25 [.agg F.cells, .agg F.cells] (.bool true)
 s5 : Pure Tryz.prog env 30 [.sl .any (L2.map Ty.cells), .sl .any (L2.map Ty.cells)] (.bool true)
 s6 : Pure Tryz.prog env 31 [.agg S.cells, .agg S.cells] (.bool true)
 s7 : Pure Tryz.prog env 25 [.agg F2.cells, .agg F2.cells] (.bool true)
theorem fmSame (F : Fm) (w : FmW F) : Pure Tryz.prog env 25 [.agg F.cells, .agg F.cells] (.bool true) := by
 have := c_refFmSame F w F w
 rwa [Fm.same_refl] at this
theorem tysSame (L : List Ty) (hl : L.length ≤ 100000) (w : ∀ t ∈ L, TyW t) : Pure Tryz.prog env 30 [.sl .any (L.map Ty.cells), .sl .any (L.map Ty.cells)] (.bool true) := by
 have := c_refTySameAll L L hl hl w w
 rwa [Ty.sameL_refl] at this
theorem formOk (f : Fm) (hA : FmA 20000 f) : ∃ p1 p2 p3 b1 T B b2 L F e L2 S F2 b3, FormOk f p1 p2 p3 b1 T B b2 L F e L2 S F2 b3 := by
 have c1 := c_Content f hA.w
 have d1 := c_r08Content f hA.w
 have c2 := c_Free f hA.w
 have d2 := c_r08Free f hA.w
 have c3 := c_clsDecidable f hA.w
 have d3 := c_r08Decidable (by omega) f hA
 have c4 := c_clsBoundA (by omega) f hA
 have d4 := c_r08BoundA (by omega) f hA
 have c5 := c_UniversalA f hA.w (by have := hA.z; omega)
 have d5 := c_r08UniversalA f hA.w (by have := hA.z; omega)
 have c6 := c_Task f hA.w (by have := hA.z; omega)
 have d6 := c_r08TaskA (by omega) f hA
 have hB : ∃ b1 T B b2, boundG f = .tup [.bool b1, .agg (Tm.cells T), .agg (Fm.cells B), .bool b2] ∧ TmW T ∧ FmW B := by
  unfold boundG
  cases he : (fmErr f != 0) with
  | true => exact ⟨false, zeroT, zeroF, false, by simp, zeroT_W, zeroF_W⟩
  | false =>
   cases hb : isBnd f with
   | false => exact ⟨false, zeroT, zeroF, false, by simp, zeroT_W, zeroF_W⟩
   | true =>
    have hg := Fm.ok_good he
    have hk : f.kind = 4 ∨ f.kind = 5 ∨ f.kind = 6 ∨ f.kind = 7 := by
     rcases Fm.good_kind hg with hk | hk | hk | hk | hk | hk | hk
     ·rw [bnd_low (.inl hk)] at hb; cases hb
     ·rw [bnd_low (.inr (.inl hk))] at hb; cases hb
     ·rw [bnd_low (.inr (.inr hk))] at hb; cases hb
     ·exact .inl hk
     ·exact .inr (.inl hk)
     ·exact .inr (.inr (.inl hk))
     ·exact .inr (.inr (.inr hk))
    obtain ⟨wt, _, wb⟩ := bndTerm_N hA.w hA.n (by have := hA.z; omega) hg hk hb
    exact ⟨_, _, _, true, by simp; rfl, tm_upW (b := -1) _ 1 wt, wb⟩
 obtain ⟨b1, T, B, b2, e4, wT, wB⟩ := hB
 have hU : ∃ L F e, univG f = .tup [.sl .any (List.map Ty.cells L), .agg (Fm.cells F), .int .i64 e] ∧ L.length ≤ 100000 ∧ (∀ t ∈ L, TyW t) ∧ FmW F := by
  unfold univG
  cases he : (fmErr f != 0) with
  | true => exact ⟨[], zeroF, fmErr f, by simp, by simp, by simp, zeroF_W⟩
  | false =>
   obtain ⟨w1, _, w3⟩ := univ_good f hA.w (Fm.ok_good he)
   exact ⟨f.univ.1, f.univ.2, 0, by simp, by have := univ_len f; have := hA.z; omega, w3, w1⟩
 obtain ⟨L, F, e, e5, lL, wL, wF⟩ := hU
 have hT : ∃ L2 S F2 b3, taskV f.task = .tup [.sl .any (List.map Ty.cells L2), .agg (Ty.cells S), .agg (Fm.cells F2), .bool b3] ∧ L2.length ≤ 100000 ∧ (∀ t ∈ L2, TyW t) ∧ TyW S ∧ FmW F2 := by
  unfold Fm.task taskV
  cases he : (fmErr f != 0) with
  | true => exact ⟨[], tZero, zeroF, false, by simp, by simp, by simp, tZero_W, zeroF_W⟩
  | false =>
   cases hc : (f.univ.2.kind != 5 || !(fa f.univ.2 0).fl.d) with
   | true => exact ⟨[], tZero, zeroF, false, by simp, by simp, by simp, tZero_W, zeroF_W⟩
   | false =>
    obtain ⟨w1, g1, w3⟩ := univ_good f hA.w (Fm.ok_good he)
    rw [Bool.or_eq_false_iff] at hc
    obtain ⟨a, ha, ga⟩ := Fm.good_q g1 (.inr (.inl (by simpa using hc.1)))
    have e0 : fa f.univ.2 0 = a := fa_at (by rw [ha]; rfl)
    refine ⟨_, _, _, true, by simp; rfl, by have := univ_len f; have := hA.z; omega, w3, w1.ty, ?_⟩
    rw [e0]; exact w1.arg (by rw [ha]; simp)
 obtain ⟨L2, S, F2, b3, e6, lL2, wL2, wS, wF2⟩ := hT
 rw [e4] at c4 d4
 rw [e5] at c5 d5
 rw [e6] at c6 d6
 refine ⟨_, _, _, b1, T, B, b2, L, F, e, L2, S, F2, b3, c1, d1, c2, d2, c3, d3, c4, d4, c5, d5, c6, d6, ?_, fmSame B wB, tysSame L lL wL, fmSame F wF, tysSame L2 lL2 wL2, ?_, fmSame F2 wF2⟩
 ·have := c_refTmSame T wT T wT
  rwa [Tm.same_refl] at this
 ·have := c_refSame S wS S wS
  rwa [Ty.same_refl] at this
structure TermOk (all : Bool) (f : Fm) (s z : Tm) (F : Fm) (e : Int) (G : Fm) (e' : Int) : Prop where
 c1 : Pure Tryz.prog env 33 [.bool all, .agg z.cells, .agg f.cells] (.tup [.agg F.cells, .int .i64 e])
 d1 : Pure Tryz.prog env 34 [.bool all, .agg z.cells, .agg f.cells] (.tup [.agg F.cells, .int .i64 e])
 c2 : Pure Tryz.prog env 35 [.agg z.cells, .agg s.cells] (.tup [.agg G.cells, .int .i64 e'])
 d2 : Pure Tryz.prog env 36 [.agg z.cells, .agg s.cells] (.tup [.agg G.cells, .int .i64 e'])
 s1 : Pure Tryz.prog env 25 [.agg F.cells, .agg F.cells] (.bool true)
 s2 : Pure Tryz.prog env 25 [.agg G.cells, .agg G.cells] (.bool true)
theorem termOk (all : Bool) (f : Fm) (hf : FmA 20000 f) (s z : Tm) (hs : TmA 20000 s) (hz : TmA 20000 z) : ∃ F e G e', TermOk all f s z F e G e' := by
 have c1 := c_clsBoundedC (by omega) all z hz f hf.w
 have d1 := c_Bounded08 all z hz.w f hf.w
 have c2 := c_clsLessC z s hz.w hs.w
 have d2 := c_Less08 z s hz.w hs.w
 rw [bndC_eq (by omega) hz hf] at c1
 rw [lessC_eq (by omega) hz hs] at c2
 have wl := liftC_W (by omega) hz
 rw [liftC_eq (by omega) hz] at wl
 refine ⟨_, _, _, _, c1, d1, c2, d2, fmSame _ ?_, fmSame _ ?_⟩
 ·unfold bndR
  repeat' split
  all_goals first|exact zeroF_W|exact bndF_W wl hf.w
 ·unfold lessR
  repeat' split
  all_goals first|exact zeroF_W|exact lessF_W hz.w hs.w
end Go.Proofs.YtmbpmbofehmdaaaGreatDoor
