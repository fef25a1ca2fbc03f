/-
 Walks: the law that all values are different and of the type, and never fewer with a greater bound.
-/
import Derived.Test.YteaijonkbbkkjaaGreatDoorRa
import Derived.Test.YteaijonkbbkkjaaGreatDoorRb
import Derived.Test.YteaijonkbbkkjaaGreatDoorQx
import Derived.Test.YteaijonkbbkkjaaGreatDoorPz
set_option linter.unusedSimpArgs false
set_option linter.unusedVariables false
set_option maxRecDepth 20000
set_option maxHeartbeats 4000000
namespace Go.Proofs.YteaijonkbbkkjaaGreatDoor
open Go GoAbs Go.Proofs
theorem c_ValuesP {t : Ty} (ht : PlainTy t) {bd m : Nat} (hb : bd ≤ 16) (hm : m ≤ 65536) :
  Pure Tryz.prog env 11 [.agg t.cells, .int .i64 bd, .int .i64 m] (.tup [.sl .any (((vals bd t).take m).map PVl.cells), .int .i64 0]) := by
 refine c_ValuesOf (fun S => by simp only [go_sem, *]) (c_rfLook ht hb hm) (c_first t bd m) (it_first hm (it_values bd (by omega) ht.plT) (c_values t bd)) (fun v hv => ?_) (by simp; omega)
 obtain ⟨s, h1, h2⟩ := vals_isVl hb ht.plT v (List.mem_of_mem_take hv)
 exact c_own v (h1.W (by have := ht.sz; omega))
attribute [go_sem] Option.map_none Option.map_some
theorem c_RefuteValues (l : List Int) (b : Int) (hb0 : 0 ≤ b) (hb1 : b ≤ 255) (mo : Int) (hm0 : 0 ≤ mo) (hm1 : mo ≤ 255) : Pure Tryz.prog env 3 [.sl .any (ints l), .int .u8 b, .int .u8 mo] (.bool true) := by
 have hS := c_sane21
 have hF := c_Few l
 have tb : Int.tmod b 4 = b % 4 := Int.tmod_eq_emod_of_nonneg hb0
 have tm : Int.tmod mo 3 = mo % 3 := Int.tmod_eq_emod_of_nonneg hm0
 obtain ⟨n, hn, en1⟩ : ∃ n : Nat, n ≤ 3 ∧ Int.tmod b 4 = n := ⟨(Int.tmod b 4).toNat, by omega, by omega⟩
 obtain ⟨k, hk, en2⟩ : ∃ k : Nat, k ≤ 2 ∧ Int.tmod mo 3 = k := ⟨(Int.tmod mo 3).toNat, by omega, by omega⟩
 clear tb tm hb0 hb1 hm0 hm1
 cases hf : decide ((l.length : Int) ≤ 500) with
 | false =>
  rw [hf] at hF
  clear hf
  intro h
  exact ek_ Tryz.func3 [.tmp 6]
 | true =>
 rw [hf] at hF
 have hl : l.length ≤ 1000 := by simp at hf; omega
 clear hf
 have hN := c_New l
 obtain ⟨t, a1, pt, Pt⟩ := c_Plain l hl 0
 replace Pt : ∀ d, Turns Tryz.prog env 9 [.ptr d 0] d (.box (deckC l 0)) (.agg t.cells) (.box (deckC l a1)) := Pt
 obtain ⟨q, hq⟩ : ∃ q : Nat, q = n + k := ⟨_, rfl⟩
 have hw : IntKind.i64.wrap ((n : Int) + (k : Int)) = (q : Int) := wrap_eq (by omega) (by omega) (by omega)
 have wn : IntKind.i64.wrap (n : Int) = n := wrap_eq rfl (by omega) (by omega)
 have wk : IntKind.i64.wrap (k : Int) = k := wrap_eq rfl (by omega) (by omega)
 have h1 := c_ValuesP pt (bd := n) (m := 60) (by omega) (by omega)
 have h2 := c_ValuesP pt (bd := q) (m := 60) (by omega) (by omega)
 have hlen := vals_len pt.plT (show n ≤ q by omega)
 have hAB : ((vals n t).take 60).length ≤ ((vals q t).take 60).length := by simp only [List.length_take]; omega
 have hB : ((vals q t).take 60).length ≤ 60 := by simp only [List.length_take]; omega
 have hnd : ((vals q t).take 60).Pairwise (· ≠ ·) := (vals_nodup pt.plT q).sublist (List.take_sublist _ _)
 have hW : ∀ v ∈ (vals q t).take 60, VlW v ∧ Pure Tryz.prog env 12 [.agg v.cells] (.tup [.agg t.cells, .int .i64 0]) := fun v hv => by
  obtain ⟨s, p1, p2⟩ := vals_isVl (show q ≤ 16 by omega) pt.plT v (List.mem_of_mem_take hv)
  have hz : tmSz s ≤ 4096 := by have := pt.sz; omega
  exact ⟨p1.W hz, c_r05TypeOf p1 hz pt.G⟩
 have h3 := c_refSame t pt.G.1.W t pt.G.1.W
 rw [Ty.same_refl] at h3
 replace h1 : Pure Tryz.prog env 11 [.agg t.cells, .int .i64 n, .int .i64 60] (.tup [.sl .any (((vals n t).take 60).map PVl.cells), .int .i64 0]) := h1
 replace h2 : Pure Tryz.prog env 11 [.agg t.cells, .int .i64 q, .int .i64 60] (.tup [.sl .any (((vals q t).take 60).map PVl.cells), .int .i64 0]) := h2
 generalize (vals n t).take 60 = A at *
 generalize (vals q t).take 60 = B at *
 have hD : ∀ (i : Nat) (x : PVl), B[i]? = some x → ∀ y ∈ B.take i, Pure Tryz.prog env 14 [.agg x.cells, .agg y.cells] (.bool false) := by
  intro i x hx y hy
  obtain ⟨j, hj⟩ := List.mem_iff_getElem?.1 hy
  rw [List.getElem?_take] at hj
  split at hj
  ·rename_i hlt
   have := c_r05Same x (hW x (List.mem_of_getElem? hx)).1 y (hW y (List.mem_of_getElem? hj)).1
   rwa [nodup_at hnd hx hj hlt] at this
  ·cases hj
 have hT : ∀ v ∈ B, Pure Tryz.prog env 12 [.agg v.cells] (.tup [.agg t.cells, .int .i64 0]) := fun v hv => (hW v hv).2
 have dA : decide ((A.length : Int) > (B.length : Int)) = false := by simp; omega
 have dB : decide ((B.length : Int) > 60) = false := by simp; omega
 have n0 : ((0 : Int) != 0) = false := rfl
 have hwA : weakLL (A.map PVl.cells) = A.map PVl.cells := weakLL_PVl A
 have hwB : weakLL (B.map PVl.cells) = B.map PVl.cells := weakLL_PVl B
 clear hlen hnd hW pt hq hAB
 intro h
 refine en_ Tryz.func3 [.tmp 6] fun g0 w0 gen hrel hfr hfr' hres => ?_
 repeat' (first
  | (first|refine wp rfl ?_|refine spt rfl ?_|refine spf rfl ?_|(refine spl (fun hc => ?_) fun hc => ?_) <;> (try rw [beq_iff_eq] at hc) <;> try simp only [hc]|(refine gs (fun hb => ?_) fun hb => ?_) <;> try simp only [Bool.not_true, Bool.not_false] at hb|refine cp hS ?_|refine cp hF ?_|refine Call1_new ⟨gen, 1000, 0⟩ (hN) (by first|exact hfr' _ _ | simp only [go_sem, *]) ?_|(refine ct (Pt _) ?_ ?_; focus ((simp only [go_sem, *] <;> rfl); done))|refine cp h1 ?_|refine cp h2 ?_)<;>try simp only [go_sem, *])
 clear hS hF hN Pt h1 h2 dA dB
 refine ar_ [7, 12, 68] [⟨gen, 5, 3⟩] (fun i σ => Agree h σ.h ∧ True) (B).length ?_ ?_ ?_
 ·simp only [go_sem, *]
  first|exact ag_|exact ⟨ag_, trivial⟩
 ·
  intro i σ gr0 hgl_gr0 hgn hlt jI jN jS ⟨jA, _⟩
  obtain ⟨jT, jB⟩ := jS
  simp only [go_sem] at jT jB
  obtain ⟨hgf, hgf0, eg_gen_gr0, eh_gen_gr0⟩ := rnd hgn hgl_gr0 jA
  obtain ⟨x, hx, hxm, hm⟩ := rnx hlt
  clear hgn
  have hDi := hD i x hx
  have hTi := hT x hxm
  have hBt : (B.map PVl.cells).take i = (B.take i).map PVl.cells := List.map_take.symm
  have hwt := weakLL_PVl (B.take i)
  have hCl : (B.take i).length ≤ 60 := by simp only [List.length_take]; omega
  have hle : i ≤ B.length := by omega
  generalize B.take i = C at *
  have hne : (i = B.length) = False := by simp; omega
  clear hD hT hxm
  refine wq_ ?_
  clear hTi h3 hx
  refine ar_ [7, 12, 15, 68, 69, 70, 90] [⟨gen, 5, 3⟩, ⟨gr0, 13, 3⟩] (fun i σ => Agree h σ.h ∧ True) (C).length ?_ ?_ ?_
  ·simp only [go_sem, *]
   first|exact ag_|exact ⟨ag_, trivial⟩
  ·
   intro i σ gr1 hgl_gr1 hgn hlt jI jN jS ⟨jA, _⟩
   obtain ⟨jT, jB⟩ := jS
   simp only [go_sem] at jT jB
   have hgf := fresh_of hgn
   have hgf0 := fun r i => agree_fresh jA (hgf r i)
   have eg_gen_gr1 := gen_lt (show gen < gr1 by omega)
   have eh_gen_gr1 := gen_lt' (show gen < gr1 by omega)
   have eg_gr0_gr1 := gen_lt (show gr0 < gr1 by omega)
   have eh_gr0_gr1 := gen_lt' (show gr0 < gr1 by omega)
   obtain ⟨x, hx, hxm, hm⟩ := rnx hlt
   clear hgn
   have hc := hDi x hxm
   clear hDi
   first|refine wq_ ?_|exact wk_
   all_goals first|exact ag_|exact ⟨ag_, trivial⟩ | skip
  ·
   intro σ ga1 hgl_ga1 hgn jS ⟨jA, _⟩
   obtain ⟨jT, jB⟩ := jS
   simp only [go_sem] at jT jB
   have hgf := fresh_of hgn
   have hgf0 := fun r i => agree_fresh jA (hgf r i)
   have eg_gen_ga1 := gen_lt (show gen < ga1 by omega)
   have eh_gen_ga1 := gen_lt' (show gen < ga1 by omega)
   have eg_gr0_ga1 := gen_lt (show gr0 < ga1 by omega)
   have eh_gr0_ga1 := gen_lt' (show gr0 < ga1 by omega)
   clear hgn
   clear hDi
   repeat' (first
    | (first|refine wp rfl ?_|refine spt rfl ?_|refine spf rfl ?_|(refine spl (fun hc => ?_) fun hc => ?_) <;> (try rw [beq_iff_eq] at hc) <;> try simp only [hc]|(refine gs (fun hb => ?_) fun hb => ?_) <;> try simp only [Bool.not_true, Bool.not_false] at hb|refine AR_inv ?_)<;>try simp only [go_sem, *])
   all_goals first|exact ag_|exact ⟨ag_, trivial⟩ | skip
 ·
  intro σ ga0 hgl_ga0 hgn jS ⟨jA, _⟩
  obtain ⟨jT, jB⟩ := jS
  simp only [go_sem] at jT jB
  obtain ⟨hgf, hgf0, eg_gen_ga0, eh_gen_ga0⟩ := rnd hgn hgl_ga0 jA
  clear hgn
  clear hD hT h3
  exact wk_
end Go.Proofs.YteaijonkbbkkjaaGreatDoor
