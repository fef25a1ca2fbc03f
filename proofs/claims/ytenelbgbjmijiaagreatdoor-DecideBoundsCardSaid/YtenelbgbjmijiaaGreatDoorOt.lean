/-
 Walks: the law that a bounded quantifier is true exactly if all (some) of its instances are.
-/
import Derived.Test.YtenelbgbjmijiaaGreatDoorOs
import Derived.Test.YtenelbgbjmijiaaGreatDoorOo
set_option linter.unusedSimpArgs false
set_option linter.unusedVariables false
set_option maxRecDepth 20000
set_option maxHeartbeats 4000000
namespace Go.Proofs.YtenelbgbjmijiaaGreatDoor
open Go GoAbs Go.Proofs
theorem c_holdsNum {f : Fm} (hf : Dc [tNat] f) (zf : fmSz f ≤ 4096) (k : Nat) (hk : k ≤ 4000) (lim : Nat) (hl : lim ≤ 65536) :
  Pure Tryz.prog env 54 [.agg f.cells, .sl .any [[.int .i64 1, .int .i64 k, .sl .any [], .sl .any []]], .int .i64 lim] (decV (hR lim f k)) := by
 have hs : IsVls [tNat] [PVl.mk 1 k [] []] [numT k] := .snoc (g := []) (l := []) (ts := []) .nil (.num k) TyG.nat (by rw [tmSz_num]; omega)
 have := c_decHolds hs (by simp) hf zf lim hl
 rw [hR_holds] at this
 simpa only [List.map_cons, List.map_nil, PVl.mk_cells, ints, List.map_nil] using this
theorem c_limit09' (e : Int) (he : e = 0 ∨ e = 4 ∨ e = 5) : Pure Tryz.prog env 46 [.int .i64 e] (.bool true) := by
 have := c_limit09 e
 rcases he with rfl | rfl | rfl <;> exact this
theorem c_DecideBounds (l : List Int) (all : Bool) (b : Int) (hb : 0 ≤ b) (hb2 : b ≤ 255) : Pure Tryz.prog env 7 [.sl .any (ints l), .bool all, .int .u8 b] (.bool true) := by
 have hS := c_sane09
 have hF := c_Few l
 have tb : Int.tmod b 6 = b % 6 := Int.tmod_eq_emod_of_nonneg hb
 obtain ⟨n, hn, en'⟩ : ∃ n : Nat, n ≤ 5 ∧ Int.tmod b 6 = n := ⟨(Int.tmod b 6).toNat, by omega, by omega⟩
 clear tb hb hb2
 cases hf : decide ((l.length : Int) ≤ 500) with
 | false =>
  rw [hf] at hF
  clear hf
  intro h
  refine en Tryz.func7 [.tmp 6] rfl rfl fun g0 w0 gen hrel hfr hfr' hres => ?_
  repeat' (first
   | exact hin _ | exact agf (by assumption)
   | (first | refine wp rfl ?_ | refine spt rfl ?_ | refine spf rfl ?_ | (refine spl (fun hc => ?_) fun hc => ?_) <;> (try rw [beq_iff_eq] at hc) <;> try simp only [hc] | (refine gs (fun hb => ?_) fun hb => ?_) <;> try simp only [Bool.not_true, Bool.not_false] at hb | refine cp (hS) ?_ | refine cp (hF) ?_ | refine finF hrel ?_ ?_ ?_) <;> try simp only [go_sem, *])
 | true =>
 rw [hf] at hF
 have hl : l.length ≤ 1000 := by simp at hf; omega
 clear hf
 have hN := c_New l
 have gN : ∀ y ∈ [tNat], MkTy 1 y := by simp; exact .nat
 obtain ⟨f, a1, mf, wf, Tf⟩ := c_Decidable l hl 2 (by omega) [tNat] 0 gN (by simp)
 simp only [List.map_cons, List.map_nil] at Tf
 replace Tf : ∀ d, Turns Tryz.prog env 16 [.ptr d 0, .sl .any [tNat.cells], .int .i64 2] d (.box (deckC l 0)) (.agg f.cells) (.box (deckC l a1)) := Tf
 have df : Dc [tNat] f := mf.dc gN (by simp)
 have zf : fmSz f ≤ 1000 := by have := (mf.all gN (by simp)).2.1; omega
 have h1 := c_refNat
 have h2 := c_Number n (by omega)
 have h3 := c_Bounded08 all (numT n) (numT_W n) f wf
 rw [bndR_small (numT_G n) (by rw [tmSz_num]; omega) (least_num (by omega) n) df.G (by omega), num_up] at h3
 have zb : fmSz (bndF all (numT n) f) ≤ 4096 := by rw [bnd_sz, tmSz_num]; omega
 have h4 := c_decTruth (bndC_dc (all := all) n df) zb 65536 (by omega)
 have hk := dA_code (lim := 65536) (bndC_dc (all := all) n df) zb
 have hE := law_decEnd (all := all) df zf hn
 have hP := fun i => law_decStop (all := all) (i := i) df zf hn
 have hc := fun k (hk : k < 4096) => hR_code (lim := 3000) (k := k) df (by omega) hk
 have hH := fun k (hk : k ≤ 4000) => c_holdsNum df (by omega) k hk 3000 (by omega)
 have hR0 : (List.range n).length = n := List.length_range
 have wn : IntKind.i64.wrap (n : Int) = n := wrap_eq rfl (by omega) (by omega)
 have n0 : ((0 : Int) != 0) = false := rfl
 unfold fmErrV at h3
 unfold dA at hk hE hP
 rw [decV_tup] at h4
 generalize dT 65536 (fdp (bndF all (numT n) f)) 0 (bndF all (numT n) f) = B at *
 obtain ⟨gb, gw, ge⟩ := B
 simp only at h4 hk hE hP h3
 clear df zf mf wf zb gN
 generalize bndF all (numT n) f = fb at *
 generalize numT n = tn at *
 have hX : ge = 0 → (if (ge != 0) = true then false else gb) = gb := fun e => by subst e; rfl
 generalize (if (ge != 0) = true then false else gb) = X at *
 generalize (if (ge != 0) = true then (0 : Int) else (gw : Int)) = Xw at *
 have hl0 := c_limit09' ge (by omega)
 have aa : (all == all) = true := by simp
 have na : (all != all) = false := by simp
 have m0 : ((0 : Int) == 0) = true := rfl
 have bb : (gb == gb) = true := by simp
 intro h
 refine en Tryz.func7 [.tmp 6] rfl rfl fun g0 w0 gen hrel hfr hfr' hres => ?_
 repeat' (first
  | (first | refine wp rfl ?_ | refine spt rfl ?_ | refine spf rfl ?_ | (refine spl (fun hc => ?_) fun hc => ?_) <;> (try rw [beq_iff_eq] at hc) <;> try simp only [hc] | (refine gs (fun hb => ?_) fun hb => ?_) <;> try simp only [Bool.not_true, Bool.not_false] at hb | refine cp (hS) ?_ | refine cp (hF) ?_ | refine Call1_new ⟨gen, 1000, 0⟩ (hN) (by first | exact hfr' _ _ | simp only [go_sem, *]) ?_ | refine cp (h1) ?_ | (refine ct (Tf _) ?_ ?_; focus ((simp only [go_sem, *] <;> rfl); done)) | refine cp (h2) ?_ | refine cp (h3) ?_ | refine cp (h4) ?_) <;> try simp only [go_sem, *])
 clear hS hF hN h1 Tf h2 h3 h4
 refine AR_loop_nat (fun i σ => σ.tm 17 = .int .i64 (i : Nat) ∧ σ.tm 1 = .bool all ∧ σ.tm 7 = .ptr ⟨gen, 5, 5⟩ 0 ∧ σ.tm 8 = .int .i64 n ∧ σ.tm 13 = .bool X ∧ σ.tm 15 = .int .i64 ge ∧ σ.tm 16 = .bool all ∧
  σ.h ⟨gen, 5, 5⟩ = some (.box f.cells) ∧ Agree h σ.h ∧ ∀ j, j < i → (hR 3000 f j).2.2 = 0 ∧ (hR 3000 f j).1 = all) n ?_ ?_
 ·simp only [go_sem, *]
  exact ⟨rfl, (by repeat (first | exact Agree.refl _ | assumption | refine Agree.new ?_ (hgf0 _ _) | refine Agree.new ?_ (hfr' _ _))), fun j hj => absurd hj (by omega)⟩
 intro i σ hi ⟨j17, j1, j7, j8, j13, j15, j16, jb, jA, jH⟩
 rcases Nat.lt_or_ge i n with hlt | hge
 ·have hd : decide ((i : Int) < (n : Int)) = true := by simp; omega
  have hw : IntKind.i64.wrap ((i : Int) + 1) = ((i + 1 : Nat) : Int) := wrap_eq (by omega) (by omega) (by omega)
  have hh := hH i (by omega)
  have hce := hc i (by omega)
  have hp := hP i hlt jH
  have hnx : (hR 3000 f i).2.2 = 0 → (hR 3000 f i).1 = all → ∀ j, j < i + 1 → (hR 3000 f j).2.2 = 0 ∧ (hR 3000 f j).1 = all := fun c1 c2 j hj => by
   rcases Nat.lt_or_ge j i with h1 | h1
   ·exact jH j h1
   ·obtain rfl : j = i := by omega
    exact ⟨c1, c2⟩
  rw [decV_tup] at hh
  generalize hR 3000 f i = a at hh hce hp hnx
  obtain ⟨ab, au, ae⟩ := a
  simp only at hh hce hp hnx
  clear hE hP hc hH jH
  by_cases he : ae = 0
  ·subst he
   simp only [n0, Bool.false_eq_true, if_false] at hh
   by_cases hab : ab = all
   ·subst hab
    replace hnx := hnx rfl rfl
    clear hp
    repeat' (first
     | (first | refine wp rfl ?_ | refine spt rfl ?_ | refine spf rfl ?_ | (refine spl (fun hc => ?_) fun hc => ?_) <;> (try rw [beq_iff_eq] at hc) <;> try simp only [hc] | (refine gs (fun hb => ?_) fun hb => ?_) <;> try simp only [Bool.not_true, Bool.not_false] at hb | refine cp (hh) ?_ | refine AR_inv ?_) <;> try simp only [go_sem, *])
    first | exact hnx | exact ⟨jA, hnx⟩
   ·obtain ⟨p1, p2⟩ := hp rfl hab
    subst p1 p2
    obtain rfl := hX rfl
    have nab : (X != all) = true := by cases X <;> cases all <;> simp_all
    clear hnx hX hk hab
    repeat' (first
     | exact hin _ | exact agf (by assumption)
     | (first | refine wp rfl ?_ | refine spt rfl ?_ | refine spf rfl ?_ | (refine spl (fun hc => ?_) fun hc => ?_) <;> (try rw [beq_iff_eq] at hc) <;> try simp only [hc] | (refine gs (fun hb => ?_) fun hb => ?_) <;> try simp only [Bool.not_true, Bool.not_false] at hb | refine cp (hh) ?_ | refine finF hrel ?_ ?_ ?_) <;> try simp only [go_sem, *])
  ·have nae : (ae != 0) = true := by simpa using he
   have hl1 := c_limit09' ae (by omega)
   simp only [nae, if_true] at hh
   clear hnx hX hp
   repeat' (first
    | exact hin _ | exact agf (by assumption)
    | (first | refine wp rfl ?_ | refine spt rfl ?_ | refine spf rfl ?_ | (refine spl (fun hc => ?_) fun hc => ?_) <;> (try rw [beq_iff_eq] at hc) <;> try simp only [hc] | (refine gs (fun hb => ?_) fun hb => ?_) <;> try simp only [Bool.not_true, Bool.not_false] at hb | refine cp (hh) ?_ | refine cp (hl0) ?_ | refine cp (hl1) ?_ | refine finF hrel ?_ ?_ ?_) <;> try simp only [go_sem, *])
 ·obtain rfl : i = n := by omega
  have hd : decide ((i : Int) < (i : Int)) = false := by simp
  obtain ⟨p1, p2⟩ := hE jH
  subst p1 p2
  obtain rfl := hX rfl
  clear hX hk hP hc hH jH hE
  repeat' (first
   | exact hin _ | exact agf (by assumption)
   | (first | refine wp rfl ?_ | refine spt rfl ?_ | refine spf rfl ?_ | (refine spl (fun hc => ?_) fun hc => ?_) <;> (try rw [beq_iff_eq] at hc) <;> try simp only [hc] | (refine gs (fun hb => ?_) fun hb => ?_) <;> try simp only [Bool.not_true, Bool.not_false] at hb | refine finF hrel ?_ ?_ ?_) <;> try simp only [go_sem, *])
end Go.Proofs.YtenelbgbjmijiaaGreatDoor
