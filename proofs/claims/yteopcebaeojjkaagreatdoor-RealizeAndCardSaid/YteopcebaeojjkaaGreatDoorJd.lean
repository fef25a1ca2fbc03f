/-
 Walks: the law of RealizeAnd.
-/
import Derived.Test.YteopcebaeojjkaaGreatDoorIi
import Derived.Test.YteopcebaeojjkaaGreatDoorJb
set_option linter.unusedSimpArgs false
set_option linter.unusedVariables false
set_option linter.unusedSectionVars false
set_option maxRecDepth 20000
set_option maxHeartbeats 4000000
namespace Go.Proofs.YteopcebaeojjkaaGreatDoor
open Go GoAbs Go.Proofs
section
variable (l : List Int) (hl : l.length ≤ 1000) (a1 a2 a3 a4 : Nat) (f g FX FA FB : Fm) (s s' : Ty) (a b : Tm) (eX eA eB : Int)
  (A24 : Pure Tryz.prog env 42 [] (.bool true))
  (hF : Pure Tryz.prog env 10 [.sl .any (ints l)] (.bool true))
  (hN : News Tryz.prog env 13 [.sl .any (ints l)] (deckC l 0))
  (hT : ∀ d, Turns Tryz.prog env 15 [.ptr d 0, .sl .any [], .int .i64 2] d (.box (deckC l 0)) (.agg f.cells) (.box (deckC l a1)))
  (hT' : ∀ d, Turns Tryz.prog env 15 [.ptr d 0, .sl .any [], .int .i64 2] d (.box (deckC l a1)) (.agg g.cells) (.box (deckC l a2)))
  (h1 : Pure Tryz.prog env 43 [.agg f.cells] (.tup [.agg s.cells, .int .i64 0]))
  (h2 : Pure Tryz.prog env 43 [.agg g.cells] (.tup [.agg s'.cells, .int .i64 0]))
  (hTa : ∀ d, Turns Tryz.prog env 37 [.ptr d 0, .sl .any [], .agg s.cells, .int .i64 2] d (.box (deckC l a2)) (.agg a.cells) (.box (deckC l a3)))
  (hTb : ∀ d, Turns Tryz.prog env 37 [.ptr d 0, .sl .any [], .agg s'.cells, .int .i64 2] d (.box (deckC l a3)) (.agg b.cells) (.box (deckC l a4)))
  (cA : Pure Tryz.prog env 44 [.agg f.cells, .agg a.cells] (.tup [.agg FA.cells, .int .i64 eA]))
  (cB : Pure Tryz.prog env 44 [.agg g.cells, .agg b.cells] (.tup [.agg FB.cells, .int .i64 eB]))
  (key : eX = 4 ∨ (eX = 0 ∧ eA = 4) ∨ (eX = 0 ∧ eA = 0 ∧ eB = 4) ∨ (eX = 0 ∧ eA = 0 ∧ eB = 0 ∧ ∃ e, lim0 e ∧ Pure Tryz.prog env 52 [.agg FX.cells, .agg [.int .i64 2, .int .i64 0, .sl .any [], .sl .any [], .sl .any [FA.cells, FB.cells]]] (.int .i64 e)))
include hl A24 hF hN hT hT' h1 h2 hTa hTb cA cB key
theorem c_rlAnd_ff (b1 : Pure Tryz.prog env 53 [.agg f.cells] (.bool false)) (b2 : Pure Tryz.prog env 53 [.agg g.cells] (.bool false))
  (cT : Pure Tryz.prog env 44 [.agg [.int .i64 2, .int .i64 0, .sl .any [], .sl .any [], .sl .any [f.cells, g.cells]], .agg (b.cells)] (.tup [.agg FX.cells, .int .i64 eX])) :
  Pure Tryz.prog env 8 [.sl .any (ints l)] (.bool true) := by
 intro h
 have n4 : ((4 : Int) != 0) = true := rfl
 have n0 : ((0 : Int) != 0) = false := rfl
 have k4 : ((4 : Int) == 4) = true := rfl
 have k0 : ((0 : Int) == 0) = true := rfl
 have k04 : ((0 : Int) == 4) = false := rfl
 have k40 : ((4 : Int) == 0) = false := rfl
 have k50 : ((5 : Int) == 0) = false := rfl
 have k54 : ((5 : Int) == 4) = false := rfl
 have k55 : ((5 : Int) == 5) = true := rfl
 rcases key with rfl | ⟨rfl, rfl⟩ | ⟨rfl, rfl, rfl⟩ | ⟨rfl, rfl, rfl, e, el, hX⟩
 ·
  refine en Tryz.func8 [.tmp 2] rfl rfl fun g0 w0 gen hrel hfr hfr' hres => ?_
  repeat' (first
   | (refine ⟨?_, ?_⟩; focus ((repeat' (first | refine And.intro ?_ ?_ | refine Or.inr ?_)); all_goals kernel_rfl))
   | exact hin _ | exact agf (by assumption)
   | (first | refine wp rfl ?_ | refine spt rfl ?_ | refine spf rfl ?_ | (refine spl (fun hc => ?_) fun hc => ?_) <;> (try rw [beq_iff_eq] at hc) <;> try simp only [hc] | (refine gs (fun hb => ?_) fun hb => ?_) <;> try simp only [Bool.not_true, Bool.not_false] at hb | refine cp (hF) ?_ | refine cp (A24) ?_ | refine Call1_new ⟨gen, 1000, 0⟩ (hN) (by first | exact hfr' _ _ | simp only [go_sem, *]) ?_ | (refine ct (hT _) ?_ ?_; focus ((simp only [go_sem, *] <;> rfl); done)) | (refine ct (hT' _) ?_ ?_; focus ((simp only [go_sem, *] <;> rfl); done)) | refine cp (h1) ?_ | refine cp (h2) ?_ | (refine ct (hTa _) ?_ ?_; focus ((simp only [go_sem, *] <;> rfl); done)) | (refine ct (hTb _) ?_ ?_; focus ((simp only [go_sem, *] <;> rfl); done)) | refine cp (b1) ?_ | refine cp (b2) ?_ | refine cp (cT) ?_ | refine cp (cA) ?_ | refine cp (cB) ?_ | refine finF hrel ?_ ?_ ?_) <;> try simp only [go_sem, *])
 ·
  refine en Tryz.func8 [.tmp 2] rfl rfl fun g0 w0 gen hrel hfr hfr' hres => ?_
  repeat' (first
   | (refine ⟨?_, ?_⟩; focus ((repeat' (first | refine And.intro ?_ ?_ | refine Or.inr ?_)); all_goals kernel_rfl))
   | exact hin _ | exact agf (by assumption)
   | (first | refine wp rfl ?_ | refine spt rfl ?_ | refine spf rfl ?_ | (refine spl (fun hc => ?_) fun hc => ?_) <;> (try rw [beq_iff_eq] at hc) <;> try simp only [hc] | (refine gs (fun hb => ?_) fun hb => ?_) <;> try simp only [Bool.not_true, Bool.not_false] at hb | refine cp (hF) ?_ | refine cp (A24) ?_ | refine Call1_new ⟨gen, 1000, 0⟩ (hN) (by first | exact hfr' _ _ | simp only [go_sem, *]) ?_ | (refine ct (hT _) ?_ ?_; focus ((simp only [go_sem, *] <;> rfl); done)) | (refine ct (hT' _) ?_ ?_; focus ((simp only [go_sem, *] <;> rfl); done)) | refine cp (h1) ?_ | refine cp (h2) ?_ | (refine ct (hTa _) ?_ ?_; focus ((simp only [go_sem, *] <;> rfl); done)) | (refine ct (hTb _) ?_ ?_; focus ((simp only [go_sem, *] <;> rfl); done)) | refine cp (b1) ?_ | refine cp (b2) ?_ | refine cp (cT) ?_ | refine cp (cA) ?_ | refine cp (cB) ?_ | refine finF hrel ?_ ?_ ?_) <;> try simp only [go_sem, *])
 ·
  refine en Tryz.func8 [.tmp 2] rfl rfl fun g0 w0 gen hrel hfr hfr' hres => ?_
  repeat' (first
   | (refine ⟨?_, ?_⟩; focus ((repeat' (first | refine And.intro ?_ ?_ | refine Or.inr ?_)); all_goals kernel_rfl))
   | exact hin _ | exact agf (by assumption)
   | (first | refine wp rfl ?_ | refine spt rfl ?_ | refine spf rfl ?_ | (refine spl (fun hc => ?_) fun hc => ?_) <;> (try rw [beq_iff_eq] at hc) <;> try simp only [hc] | (refine gs (fun hb => ?_) fun hb => ?_) <;> try simp only [Bool.not_true, Bool.not_false] at hb | refine cp (hF) ?_ | refine cp (A24) ?_ | refine Call1_new ⟨gen, 1000, 0⟩ (hN) (by first | exact hfr' _ _ | simp only [go_sem, *]) ?_ | (refine ct (hT _) ?_ ?_; focus ((simp only [go_sem, *] <;> rfl); done)) | (refine ct (hT' _) ?_ ?_; focus ((simp only [go_sem, *] <;> rfl); done)) | refine cp (h1) ?_ | refine cp (h2) ?_ | (refine ct (hTa _) ?_ ?_; focus ((simp only [go_sem, *] <;> rfl); done)) | (refine ct (hTb _) ?_ ?_; focus ((simp only [go_sem, *] <;> rfl); done)) | refine cp (b1) ?_ | refine cp (b2) ?_ | refine cp (cT) ?_ | refine cp (cA) ?_ | refine cp (cB) ?_ | refine finF hrel ?_ ?_ ?_) <;> try simp only [go_sem, *])
 ·rcases el with rfl | rfl | rfl
  all_goals
   refine en Tryz.func8 [.tmp 2] rfl rfl fun g0 w0 gen hrel hfr hfr' hres => ?_
   repeat' (first
    | (refine ⟨?_, ?_⟩; focus ((repeat' (first | refine And.intro ?_ ?_ | refine Or.inr ?_)); all_goals kernel_rfl))
    | exact hin _ | exact agf (by assumption)
    | (first | refine wp rfl ?_ | refine spt rfl ?_ | refine spf rfl ?_ | (refine spl (fun hc => ?_) fun hc => ?_) <;> (try rw [beq_iff_eq] at hc) <;> try simp only [hc] | (refine gs (fun hb => ?_) fun hb => ?_) <;> try simp only [Bool.not_true, Bool.not_false] at hb | refine cp (hF) ?_ | refine cp (A24) ?_ | refine Call1_new ⟨gen, 1000, 0⟩ (hN) (by first | exact hfr' _ _ | simp only [go_sem, *]) ?_ | (refine ct (hT _) ?_ ?_; focus ((simp only [go_sem, *] <;> rfl); done)) | (refine ct (hT' _) ?_ ?_; focus ((simp only [go_sem, *] <;> rfl); done)) | refine cp (h1) ?_ | refine cp (h2) ?_ | (refine ct (hTa _) ?_ ?_; focus ((simp only [go_sem, *] <;> rfl); done)) | (refine ct (hTb _) ?_ ?_; focus ((simp only [go_sem, *] <;> rfl); done)) | refine cp (b1) ?_ | refine cp (b2) ?_ | refine cp (cT) ?_ | refine cp (cA) ?_ | refine cp (cB) ?_ | refine cp (hX) ?_ | refine finF hrel ?_ ?_ ?_) <;> try simp only [go_sem, *])
theorem c_rlAnd_ft (b1 : Pure Tryz.prog env 53 [.agg f.cells] (.bool false)) (b2 : Pure Tryz.prog env 53 [.agg g.cells] (.bool true))
  (cT : Pure Tryz.prog env 44 [.agg [.int .i64 2, .int .i64 0, .sl .any [], .sl .any [], .sl .any [f.cells, g.cells]], .agg (b.cells)] (.tup [.agg FX.cells, .int .i64 eX])) :
  Pure Tryz.prog env 8 [.sl .any (ints l)] (.bool true) := by
 intro h
 have n4 : ((4 : Int) != 0) = true := rfl
 have n0 : ((0 : Int) != 0) = false := rfl
 have k4 : ((4 : Int) == 4) = true := rfl
 have k0 : ((0 : Int) == 0) = true := rfl
 have k04 : ((0 : Int) == 4) = false := rfl
 have k40 : ((4 : Int) == 0) = false := rfl
 have k50 : ((5 : Int) == 0) = false := rfl
 have k54 : ((5 : Int) == 4) = false := rfl
 have k55 : ((5 : Int) == 5) = true := rfl
 rcases key with rfl | ⟨rfl, rfl⟩ | ⟨rfl, rfl, rfl⟩ | ⟨rfl, rfl, rfl, e, el, hX⟩
 ·
  refine en Tryz.func8 [.tmp 2] rfl rfl fun g0 w0 gen hrel hfr hfr' hres => ?_
  repeat' (first
   | (refine ⟨?_, ?_⟩; focus ((repeat' (first | refine And.intro ?_ ?_ | refine Or.inr ?_)); all_goals kernel_rfl))
   | exact hin _ | exact agf (by assumption)
   | (first | refine wp rfl ?_ | refine spt rfl ?_ | refine spf rfl ?_ | (refine spl (fun hc => ?_) fun hc => ?_) <;> (try rw [beq_iff_eq] at hc) <;> try simp only [hc] | (refine gs (fun hb => ?_) fun hb => ?_) <;> try simp only [Bool.not_true, Bool.not_false] at hb | refine cp (hF) ?_ | refine cp (A24) ?_ | refine Call1_new ⟨gen, 1000, 0⟩ (hN) (by first | exact hfr' _ _ | simp only [go_sem, *]) ?_ | (refine ct (hT _) ?_ ?_; focus ((simp only [go_sem, *] <;> rfl); done)) | (refine ct (hT' _) ?_ ?_; focus ((simp only [go_sem, *] <;> rfl); done)) | refine cp (h1) ?_ | refine cp (h2) ?_ | (refine ct (hTa _) ?_ ?_; focus ((simp only [go_sem, *] <;> rfl); done)) | (refine ct (hTb _) ?_ ?_; focus ((simp only [go_sem, *] <;> rfl); done)) | refine cp (b1) ?_ | refine cp (b2) ?_ | refine cp (cT) ?_ | refine cp (cA) ?_ | refine cp (cB) ?_ | refine finF hrel ?_ ?_ ?_) <;> try simp only [go_sem, *])
 ·
  refine en Tryz.func8 [.tmp 2] rfl rfl fun g0 w0 gen hrel hfr hfr' hres => ?_
  repeat' (first
   | (refine ⟨?_, ?_⟩; focus ((repeat' (first | refine And.intro ?_ ?_ | refine Or.inr ?_)); all_goals kernel_rfl))
   | exact hin _ | exact agf (by assumption)
   | (first | refine wp rfl ?_ | refine spt rfl ?_ | refine spf rfl ?_ | (refine spl (fun hc => ?_) fun hc => ?_) <;> (try rw [beq_iff_eq] at hc) <;> try simp only [hc] | (refine gs (fun hb => ?_) fun hb => ?_) <;> try simp only [Bool.not_true, Bool.not_false] at hb | refine cp (hF) ?_ | refine cp (A24) ?_ | refine Call1_new ⟨gen, 1000, 0⟩ (hN) (by first | exact hfr' _ _ | simp only [go_sem, *]) ?_ | (refine ct (hT _) ?_ ?_; focus ((simp only [go_sem, *] <;> rfl); done)) | (refine ct (hT' _) ?_ ?_; focus ((simp only [go_sem, *] <;> rfl); done)) | refine cp (h1) ?_ | refine cp (h2) ?_ | (refine ct (hTa _) ?_ ?_; focus ((simp only [go_sem, *] <;> rfl); done)) | (refine ct (hTb _) ?_ ?_; focus ((simp only [go_sem, *] <;> rfl); done)) | refine cp (b1) ?_ | refine cp (b2) ?_ | refine cp (cT) ?_ | refine cp (cA) ?_ | refine cp (cB) ?_ | refine finF hrel ?_ ?_ ?_) <;> try simp only [go_sem, *])
 ·
  refine en Tryz.func8 [.tmp 2] rfl rfl fun g0 w0 gen hrel hfr hfr' hres => ?_
  repeat' (first
   | (refine ⟨?_, ?_⟩; focus ((repeat' (first | refine And.intro ?_ ?_ | refine Or.inr ?_)); all_goals kernel_rfl))
   | exact hin _ | exact agf (by assumption)
   | (first | refine wp rfl ?_ | refine spt rfl ?_ | refine spf rfl ?_ | (refine spl (fun hc => ?_) fun hc => ?_) <;> (try rw [beq_iff_eq] at hc) <;> try simp only [hc] | (refine gs (fun hb => ?_) fun hb => ?_) <;> try simp only [Bool.not_true, Bool.not_false] at hb | refine cp (hF) ?_ | refine cp (A24) ?_ | refine Call1_new ⟨gen, 1000, 0⟩ (hN) (by first | exact hfr' _ _ | simp only [go_sem, *]) ?_ | (refine ct (hT _) ?_ ?_; focus ((simp only [go_sem, *] <;> rfl); done)) | (refine ct (hT' _) ?_ ?_; focus ((simp only [go_sem, *] <;> rfl); done)) | refine cp (h1) ?_ | refine cp (h2) ?_ | (refine ct (hTa _) ?_ ?_; focus ((simp only [go_sem, *] <;> rfl); done)) | (refine ct (hTb _) ?_ ?_; focus ((simp only [go_sem, *] <;> rfl); done)) | refine cp (b1) ?_ | refine cp (b2) ?_ | refine cp (cT) ?_ | refine cp (cA) ?_ | refine cp (cB) ?_ | refine finF hrel ?_ ?_ ?_) <;> try simp only [go_sem, *])
 ·rcases el with rfl | rfl | rfl
  all_goals
   refine en Tryz.func8 [.tmp 2] rfl rfl fun g0 w0 gen hrel hfr hfr' hres => ?_
   repeat' (first
    | (refine ⟨?_, ?_⟩; focus ((repeat' (first | refine And.intro ?_ ?_ | refine Or.inr ?_)); all_goals kernel_rfl))
    | exact hin _ | exact agf (by assumption)
    | (first | refine wp rfl ?_ | refine spt rfl ?_ | refine spf rfl ?_ | (refine spl (fun hc => ?_) fun hc => ?_) <;> (try rw [beq_iff_eq] at hc) <;> try simp only [hc] | (refine gs (fun hb => ?_) fun hb => ?_) <;> try simp only [Bool.not_true, Bool.not_false] at hb | refine cp (hF) ?_ | refine cp (A24) ?_ | refine Call1_new ⟨gen, 1000, 0⟩ (hN) (by first | exact hfr' _ _ | simp only [go_sem, *]) ?_ | (refine ct (hT _) ?_ ?_; focus ((simp only [go_sem, *] <;> rfl); done)) | (refine ct (hT' _) ?_ ?_; focus ((simp only [go_sem, *] <;> rfl); done)) | refine cp (h1) ?_ | refine cp (h2) ?_ | (refine ct (hTa _) ?_ ?_; focus ((simp only [go_sem, *] <;> rfl); done)) | (refine ct (hTb _) ?_ ?_; focus ((simp only [go_sem, *] <;> rfl); done)) | refine cp (b1) ?_ | refine cp (b2) ?_ | refine cp (cT) ?_ | refine cp (cA) ?_ | refine cp (cB) ?_ | refine cp (hX) ?_ | refine finF hrel ?_ ?_ ?_) <;> try simp only [go_sem, *])
theorem c_rlAnd_tf (b1 : Pure Tryz.prog env 53 [.agg f.cells] (.bool true)) (b2 : Pure Tryz.prog env 53 [.agg g.cells] (.bool false))
  (cT : Pure Tryz.prog env 44 [.agg [.int .i64 2, .int .i64 0, .sl .any [], .sl .any [], .sl .any [f.cells, g.cells]], .agg (a.cells)] (.tup [.agg FX.cells, .int .i64 eX])) :
  Pure Tryz.prog env 8 [.sl .any (ints l)] (.bool true) := by
 intro h
 have n4 : ((4 : Int) != 0) = true := rfl
 have n0 : ((0 : Int) != 0) = false := rfl
 have k4 : ((4 : Int) == 4) = true := rfl
 have k0 : ((0 : Int) == 0) = true := rfl
 have k04 : ((0 : Int) == 4) = false := rfl
 have k40 : ((4 : Int) == 0) = false := rfl
 have k50 : ((5 : Int) == 0) = false := rfl
 have k54 : ((5 : Int) == 4) = false := rfl
 have k55 : ((5 : Int) == 5) = true := rfl
 rcases key with rfl | ⟨rfl, rfl⟩ | ⟨rfl, rfl, rfl⟩ | ⟨rfl, rfl, rfl, e, el, hX⟩
 ·
  refine en Tryz.func8 [.tmp 2] rfl rfl fun g0 w0 gen hrel hfr hfr' hres => ?_
  repeat' (first
   | (refine ⟨?_, ?_⟩; focus ((repeat' (first | refine And.intro ?_ ?_ | refine Or.inr ?_)); all_goals kernel_rfl))
   | exact hin _ | exact agf (by assumption)
   | (first | refine wp rfl ?_ | refine spt rfl ?_ | refine spf rfl ?_ | (refine spl (fun hc => ?_) fun hc => ?_) <;> (try rw [beq_iff_eq] at hc) <;> try simp only [hc] | (refine gs (fun hb => ?_) fun hb => ?_) <;> try simp only [Bool.not_true, Bool.not_false] at hb | refine cp (hF) ?_ | refine cp (A24) ?_ | refine Call1_new ⟨gen, 1000, 0⟩ (hN) (by first | exact hfr' _ _ | simp only [go_sem, *]) ?_ | (refine ct (hT _) ?_ ?_; focus ((simp only [go_sem, *] <;> rfl); done)) | (refine ct (hT' _) ?_ ?_; focus ((simp only [go_sem, *] <;> rfl); done)) | refine cp (h1) ?_ | refine cp (h2) ?_ | (refine ct (hTa _) ?_ ?_; focus ((simp only [go_sem, *] <;> rfl); done)) | (refine ct (hTb _) ?_ ?_; focus ((simp only [go_sem, *] <;> rfl); done)) | refine cp (b1) ?_ | refine cp (b2) ?_ | refine cp (cT) ?_ | refine cp (cA) ?_ | refine cp (cB) ?_ | refine finF hrel ?_ ?_ ?_) <;> try simp only [go_sem, *])
 ·
  refine en Tryz.func8 [.tmp 2] rfl rfl fun g0 w0 gen hrel hfr hfr' hres => ?_
  repeat' (first
   | (refine ⟨?_, ?_⟩; focus ((repeat' (first | refine And.intro ?_ ?_ | refine Or.inr ?_)); all_goals kernel_rfl))
   | exact hin _ | exact agf (by assumption)
   | (first | refine wp rfl ?_ | refine spt rfl ?_ | refine spf rfl ?_ | (refine spl (fun hc => ?_) fun hc => ?_) <;> (try rw [beq_iff_eq] at hc) <;> try simp only [hc] | (refine gs (fun hb => ?_) fun hb => ?_) <;> try simp only [Bool.not_true, Bool.not_false] at hb | refine cp (hF) ?_ | refine cp (A24) ?_ | refine Call1_new ⟨gen, 1000, 0⟩ (hN) (by first | exact hfr' _ _ | simp only [go_sem, *]) ?_ | (refine ct (hT _) ?_ ?_; focus ((simp only [go_sem, *] <;> rfl); done)) | (refine ct (hT' _) ?_ ?_; focus ((simp only [go_sem, *] <;> rfl); done)) | refine cp (h1) ?_ | refine cp (h2) ?_ | (refine ct (hTa _) ?_ ?_; focus ((simp only [go_sem, *] <;> rfl); done)) | (refine ct (hTb _) ?_ ?_; focus ((simp only [go_sem, *] <;> rfl); done)) | refine cp (b1) ?_ | refine cp (b2) ?_ | refine cp (cT) ?_ | refine cp (cA) ?_ | refine cp (cB) ?_ | refine finF hrel ?_ ?_ ?_) <;> try simp only [go_sem, *])
 ·
  refine en Tryz.func8 [.tmp 2] rfl rfl fun g0 w0 gen hrel hfr hfr' hres => ?_
  repeat' (first
   | (refine ⟨?_, ?_⟩; focus ((repeat' (first | refine And.intro ?_ ?_ | refine Or.inr ?_)); all_goals kernel_rfl))
   | exact hin _ | exact agf (by assumption)
   | (first | refine wp rfl ?_ | refine spt rfl ?_ | refine spf rfl ?_ | (refine spl (fun hc => ?_) fun hc => ?_) <;> (try rw [beq_iff_eq] at hc) <;> try simp only [hc] | (refine gs (fun hb => ?_) fun hb => ?_) <;> try simp only [Bool.not_true, Bool.not_false] at hb | refine cp (hF) ?_ | refine cp (A24) ?_ | refine Call1_new ⟨gen, 1000, 0⟩ (hN) (by first | exact hfr' _ _ | simp only [go_sem, *]) ?_ | (refine ct (hT _) ?_ ?_; focus ((simp only [go_sem, *] <;> rfl); done)) | (refine ct (hT' _) ?_ ?_; focus ((simp only [go_sem, *] <;> rfl); done)) | refine cp (h1) ?_ | refine cp (h2) ?_ | (refine ct (hTa _) ?_ ?_; focus ((simp only [go_sem, *] <;> rfl); done)) | (refine ct (hTb _) ?_ ?_; focus ((simp only [go_sem, *] <;> rfl); done)) | refine cp (b1) ?_ | refine cp (b2) ?_ | refine cp (cT) ?_ | refine cp (cA) ?_ | refine cp (cB) ?_ | refine finF hrel ?_ ?_ ?_) <;> try simp only [go_sem, *])
 ·rcases el with rfl | rfl | rfl
  all_goals
   refine en Tryz.func8 [.tmp 2] rfl rfl fun g0 w0 gen hrel hfr hfr' hres => ?_
   repeat' (first
    | (refine ⟨?_, ?_⟩; focus ((repeat' (first | refine And.intro ?_ ?_ | refine Or.inr ?_)); all_goals kernel_rfl))
    | exact hin _ | exact agf (by assumption)
    | (first | refine wp rfl ?_ | refine spt rfl ?_ | refine spf rfl ?_ | (refine spl (fun hc => ?_) fun hc => ?_) <;> (try rw [beq_iff_eq] at hc) <;> try simp only [hc] | (refine gs (fun hb => ?_) fun hb => ?_) <;> try simp only [Bool.not_true, Bool.not_false] at hb | refine cp (hF) ?_ | refine cp (A24) ?_ | refine Call1_new ⟨gen, 1000, 0⟩ (hN) (by first | exact hfr' _ _ | simp only [go_sem, *]) ?_ | (refine ct (hT _) ?_ ?_; focus ((simp only [go_sem, *] <;> rfl); done)) | (refine ct (hT' _) ?_ ?_; focus ((simp only [go_sem, *] <;> rfl); done)) | refine cp (h1) ?_ | refine cp (h2) ?_ | (refine ct (hTa _) ?_ ?_; focus ((simp only [go_sem, *] <;> rfl); done)) | (refine ct (hTb _) ?_ ?_; focus ((simp only [go_sem, *] <;> rfl); done)) | refine cp (b1) ?_ | refine cp (b2) ?_ | refine cp (cT) ?_ | refine cp (cA) ?_ | refine cp (cB) ?_ | refine cp (hX) ?_ | refine finF hrel ?_ ?_ ?_) <;> try simp only [go_sem, *])
theorem c_rlAnd_tt (b1 : Pure Tryz.prog env 53 [.agg f.cells] (.bool true)) (b2 : Pure Tryz.prog env 53 [.agg g.cells] (.bool true))
  (cT : Pure Tryz.prog env 44 [.agg [.int .i64 2, .int .i64 0, .sl .any [], .sl .any [], .sl .any [f.cells, g.cells]], .agg [.int .i64 10, .int .i64 0, .int .i64 0, .sl .any [], .sl .any [a.cells, b.cells]]] (.tup [.agg FX.cells, .int .i64 eX])) :
  Pure Tryz.prog env 8 [.sl .any (ints l)] (.bool true) := by
 intro h
 have n4 : ((4 : Int) != 0) = true := rfl
 have n0 : ((0 : Int) != 0) = false := rfl
 have k4 : ((4 : Int) == 4) = true := rfl
 have k0 : ((0 : Int) == 0) = true := rfl
 have k04 : ((0 : Int) == 4) = false := rfl
 have k40 : ((4 : Int) == 0) = false := rfl
 have k50 : ((5 : Int) == 0) = false := rfl
 have k54 : ((5 : Int) == 4) = false := rfl
 have k55 : ((5 : Int) == 5) = true := rfl
 rcases key with rfl | ⟨rfl, rfl⟩ | ⟨rfl, rfl, rfl⟩ | ⟨rfl, rfl, rfl, e, el, hX⟩
 ·
  refine en Tryz.func8 [.tmp 2] rfl rfl fun g0 w0 gen hrel hfr hfr' hres => ?_
  repeat' (first
   | (refine ⟨?_, ?_⟩; focus ((repeat' (first | refine And.intro ?_ ?_ | refine Or.inr ?_)); all_goals kernel_rfl))
   | exact hin _ | exact agf (by assumption)
   | (first | refine wp rfl ?_ | refine spt rfl ?_ | refine spf rfl ?_ | (refine spl (fun hc => ?_) fun hc => ?_) <;> (try rw [beq_iff_eq] at hc) <;> try simp only [hc] | (refine gs (fun hb => ?_) fun hb => ?_) <;> try simp only [Bool.not_true, Bool.not_false] at hb | refine cp (hF) ?_ | refine cp (A24) ?_ | refine Call1_new ⟨gen, 1000, 0⟩ (hN) (by first | exact hfr' _ _ | simp only [go_sem, *]) ?_ | (refine ct (hT _) ?_ ?_; focus ((simp only [go_sem, *] <;> rfl); done)) | (refine ct (hT' _) ?_ ?_; focus ((simp only [go_sem, *] <;> rfl); done)) | refine cp (h1) ?_ | refine cp (h2) ?_ | (refine ct (hTa _) ?_ ?_; focus ((simp only [go_sem, *] <;> rfl); done)) | (refine ct (hTb _) ?_ ?_; focus ((simp only [go_sem, *] <;> rfl); done)) | refine cp (b1) ?_ | refine cp (b2) ?_ | refine cp (cT) ?_ | refine cp (cA) ?_ | refine cp (cB) ?_ | refine finF hrel ?_ ?_ ?_) <;> try simp only [go_sem, *])
 ·
  refine en Tryz.func8 [.tmp 2] rfl rfl fun g0 w0 gen hrel hfr hfr' hres => ?_
  repeat' (first
   | (refine ⟨?_, ?_⟩; focus ((repeat' (first | refine And.intro ?_ ?_ | refine Or.inr ?_)); all_goals kernel_rfl))
   | exact hin _ | exact agf (by assumption)
   | (first | refine wp rfl ?_ | refine spt rfl ?_ | refine spf rfl ?_ | (refine spl (fun hc => ?_) fun hc => ?_) <;> (try rw [beq_iff_eq] at hc) <;> try simp only [hc] | (refine gs (fun hb => ?_) fun hb => ?_) <;> try simp only [Bool.not_true, Bool.not_false] at hb | refine cp (hF) ?_ | refine cp (A24) ?_ | refine Call1_new ⟨gen, 1000, 0⟩ (hN) (by first | exact hfr' _ _ | simp only [go_sem, *]) ?_ | (refine ct (hT _) ?_ ?_; focus ((simp only [go_sem, *] <;> rfl); done)) | (refine ct (hT' _) ?_ ?_; focus ((simp only [go_sem, *] <;> rfl); done)) | refine cp (h1) ?_ | refine cp (h2) ?_ | (refine ct (hTa _) ?_ ?_; focus ((simp only [go_sem, *] <;> rfl); done)) | (refine ct (hTb _) ?_ ?_; focus ((simp only [go_sem, *] <;> rfl); done)) | refine cp (b1) ?_ | refine cp (b2) ?_ | refine cp (cT) ?_ | refine cp (cA) ?_ | refine cp (cB) ?_ | refine finF hrel ?_ ?_ ?_) <;> try simp only [go_sem, *])
 ·
  refine en Tryz.func8 [.tmp 2] rfl rfl fun g0 w0 gen hrel hfr hfr' hres => ?_
  repeat' (first
   | (refine ⟨?_, ?_⟩; focus ((repeat' (first | refine And.intro ?_ ?_ | refine Or.inr ?_)); all_goals kernel_rfl))
   | exact hin _ | exact agf (by assumption)
   | (first | refine wp rfl ?_ | refine spt rfl ?_ | refine spf rfl ?_ | (refine spl (fun hc => ?_) fun hc => ?_) <;> (try rw [beq_iff_eq] at hc) <;> try simp only [hc] | (refine gs (fun hb => ?_) fun hb => ?_) <;> try simp only [Bool.not_true, Bool.not_false] at hb | refine cp (hF) ?_ | refine cp (A24) ?_ | refine Call1_new ⟨gen, 1000, 0⟩ (hN) (by first | exact hfr' _ _ | simp only [go_sem, *]) ?_ | (refine ct (hT _) ?_ ?_; focus ((simp only [go_sem, *] <;> rfl); done)) | (refine ct (hT' _) ?_ ?_; focus ((simp only [go_sem, *] <;> rfl); done)) | refine cp (h1) ?_ | refine cp (h2) ?_ | (refine ct (hTa _) ?_ ?_; focus ((simp only [go_sem, *] <;> rfl); done)) | (refine ct (hTb _) ?_ ?_; focus ((simp only [go_sem, *] <;> rfl); done)) | refine cp (b1) ?_ | refine cp (b2) ?_ | refine cp (cT) ?_ | refine cp (cA) ?_ | refine cp (cB) ?_ | refine finF hrel ?_ ?_ ?_) <;> try simp only [go_sem, *])
 ·rcases el with rfl | rfl | rfl
  all_goals
   refine en Tryz.func8 [.tmp 2] rfl rfl fun g0 w0 gen hrel hfr hfr' hres => ?_
   repeat' (first
    | (refine ⟨?_, ?_⟩; focus ((repeat' (first | refine And.intro ?_ ?_ | refine Or.inr ?_)); all_goals kernel_rfl))
    | exact hin _ | exact agf (by assumption)
    | (first | refine wp rfl ?_ | refine spt rfl ?_ | refine spf rfl ?_ | (refine spl (fun hc => ?_) fun hc => ?_) <;> (try rw [beq_iff_eq] at hc) <;> try simp only [hc] | (refine gs (fun hb => ?_) fun hb => ?_) <;> try simp only [Bool.not_true, Bool.not_false] at hb | refine cp (hF) ?_ | refine cp (A24) ?_ | refine Call1_new ⟨gen, 1000, 0⟩ (hN) (by first | exact hfr' _ _ | simp only [go_sem, *]) ?_ | (refine ct (hT _) ?_ ?_; focus ((simp only [go_sem, *] <;> rfl); done)) | (refine ct (hT' _) ?_ ?_; focus ((simp only [go_sem, *] <;> rfl); done)) | refine cp (h1) ?_ | refine cp (h2) ?_ | (refine ct (hTa _) ?_ ?_; focus ((simp only [go_sem, *] <;> rfl); done)) | (refine ct (hTb _) ?_ ?_; focus ((simp only [go_sem, *] <;> rfl); done)) | refine cp (b1) ?_ | refine cp (b2) ?_ | refine cp (cT) ?_ | refine cp (cA) ?_ | refine cp (cB) ?_ | refine cp (hX) ?_ | refine finF hrel ?_ ?_ ?_) <;> try simp only [go_sem, *])
end
theorem c_RealizeAnd (l : List Int) : Pure Tryz.prog env 8 [.sl .any (ints l)] (.bool true) := by
 intro h
 have hF := c_Few l
 cases hf : decide ((l.length : Int) ≤ 500) with
 | false =>
  rw [hf] at hF
  clear hf
  refine en Tryz.func8 [.tmp 2] rfl rfl fun g0 w0 gen hrel hfr hfr' hres => ?_
  repeat' (first
   | (refine ⟨?_, ?_⟩; focus ((repeat' (first | refine And.intro ?_ ?_ | refine Or.inr ?_)); all_goals kernel_rfl))
   | exact hin _ | exact agf (by assumption)
   | (first | refine wp rfl ?_ | refine spt rfl ?_ | refine spf rfl ?_ | (refine spl (fun hc => ?_) fun hc => ?_) <;> (try rw [beq_iff_eq] at hc) <;> try simp only [hc] | (refine gs (fun hb => ?_) fun hb => ?_) <;> try simp only [Bool.not_true, Bool.not_false] at hb | refine cp (hF) ?_ | refine cp (c_awake24) ?_ | refine finF hrel ?_ ?_ ?_) <;> try simp only [go_sem, *])
 | true =>
 rw [hf] at hF
 have hl : l.length ≤ 1000 := by simp at hf; omega
 have hN := c_New l
 obtain ⟨f, a1, hm, fW, hT⟩ := c_Formula l hl 2 (by omega) [] 0 (by simp) (by simp)
 obtain ⟨g, a2, hm', gW, hT'⟩ := c_Formula l hl 2 (by omega) [] a1 (by simp) (by simp)
 have hG := hm.G (by simp)
 have hG' := hm'.G (by simp)
 have h1 := c_r23Type f hG fW (fmErr_sz hm (by omega) (by simp))
 have h2 := c_r23Type g hG' gW (fmErr_sz hm' (by omega) (by simp))
 clear hf
 simp only [List.map_nil] at hT hT'
 have n4 : ((4 : Int) != 0) = true := rfl
 have n0 : ((0 : Int) != 0) = false := rfl
 have k4 : ((4 : Int) == 4) = true := rfl
 have k0 : ((0 : Int) == 0) = true := rfl
 have k04 : ((0 : Int) == 4) = false := rfl
 have k40 : ((4 : Int) == 0) = false := rfl
 have k50 : ((5 : Int) == 0) = false := rfl
 have k54 : ((5 : Int) == 4) = false := rfl
 have k55 : ((5 : Int) == 5) = true := rfl
 cases q1 : (f.cty.2 != 0) with
 | true =>
  simp only [tyErrV] at h1 h2
  clear hm hG hm' hG'
  generalize f.cty.1 = s at *
  generalize f.cty.2 = e at *
  generalize g.cty.1 = s' at *
  generalize g.cty.2 = e' at *
  refine en Tryz.func8 [.tmp 2] rfl rfl fun g0 w0 gen hrel hfr hfr' hres => ?_
  repeat' (first
   | (refine ⟨?_, ?_⟩; focus ((repeat' (first | refine And.intro ?_ ?_ | refine Or.inr ?_)); all_goals kernel_rfl))
   | exact hin _ | exact agf (by assumption)
   | (first | refine wp rfl ?_ | refine spt rfl ?_ | refine spf rfl ?_ | (refine spl (fun hc => ?_) fun hc => ?_) <;> (try rw [beq_iff_eq] at hc) <;> try simp only [hc] | (refine gs (fun hb => ?_) fun hb => ?_) <;> try simp only [Bool.not_true, Bool.not_false] at hb | refine cp (hF) ?_ | refine cp (c_awake24) ?_ | refine Call1_new ⟨gen, 1000, 0⟩ (hN) (by first | exact hfr' _ _ | simp only [go_sem, *]) ?_ | (refine ct (hT _) ?_ ?_; focus ((simp only [go_sem, *] <;> rfl); done)) | (refine ct (hT' _) ?_ ?_; focus ((simp only [go_sem, *] <;> rfl); done)) | refine cp (h1) ?_ | refine cp (h2) ?_ | refine finF hrel ?_ ?_ ?_) <;> try simp only [go_sem, *])
 | false =>
 have ok : f.cty.2 = 0 := by simpa using q1
 cases q2 : (g.cty.2 != 0) with
 | true =>
  simp only [tyErrV, ok] at h1 h2
  clear hm hG hm' hG' q1 ok
  generalize f.cty.1 = s at *
  generalize g.cty.1 = s' at *
  generalize g.cty.2 = e' at *
  refine en Tryz.func8 [.tmp 2] rfl rfl fun g0 w0 gen hrel hfr hfr' hres => ?_
  repeat' (first
   | (refine ⟨?_, ?_⟩; focus ((repeat' (first | refine And.intro ?_ ?_ | refine Or.inr ?_)); all_goals kernel_rfl))
   | exact hin _ | exact agf (by assumption)
   | (first | refine wp rfl ?_ | refine spt rfl ?_ | refine spf rfl ?_ | (refine spl (fun hc => ?_) fun hc => ?_) <;> (try rw [beq_iff_eq] at hc) <;> try simp only [hc] | (refine gs (fun hb => ?_) fun hb => ?_) <;> try simp only [Bool.not_true, Bool.not_false] at hb | refine cp (hF) ?_ | refine cp (c_awake24) ?_ | refine Call1_new ⟨gen, 1000, 0⟩ (hN) (by first | exact hfr' _ _ | simp only [go_sem, *]) ?_ | (refine ct (hT _) ?_ ?_; focus ((simp only [go_sem, *] <;> rfl); done)) | (refine ct (hT' _) ?_ ?_; focus ((simp only [go_sem, *] <;> rfl); done)) | refine cp (h1) ?_ | refine cp (h2) ?_ | refine finF hrel ?_ ?_ ?_) <;> try simp only [go_sem, *])
 | false =>
 have ok' : g.cty.2 = 0 := by simpa using q2
 have g1 := cty_G hG ok
 have g1' := cty_G hG' ok'
 obtain ⟨a, a3, ma, aW, hTa⟩ := c_Term l hl 2 [] f.cty.1 a2 (by simp) g1.1 (by have := g1.h40; omega) (by have := g1.h40; have e : Int.toNat 2 = 2 := rfl; simp; omega) (by have := g1.h40; omega)
 obtain ⟨b, a4, mb, bW, hTb⟩ := c_Term l hl 2 [] g.cty.1 a3 (by simp) g1'.1 (by have := g1'.h40; omega) (by have := g1'.h40; have e : Int.toNat 2 = 2 := rfl; simp; omega) (by have := g1'.h40; omega)
 have e22 : Int.toNat 2 = 2 := rfl
 rw [e22] at ma mb
 simp only [List.map_nil] at hTa hTb
 simp only [tyErrV, ok] at h1
 simp only [tyErrV, ok'] at h2
 obtain ⟨o0, o1, o2, rel⟩ := law_rlAnd hm hm' ok ok' ma mb
 have zf := (mk2 hm).2.1
 have zg := (mk2 hm').2.1
 have b1 := c_r23Has f hG.C fW (hG.err0 (by omega))
 have b2 := c_r23Has g hG'.C gW (hG'.err0 (by omega))
 have tW : FmW (fmTwo 2 f g) := fmTwo_W fW gW
 have tC : FmC (fmTwo 2 f g) := (FmG.two (u := true) (.inl rfl) hG hG').C
 have pW : TmW (rlBoth f g a b) := by
  unfold rlBoth
  repeat' split
  ·exact tm0_W2 aW bW
  ·exact aW
  ·exact bW
 have cT := c_rlF (fmTwo 2 f g) tC tW _ pW
 have cA := c_rlF f hG.C fW a aW
 have cB := c_rlF g hG'.C gW b bW
 have mT := rlF_W tC tW pW
 have mA := rlF_W hG.C fW aW
 have mB := rlF_W hG'.C gW bW
 have wT : (fmTwo 2 f g).cells = [.int .i64 2, .int .i64 0, .sl .any [], .sl .any [], .sl .any [f.cells, g.cells]] := by
  rw [fmTwo, Fm.mk_cells]; simp only [Ty.mk_kind, Ty.mk_args, List.map_cons, List.map_nil]
 rw [wT] at cT
 clear hm hG hm' hG' ma mb ok ok' q1 q2 g1 g1' zf zg tW tC pW wT
 have pc : (tm0 10 [a, b]).cells = [.int .i64 10, .int .i64 0, .int .i64 0, .sl .any [], .sl .any [a.cells, b.cells]] := by simp [tm0, Tm.mk_cells, Ty.mk_kind, Ty.mk_args]
 have yc : ∀ x y : Fm, (fmTwo 2 x y).cells = [.int .i64 2, .int .i64 0, .sl .any [], .sl .any [], .sl .any [x.cells, y.cells]] := fun x y => by
  rw [fmTwo, Fm.mk_cells]; simp only [Ty.mk_kind, Ty.mk_args, List.map_cons, List.map_nil]
 generalize hu : rlBoth f g a b = u at *
 unfold rlBoth at hu
 generalize f.cty.1 = s at *
 generalize g.cty.1 = s' at *
 generalize rlF (fmTwo 2 f g) u = MX at *
 generalize rlF f a = MA at *
 generalize rlF g b = MB at *
 obtain ⟨FX, eX⟩ := MX
 obtain ⟨FA, eA⟩ := MA
 obtain ⟨FB, eB⟩ := MB
 simp only [fmErrV] at cT cA cB mT mA mB o0 o1 o2 rel
 have key : eX = 4 ∨ (eX = 0 ∧ eA = 4) ∨ (eX = 0 ∧ eA = 0 ∧ eB = 4) ∨ (eX = 0 ∧ eA = 0 ∧ eB = 0 ∧ ∃ e, lim0 e ∧ Pure Tryz.prog env 52 [.agg FX.cells, .agg (fmTwo 2 FA FB).cells] (.int .i64 e)) := by
  rcases o0 with e4 | ⟨e0, gx⟩
  ·exact .inl e4
  rcases o1 with e4 | ⟨e1, ga⟩
  ·exact .inr (.inl ⟨e0, e4⟩)
  rcases o2 with e4 | ⟨e2, gb⟩
  ·exact .inr (.inr (.inl ⟨e0, e1, e4⟩))
  ·refine .inr (.inr (.inr ⟨e0, e1, e2, ?_⟩))
   exact c_refMatch (rel e0 e1 e2) gx (.two (.inl rfl) ga.ty gb.ty) (.two (.inl rfl) ga.gd gb.gd) (by have := ga.sz; have := gb.sz; rw [fmSz_two]; simp only at *; omega) mT (fmTwo_W mA mB)
 clear o0 o1 o2 rel mT mA mB
 generalize f.fl.c = cf at *
 generalize g.fl.c = cg at *
 have A24 := c_awake24
 clear n4 n0 k4 k0 k04 k40 k50 k54 k55
 rw [yc FA FB] at key
 cases cf <;> cases cg <;> simp only [if_true, Bool.false_eq_true, if_false] at hu
 ·rw [← hu] at cT
  exact c_rlAnd_ff l hl a1 a2 a3 a4 f g FX FA FB s s' a b eX eA eB A24 hF hN hT hT' h1 h2 hTa hTb cA cB key b1 b2 cT h
 ·rw [← hu] at cT
  exact c_rlAnd_ft l hl a1 a2 a3 a4 f g FX FA FB s s' a b eX eA eB A24 hF hN hT hT' h1 h2 hTa hTb cA cB key b1 b2 cT h
 ·rw [← hu] at cT
  exact c_rlAnd_tf l hl a1 a2 a3 a4 f g FX FA FB s s' a b eX eA eB A24 hF hN hT hT' h1 h2 hTa hTb cA cB key b1 b2 cT h
 ·rw [← hu, pc] at cT
  exact c_rlAnd_tt l hl a1 a2 a3 a4 f g FX FA FB s s' a b eX eA eB A24 hF hN hT hT' h1 h2 hTa hTb cA cB key b1 b2 cT h
end Go.Proofs.YteopcebaeojjkaaGreatDoor
