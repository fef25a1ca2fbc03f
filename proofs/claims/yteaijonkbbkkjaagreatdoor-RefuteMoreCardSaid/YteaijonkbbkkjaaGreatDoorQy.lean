/-
 Walks: the law that with more values of each type a counterexample is found, too.
-/
import Derived.Test.YteaijonkbbkkjaaGreatDoorQx
import Derived.Test.YteaijonkbbkkjaaGreatDoorPz
set_option linter.unusedSimpArgs false
set_option linter.unusedVariables false
set_option maxRecDepth 20000
set_option maxHeartbeats 4000000
namespace Go.Proofs.YteaijonkbbkkjaaGreatDoor
open Go GoAbs Go.Proofs
theorem c_limit21 (e : Int) : Pure Tryz.prog env 17 [.int .i64 e] (.bool (e == 5 || e == 4)) := by
 intro h
 refine en_ Tryz.func17 [.tmp 2] fun g0 w0 gen hrel hfr hfr' hres => ?_
 first|refine wq_ ?_|exact wk_
 all_goals simp_all
theorem c_refuted {g k : List Ty} {f b : Fm} (h : Front g f k b) {T : List PVl → List Tm} {l : List PVl} (hl : IsVls k l (T l)) {is : Bool} {u : Nat} (hh : holdsT b T l 65536 = (is, u, 0)) :
  Pure Tryz.prog env 18 [.agg (allF g f).cells, .sl .any (l.map PVl.cells), .int .i64 65536] (.int .i64 (if is then 21 else 0)) := by
 have h1 := h.len
 have h2 := h.sz
 have hH := c_decHolds hl (by omega) h.dc (by omega) 65536 (by omega)
 rw [show holdsR 65536 b (T l) = (is, u, 0) from hh] at hH
 have := c_Refutes (c_claim21 h) (c_fitsOk hl (by omega)) (c_rfMay (w := 65536) (by omega) (by omega)) hH (weakLL_PVl l) (fun S => by simp only [go_sem, *])
 simpa using this
theorem c_RefuteMore (l : List Int) : Pure Tryz.prog env 4 [.sl .any (ints l)] (.bool true) := by
 have hS := c_sane21
 have hF := c_Few l
 cases hf : decide ((l.length : Int) ≤ 500) with
 | false =>
  rw [hf] at hF
  clear hf
  intro h
  exact ek_ Tryz.func4 [.tmp 2]
 | true =>
 rw [hf] at hF
 have hl : l.length ≤ 1000 := by simp at hf; omega
 clear hf
 have hN := c_New l
 obtain ⟨g, vs, ts, f, a', hs, hg2, hz, hgp, mf, wf, Tw⟩ := c_uni21 l hl 0
 replace Tw : ∀ d, Turns Tryz.prog env 15 [.ptr d 0] d (.box (deckC l 0)) (.tup [.agg (allF g f).cells, .sl .any (vs.map PVl.cells)]) (.box (deckC l a')) := Tw
 obtain ⟨k, b, hFr⟩ := front_mk mf hgp hg2
 have hk := hFr.len
 have hbz := hFr.sz
 obtain ⟨T, hT⟩ := terms_of (ts := k)
 have hA : ∀ l ∈ tries 2 2 k, IsVls k l (T l) := fun l hl => hT l (tries_is (by omega) hFr.plain l hl)
 have hB : ∀ l ∈ tries 2 4 k, IsVls k l (T l) := fun l hl => hT l (tries_is (by omega) hFr.plain l hl)
 have h1 := c_find21 hFr hA (w := 65536) (by omega) (by omega) (by omega)
 have h2 := c_find21 hFr hB (w := 65536) (by omega) (by omega) (by omega)
 have kA : ∀ l ∈ tries 2 2 k, HoldOk (holdsT b T) l := fun l hl => holdsT_ok (hA l hl) (by omega) hFr.dc (by omega)
 have kB : ∀ l ∈ tries 2 4 k, HoldOk (holdsT b T) l := fun l hl => holdsT_ok (hB l hl) (by omega) hFr.dc (by omega)
 have cA := findR_code (tries 2 2 k) 65536 kA (by omega)
 have cB := findR_code (tries 2 4 k) 65536 kB (by omega)
 have sA : ∀ x, (findR (holdsT b T) (tries 2 2 k) 65536).1 = some x → IsVls k x (T x) ∧ ∃ u, holdsT b T x 65536 = (false, u, 0) := fun x hx => ⟨hA x (findR_some _ _ kA hx).1, findR_refutes kA hx⟩
 have sB : ∀ x, (findR (holdsT b T) (tries 2 4 k) 65536).1 = some x → IsVls k x (T x) ∧ ∃ u, holdsT b T x 65536 = (false, u, 0) := fun x hx => ⟨hB x (findR_some _ _ kB hx).1, findR_refutes kB hx⟩
 have hM : ∀ x, (findR (holdsT b T) (tries 2 2 k) 65536).1 = some x → (findR (holdsT b T) (tries 2 4 k) 65536).2 = 0 → ∃ y, (findR (holdsT b T) (tries 2 4 k) 65536).1 = some y :=
  fun x hx h0 => findR_more kA kB (tries_more (by omega)) hx h0
 have hR : ∀ x, IsVls k x (T x) ∧ (∃ u, holdsT b T x 65536 = (false, u, 0)) → x.length = k.length ∧ Pure Tryz.prog env 18 [.agg (allF g f).cells, .sl .any (x.map PVl.cells), .int .i64 65536] (.int .i64 0) := by
  rintro x ⟨q1, u, q2⟩
  exact ⟨q1.len.1, c_refuted hFr q1 q2⟩
 replace h1 : Pure Tryz.prog env 16 [.agg (allF g f).cells, .int .i64 2, .int .i64 2, .int .i64 65536] (findV (findR (holdsT b T) (tries 2 2 k) 65536)) := h1
 replace h2 : Pure Tryz.prog env 16 [.agg (allF g f).cells, .int .i64 2, .int .i64 4, .int .i64 65536] (findV (findR (holdsT b T) (tries 2 4 k) 65536)) := h2
 clear kA kB hA hB hT hFr hbz mf wf hgp hz hs hg2
 unfold findV at h1 h2
 generalize findR (holdsT b T) (tries 2 2 k) 65536 = ra at *
 generalize findR (holdsT b T) (tries 2 4 k) 65536 = rb at *
 generalize allF g f = F at *
 obtain ⟨oa, ea⟩ := ra
 obtain ⟨ob, eb⟩ := rb
 simp only at h1 h2 cA cB sA sB hM
 by_cases hz : ea = 0 ∧ eb = 0
 ·obtain ⟨rfl, rfl⟩ := hz
  cases oa with
  | none =>
   simp only [Option.getD_none, Option.isSome_none, List.map_nil] at h1
   clear sA sB hM hR cA cB
   have n0 : ((0 : Int) != 0) = false := rfl
   have m0 : ((((0 : Nat) : Int)) == 0) = true := rfl
   have hwb : weakLL ((ob.getD []).map PVl.cells) = (ob.getD []).map PVl.cells := weakLL_PVl _
   generalize ob.isSome = bs at *
   generalize ob.getD [] = lb at *
   intro h
   refine en_ Tryz.func4 [.tmp 2] fun g0 w0 gen hrel hfr hfr' hres => ?_
   repeat' (first
    |exact hin _|exact agf (by assumption)
    | (first|refine wp rfl ?_|refine spt rfl ?_|refine spf rfl ?_|(refine spl (fun hc => ?_) fun hc => ?_) <;> (try rw [beq_iff_eq] at hc) <;> try simp only [hc]|(refine gs (fun hb => ?_) fun hb => ?_) <;> try simp only [Bool.not_true, Bool.not_false] at hb|refine cp hS ?_|refine cp hF ?_|refine Call1_new ⟨gen, 1000, 0⟩ (hN) (by first|exact hfr' _ _ | simp only [go_sem, *]) ?_|(refine ct (Tw _) ?_ ?_; focus ((simp only [go_sem, *] <;> rfl); done))|refine cp h1 ?_|refine cp h2 ?_|refine finF hrel ?_ ?_ ?_)<;>try simp only [go_sem, *])
  | some x =>
   obtain ⟨y, rfl⟩ := hM x rfl rfl
   obtain ⟨x1, x2⟩ := hR x (sA x rfl)
   obtain ⟨y1, y2⟩ := hR y (sB y rfl)
   simp only [Option.getD_some, Option.isSome_some] at h1 h2
   clear sA sB hM hR cA cB
   have n0 : ((0 : Int) != 0) = false := rfl
   have m0 : ((0 : Int) == 0) = true := rfl
   have mk : ((k.length : Int) == (k.length : Int)) = true := by simp
   have hwx : weakLL (x.map PVl.cells) = x.map PVl.cells := weakLL_PVl _
   have hwy : weakLL (y.map PVl.cells) = y.map PVl.cells := weakLL_PVl _
   intro h
   refine en_ Tryz.func4 [.tmp 2] fun g0 w0 gen hrel hfr hfr' hres => ?_
   repeat' (first
    |exact hin _|exact agf (by assumption)
    | (first|refine wp rfl ?_|refine spt rfl ?_|refine spf rfl ?_|(refine spl (fun hc => ?_) fun hc => ?_) <;> (try rw [beq_iff_eq] at hc) <;> try simp only [hc]|(refine gs (fun hb => ?_) fun hb => ?_) <;> try simp only [Bool.not_true, Bool.not_false] at hb|refine cp hS ?_|refine cp hF ?_|refine Call1_new ⟨gen, 1000, 0⟩ (hN) (by first|exact hfr' _ _ | simp only [go_sem, *]) ?_|(refine ct (Tw _) ?_ ?_; focus ((simp only [go_sem, *] <;> rfl); done))|refine cp h1 ?_|refine cp h2 ?_|refine cp x2 ?_|refine cp y2 ?_|refine finF hrel ?_ ?_ ?_)<;>try simp only [go_sem, *])
 ·have la := c_limit21 ea
  have lb := c_limit21 eb
  have key : ∀ e : Int, e = 0 ∨ e = 4 ∨ e = 5 → ((e == 0) = true ∧ (e != 0) = false) ∨ ((e == 0) = false ∧ (e != 0) = true ∧ (e == 5 || e == 4) = true) := by
   rintro e (rfl | rfl | rfl)
   ·exact .inl ⟨rfl, rfl⟩
   ·exact .inr ⟨rfl, rfl, rfl⟩
   ·exact .inr ⟨rfl, rfl, rfl⟩
  have ka := key ea cA
  have kb := key eb cB
  have hwa : weakLL ((oa.getD []).map PVl.cells) = (oa.getD []).map PVl.cells := weakLL_PVl _
  have hwb : weakLL ((ob.getD []).map PVl.cells) = (ob.getD []).map PVl.cells := weakLL_PVl _
  clear sA sB hM hR cA cB key
  generalize oa.isSome = ba at *
  generalize ob.isSome = bb at *
  generalize oa.getD [] = xa at *
  generalize ob.getD [] = xb at *
  rcases ka with ⟨a1, a2⟩ | ⟨a1, a2, a3⟩
  ·rcases kb with ⟨b1, b2⟩ | ⟨b1, b2, b3⟩
   ·exact absurd ⟨by simpa using a1, by simpa using b1⟩ hz
   ·rw [b3] at lb
    clear hz la
    intro h
    refine en_ Tryz.func4 [.tmp 2] fun g0 w0 gen hrel hfr hfr' hres => ?_
    repeat' (first
     |exact hin _|exact agf (by assumption)
     | (first|refine wp rfl ?_|refine spt rfl ?_|refine spf rfl ?_|(refine spl (fun hc => ?_) fun hc => ?_) <;> (try rw [beq_iff_eq] at hc) <;> try simp only [hc]|(refine gs (fun hb => ?_) fun hb => ?_) <;> try simp only [Bool.not_true, Bool.not_false] at hb|refine cp hS ?_|refine cp hF ?_|refine Call1_new ⟨gen, 1000, 0⟩ (hN) (by first|exact hfr' _ _ | simp only [go_sem, *]) ?_|(refine ct (Tw _) ?_ ?_; focus ((simp only [go_sem, *] <;> rfl); done))|refine cp h1 ?_|refine cp h2 ?_|refine cp lb ?_|refine finF hrel ?_ ?_ ?_)<;>try simp only [go_sem, *])
  ·rw [a3] at la
   rcases kb with ⟨b1, b2⟩ | ⟨b1, b2, b3⟩
   ·clear hz lb
    intro h
    refine en_ Tryz.func4 [.tmp 2] fun g0 w0 gen hrel hfr hfr' hres => ?_
    repeat' (first
     |exact hin _|exact agf (by assumption)
     | (first|refine wp rfl ?_|refine spt rfl ?_|refine spf rfl ?_|(refine spl (fun hc => ?_) fun hc => ?_) <;> (try rw [beq_iff_eq] at hc) <;> try simp only [hc]|(refine gs (fun hb => ?_) fun hb => ?_) <;> try simp only [Bool.not_true, Bool.not_false] at hb|refine cp hS ?_|refine cp hF ?_|refine Call1_new ⟨gen, 1000, 0⟩ (hN) (by first|exact hfr' _ _ | simp only [go_sem, *]) ?_|(refine ct (Tw _) ?_ ?_; focus ((simp only [go_sem, *] <;> rfl); done))|refine cp h1 ?_|refine cp h2 ?_|refine cp la ?_|refine finF hrel ?_ ?_ ?_)<;>try simp only [go_sem, *])
   ·rw [b3] at lb
    clear hz
    intro h
    refine en_ Tryz.func4 [.tmp 2] fun g0 w0 gen hrel hfr hfr' hres => ?_
    repeat' (first
     |exact hin _|exact agf (by assumption)
     | (first|refine wp rfl ?_|refine spt rfl ?_|refine spf rfl ?_|(refine spl (fun hc => ?_) fun hc => ?_) <;> (try rw [beq_iff_eq] at hc) <;> try simp only [hc]|(refine gs (fun hb => ?_) fun hb => ?_) <;> try simp only [Bool.not_true, Bool.not_false] at hb|refine cp hS ?_|refine cp hF ?_|refine Call1_new ⟨gen, 1000, 0⟩ (hN) (by first|exact hfr' _ _ | simp only [go_sem, *]) ?_|(refine ct (Tw _) ?_ ?_; focus ((simp only [go_sem, *] <;> rfl); done))|refine cp h1 ?_|refine cp h2 ?_|refine cp la ?_|refine cp lb ?_|refine finF hrel ?_ ?_ ?_)<;>try simp only [go_sem, *])
end Go.Proofs.YteaijonkbbkkjaaGreatDoor
