/-
 Walks: several parts in one text.
-/
import Derived.Test.YtkoeoklndhgejaaGreatDoorMj
import Derived.Test.YtkoeoklndhgejaaGreatDoorAbsDc
import Derived.Test.YtkoeoklndhgejaaGreatDoorPn
import Derived.Test.YtkoeoklndhgejaaGreatDoorAbsDd
set_option linter.unusedSimpArgs false
set_option linter.unusedVariables false
set_option maxRecDepth 20000
set_option maxHeartbeats 4000000
namespace Go.Proofs.YtkoeoklndhgejaaGreatDoor
open Go GoAbs Go.Proofs
theorem c_lookG (g : List Ty) (hg : ∀ y ∈ g, TyG y) (hl : g.length ≤ 16) {f : Fm} (hf : Dc g f) (zf : fmSz f ≤ 4096) : Pure Tryz.prog env 42 [.sl .any (g.map Ty.cells), .agg f.cells, .bool true] (.int .i64 0) := by
 intro h
 have h1 := c_formulaTyped g hg hl f hf.ty ((hf.G (u := true)).err0 zf) zf (hf.G (u := true)).toW
 have h2 := c_clsDecidable f (hf.G (u := true)).toW
 have e : f.has 4 = (true, 0) := by
  unfold Fm.has
  rw [(hf.G (u := true)).err0 zf, hf.fld (by omega)]
  rfl
 rw [e] at h2
 unfold boolErrV at h2
 simp only at h2
 have n0 : ((0 : Int) != 0) = false := rfl
 have hw := weakLL_Ty g
 clear hf zf e hg hl
 generalize g.map Ty.cells = gc at *
 exact ek_ Tryz.func42 [.tmp 6]
theorem c_with (d : GoAbs.Id) {lim : Nat} (hl : lim ≤ 65536) {a : Fm} (da : Dc [tNat] a) (za : fmSz a ≤ 4096) (k w : Nat) (hw : w ≤ lim) :
  WithT d lim a k w (dW (fun w f => dT lim (fdp a) w f) a k w).1 (dW (fun w f => dT lim (fdp a) w f) a k w).2.1 (dW (fun w f => dT lim (fdp a) w f) a k w).2.2 ∧ AnsOk lim (dW (fun w f => dT lim (fdp a) w f) a k w) := by
 unfold dW
 by_cases hk : 4096 ≤ k
 ·rw [if_pos hk]
  exact ⟨c_withBig d lim a k w hk, by simp only [AnsOk]; exact ⟨by omega, by simp⟩⟩
 rw [if_neg hk]
 have zk : tmSz (numT k) = k + 1 := tmSz_num k
 have hP := c_formulaPut a (da.G (u := true)).toW (da.G (u := true)) za (da.least (by simp; omega)) (numT k) (numT_W k) (numT_G k) (by omega) ((HasTy.num (Q := TyG) (g := []) k).least _ (by omega) (by simp; omega))
 unfold fmErrV at hP
 cases hz : ((putR a (numT k)).2 != 0) with
 | true =>
  simp only [if_true]
  exact ⟨c_withErr d lim a k w (by omega) _ _ hz hP, by simp only [AnsOk]; exact ⟨by omega, by simp⟩⟩
 | false =>
  have hz' : (putR a (numT k)).2 = 0 := by simpa using hz
  simp only [Bool.false_eq_true, if_false]
  obtain ⟨p1, p2, p3⟩ := da.put za (by omega : k < 4096) hz'
  obtain ⟨t1, t2⟩ := tr_ok (d := d) hl (fdp a) _ w (by omega) p1 p2 hw
  rw [hz'] at hP
  exact ⟨c_withOk d lim a k w (by omega) _ hP t1, t2⟩
inductive LeastS (d : GoAbs.Id) (lim : Nat) (f : Fm) : Nat → Nat → Nat → Nat → Bool → Nat → Int → Prop
 | done {k w : Nat} : LeastS d lim f 0 k w 0 false w 0
 | err {n k w w' : Nat} {b : Bool} {e : Int} : WithT d lim f k w b w' e → (e != 0) = true → LeastS d lim f (n + 1) k w 0 false 0 e
 | hit {n k w w' : Nat} : WithT d lim f k w true w' 0 → LeastS d lim f (n + 1) k w k true w' 0
 | step {n k w w1 m w' : Nat} {b : Bool} {e : Int} : WithT d lim f k w false w1 0 → LeastS d lim f n (k + 1) w1 m b w' e → LeastS d lim f (n + 1) k w m b w' e
theorem LeastS.cons {d : GoAbs.Id} {lim n k w m w' : Nat} {b : Bool} {f : Fm} {e : Int} (h : LeastS d lim f (n + 1) k w m b w' e) :
  (∃ b1 w1, WithT d lim f k w b1 w1 e ∧ (e != 0) = true ∧ m = 0 ∧ b = false ∧ w' = 0) ∨ (WithT d lim f k w true w' 0 ∧ m = k ∧ b = true ∧ e = 0) ∨ ∃ w1, WithT d lim f k w false w1 0 ∧ LeastS d lim f n (k + 1) w1 m b w' e := by
 cases h with
 | err h1 h2 => exact .inl ⟨_, _, h1, h2, rfl, rfl, rfl⟩
 | hit h1 => exact .inr (.inl ⟨h1, rfl, rfl, rfl⟩)
 | step h1 h2 => exact .inr (.inr ⟨_, h1, h2⟩)
theorem LeastS.none {d : GoAbs.Id} {lim k w m w' : Nat} {b : Bool} {f : Fm} {e : Int} (h : LeastS d lim f 0 k w m b w' e) : m = 0 ∧ b = false ∧ w' = w ∧ e = 0 := by cases h; exact ⟨rfl, rfl, rfl, rfl⟩
theorem least_ok (d : GoAbs.Id) {lim : Nat} (hl : lim ≤ 65536) {a : Fm} (da : Dc [tNat] a) (za : fmSz a ≤ 4096) : ∀ n k w, w ≤ lim →
  LeastS d lim a n k w (leastL (fun w f => dT lim (fdp a) w f) a n k w).1 (leastL (fun w f => dT lim (fdp a) w f) a n k w).2.1 (leastL (fun w f => dT lim (fdp a) w f) a n k w).2.2.1 (leastL (fun w f => dT lim (fdp a) w f) a n k w).2.2.2
 | 0, k, w, hw => .done
 | n + 1, k, w, hw => by
  obtain ⟨h1, h2⟩ := c_with d hl da za k w hw
  rw [leastL]
  generalize dW (fun w f => dT lim (fdp a) w f) a k w = p at h1 h2 ⊢
  obtain ⟨b, w1, e⟩ := p
  simp only at h1 h2 ⊢
  cases he : (e != 0) with
  | true =>
   simp only [if_true]
   exact .err h1 he
  | false =>
   obtain rfl : e = 0 := by simpa using he
   simp only [Bool.false_eq_true, if_false]
   cases b with
   | true => simp only [if_true]; exact .hit h1
   | false =>
    simp only [Bool.false_eq_true, if_false]
    exact .step h1 (least_ok d hl da za n (k + 1) w1 h2.1)
def leastV (r : AnsL) : V := .tup [.int .i64 r.1, .bool r.2.1, .int .i64 r.2.2.1, .int .i64 r.2.2.2]
theorem c_decLeast {f : Fm} (hf : Dc [tNat] f) (zf : fmSz f ≤ 4096) (m : Nat) (hm : m ≤ 4096) (lim : Nat) (hl : lim ≤ 65536) :
  Pure Tryz.prog env 15 [.agg f.cells, .int .i64 m, .int .i64 lim] (leastV (leastL (fun w f' => dT lim (fdp f) w f') f m 0 0)) := by
 intro h
 have h1 := c_may lim hl
 have h2 := c_lookG [tNat] (by simp [TyG.nat]) (by simp) hf zf
 have h3 := c_tNat
 have hS := fun d => least_ok d hl hf zf m 0 0 (by omega)
 simp only [List.map_cons, List.map_nil] at h2
 unfold leastV
 generalize leastL (fun w f' => dT lim (fdp f) w f') f m 0 0 = r at *
 obtain ⟨k, b, w', e⟩ := r
 simp only at hS ⊢
 have d1 : decide ((m : Int) ≥ 0) = true := by simp
 have d2 : decide ((m : Int) ≤ 4096) = true := by simp; omega
 have n0 : ((0 : Int) != 0) = false := rfl
 have z0 : ((0 : Nat) : Int) = 0 := rfl
 have dt : decide True = true := rfl
 have hr0 : (List.range m).length = m := List.length_range
 clear hf zf hl
 refine en_ Tryz.func15 [.tmp 6, .tmp 7, .tmp 8, .tmp 9] fun g0 w0 gen hrel hfr hfr' hres => ?_
 replace hS := hS ⟨gen, 4, 2⟩
 refine wq_ ?_
 clear h1 h2 h3 d1 d2
 refine ar_ [3, 11] [⟨gen, 0, 0⟩] (fun i σ => Agree h σ.h ∧ ∃ wi : Nat, σ.h ⟨gen, 4, 2⟩ = some (.box [.int .i64 wi, .int .i64 lim, .int .i64 0]) ∧ LeastS ⟨gen, 4, 2⟩ lim f (m - i) i wi k b w' e) (List.range m).length ?_ ?_ ?_
 ·simp only [go_sem, *]
  exact ⟨ag_, 0, rfl, hS⟩
 ·clear hS
  intro i σ gr0 hgl_gr0 hgn hlt jI jN jS ⟨jA, wi, js, jk⟩
  obtain ⟨jT, jB⟩ := jS
  simp only [go_sem] at jT jB
  obtain ⟨hgf, hgf0, eg_gen_gr0, eh_gen_gr0⟩ := rnd hgn hgl_gr0 jA
  obtain ⟨x, hx, hxm, hm⟩ := rnx hlt
  clear hgn
  rw [hr0] at hlt
  rw [show m - i = (m - (i + 1)) + 1 by omega] at jk
  rcases jk.cons with ⟨b1, w1, hT, he, rfl, rfl, rfl⟩ | ⟨hT, rfl, rfl, rfl⟩ | ⟨w1, hT, hS⟩
  ·unfold WithT eb at hT
   clear jk
   exact wk_
  ·unfold WithT eb at hT
   clear jk
   exact wk_
  ·unfold WithT eb at hT
   clear jk
   refine wq_ ?_
   exact ⟨by repeat (first|exact jA|refine Agree.new ?_ (hgf0 _ _)|refine Agree.new ?_ (hfr' _ _)), w1, rfl, hS⟩
 ·clear hS
  intro σ ga0 hgl_ga0 hgn jS ⟨jA, wi, js, jk⟩
  obtain ⟨jT, jB⟩ := jS
  simp only [go_sem] at jT jB
  obtain ⟨hgf, hgf0, eg_gen_ga0, eh_gen_ga0⟩ := rnd hgn hgl_ga0 jA
  clear hgn
  rw [hr0, Nat.sub_self] at jk
  obtain ⟨rfl, rfl, rfl, rfl⟩ := jk.none
  exact wk_
def numC (k : Nat) : List V := [.int .i64 1, .int .i64 k, .sl .any [], .sl .any []]
theorem numC_eq (k : Nat) : (PVl.mk 1 k [] []).cells = numC k := by rw [PVl.mk_cells]; rfl
theorem c_bigTerm (k : Nat) (hk : 4096 ≤ k) : Pure Tryz.prog env 71 [.agg (numC k)] (.tup [.agg zeroT.cells, .int .i64 4]) := by
 have d1 : decide ((k : Int) ≥ 0) = true := by simp
 have dt : decide True = true := rfl
 have z0 : (((0 : Nat) : Int) == 0) = true := rfl
 have h1 : Pure Tryz.prog env 102 [.agg (numC k)] (.bool true) := by
  intro h
  unfold numC
  exact ek_ Tryz.func102 [.tmp 2]
 have h2 := c_vNodes (PVl.mk 1 k [] []) (.mk _ _ _ _ (by simp) (by simp) (by simp))
 rw [numC_eq] at h2
 have e2 : (PVl.mk 1 k [] []).nd = 1 := by simp [PVl.nd, PVl.ndL]
 rw [e2] at h2
 have h3 : Pure Tryz.prog env 56 [.agg (numC k)] (.int .i64 0) := by
  intro h
  unfold numC at *
  exact ek_ Tryz.func56 [.tmp 2]
 have d3 : (4096 : Int) < (k : Int) ∨ (k : Int) = 4096 := by omega
 have h4 : Pure Tryz.prog env 120 [.agg (numC k)] (.int .i64 4097) := by
  intro h
  unfold numC
  rcases d3 with d3 | d3
  ·have d4 : ((4096 : Int) < (k : Int)) = True := by simp; omega
   have d5 : ((4097 : Int) < 4097) = False := by simp
   have d6 : IntKind.i64.wrap ((4096 : Int) + 1) = 4097 := rfl
   exact ek_ Tryz.func120 [.tmp 2]
  ·rw [d3]
   have d4 : ((4096 : Int) < 4096) = False := by simp
   have d5 : ((4097 : Int) < 4097) = False := by simp
   have d6 : IntKind.i64.wrap ((4096 : Int) + 1) = 4097 := rfl
   exact ek_ Tryz.func120 [.tmp 2]
 have hzt := zeroT_cells
 have n0 : ((0 : Int) != 0) = false := rfl
 have d7 : decide ((4097 : Int) > 4096) = true := rfl
 clear d1 dt z0 h1 h2 e2 d3
 intro h
 unfold numC at *
 exact ek_ Tryz.func71 [.cell 2 73, .tmp 3]
def ansV (p : Ans) : V := .tup [.bool p.1, .int .i64 p.2.1, .int .i64 p.2.2]
theorem hK_dec {lim : Nat} {f : Fm} (hf : Dc [tNat] f) (zf : fmSz f ≤ 4096) {k : Nat} (hk : k < 4096) : decV (hR lim f k) = ansV (hK lim (fdp f) f k) := by
 unfold hK
 rw [if_neg (show ¬ 4096 ≤ k by omega)]
 unfold hR
 cases hz : ((putR f (numT k)).2 != 0) with
 | true => simp only [if_true]; unfold decV ansV; simp only [hz, if_true]; rfl
 | false =>
  obtain ⟨p1, p2, p3⟩ := hf.put zf hk (by simpa using hz)
  simp only [Bool.false_eq_true, if_false]
  unfold dA decV
  rw [p3]
  generalize dT lim (fdp f) 0 (putR f (numT k)).1 = p
  obtain ⟨b, w, e⟩ := p
  simp only
  cases he : (e != 0) with
  | true => simp only [if_true, ansV]; rfl
  | false =>
   obtain rfl : e = 0 := by simpa using he
   simp only [Bool.false_eq_true, if_false, ansV]
theorem c_r09HoldsNum {f : Fm} (hf : Dc [tNat] f) (zf : fmSz f ≤ 4096) (k : Nat) (lim : Nat) (hl : lim ≤ 65536) :
  Pure Tryz.prog env 32 [.agg f.cells, .sl .any [numC k], .int .i64 lim] (ansV (hK lim (fdp f) f k)) := by
 by_cases hk : k < 4096
 ·have hs : IsVls [tNat] [PVl.mk 1 k [] []] [numT k] := .snoc (g := []) (l := []) (ts := []) .nil (.num k) TyG.nat (by rw [tmSz_num]; omega)
  have := c_r09Holds hs (by simp) hf zf lim hl
  rw [hR_holds, hK_dec hf zf hk] at this
  simpa only [List.map_cons, List.map_nil, numC_eq] using this
 ·unfold hK
  rw [if_pos (by omega)]
  have h1 := c_refFmCheck f (hf.G (u := true)).toW
  rw [(hf.G (u := true)).err0 zf] at h1
  have h2 := c_bigTerm k (by omega)
  have hc : [PVl.mk 1 k [] []].map PVl.cells = [numC k] := by simp [numC_eq]
  have hget : ∀ (i : Nat) (x : PVl), [PVl.mk 1 k [] []][i]? = some x → x.cells = numC k := by
   intro i x hx
   match i with
   | 0 => simp at hx; subst hx; exact numC_eq k
   | i + 1 => simp at hx
  have n0 : ((0 : Int) != 0) = false := rfl
  rw [← hc]
  generalize hpl : [PVl.mk 1 k [] []] = l at *
  have hlen : l.length = 1 := by rw [← hpl]; rfl
  clear hf zf hl hk hc hpl
  unfold ansV
  intro h
  refine en_ Tryz.func32 [.tmp 6, .tmp 7, .tmp 8] fun g0 w0 gen hrel hfr hfr' hres => ?_
  refine wq_ ?_
  refine ar_ [2, 3, 23] [⟨gen, 0, 0⟩] (fun i σ => Agree h σ.h ∧ i ≤ 0) (l).length ?_ ?_ ?_
  ·simp only [go_sem, *]
   exact ag_
  ·
   intro i σ gr0 hgl_gr0 hgn hlt jI jN jS ⟨jA, ji⟩
   obtain ⟨jT, jB⟩ := jS
   simp only [go_sem] at jT jB
   obtain ⟨hgf, hgf0, eg_gen_gr0, eh_gen_gr0⟩ := rnd hgn hgl_gr0 jA
   obtain ⟨x, hx, hxm, hm⟩ := rnx hlt
   clear hgn
   have hxc := hget i x hx
   rw [← hxc] at h2
   clear hget hxc
   first|refine wq_ ?_|exact wk_
   all_goals rfl
  ·
   intro σ ga0 hgl_ga0 hgn jS ⟨jA, ji⟩
   obtain ⟨jT, jB⟩ := jS
   simp only [go_sem] at jT jB
   obtain ⟨hgf, hgf0, eg_gen_ga0, eh_gen_ga0⟩ := rnd hgn hgl_ga0 jA
   clear hgn
   omega
inductive LeastR (f : Fm) (lim : Nat) : Nat → Nat → Nat → AnsL → Prop
 | done {k u : Nat} : LeastR f lim 0 k u (0, false, u, 0)
 | err {n k u : Nat} {p : Ans} : Pure Tryz.prog env 32 [.agg f.cells, .sl .any [numC k], .int .i64 (lim - u : Nat)] (ansV p) → (p.2.2 != 0) = true → LeastR f lim (n + 1) k u (0, false, 0, p.2.2)
 | hit {n k u : Nat} {p : Ans} : Pure Tryz.prog env 32 [.agg f.cells, .sl .any [numC k], .int .i64 (lim - u : Nat)] (ansV p) → p.2.2 = 0 → p.1 = true → u + p.2.1 ≤ lim → LeastR f lim (n + 1) k u (k, true, u + p.2.1, 0)
 | step {n k u : Nat} {p : Ans} {r : AnsL} : Pure Tryz.prog env 32 [.agg f.cells, .sl .any [numC k], .int .i64 (lim - u : Nat)] (ansV p) → p.2.2 = 0 → p.1 = false → u + p.2.1 ≤ lim →
   LeastR f lim n (k + 1) (u + p.2.1) r → LeastR f lim (n + 1) k u r
theorem LeastR.cons {f : Fm} {lim n k u : Nat} {r : AnsL} (h : LeastR f lim (n + 1) k u r) :
  ∃ p : Ans, Pure Tryz.prog env 32 [.agg f.cells, .sl .any [numC k], .int .i64 (lim - u : Nat)] (ansV p) ∧ (((p.2.2 != 0) = true ∧ r = (0, false, 0, p.2.2)) ∨ (p.2.2 = 0 ∧ u + p.2.1 ≤ lim ∧
   ((p.1 = true ∧ r = (k, true, u + p.2.1, 0)) ∨ (p.1 = false ∧ LeastR f lim n (k + 1) (u + p.2.1) r)))) := by
 cases h with
 | err h1 h2 => exact ⟨_, h1, .inl ⟨h2, rfl⟩⟩
 | hit h1 h2 h3 h4 => exact ⟨_, h1, .inr ⟨h2, h4, .inl ⟨h3, rfl⟩⟩⟩
 | step h1 h2 h3 h4 h5 => exact ⟨_, h1, .inr ⟨h2, h4, .inr ⟨h3, h5⟩⟩⟩
theorem LeastR.none {f : Fm} {lim k u : Nat} {r : AnsL} (h : LeastR f lim 0 k u r) : r = (0, false, u, 0) := by cases h; rfl
theorem least_R {f : Fm} (hf : Dc [tNat] f) (zf : fmSz f ≤ 4096) {lim : Nat} (hl : lim ≤ 65536) : ∀ n k w, w ≤ lim → LeastR f lim n k w (leastL (fun w f' => dT lim (fdp f) w f') f n k w)
 | 0, k, w, hw => .done
 | n + 1, k, w, hw => by
  have hH := c_r09HoldsNum hf zf k (lim - w) (by omega)
  have hc : ∀ (l v : Nat), l ≤ 65536 → v ≤ l → (putR f (numT k)).2 = 0 → k < 4096 → (dT l (fdp f) v (putR f (numT k)).1).2.1 ≤ l := by
   intro l v h1 h2 h3 h4
   obtain ⟨p1, p2, p3⟩ := hf.put zf h4 h3
   exact (tr_ok (d := ⟨0, 0, 0⟩) h1 (fdp f) _ v (by omega) p1 p2 h2).2.1
  obtain ⟨a1, a2⟩ := dW_hK (n := fdp f) (f := f) (k := k) hw (hc lim w hl hw) (hc (lim - w) 0 (by omega) (by omega))
  rw [leastL]
  generalize dW (fun w f' => dT lim (fdp f) w f') f k w = P at a1 a2 ⊢
  generalize hK (lim - w) (fdp f) f k = q at a1 a2 hH
  rw [a1]
  cases he : (q.2.2 != 0) with
  | true =>
   simp only [if_true]
   exact .err hH he
  | false =>
   have he0 : q.2.2 = 0 := by simpa using he
   simp only [Bool.false_eq_true, if_false]
   obtain ⟨b1, b2, b3⟩ := a2 he0
   rw [b1, b2]
   cases hb : q.1 with
   | true => simp only [if_true]; exact .hit hH he0 hb b3
   | false =>
    simp only [Bool.false_eq_true, if_false]
    exact .step hH he0 hb b3 (least_R hf zf hl n (k + 1) _ b3)
theorem c_r09Least {f : Fm} (hf : Dc [tNat] f) (zf : fmSz f ≤ 4096) (m : Nat) (hm : m ≤ 4096) (lim : Nat) (hl : lim ≤ 65536) :
  Pure Tryz.prog env 16 [.agg f.cells, .int .i64 m, .int .i64 lim] (leastV (leastL (fun w f' => dT lim (fdp f) w f') f m 0 0)) := by
 have wf := (hf.G (u := true)).toW
 have h0 := c_refNat
 have h1 := c_fmTyped [tNat] (by simp [TyG.nat]) (by simp) f hf.ty (hf.G (u := true)) zf wf
 simp only [List.map_cons, List.map_nil] at h1
 have h2 := c_r08Decidable hf.ty (hf.G (u := true)) zf wf (by simp)
 rw [hf.fld (by simp; omega)] at h2
 have hS := least_R hf zf hl m 0 0 (by omega)
 generalize leastL (fun w f' => dT lim (fdp f) w f') f m 0 0 = r at *
 obtain ⟨rm, rb, rw', re⟩ := r
 unfold leastV
 simp only
 have d1 : decide ((m : Int) < 0) = false := by simp
 have d2 : decide ((m : Int) > 4096) = false := by simp; omega
 have d3 : decide ((lim : Int) < 0) = false := by simp
 have d4 : decide ((lim : Int) > 65536) = false := by simp; omega
 have n0 : ((0 : Int) != 0) = false := rfl
 clear hf zf wf
 intro h
 refine en_ Tryz.func16 [.tmp 6, .tmp 7, .tmp 8, .tmp 9] fun g0 w0 gen hrel hfr hfr' hres => ?_
 refine wq_ ?_
 clear h0 h1 h2 d1 d2 d3 d4
 refine AR_loop_nat (fun i σ => σ.tm 14 = .int .i64 i ∧ σ.tm 1 = .int .i64 m ∧ σ.tm 2 = .int .i64 lim ∧ σ.tm 3 = .ptr ⟨gen, 0, 0⟩ 0 ∧ σ.h ⟨gen, 0, 0⟩ = some (.box f.cells) ∧ Agree h σ.h ∧
  ∃ u : Nat, σ.tm 13 = .int .i64 u ∧ u ≤ lim ∧ LeastR f lim (m - i) i u (rm, rb, rw', re)) m ?_ ?_
 ·simp only [go_sem, *]
  exact ⟨rfl, ag_, 0, rfl, Nat.zero_le _, hS⟩
 clear hS
 intro i σ hi ⟨j1, j2, j3, j4, j5, jA, u, j6, j7, jS⟩
 refine AR_gen2 (fun gn hgl hgn => ?_)
 have hgf := fresh_of hgn
 have hgf0 := fun r i => agree_fresh jA (hgf r i)
 have eg1 := gen_lt hgl
 have eg2 := gen_lt' hgl
 clear hgn
 rcases Nat.lt_or_ge i m with hlt | hge
 ·have hd := lt_true hlt
  rw [show m - i = m - (i + 1) + 1 by omega] at jS
  obtain ⟨p, hH, hp⟩ := jS.cons
  clear jS
  have hw1 : IntKind.i64.wrap ((lim : Int) - (u : Int)) = ((lim - u : Nat) : Int) := wrap_eq (by omega) (by omega) (by omega)
  have hw2 : IntKind.i64.wrap ((u : Int) + (p.2.1 : Int)) = ((u : Int) + (p.2.1 : Int)) ∨ ¬ (u + p.2.1 ≤ lim) := by
   by_cases hle : u + p.2.1 ≤ lim
   ·exact .inl (wrap_eq rfl (by omega) (by omega))
   ·exact .inr hle
  obtain ⟨pb, pn, pe⟩ := p
  unfold ansV numC at hH
  simp only at hH hp hw2
  generalize lim - u = L at *
  rcases hp with ⟨he, hr⟩ | ⟨rfl, hle, ⟨rfl, hr⟩ | ⟨rfl, hS⟩⟩
  ·cases hr
   clear hw2
   first|refine wq_ ?_|exact wk_
   all_goals rfl
  ·cases hr
   have hw2' := hw2.resolve_right (fun h => h hle)
   clear hw2
   have e9 : ((u + pn : Nat) : Int) = (u : Int) + (pn : Int) := by omega
   exact wk_
  ·have hw2' := hw2.resolve_right (fun h => h hle)
   clear hw2
   have e9 : ((u : Int) + (pn : Int)) = ((u + pn : Nat) : Int) := by omega
   rw [e9] at hw2'
   have hw := wrap_succ (i := i) (by omega)
   refine wq_ ?_
   first|exact ⟨u + pn, rfl, hle, hS⟩|exact ⟨by repeat (first|exact jA|refine Agree.new ?_ (hgf0 _ _)|refine Agree.new ?_ (hfr' _ _)), u + pn, rfl, hle, hS⟩
 ·have hd := lt_false hge
  obtain rfl : i = m := by omega
  rw [Nat.sub_self] at jS
  cases jS.none
  clear jS
  first|refine wq_ ?_|exact wk_
  all_goals rfl
end Go.Proofs.YtkoeoklndhgejaaGreatDoor
