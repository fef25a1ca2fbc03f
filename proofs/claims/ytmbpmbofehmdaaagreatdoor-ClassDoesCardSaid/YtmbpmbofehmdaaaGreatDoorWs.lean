/-
 Walks: terms out of the deck, the first two parts.
-/
import Derived.Test.YtmbpmbofehmdaaaGreatDoorMt
set_option linter.unusedSimpArgs false
set_option linter.unusedVariables false
set_option maxRecDepth 20000
set_option maxHeartbeats 4000000
namespace Go.Proofs.YtmbpmbofehmdaaaGreatDoor
open Go GoAbs Go.Proofs
def Term2 (l : List Int) (g : List Ty) (t : Ty) (z : Int) (a : Nat) (t' : Tm) (a' : Nat) : Prop :=
 ∀ (d : GoAbs.Id) (h : H) (o : GoAbs.Obj) (g0 : G) (w0 : World) (gen0 gen : Nat) (σ : St), h d = some o → Rel env g0 w0 h → (∀ id, h id ≠ none → id.gen < gen0) → TermSt l g t z a d h gen0 σ →
  AR ⟨Tryz.prog, env, Tryz.f32.ntmps, Tryz.f32, g0, w0, h, .agg t'.cells, hset h d (.box (deckC l a'))⟩ gen
   [.code (subC [true, true, true] (bodyOf Tryz.f32))] .normal σ
theorem term2 (l : List Int) (hl : l.length ≤ 1000) (m : Nat) (ih : TermIH l m) (z : Int) (g : List Ty) (t : Ty) (a : Nat) (hm : 43 * z.toNat + tyH t = m)
  (hg : ∀ y ∈ g, TyF y ∧ tyH y ≤ 40) (ht : TyF t) (hth : tyH t ≤ 40) (hb : g.length + 43 * z.toNat + tyH t ≤ 900) (hz : (tyH t : Int) ≤ z + 1000) :
  ∃ t' a', MkTm z.toNat g t t' ∧ Term2 l g t z a t' a' := by
 have hw : IntKind.i64.wrap (z - 1) = z - 1 := wrap_eq rfl (by omega) (by omega)
 have hgl : g.length ≤ 1000 := by omega
 have htw := ht.W
 rcases Int.lt_or_le 0 z with hp | hp
 case inr =>
  have hz0 : decide (z > 0) = false := by simp; omega
  obtain ⟨t', a', kt, T3⟩ := term3 l hl m ih z g t a hm hg ht hth hb hz
  clear ih hg
  unfold Term3 at T3
  refine ⟨_, a', kt, fun d h o g0 w0 gen gen1 σ hd hrel hfr ⟨j0, j1, j3, j6, j8, b6, b8, bd, ag⟩ => ?_⟩
  refine AR_gen2 (fun gn hgn0 hgn => ?_)
  have hgf := fresh_of hgn
  have hres : Tryz.f32.results.toList = [.cell 8 31] := rfl
  have hfr0 := fresh_of hfr
  have f1 := fresh_ne hfr hd
  have f2 := fresh_ne' hfr hd
  have f3 := fresh_ne hgn bd
  have f4 := fresh_ne' hgn bd
  have e1 := gen_ne hgn b6
  have e2 := gen_ne' hgn b6
  have hgl_gn : gen < gn := by have := hgn _ (by rw [b6]; simp); simpa using this
  have hfr' := agreeBut_fresh' hd ag hgf (fun r i e => by rw [e] at bd; rw [hgf] at bd; cases bd)
  clear hgn hgn0
  change AR _ _ [.code (.seq (subC [true, true, true, false] (bodyOf Tryz.f32)) (subC [true, true, true, true] (bodyOf Tryz.f32)))] _ _
  refine AR_seq ?_
  generalize subC [true, true, true, true] (bodyOf Tryz.f32) = C3 at T3 ⊢
  conv => arg 3; arg 1; simp only [subC, bodyOf, Tryz.f32, Option.getD_some]
  repeat' (first
   |refine AR_seq ?_|refine AR_skip ?_|refine AR_block ?_|refine AR_block_end ?_|refine AR_exit ?_|refine AR_code_exit ?_|refine AR_inv_exit ?_|refine AR_block_hit ?_
   |refine AR_block_pass (by decide) ?_|refine AR_ret ?_|refine AR_fall ?_
   |(refine ⟨?_,?_⟩; focus ((repeat' (first|refine ⟨?_,?_⟩|refine .inr ?_)); all_goals kernel_rfl))
   |refine AR_cond_t rfl ?_|refine AR_cond_f rfl ?_|(refine AR_cond rfl (fun hc => ?_) (fun hc => ?_) <;> (try rw [beq_iff_eq] at hc) <;> (try simp only [hc]))
   | ((first|refine AR_region ?_|(refine guarded_split (fun hb => ?_) (fun hb => ?_) <;> (try simp only [Bool.not_true, Bool.not_false] at hb))|refine Call1_pure (c_refNat) ?_) <;> simp only [go_sem, *]))
  refine T3 d h o g0 w0 gen _ _ hd hrel hfr ⟨by simp only [go_sem, *], by simp only [go_sem, *], by simp only [go_sem, *], by simp only [go_sem, *], by simp only [go_sem, *], by simp only [go_sem, *], by simp only [go_sem, *], by simp only [go_sem, *], ?_⟩
  simp only [go_sem, *]
  repeat (first|exact AgreeBut.refl _ _|assumption|refine AgreeBut.new ?_ (hfr' _ _)|refine AgreeBut.new ?_ (hfr0 _ _)|refine AgreeBut.set ?_)
 have hz0 : decide (z > 0) = true := by simpa using hp
 have hn1 : z.toNat = (z - 1).toNat + 1 := by omega
 have hr := nextD_range (l := l) (a := a) (n := 8) (by omega) (by omega)
 generalize hq : nextD l a 8 = q at hr
 obtain ⟨c, a1⟩ := q
 have hc1 : (nextD l a 8).1 = c := by rw [hq]
 have hc2 : (nextD l a 8).2 = a1 := by rw [hq]
 simp only at hr
 obtain rfl | rfl | rfl | rfl | rfl | rfl | hge : c = 0 ∨ c = 1 ∨ c = 2 ∨ c = 3 ∨ c = 4 ∨ c = 5 ∨ 6 ≤ c := by omega
 ·
  have hs := mkType_Mk (l := l) 0 a1
  have hsT := c_Type l hl
  have hsH := hs.H
  generalize hq2 : mkType l 0 a1 = q at hs hsH
  obtain ⟨s, a2⟩ := q
  have hs1 : (mkType l 0 a1).1 = s := by rw [hq2]
  have hs2 : (mkType l 0 a1).2 = a2 := by rw [hq2]
  simp only at hs hsH
  have hsF := hs.F
  have hsW := hsF.W
  have hT0 : ∀ d, Turns Tryz.prog env 15 [.ptr d 0, .int .i64 0] d (.box (deckC l a1)) (.agg s.cells) (.box (deckC l a2)) := fun d => by have := hsT d 0 (by omega) a1; rw [hs1, hs2] at this; exact this
  clear hsT hs1 hs2 hq2
  obtain ⟨b, ab, kb, wb, Tb⟩ := ihT ih (z - 1) (g ++ [s]) t a2
  obtain ⟨x, ax, kx, wx, Tx⟩ := ihT ih (z - 1) g s ab
  have hL := c_longer g [s] (by omega) (by simp)
  have hN1 := c_T 2 s [b] hsW (by simp) (by simp [wb])
  have hN2 := c_N 3 [tmT 2 s [b], x] (by simp) (by simp [wx, tmT_W1 hsW wb])
  simp only [List.map_cons, List.map_nil] at hL hN1 hN2
  clear ih hr hq hp hg
  refine ⟨_, ax, by rw [hn1]; exact .app hs kb kx, fun d h o g0 w0 gen gen1 σ hd hrel hfr ⟨j0, j1, j3, j6, j8, b6, b8, bd, ag⟩ => ?_⟩
  refine AR_gen2 (fun gn hgn0 hgn => ?_)
  have hgf := fresh_of hgn
  have hres : Tryz.f32.results.toList = [.cell 8 31] := rfl
  have hfr0 := fresh_of hfr
  have f1 := fresh_ne hfr hd
  have f2 := fresh_ne' hfr hd
  have f3 := fresh_ne hgn bd
  have f4 := fresh_ne' hgn bd
  have e1 := gen_ne hgn b6
  have e2 := gen_ne' hgn b6
  have hgl_gn : gen < gn := by have := hgn _ (by rw [b6]; simp); simpa using this
  have hfr' := agreeBut_fresh' hd ag hgf (fun r i e => by rw [e] at bd; rw [hgf] at bd; cases bd)
  clear hgn hgn0
  change AR _ _ [.code (.seq (subC [true, true, true, false] (bodyOf Tryz.f32)) (subC [true, true, true, true] (bodyOf Tryz.f32)))] _ _
  refine AR_seq ?_
  generalize subC [true, true, true, true] (bodyOf Tryz.f32) = C3
  conv => arg 3; arg 1; simp only [subC, bodyOf, Tryz.f32, Option.getD_some]
  repeat' (first
   |refine AR_seq ?_|refine AR_skip ?_|refine AR_block ?_|refine AR_block_end ?_|refine AR_exit ?_|refine AR_code_exit ?_|refine AR_inv_exit ?_|refine AR_block_hit ?_
   |refine AR_block_pass (by decide) ?_|refine AR_ret ?_|refine AR_fall ?_
   |(refine ⟨?_,?_⟩; focus ((repeat' (first|refine ⟨?_,?_⟩|refine .inr ?_)); all_goals kernel_rfl))
   |refine AR_cond_t rfl ?_|refine AR_cond_f rfl ?_|(refine AR_cond rfl (fun hc => ?_) (fun hc => ?_) <;> (try rw [beq_iff_eq] at hc) <;> (try simp only [hc]))
   | ((first|refine AR_region ?_|(refine guarded_split (fun hb => ?_) (fun hb => ?_) <;> (try simp only [Bool.not_true, Bool.not_false] at hb))|refine Call1_pure (hL) ?_|refine Call1_pure (hN1) ?_|refine Call1_pure (hN2) ?_|(refine Call1_turn (hT0 d) ?_ ?_; focus ((simp only [go_sem, *] <;> rfl); done))|(refine Call1_turn (Tb d) ?_ ?_; focus ((simp only [go_sem, *] <;> rfl); done))|(refine Call1_turn (Tx d) ?_ ?_; focus ((simp only [go_sem, *] <;> rfl); done))|refine Call1_turn (c_Next l hl d _ _) (by simp only [go_sem, *] <;> rfl) ?_|refine AR_fin_turn hrel hd (by simp only [go_sem, and_self]) (by simp only [go_sem, and_self]) (by repeat (first|exact AgreeBut.refl _ _|assumption|refine AgreeBut.new ?_ (hfr' _ _)|refine AgreeBut.new ?_ (hgf0 _ _)|refine AgreeBut.new ?_ (hfr0 _ _)|refine AgreeBut.set ?_)) (by simp only [go_sem, *]) ?_) <;> simp only [go_sem, *]))
 ·
  have hs := mkType_Mk (l := l) 0 a1
  have hsT := c_Type l hl
  have hsH := hs.H
  generalize hq2 : mkType l 0 a1 = q at hs hsH
  obtain ⟨s, a2⟩ := q
  have hs1 : (mkType l 0 a1).1 = s := by rw [hq2]
  have hs2 : (mkType l 0 a1).2 = a2 := by rw [hq2]
  simp only at hs hsH
  have hsF := hs.F
  have hsW := hsF.W
  have hT0 : ∀ d, Turns Tryz.prog env 15 [.ptr d 0, .int .i64 0] d (.box (deckC l a1)) (.agg s.cells) (.box (deckC l a2)) := fun d => by have := hsT d 0 (by omega) a1; rw [hs1, hs2] at this; exact this
  clear hsT hs1 hs2 hq2
  obtain ⟨x, ax, kx, wx, Tx⟩ := ihT ih (z - 1) g t a2
  obtain ⟨y, ay, ky, wy, Ty⟩ := ihT ih (z - 1) g s ax
  have hN1 := c_N 10 [x, y] (by simp) (by simp [wx, wy])
  have hN2 := c_N 11 [tm0 10 [x, y]] (by simp) (by simp [tm0_W2 wx wy])
  simp only [List.map_cons, List.map_nil] at hN1 hN2
  clear ih hr hq hp hg
  refine ⟨_, ay, by rw [hn1]; exact .fst hs kx ky, fun d h o g0 w0 gen gen1 σ hd hrel hfr ⟨j0, j1, j3, j6, j8, b6, b8, bd, ag⟩ => ?_⟩
  refine AR_gen2 (fun gn hgn0 hgn => ?_)
  have hgf := fresh_of hgn
  have hres : Tryz.f32.results.toList = [.cell 8 31] := rfl
  have hfr0 := fresh_of hfr
  have f1 := fresh_ne hfr hd
  have f2 := fresh_ne' hfr hd
  have f3 := fresh_ne hgn bd
  have f4 := fresh_ne' hgn bd
  have e1 := gen_ne hgn b6
  have e2 := gen_ne' hgn b6
  have hgl_gn : gen < gn := by have := hgn _ (by rw [b6]; simp); simpa using this
  have hfr' := agreeBut_fresh' hd ag hgf (fun r i e => by rw [e] at bd; rw [hgf] at bd; cases bd)
  clear hgn hgn0
  change AR _ _ [.code (.seq (subC [true, true, true, false] (bodyOf Tryz.f32)) (subC [true, true, true, true] (bodyOf Tryz.f32)))] _ _
  refine AR_seq ?_
  generalize subC [true, true, true, true] (bodyOf Tryz.f32) = C3
  conv => arg 3; arg 1; simp only [subC, bodyOf, Tryz.f32, Option.getD_some]
  repeat' (first
   |refine AR_seq ?_|refine AR_skip ?_|refine AR_block ?_|refine AR_block_end ?_|refine AR_exit ?_|refine AR_code_exit ?_|refine AR_inv_exit ?_|refine AR_block_hit ?_
   |refine AR_block_pass (by decide) ?_|refine AR_ret ?_|refine AR_fall ?_
   |(refine ⟨?_,?_⟩; focus ((repeat' (first|refine ⟨?_,?_⟩|refine .inr ?_)); all_goals kernel_rfl))
   |refine AR_cond_t rfl ?_|refine AR_cond_f rfl ?_|(refine AR_cond rfl (fun hc => ?_) (fun hc => ?_) <;> (try rw [beq_iff_eq] at hc) <;> (try simp only [hc]))
   | ((first|refine AR_region ?_|(refine guarded_split (fun hb => ?_) (fun hb => ?_) <;> (try simp only [Bool.not_true, Bool.not_false] at hb))|refine Call1_pure (hN1) ?_|refine Call1_pure (hN2) ?_|(refine Call1_turn (hT0 d) ?_ ?_; focus ((simp only [go_sem, *] <;> rfl); done))|(refine Call1_turn (Tx d) ?_ ?_; focus ((simp only [go_sem, *] <;> rfl); done))|(refine Call1_turn (Ty d) ?_ ?_; focus ((simp only [go_sem, *] <;> rfl); done))|refine Call1_turn (c_Next l hl d _ _) (by simp only [go_sem, *] <;> rfl) ?_|refine AR_fin_turn hrel hd (by simp only [go_sem, and_self]) (by simp only [go_sem, and_self]) (by repeat (first|exact AgreeBut.refl _ _|assumption|refine AgreeBut.new ?_ (hfr' _ _)|refine AgreeBut.new ?_ (hgf0 _ _)|refine AgreeBut.new ?_ (hfr0 _ _)|refine AgreeBut.set ?_)) (by simp only [go_sem, *]) ?_) <;> simp only [go_sem, *]))
 ·
  obtain ⟨f, af, kf, wf, Tf⟩ := ihT ih (z - 1) (g ++ [tNat, t]) t a1
  obtain ⟨b, ab, kb, wb, Tb⟩ := ihT ih (z - 1) g t af
  have hr3 := nextD_range (l := l) (a := ab) (n := 3) (by omega) (by omega)
  obtain ⟨k, hk⟩ : ∃ k : Nat, (nextD l ab 3).1 = (k : Int) := ⟨(nextD l ab 3).1.toNat, by omega⟩
  have hk3 : k < 3 := by omega
  have hNum := c_Num k (by omega)
  clear hr3
  have hL := c_longer g [tNat, t] (by omega) (by simp)
  have w1 := tmT_W1 (k := 2) htw wf
  have w2 := tmT_W1 (k := 2) tNat_W w1
  have hN1 := c_T 2 t [f] htw (by simp) (by simp [wf])
  have hN2 := c_T 2 tNat [tmT 2 t [f]] tNat_W (by simp) (by simp [w1])
  have hN3 := c_T 6 t [b, tmT 2 tNat [tmT 2 t [f]], numT k] htw (by simp) (by simp [wb, w2, numT_W])
  simp only [List.map_cons, List.map_nil] at hL hN1 hN2 hN3
  clear ih hr hq hp hg
  refine ⟨_, (nextD l ab 3).2, by rw [hn1]; exact .recr hk3 kf kb, fun d h o g0 w0 gen gen1 σ hd hrel hfr ⟨j0, j1, j3, j6, j8, b6, b8, bd, ag⟩ => ?_⟩
  refine AR_gen2 (fun gn hgn0 hgn => ?_)
  have hgf := fresh_of hgn
  have hres : Tryz.f32.results.toList = [.cell 8 31] := rfl
  have hfr0 := fresh_of hfr
  have f1 := fresh_ne hfr hd
  have f2 := fresh_ne' hfr hd
  have f3 := fresh_ne hgn bd
  have f4 := fresh_ne' hgn bd
  have e1 := gen_ne hgn b6
  have e2 := gen_ne' hgn b6
  have hgl_gn : gen < gn := by have := hgn _ (by rw [b6]; simp); simpa using this
  have hfr' := agreeBut_fresh' hd ag hgf (fun r i e => by rw [e] at bd; rw [hgf] at bd; cases bd)
  clear hgn hgn0
  change AR _ _ [.code (.seq (subC [true, true, true, false] (bodyOf Tryz.f32)) (subC [true, true, true, true] (bodyOf Tryz.f32)))] _ _
  refine AR_seq ?_
  generalize subC [true, true, true, true] (bodyOf Tryz.f32) = C3
  conv => arg 3; arg 1; simp only [subC, bodyOf, Tryz.f32, Option.getD_some]
  repeat' (first
   |refine AR_seq ?_|refine AR_skip ?_|refine AR_block ?_|refine AR_block_end ?_|refine AR_exit ?_|refine AR_code_exit ?_|refine AR_inv_exit ?_|refine AR_block_hit ?_
   |refine AR_block_pass (by decide) ?_|refine AR_ret ?_|refine AR_fall ?_
   |(refine ⟨?_,?_⟩; focus ((repeat' (first|refine ⟨?_,?_⟩|refine .inr ?_)); all_goals kernel_rfl))
   |refine AR_cond_t rfl ?_|refine AR_cond_f rfl ?_|(refine AR_cond rfl (fun hc => ?_) (fun hc => ?_) <;> (try rw [beq_iff_eq] at hc) <;> (try simp only [hc]))
   | ((first|refine AR_region ?_|(refine guarded_split (fun hb => ?_) (fun hb => ?_) <;> (try simp only [Bool.not_true, Bool.not_false] at hb))|refine Call1_pure (hL) ?_|refine Call1_pure (hN1) ?_|refine Call1_pure (hN2) ?_|refine Call1_pure (hN3) ?_|refine Call1_pure (hNum) ?_|refine Call1_pure (c_refNat) ?_|(refine Call1_turn (Tf d) ?_ ?_; focus ((simp only [go_sem, *] <;> rfl); done))|(refine Call1_turn (Tb d) ?_ ?_; focus ((simp only [go_sem, *] <;> rfl); done))|refine Call1_turn (c_Next l hl d _ _) (by simp only [go_sem, *] <;> rfl) ?_|refine AR_fin_turn hrel hd (by simp only [go_sem, and_self]) (by simp only [go_sem, and_self]) (by repeat (first|exact AgreeBut.refl _ _|assumption|refine AgreeBut.new ?_ (hfr' _ _)|refine AgreeBut.new ?_ (hgf0 _ _)|refine AgreeBut.new ?_ (hfr0 _ _)|refine AgreeBut.set ?_)) (by simp only [go_sem, *]) ?_) <;> simp only [go_sem, *]))
 ·
  obtain ⟨f, af, kf, wf, Tf⟩ := ihT ih (z - 1) (g ++ [tNat, tList, t]) t a1
  obtain ⟨b, ab, kb, wb, Tb⟩ := ihT ih (z - 1) g t af
  obtain ⟨x, ax, kx, wx, Tx⟩ := ihT ih (z - 1) g tList ab
  have hL := c_longer g [tNat, tList, t] (by omega) (by simp)
  have w1 := tmT_W1 (k := 2) htw wf
  have w2 := tmT_W1 (k := 2) tList_W w1
  have w3 := tmT_W1 (k := 2) tNat_W w2
  have hN1 := c_T 2 t [f] htw (by simp) (by simp [wf])
  have hN2 := c_T 2 tList [tmT 2 t [f]] tList_W (by simp) (by simp [w1])
  have hN3 := c_T 2 tNat [tmT 2 tList [tmT 2 t [f]]] tNat_W (by simp) (by simp [w2])
  have hN4 := c_T 9 t [b, tmT 2 tNat [tmT 2 tList [tmT 2 t [f]]], x] htw (by simp) (by simp [wb, w3, wx])
  simp only [List.map_cons, List.map_nil] at hL hN1 hN2 hN3 hN4
  clear ih hr hq hp hg
  refine ⟨_, ax, by rw [hn1]; exact .fold kf kb kx, fun d h o g0 w0 gen gen1 σ hd hrel hfr ⟨j0, j1, j3, j6, j8, b6, b8, bd, ag⟩ => ?_⟩
  refine AR_gen2 (fun gn hgn0 hgn => ?_)
  have hgf := fresh_of hgn
  have hres : Tryz.f32.results.toList = [.cell 8 31] := rfl
  have hfr0 := fresh_of hfr
  have f1 := fresh_ne hfr hd
  have f2 := fresh_ne' hfr hd
  have f3 := fresh_ne hgn bd
  have f4 := fresh_ne' hgn bd
  have e1 := gen_ne hgn b6
  have e2 := gen_ne' hgn b6
  have hgl_gn : gen < gn := by have := hgn _ (by rw [b6]; simp); simpa using this
  have hfr' := agreeBut_fresh' hd ag hgf (fun r i e => by rw [e] at bd; rw [hgf] at bd; cases bd)
  clear hgn hgn0
  change AR _ _ [.code (.seq (subC [true, true, true, false] (bodyOf Tryz.f32)) (subC [true, true, true, true] (bodyOf Tryz.f32)))] _ _
  refine AR_seq ?_
  generalize subC [true, true, true, true] (bodyOf Tryz.f32) = C3
  conv => arg 3; arg 1; simp only [subC, bodyOf, Tryz.f32, Option.getD_some]
  repeat' (first
   |refine AR_seq ?_|refine AR_skip ?_|refine AR_block ?_|refine AR_block_end ?_|refine AR_exit ?_|refine AR_code_exit ?_|refine AR_inv_exit ?_|refine AR_block_hit ?_
   |refine AR_block_pass (by decide) ?_|refine AR_ret ?_|refine AR_fall ?_
   |(refine ⟨?_,?_⟩; focus ((repeat' (first|refine ⟨?_,?_⟩|refine .inr ?_)); all_goals kernel_rfl))
   |refine AR_cond_t rfl ?_|refine AR_cond_f rfl ?_|(refine AR_cond rfl (fun hc => ?_) (fun hc => ?_) <;> (try rw [beq_iff_eq] at hc) <;> (try simp only [hc]))
   | ((first|refine AR_region ?_|(refine guarded_split (fun hb => ?_) (fun hb => ?_) <;> (try simp only [Bool.not_true, Bool.not_false] at hb))|refine Call1_pure (hL) ?_|refine Call1_pure (hN1) ?_|refine Call1_pure (hN2) ?_|refine Call1_pure (hN3) ?_|refine Call1_pure (hN4) ?_|refine Call1_pure (c_refNat) ?_|refine Call1_pure (c_refList) ?_|(refine Call1_turn (Tf d) ?_ ?_; focus ((simp only [go_sem, *] <;> rfl); done))|(refine Call1_turn (Tb d) ?_ ?_; focus ((simp only [go_sem, *] <;> rfl); done))|(refine Call1_turn (Tx d) ?_ ?_; focus ((simp only [go_sem, *] <;> rfl); done))|refine Call1_turn (c_Next l hl d _ _) (by simp only [go_sem, *] <;> rfl) ?_|refine AR_fin_turn hrel hd (by simp only [go_sem, and_self]) (by simp only [go_sem, and_self]) (by repeat (first|exact AgreeBut.refl _ _|assumption|refine AgreeBut.new ?_ (hfr' _ _)|refine AgreeBut.new ?_ (hgf0 _ _)|refine AgreeBut.new ?_ (hfr0 _ _)|refine AgreeBut.set ?_)) (by simp only [go_sem, *]) ?_) <;> simp only [go_sem, *]))
 ·
  have hs := mkType_Mk (l := l) 0 a1
  have hsT := c_Type l hl
  have hsH := hs.H
  generalize hq2 : mkType l 0 a1 = q at hs hsH
  obtain ⟨s, a2⟩ := q
  have hs1 : (mkType l 0 a1).1 = s := by rw [hq2]
  have hs2 : (mkType l 0 a1).2 = a2 := by rw [hq2]
  simp only at hs hsH
  have hsF := hs.F
  have hsW := hsF.W
  have hT0 : ∀ d, Turns Tryz.prog env 15 [.ptr d 0, .int .i64 0] d (.box (deckC l a1)) (.agg s.cells) (.box (deckC l a2)) := fun d => by have := hsT d 0 (by omega) a1; rw [hs1, hs2] at this; exact this
  clear hsT hs1 hs2 hq2
  obtain ⟨x, ax, kx, wx, Tx⟩ := ihT ih (z - 1) g s a2
  obtain ⟨y, ay, ky, wy, Ty⟩ := ihT ih (z - 1) g t ax
  have hN1 := c_N 10 [x, y] (by simp) (by simp [wx, wy])
  have hN2 := c_N 12 [tm0 10 [x, y]] (by simp) (by simp [tm0_W2 wx wy])
  simp only [List.map_cons, List.map_nil] at hN1 hN2
  clear ih hr hq hp hg
  refine ⟨_, ay, by rw [hn1]; exact .snd hs kx ky, fun d h o g0 w0 gen gen1 σ hd hrel hfr ⟨j0, j1, j3, j6, j8, b6, b8, bd, ag⟩ => ?_⟩
  refine AR_gen2 (fun gn hgn0 hgn => ?_)
  have hgf := fresh_of hgn
  have hres : Tryz.f32.results.toList = [.cell 8 31] := rfl
  have hfr0 := fresh_of hfr
  have f1 := fresh_ne hfr hd
  have f2 := fresh_ne' hfr hd
  have f3 := fresh_ne hgn bd
  have f4 := fresh_ne' hgn bd
  have e1 := gen_ne hgn b6
  have e2 := gen_ne' hgn b6
  have hgl_gn : gen < gn := by have := hgn _ (by rw [b6]; simp); simpa using this
  have hfr' := agreeBut_fresh' hd ag hgf (fun r i e => by rw [e] at bd; rw [hgf] at bd; cases bd)
  clear hgn hgn0
  change AR _ _ [.code (.seq (subC [true, true, true, false] (bodyOf Tryz.f32)) (subC [true, true, true, true] (bodyOf Tryz.f32)))] _ _
  refine AR_seq ?_
  generalize subC [true, true, true, true] (bodyOf Tryz.f32) = C3
  conv => arg 3; arg 1; simp only [subC, bodyOf, Tryz.f32, Option.getD_some]
  repeat' (first
   |refine AR_seq ?_|refine AR_skip ?_|refine AR_block ?_|refine AR_block_end ?_|refine AR_exit ?_|refine AR_code_exit ?_|refine AR_inv_exit ?_|refine AR_block_hit ?_
   |refine AR_block_pass (by decide) ?_|refine AR_ret ?_|refine AR_fall ?_
   |(refine ⟨?_,?_⟩; focus ((repeat' (first|refine ⟨?_,?_⟩|refine .inr ?_)); all_goals kernel_rfl))
   |refine AR_cond_t rfl ?_|refine AR_cond_f rfl ?_|(refine AR_cond rfl (fun hc => ?_) (fun hc => ?_) <;> (try rw [beq_iff_eq] at hc) <;> (try simp only [hc]))
   | ((first|refine AR_region ?_|(refine guarded_split (fun hb => ?_) (fun hb => ?_) <;> (try simp only [Bool.not_true, Bool.not_false] at hb))|refine Call1_pure (hN1) ?_|refine Call1_pure (hN2) ?_|(refine Call1_turn (hT0 d) ?_ ?_; focus ((simp only [go_sem, *] <;> rfl); done))|(refine Call1_turn (Tx d) ?_ ?_; focus ((simp only [go_sem, *] <;> rfl); done))|(refine Call1_turn (Ty d) ?_ ?_; focus ((simp only [go_sem, *] <;> rfl); done))|refine Call1_turn (c_Next l hl d _ _) (by simp only [go_sem, *] <;> rfl) ?_|refine AR_fin_turn hrel hd (by simp only [go_sem, and_self]) (by simp only [go_sem, and_self]) (by repeat (first|exact AgreeBut.refl _ _|assumption|refine AgreeBut.new ?_ (hfr' _ _)|refine AgreeBut.new ?_ (hgf0 _ _)|refine AgreeBut.new ?_ (hfr0 _ _)|refine AgreeBut.set ?_)) (by simp only [go_sem, *]) ?_) <;> simp only [go_sem, *]))
 ·
  cases hfind : (List.range g.length).find? (funAt g t) with
  | none =>
   obtain ⟨t', a', kt, T3⟩ := term3 l hl m ih z g t a1 hm hg ht hth hb hz
   clear ih
   unfold Term3 at T3
   refine ⟨_, a', kt, fun d h o g0 w0 gen gen1 σ hd hrel hfr ⟨j0, j1, j3, j6, j8, b6, b8, bd, ag⟩ => ?_⟩
   refine AR_gen2 (fun gn hgn0 hgn => ?_)
   have hgf := fresh_of hgn
   have hres : Tryz.f32.results.toList = [.cell 8 31] := rfl
   have hfr0 := fresh_of hfr
   have f1 := fresh_ne hfr hd
   have f2 := fresh_ne' hfr hd
   have f3 := fresh_ne hgn bd
   have f4 := fresh_ne' hgn bd
   have e1 := gen_ne hgn b6
   have e2 := gen_ne' hgn b6
   have hgl_gn : gen < gn := by have := hgn _ (by rw [b6]; simp); simpa using this
   have hfr' := agreeBut_fresh' hd ag hgf (fun r i e => by rw [e] at bd; rw [hgf] at bd; cases bd)
   clear hgn hgn0
   change AR _ _ [.code (.seq (subC [true, true, true, false] (bodyOf Tryz.f32)) (subC [true, true, true, true] (bodyOf Tryz.f32)))] _ _
   refine AR_seq ?_
   generalize subC [true, true, true, true] (bodyOf Tryz.f32) = C3 at T3 ⊢
   conv => arg 3; arg 1; simp only [subC, bodyOf, Tryz.f32, Option.getD_some]
   repeat' (first
    |refine AR_seq ?_|refine AR_skip ?_|refine AR_block ?_|refine AR_block_end ?_|refine AR_exit ?_|refine AR_code_exit ?_|refine AR_inv_exit ?_|refine AR_block_hit ?_
    |refine AR_block_pass (by decide) ?_|refine AR_ret ?_|refine AR_fall ?_
    |(refine ⟨?_,?_⟩; focus ((repeat' (first|refine ⟨?_,?_⟩|refine .inr ?_)); all_goals kernel_rfl))
    |refine AR_cond_t rfl ?_|refine AR_cond_f rfl ?_|(refine AR_cond rfl (fun hc => ?_) (fun hc => ?_) <;> (try rw [beq_iff_eq] at hc) <;> (try simp only [hc]))
    | ((first|refine AR_region ?_|(refine guarded_split (fun hb => ?_) (fun hb => ?_) <;> (try simp only [Bool.not_true, Bool.not_false] at hb))|refine Call1_turn (c_Next l hl d _ _) (by simp only [go_sem, *] <;> rfl) ?_) <;> simp only [go_sem, *]))
   refine ar_ [0, 1, 3, 6, 8] [⟨gen, 0, 0⟩, ⟨gen, 0, 1⟩] (fun i σ => AgreeBut d h σ.h ∧ σ.h d = some (.box (deckC l a1))) (g).length ?_ ?_ ?_
   ·
    simp only [go_sem, *]
    repeat (first|exact AgreeBut.refl _ _|assumption|refine AgreeBut.new ?_ (hfr' _ _)|refine AgreeBut.new ?_ (hfr0 _ _)|refine AgreeBut.set ?_)
   ·
    clear T3
    intro i σ gr0 hgl_gr0 hgn hlt jI jN jS ⟨jA, jd⟩
    obtain ⟨jT, jB⟩ := jS
    simp only [go_sem] at jT jB
    have hgf := fresh_of hgn
    have hgf0 := agreeBut_fresh' hd jA hgf (fun r i e => by have := hfr d (by rw [hd]; simp); rw [e] at this; simp at this; omega)
    have fd_gr0 := fresh_ne2 hfr hd (show gen < gr0 by omega)
    have fe_gr0 := fresh_ne2' hfr hd (show gen < gr0 by omega)
    have eg_gen_gr0 := gen_lt (show gen < gr0 by omega)
    have eh_gen_gr0 := gen_lt' (show gen < gr0 by omega)
    have eg_gn_gr0 := gen_lt (show gn < gr0 by omega)
    have eh_gn_gr0 := gen_lt' (show gn < gr0 by omega)
    obtain ⟨x, hx, hxm, hm⟩ := rnx hlt
    clear hgn
    have hfa := funAt_none hfind hlt
    have hw1 : IntKind.i64.wrap ((g.length : Int) - 1) = ((g.length - 1 : Nat) : Int) := wrap_eq (by omega) (by omega) (by omega)
    have hw2 : IntKind.i64.wrap (((g.length - 1 : Nat) : Int) - (i : Int)) = ((g.length - 1 - i : Nat) : Int) := wrap_eq (by omega) (by omega) (by omega)
    obtain ⟨y, hy⟩ : ∃ y, g[g.length - 1 - i]? = some y := ⟨_, List.getElem?_eq_getElem (by omega)⟩
    have hyF := (hg y (List.mem_of_getElem? hy)).1
    clear hgl_gr0 hgl_gn
    unfold funAt at hfa
    rw [hy] at hfa
    simp only at hfa
    clear hg
    cases hk4 : (y.kind == 4) with
    | false =>
     repeat' (first
      |refine AR_seq ?_|refine AR_skip ?_|refine AR_block ?_|refine AR_block_end ?_|refine AR_exit ?_|refine AR_code_exit ?_|refine AR_inv_exit ?_|refine AR_block_hit ?_
      |refine AR_block_pass (by decide) ?_|refine AR_ret ?_|refine AR_fall ?_
      |(refine ⟨?_,?_⟩; focus ((repeat' (first|refine ⟨?_,?_⟩|refine .inr ?_)); all_goals kernel_rfl))
      |refine AR_cond_t rfl ?_|refine AR_cond_f rfl ?_|(refine AR_cond rfl (fun hc => ?_) (fun hc => ?_) <;> (try rw [beq_iff_eq] at hc) <;> (try simp only [hc]))
      | ((first|refine AR_region ?_|(refine guarded_split (fun hb => ?_) (fun hb => ?_) <;> (try simp only [Bool.not_true, Bool.not_false] at hb))|refine AR_inv ?_) <;> simp only [go_sem, *]))
     first|exact (by repeat (first|assumption|refine AgreeBut.new ?_ (hgf0 _ _)))|exact ⟨(by repeat (first|assumption|refine AgreeBut.new ?_ (hgf0 _ _))), hi1⟩
    | true =>
     obtain ⟨p, q, rfl⟩ := kind4 hyF hk4
     have hya : (tFun p q).args = [p, q] := rfl
     have hyk : (tFun p q).kind = 4 := rfl
     simp only [hya, hyk, beq_self_eq_true, Bool.true_and, List.getElem?_cons_succ, List.getElem?_cons_zero] at hfa
     have hqW : TyW q := by cases hyF with | func ha hb => exact hb.W
     have hS := c_refSame q hqW t htw
     rw [hfa] at hS
     clear hk4 hyF
     repeat' (first
      |refine AR_seq ?_|refine AR_skip ?_|refine AR_block ?_|refine AR_block_end ?_|refine AR_exit ?_|refine AR_code_exit ?_|refine AR_inv_exit ?_|refine AR_block_hit ?_
      |refine AR_block_pass (by decide) ?_|refine AR_ret ?_|refine AR_fall ?_
      |(refine ⟨?_,?_⟩; focus ((repeat' (first|refine ⟨?_,?_⟩|refine .inr ?_)); all_goals kernel_rfl))
      |refine AR_cond_t rfl ?_|refine AR_cond_f rfl ?_|(refine AR_cond rfl (fun hc => ?_) (fun hc => ?_) <;> (try rw [beq_iff_eq] at hc) <;> (try simp only [hc]))
      | ((first|refine AR_region ?_|(refine guarded_split (fun hb => ?_) (fun hb => ?_) <;> (try simp only [Bool.not_true, Bool.not_false] at hb))|refine Call1_pure (hS) ?_|refine AR_inv ?_) <;> simp only [go_sem, *]))
     first|exact (by repeat (first|assumption|refine AgreeBut.new ?_ (hgf0 _ _)))|exact ⟨(by repeat (first|assumption|refine AgreeBut.new ?_ (hgf0 _ _))), hi1⟩
   ·
    intro σ ga0 hgl_ga0 hgn jS ⟨jA, jd⟩
    obtain ⟨jT, jB⟩ := jS
    simp only [go_sem] at jT jB
    have hgf := fresh_of hgn
    have hgf0 := agreeBut_fresh' hd jA hgf (fun r i e => by have := hfr d (by rw [hd]; simp); rw [e] at this; simp at this; omega)
    have fd_ga0 := fresh_ne2 hfr hd (show gen < ga0 by omega)
    have fe_ga0 := fresh_ne2' hfr hd (show gen < ga0 by omega)
    have eg_gen_ga0 := gen_lt (show gen < ga0 by omega)
    have eh_gen_ga0 := gen_lt' (show gen < ga0 by omega)
    have eg_gn_ga0 := gen_lt (show gn < ga0 by omega)
    have eh_gn_ga0 := gen_lt' (show gn < ga0 by omega)
    clear hgn
    clear hg
    repeat' (first
     |refine AR_seq ?_|refine AR_skip ?_|refine AR_block ?_|refine AR_block_end ?_|refine AR_exit ?_|refine AR_code_exit ?_|refine AR_inv_exit ?_|refine AR_block_hit ?_
     |refine AR_block_pass (by decide) ?_|refine AR_ret ?_|refine AR_fall ?_
     |(refine ⟨?_,?_⟩; focus ((repeat' (first|refine ⟨?_,?_⟩|refine .inr ?_)); all_goals kernel_rfl))
     |refine AR_cond_t rfl ?_|refine AR_cond_f rfl ?_|(refine AR_cond rfl (fun hc => ?_) (fun hc => ?_) <;> (try rw [beq_iff_eq] at hc) <;> (try simp only [hc]))
     | ((first|refine AR_region ?_|(refine guarded_split (fun hb => ?_) (fun hb => ?_) <;> (try simp only [Bool.not_true, Bool.not_false] at hb))) <;> simp only [go_sem, *]))
    refine T3 d h o g0 w0 gen _ _ hd hrel hfr ⟨by simp only [go_sem, *], by simp only [go_sem, *], by simp only [go_sem, *], by simp only [go_sem, *], by simp only [go_sem, *], by simp only [go_sem, *], by simp only [go_sem, *], by simp only [go_sem, *], ?_⟩
    simp only [go_sem, *]
    repeat (first|exact AgreeBut.refl _ _|assumption|refine AgreeBut.new ?_ (hfr' _ _)|refine AgreeBut.new ?_ (hfr0 _ _)|refine AgreeBut.set ?_)
  | some i0 =>
   obtain ⟨hi0, hfun, hbef⟩ := funAt_some hfind
   obtain ⟨p, hp0, hpF, hpm⟩ := funAt_fun (fun y hy => (hg y hy).1) hfun
   have hpH := (hg _ hpm).2
   rw [tyH_fun] at hpH
   obtain ⟨x, ax, kx, wx, Tx⟩ := ihT ih (z - 1) g p a1
   have hN := c_N 3 [tmVar i0, x] (by simp) (by simp [tmVar_W, wx])
   simp only [List.map_cons, List.map_nil] at hN
   clear ih hr hq hp
   refine ⟨_, ax, by rw [hn1]; exact .fapp hi0 hp0 kx, fun d h o g0 w0 gen gen1 σ hd hrel hfr ⟨j0, j1, j3, j6, j8, b6, b8, bd, ag⟩ => ?_⟩
   refine AR_gen2 (fun gn hgn0 hgn => ?_)
   have hgf := fresh_of hgn
   have hres : Tryz.f32.results.toList = [.cell 8 31] := rfl
   have hfr0 := fresh_of hfr
   have f1 := fresh_ne hfr hd
   have f2 := fresh_ne' hfr hd
   have f3 := fresh_ne hgn bd
   have f4 := fresh_ne' hgn bd
   have e1 := gen_ne hgn b6
   have e2 := gen_ne' hgn b6
   have hgl_gn : gen < gn := by have := hgn _ (by rw [b6]; simp); simpa using this
   have hfr' := agreeBut_fresh' hd ag hgf (fun r i e => by rw [e] at bd; rw [hgf] at bd; cases bd)
   clear hgn hgn0
   change AR _ _ [.code (.seq (subC [true, true, true, false] (bodyOf Tryz.f32)) (subC [true, true, true, true] (bodyOf Tryz.f32)))] _ _
   refine AR_seq ?_
   generalize subC [true, true, true, true] (bodyOf Tryz.f32) = C3
   conv => arg 3; arg 1; simp only [subC, bodyOf, Tryz.f32, Option.getD_some]
   repeat' (first
    |refine AR_seq ?_|refine AR_skip ?_|refine AR_block ?_|refine AR_block_end ?_|refine AR_exit ?_|refine AR_code_exit ?_|refine AR_inv_exit ?_|refine AR_block_hit ?_
    |refine AR_block_pass (by decide) ?_|refine AR_ret ?_|refine AR_fall ?_
    |(refine ⟨?_,?_⟩; focus ((repeat' (first|refine ⟨?_,?_⟩|refine .inr ?_)); all_goals kernel_rfl))
    |refine AR_cond_t rfl ?_|refine AR_cond_f rfl ?_|(refine AR_cond rfl (fun hc => ?_) (fun hc => ?_) <;> (try rw [beq_iff_eq] at hc) <;> (try simp only [hc]))
    | ((first|refine AR_region ?_|(refine guarded_split (fun hb => ?_) (fun hb => ?_) <;> (try simp only [Bool.not_true, Bool.not_false] at hb))|refine Call1_turn (c_Next l hl d _ _) (by simp only [go_sem, *] <;> rfl) ?_) <;> simp only [go_sem, *]))
   refine ar_ [0, 1, 3, 6, 8] [⟨gen, 0, 0⟩, ⟨gen, 0, 1⟩] (fun i σ => AgreeBut d h σ.h ∧ σ.h d = some (.box (deckC l a1)) ∧ i ≤ i0) (g).length ?_ ?_ ?_
   ·
    simp only [go_sem, *]
    exact ⟨by repeat (first|exact AgreeBut.refl _ _|assumption|refine AgreeBut.new ?_ (hfr' _ _)|refine AgreeBut.new ?_ (hfr0 _ _)|refine AgreeBut.set ?_), by omega⟩
   ·
    intro i σ gr0 hgl_gr0 hgn hlt jI jN jS ⟨jA, jd, hii⟩
    obtain ⟨jT, jB⟩ := jS
    simp only [go_sem] at jT jB
    have hgf := fresh_of hgn
    have hgf0 := agreeBut_fresh' hd jA hgf (fun r i e => by have := hfr d (by rw [hd]; simp); rw [e] at this; simp at this; omega)
    have fd_gr0 := fresh_ne2 hfr hd (show gen < gr0 by omega)
    have fe_gr0 := fresh_ne2' hfr hd (show gen < gr0 by omega)
    have eg_gen_gr0 := gen_lt (show gen < gr0 by omega)
    have eh_gen_gr0 := gen_lt' (show gen < gr0 by omega)
    have eg_gn_gr0 := gen_lt (show gn < gr0 by omega)
    have eh_gn_gr0 := gen_lt' (show gn < gr0 by omega)
    obtain ⟨x, hx, hxm, hm⟩ := rnx hlt
    clear hgn
    have jA' := jA
    have hw1 : IntKind.i64.wrap ((g.length : Int) - 1) = ((g.length - 1 : Nat) : Int) := wrap_eq (by omega) (by omega) (by omega)
    have hw2 : IntKind.i64.wrap (((g.length - 1 : Nat) : Int) - (i : Int)) = ((g.length - 1 - i : Nat) : Int) := wrap_eq (by omega) (by omega) (by omega)
    obtain ⟨y, hy⟩ : ∃ y, g[g.length - 1 - i]? = some y := ⟨_, List.getElem?_eq_getElem (by omega)⟩
    have hyF := (hg y (List.mem_of_getElem? hy)).1
    clear hgl_gr0 hgl_gn
    rcases Nat.lt_or_ge i i0 with hlt0 | hge0
    ·
     have hfa := hbef i hlt0
     have hi1 : i + 1 ≤ i0 := hlt0
     unfold funAt at hfa
     rw [hy] at hfa
     simp only at hfa
     clear hg
     cases hk4 : (y.kind == 4) with
     | false =>
      repeat' (first
       |refine AR_seq ?_|refine AR_skip ?_|refine AR_block ?_|refine AR_block_end ?_|refine AR_exit ?_|refine AR_code_exit ?_|refine AR_inv_exit ?_|refine AR_block_hit ?_
       |refine AR_block_pass (by decide) ?_|refine AR_ret ?_|refine AR_fall ?_
       |(refine ⟨?_,?_⟩; focus ((repeat' (first|refine ⟨?_,?_⟩|refine .inr ?_)); all_goals kernel_rfl))
       |refine AR_cond_t rfl ?_|refine AR_cond_f rfl ?_|(refine AR_cond rfl (fun hc => ?_) (fun hc => ?_) <;> (try rw [beq_iff_eq] at hc) <;> (try simp only [hc]))
       | ((first|refine AR_region ?_|(refine guarded_split (fun hb => ?_) (fun hb => ?_) <;> (try simp only [Bool.not_true, Bool.not_false] at hb))|refine AR_inv ?_) <;> simp only [go_sem, *]))
      first|exact (by repeat (first|assumption|refine AgreeBut.new ?_ (hgf0 _ _)))|exact ⟨(by repeat (first|assumption|refine AgreeBut.new ?_ (hgf0 _ _))), hi1⟩
     | true =>
      obtain ⟨p, q, rfl⟩ := kind4 hyF hk4
      have hya : (tFun p q).args = [p, q] := rfl
      have hyk : (tFun p q).kind = 4 := rfl
      simp only [hya, hyk, beq_self_eq_true, Bool.true_and, List.getElem?_cons_succ, List.getElem?_cons_zero] at hfa
      have hqW : TyW q := by cases hyF with | func ha hb => exact hb.W
      have hS := c_refSame q hqW t htw
      rw [hfa] at hS
      clear hk4 hyF
      repeat' (first
       |refine AR_seq ?_|refine AR_skip ?_|refine AR_block ?_|refine AR_block_end ?_|refine AR_exit ?_|refine AR_code_exit ?_|refine AR_inv_exit ?_|refine AR_block_hit ?_
       |refine AR_block_pass (by decide) ?_|refine AR_ret ?_|refine AR_fall ?_
       |(refine ⟨?_,?_⟩; focus ((repeat' (first|refine ⟨?_,?_⟩|refine .inr ?_)); all_goals kernel_rfl))
       |refine AR_cond_t rfl ?_|refine AR_cond_f rfl ?_|(refine AR_cond rfl (fun hc => ?_) (fun hc => ?_) <;> (try rw [beq_iff_eq] at hc) <;> (try simp only [hc]))
       | ((first|refine AR_region ?_|(refine guarded_split (fun hb => ?_) (fun hb => ?_) <;> (try simp only [Bool.not_true, Bool.not_false] at hb))|refine Call1_pure (hS) ?_|refine AR_inv ?_) <;> simp only [go_sem, *]))
      first|exact (by repeat (first|assumption|refine AgreeBut.new ?_ (hgf0 _ _)))|exact ⟨(by repeat (first|assumption|refine AgreeBut.new ?_ (hgf0 _ _))), hi1⟩
    ·
     obtain rfl : i = i0 := by omega
     rw [hp0] at hy
     cases hy
     have hya : (tFun p t).args = [p, t] := rfl
     have hyk : (tFun p t).kind = 4 := rfl
     have hS := c_refSame t htw t htw
     rw [Ty.same_refl] at hS
     clear hyF hg hbef hfun hfind
     repeat' (first
      |refine AR_seq ?_|refine AR_skip ?_|refine AR_block ?_|refine AR_block_end ?_|refine AR_exit ?_|refine AR_code_exit ?_|refine AR_inv_exit ?_|refine AR_block_hit ?_
      |refine AR_block_pass (by decide) ?_|refine AR_ret ?_|refine AR_fall ?_
      |(refine ⟨?_,?_⟩; focus ((repeat' (first|refine ⟨?_,?_⟩|refine .inr ?_)); all_goals kernel_rfl))
      |refine AR_cond_t rfl ?_|refine AR_cond_f rfl ?_|(refine AR_cond rfl (fun hc => ?_) (fun hc => ?_) <;> (try rw [beq_iff_eq] at hc) <;> (try simp only [hc]))
      | ((first|refine AR_region ?_|(refine guarded_split (fun hb => ?_) (fun hb => ?_) <;> (try simp only [Bool.not_true, Bool.not_false] at hb))|refine Call1_pure (hS) ?_|refine Call1_pure (hN) ?_|refine Call1_pure (c_Var _) ?_|(refine Call1_turn (Tx d) ?_ ?_; focus ((simp only [go_sem, *] <;> rfl); done))|refine AR_fin_turn hrel hd (by simp only [go_sem, and_self]) (by simp only [go_sem, and_self]) (by repeat (first|exact AgreeBut.refl _ _|assumption|refine AgreeBut.new ?_ (hfr' _ _)|refine AgreeBut.new ?_ (hgf0 _ _)|refine AgreeBut.new ?_ (hfr0 _ _)|refine AgreeBut.set ?_)) (by simp only [go_sem, *]) ?_) <;> simp only [go_sem, *]))
   ·
    intro σ ga0 hgl_ga0 hgn jS ⟨jA, jd, hii⟩
    obtain ⟨jT, jB⟩ := jS
    simp only [go_sem] at jT jB
    have hgf := fresh_of hgn
    have hgf0 := agreeBut_fresh' hd jA hgf (fun r i e => by have := hfr d (by rw [hd]; simp); rw [e] at this; simp at this; omega)
    have fd_ga0 := fresh_ne2 hfr hd (show gen < ga0 by omega)
    have fe_ga0 := fresh_ne2' hfr hd (show gen < ga0 by omega)
    have eg_gen_ga0 := gen_lt (show gen < ga0 by omega)
    have eh_gen_ga0 := gen_lt' (show gen < ga0 by omega)
    have eg_gn_ga0 := gen_lt (show gn < ga0 by omega)
    have eh_gn_ga0 := gen_lt' (show gn < ga0 by omega)
    clear hgn
    omega
 ·
  have q0 : (c == 0) = false := by simp; omega
  have q1 : (c == 1) = false := by simp; omega
  have q2 : (c == 2) = false := by simp; omega
  have q3 : (c == 3) = false := by simp; omega
  have q4 : (c == 4) = false := by simp; omega
  have q5 : (c == 5) = false := by simp; omega
  clear hge hr hq
  obtain ⟨t', a', kt, T3⟩ := term3 l hl m ih z g t a1 hm hg ht hth hb hz
  clear ih hg
  unfold Term3 at T3
  refine ⟨_, a', kt, fun d h o g0 w0 gen gen1 σ hd hrel hfr ⟨j0, j1, j3, j6, j8, b6, b8, bd, ag⟩ => ?_⟩
  refine AR_gen2 (fun gn hgn0 hgn => ?_)
  have hgf := fresh_of hgn
  have hres : Tryz.f32.results.toList = [.cell 8 31] := rfl
  have hfr0 := fresh_of hfr
  have f1 := fresh_ne hfr hd
  have f2 := fresh_ne' hfr hd
  have f3 := fresh_ne hgn bd
  have f4 := fresh_ne' hgn bd
  have e1 := gen_ne hgn b6
  have e2 := gen_ne' hgn b6
  have hgl_gn : gen < gn := by have := hgn _ (by rw [b6]; simp); simpa using this
  have hfr' := agreeBut_fresh' hd ag hgf (fun r i e => by rw [e] at bd; rw [hgf] at bd; cases bd)
  clear hgn hgn0
  change AR _ _ [.code (.seq (subC [true, true, true, false] (bodyOf Tryz.f32)) (subC [true, true, true, true] (bodyOf Tryz.f32)))] _ _
  refine AR_seq ?_
  generalize subC [true, true, true, true] (bodyOf Tryz.f32) = C3 at T3 ⊢
  conv => arg 3; arg 1; simp only [subC, bodyOf, Tryz.f32, Option.getD_some]
  repeat' (first
   |refine AR_seq ?_|refine AR_skip ?_|refine AR_block ?_|refine AR_block_end ?_|refine AR_exit ?_|refine AR_code_exit ?_|refine AR_inv_exit ?_|refine AR_block_hit ?_
   |refine AR_block_pass (by decide) ?_|refine AR_ret ?_|refine AR_fall ?_
   |(refine ⟨?_,?_⟩; focus ((repeat' (first|refine ⟨?_,?_⟩|refine .inr ?_)); all_goals kernel_rfl))
   |refine AR_cond_t rfl ?_|refine AR_cond_f rfl ?_|(refine AR_cond rfl (fun hc => ?_) (fun hc => ?_) <;> (try rw [beq_iff_eq] at hc) <;> (try simp only [hc]))
   | ((first|refine AR_region ?_|(refine guarded_split (fun hb => ?_) (fun hb => ?_) <;> (try simp only [Bool.not_true, Bool.not_false] at hb))|refine Call1_turn (c_Next l hl d _ _) (by simp only [go_sem, *] <;> rfl) ?_) <;> simp only [go_sem, *]))
  refine T3 d h o g0 w0 gen _ _ hd hrel hfr ⟨by simp only [go_sem, *], by simp only [go_sem, *], by simp only [go_sem, *], by simp only [go_sem, *], by simp only [go_sem, *], by simp only [go_sem, *], by simp only [go_sem, *], by simp only [go_sem, *], ?_⟩
  simp only [go_sem, *]
  repeat (first|exact AgreeBut.refl _ _|assumption|refine AgreeBut.new ?_ (hfr' _ _)|refine AgreeBut.new ?_ (hfr0 _ _)|refine AgreeBut.set ?_)
end Go.Proofs.YtmbpmbofehmdaaaGreatDoor
