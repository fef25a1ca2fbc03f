/-
 Walks: terms out of the deck, all of it.
-/
import Derived.Test.YtmbpmbofehmdaaaGreatDoorWs
set_option linter.unusedSimpArgs false
set_option linter.unusedVariables false
set_option maxRecDepth 20000
set_option maxHeartbeats 4000000
namespace Go.Proofs.YtmbpmbofehmdaaaGreatDoor
open Go GoAbs Go.Proofs
theorem c_Term0 (l : List Int) (hl : l.length ≤ 1000) : ∀ m, TermIH l m := by
 intro m
 induction m with
 | zero => intro z g t a h; omega
 | succ m ih =>
 intro z g t a hm hg ht hth hb hz
 have ih' : TermIH l (43 * z.toNat + tyH t) := fun z' g' t' a' h' => ih z' g' t' a' (by omega)
 have hv := c_vars g t (by omega) (fun x hx => (hg x hx).1.W) ht.W
 clear ih
 generalize hvs : varsN g t g.length = vs at hv
 have hvl : vs.length ≤ 1000 := by have := varsN_len (g := g) (t := t) (n := g.length); rw [hvs] at this; omega
 rcases Nat.eq_zero_or_pos vs.length with h0 | h0
 ·
  have hc0 : decide ((vs.length : Int) > 0) = false := by rw [h0]; rfl
  clear h0
  obtain ⟨t', a', kt, T2⟩ := term2 l hl _ ih' z g t a rfl hg ht hth hb hz
  refine ⟨t', a', kt, kt.W (fun y hy => (hg y hy).1) ht, ?_⟩
  clear ih' hg
  unfold Term2 at T2
  intro d h hd
  have hdd := hd
  refine en_ Tryz.func32 [.cell 8 31] fun g0 w0 gen hrel hfr hfr' hres => ?_
  have f1 := fresh_ne hfr hd
  have f2 := fresh_ne' hfr hd
  change AR _ _ [.code (.seq (subC [false] (bodyOf Tryz.f32)) (.seq (subC [true, false] (bodyOf Tryz.f32)) (.seq (subC [true, true, false] (bodyOf Tryz.f32)) (subC [true, true, true] (bodyOf Tryz.f32)))))] _ _
  generalize subC [true, true, true] (bodyOf Tryz.f32) = C2 at T2 ⊢
  conv => arg 3; simp only [subC, bodyOf, Tryz.f32, Option.getD_some]
  repeat' (first
   |refine AR_seq ?_|refine AR_skip ?_|refine AR_block ?_|refine AR_block_end ?_|refine AR_exit ?_|refine AR_code_exit ?_|refine AR_inv_exit ?_|refine AR_block_hit ?_
   |refine AR_block_pass (by decide) ?_|refine AR_ret ?_|refine AR_fall ?_
   |(refine ⟨?_,?_⟩; focus ((repeat' (first|refine ⟨?_,?_⟩|refine .inr ?_)); all_goals kernel_rfl))
   |refine AR_cond_t rfl ?_|refine AR_cond_f rfl ?_|(refine AR_cond rfl (fun hc => ?_) (fun hc => ?_) <;> (try rw [beq_iff_eq] at hc) <;> (try simp only [hc]))
   | ((first|refine AR_region ?_|(refine guarded_split (fun hb => ?_) (fun hb => ?_) <;> (try simp only [Bool.not_true, Bool.not_false] at hb))|refine Call1_pure (hv) ?_) <;> simp only [go_sem, *]))
  refine T2 d h _ g0 w0 gen _ _ hdd hrel hfr ⟨by simp only [go_sem, *], by simp only [go_sem, *], by simp only [go_sem, *], by simp only [go_sem, *], by simp only [go_sem, *], by simp only [go_sem, *], by simp only [go_sem, *], by simp only [go_sem, *], ?_⟩
  simp only [go_sem, *]
  repeat (first|exact AgreeBut.refl _ _|assumption|refine AgreeBut.new ?_ (hfr' _ _)|refine AgreeBut.set ?_)
 have hc0 : decide ((vs.length : Int) > 0) = true := by simp; omega
 have hr := nextD_range (l := l) (a := a) (n := 3) (by omega) (by omega)
 generalize hq : nextD l a 3 = q at hr
 obtain ⟨c, a1⟩ := q
 have hc1 : (nextD l a 3).1 = c := by rw [hq]
 have hc2 : (nextD l a 3).2 = a1 := by rw [hq]
 simp only at hr
 rcases Int.lt_or_le 0 c with hp | hp
 case inr =>
  have hd0 : decide (c > 0) = false := by simp; omega
  clear hq hr
  obtain ⟨t', a', kt, T2⟩ := term2 l hl _ ih' z g t a1 rfl hg ht hth hb hz
  refine ⟨t', a', kt, kt.W (fun y hy => (hg y hy).1) ht, ?_⟩
  clear ih' hg
  unfold Term2 at T2
  intro d h hd
  have hdd := hd
  refine en_ Tryz.func32 [.cell 8 31] fun g0 w0 gen hrel hfr hfr' hres => ?_
  have f1 := fresh_ne hfr hd
  have f2 := fresh_ne' hfr hd
  change AR _ _ [.code (.seq (subC [false] (bodyOf Tryz.f32)) (.seq (subC [true, false] (bodyOf Tryz.f32)) (.seq (subC [true, true, false] (bodyOf Tryz.f32)) (subC [true, true, true] (bodyOf Tryz.f32)))))] _ _
  generalize subC [true, true, true] (bodyOf Tryz.f32) = C2 at T2 ⊢
  conv => arg 3; simp only [subC, bodyOf, Tryz.f32, Option.getD_some]
  repeat' (first
   |refine AR_seq ?_|refine AR_skip ?_|refine AR_block ?_|refine AR_block_end ?_|refine AR_exit ?_|refine AR_code_exit ?_|refine AR_inv_exit ?_|refine AR_block_hit ?_
   |refine AR_block_pass (by decide) ?_|refine AR_ret ?_|refine AR_fall ?_
   |(refine ⟨?_,?_⟩; focus ((repeat' (first|refine ⟨?_,?_⟩|refine .inr ?_)); all_goals kernel_rfl))
   |refine AR_cond_t rfl ?_|refine AR_cond_f rfl ?_|(refine AR_cond rfl (fun hc => ?_) (fun hc => ?_) <;> (try rw [beq_iff_eq] at hc) <;> (try simp only [hc]))
   | ((first|refine AR_region ?_|(refine guarded_split (fun hb => ?_) (fun hb => ?_) <;> (try simp only [Bool.not_true, Bool.not_false] at hb))|refine Call1_pure (hv) ?_|refine Call1_turn (c_Next l hl d _ _) (by simp only [go_sem, *] <;> rfl) ?_) <;> simp only [go_sem, *]))
  refine T2 d h _ g0 w0 gen _ _ hdd hrel hfr ⟨by simp only [go_sem, *], by simp only [go_sem, *], by simp only [go_sem, *], by simp only [go_sem, *], by simp only [go_sem, *], by simp only [go_sem, *], by simp only [go_sem, *], by simp only [go_sem, *], ?_⟩
  simp only [go_sem, *]
  repeat (first|exact AgreeBut.refl _ _|assumption|refine AgreeBut.new ?_ (hfr' _ _)|refine AgreeBut.set ?_)
 have hd0 : decide (c > 0) = true := by simpa using hp
 have hr2 := nextD_range (l := l) (a := a1) (n := (vs.length : Int)) (by omega) (by omega)
 obtain ⟨k, hk⟩ : ∃ k : Nat, (nextD l a1 (vs.length : Int)).1 = (k : Int) := ⟨(nextD l a1 (vs.length : Int)).1.toNat, by omega⟩
 have hkl : k < vs.length := by omega
 obtain ⟨v, hvk⟩ : ∃ v, vs[k]? = some v := ⟨_, List.getElem?_eq_getElem hkl⟩
 obtain ⟨i, rfl, hi, hgi⟩ := varsN_get (g := g) (t := t) (k := k) (by rw [hvs]; exact hvk)
 have hix : (ints vs)[k]? = some [.int .i64 (i : Int)] := by rw [ints_get, hvk]; rfl
 refine ⟨_, (nextD l a1 (vs.length : Int)).2, .var hi hgi, tmVar_W _, ?_⟩
 clear ih' hg hr2 hq hr
 intro d h hd
 have hdd := hd
 refine en_ Tryz.func32 [.cell 8 31] fun g0 w0 gen hrel hfr hfr' hres => ?_
 have f1 := fresh_ne hfr hd
 have f2 := fresh_ne' hfr hd
 change AR _ _ [.code (.seq (subC [false] (bodyOf Tryz.f32)) (.seq (subC [true, false] (bodyOf Tryz.f32)) (.seq (subC [true, true, false] (bodyOf Tryz.f32)) (subC [true, true, true] (bodyOf Tryz.f32)))))] _ _
 generalize subC [true, true, true] (bodyOf Tryz.f32) = C2
 conv => arg 3; simp only [subC, bodyOf, Tryz.f32, Option.getD_some]
 repeat' (first
  |refine AR_seq ?_|refine AR_skip ?_|refine AR_block ?_|refine AR_block_end ?_|refine AR_exit ?_|refine AR_code_exit ?_|refine AR_inv_exit ?_|refine AR_block_hit ?_
  |refine AR_block_pass (by decide) ?_|refine AR_ret ?_|refine AR_fall ?_
  |(refine ⟨?_,?_⟩; focus ((repeat' (first|refine ⟨?_,?_⟩|refine .inr ?_)); all_goals kernel_rfl))
  |refine AR_cond_t rfl ?_|refine AR_cond_f rfl ?_|(refine AR_cond rfl (fun hc => ?_) (fun hc => ?_) <;> (try rw [beq_iff_eq] at hc) <;> (try simp only [hc]))
  | ((first|refine AR_region ?_|(refine guarded_split (fun hb => ?_) (fun hb => ?_) <;> (try simp only [Bool.not_true, Bool.not_false] at hb))|refine Call1_pure (hv) ?_|refine Call1_pure (c_Var _) ?_|refine Call1_turn (c_Next l hl d _ _) (by simp only [go_sem, *] <;> rfl) ?_|refine AR_fin_turn hrel hd (by simp only [go_sem, and_self]) (by simp only [go_sem, and_self]) (by repeat (first|exact AgreeBut.refl _ _|assumption|refine AgreeBut.new ?_ (hfr' _ _)|refine AgreeBut.new ?_ (hgf0 _ _)|refine AgreeBut.new ?_ (hfr0 _ _)|refine AgreeBut.set ?_)) (by simp only [go_sem, *]) ?_) <;> simp only [go_sem, *]))
theorem c_Term (l : List Int) (hl : l.length ≤ 1000) (z : Int) (g : List Ty) (t : Ty) (a : Nat) (hg : ∀ y ∈ g, TyF y ∧ tyH y ≤ 40) (ht : TyF t) (hth : tyH t ≤ 40)
  (hb : g.length + 43 * z.toNat + tyH t ≤ 900) (hz : (tyH t : Int) ≤ z + 1000) :
  ∃ t' a', MkTm z.toNat g t t' ∧ TmW t' ∧ ∀ d, Turns Tryz.prog env 32 [.ptr d 0, .sl .any (g.map Ty.cells), .agg t.cells, .int .i64 z] d (.box (deckC l a)) (.agg t'.cells) (.box (deckC l a')) :=
 c_Term0 l hl _ z g t a (Nat.lt_succ_self _) hg ht hth hb hz
end Go.Proofs.YtmbpmbofehmdaaaGreatDoor
