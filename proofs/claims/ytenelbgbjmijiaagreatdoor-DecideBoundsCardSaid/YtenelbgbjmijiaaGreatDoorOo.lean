/-
 Walks: the first number for which a decidable formula is true; the law of what is less.
-/
import Derived.Test.YtenelbgbjmijiaaGreatDoorOn
import Derived.Test.YtenelbgbjmijiaaGreatDoorAbsDc
set_option linter.unusedSimpArgs false
set_option linter.unusedVariables false
set_option maxRecDepth 20000
set_option maxHeartbeats 4000000
namespace Go.Proofs.YtenelbgbjmijiaaGreatDoor
open Go GoAbs Go.Proofs
theorem c_lookG (g : List Ty) (hg : ∀ y ∈ g, TyG y) (hl : g.length ≤ 16) {f : Fm} (hf : Dc g f) (zf : fmSz f ≤ 4096) : Pure Tryz.prog env 105 [.sl .any (g.map Ty.cells), .agg f.cells, .bool true] (.int .i64 0) := by
 intro h
 have h1 := c_formulaTyped g hg hl f hf.ty ((hf.G (u := true)).err0 zf) zf (hf.G (u := true)).toW
 have h2 := c_clsDecidable f (hf.G (u := true)).toW
 have e : f.has 4 = (true, 0) := by
  unfold Fm.has
  rw [(hf.G (u := true)).err0 zf, hf.fld (by omega)]
  rfl
 rw [e] at h2
 unfold boolErrV at h2
 simp only at h2
 have n0 : ((0 : Int) != 0) = false := rfl
 have hw := weakLL_Ty g
 clear hf zf e hg hl
 generalize g.map Ty.cells = gc at *
 refine en Tryz.func105 [.tmp 6] rfl rfl fun g0 w0 gen hrel hfr hfr' hres => ?_
 repeat' (first
  | exact hin _ | exact agf (by assumption)
  | (first | refine wp rfl ?_ | refine spt rfl ?_ | refine spf rfl ?_ | (refine spl (fun hc => ?_) fun hc => ?_) <;> (try rw [beq_iff_eq] at hc) <;> try simp only [hc] | refine cp (h1) ?_ | refine cp (h2) ?_ | refine finF hrel ?_ ?_ ?_) <;> try simp only [go_sem, *])
/-- The truth of a formula with a number in place of its variable. -/
theorem c_with (d : GoAbs.Id) {lim : Nat} (hl : lim ≤ 65536) {a : Fm} (da : Dc [tNat] a) (za : fmSz a ≤ 4096) (k w : Nat) (hw : w ≤ lim) :
  WithT d lim a k w (dW (fun w f => dT lim (fdp a) w f) a k w).1 (dW (fun w f => dT lim (fdp a) w f) a k w).2.1 (dW (fun w f => dT lim (fdp a) w f) a k w).2.2 ∧ AnsOk lim (dW (fun w f => dT lim (fdp a) w f) a k w) := by
 unfold dW
 by_cases hk : 4096 ≤ k
 ·rw [if_pos hk]
  exact ⟨c_withBig d lim a k w hk, by simp only [AnsOk]; exact ⟨by omega, by simp⟩⟩
 rw [if_neg hk]
 have zk : tmSz (numT k) = k + 1 := tmSz_num k
 have hP := c_formulaPut a (da.G (u := true)).toW (da.G (u := true)) za (da.least (by simp; omega)) (numT k) (numT_W k) (numT_G k) (by omega) ((HasTy.num (Q := TyG) (g := []) k).least _ (by omega) (by simp; omega))
 unfold fmErrV at hP
 cases hz : ((putR a (numT k)).2 != 0) with
 | true =>
  simp only [if_true]
  exact ⟨c_withErr d lim a k w (by omega) _ _ hz hP, by simp only [AnsOk]; exact ⟨by omega, by simp⟩⟩
 | false =>
  have hz' : (putR a (numT k)).2 = 0 := by simpa using hz
  simp only [Bool.false_eq_true, if_false]
  obtain ⟨p1, p2, p3⟩ := da.put za (by omega : k < 4096) hz'
  obtain ⟨t1, t2⟩ := tr_ok (d := d) hl (fdp a) _ w (by omega) p1 p2 hw
  rw [hz'] at hP
  exact ⟨c_withOk d lim a k w (by omega) _ hP t1, t2⟩
inductive LeastS (d : GoAbs.Id) (lim : Nat) (f : Fm) : Nat → Nat → Nat → Nat → Bool → Nat → Int → Prop
 | done {k w : Nat} : LeastS d lim f 0 k w 0 false w 0
 | err {n k w w' : Nat} {b : Bool} {e : Int} : WithT d lim f k w b w' e → (e != 0) = true → LeastS d lim f (n + 1) k w 0 false 0 e
 | hit {n k w w' : Nat} : WithT d lim f k w true w' 0 → LeastS d lim f (n + 1) k w k true w' 0
 | step {n k w w1 m w' : Nat} {b : Bool} {e : Int} : WithT d lim f k w false w1 0 → LeastS d lim f n (k + 1) w1 m b w' e → LeastS d lim f (n + 1) k w m b w' e
theorem LeastS.cons {d : GoAbs.Id} {lim n k w m w' : Nat} {b : Bool} {f : Fm} {e : Int} (h : LeastS d lim f (n + 1) k w m b w' e) :
  (∃ b1 w1, WithT d lim f k w b1 w1 e ∧ (e != 0) = true ∧ m = 0 ∧ b = false ∧ w' = 0) ∨ (WithT d lim f k w true w' 0 ∧ m = k ∧ b = true ∧ e = 0) ∨ ∃ w1, WithT d lim f k w false w1 0 ∧ LeastS d lim f n (k + 1) w1 m b w' e := by
 cases h with
 | err h1 h2 => exact .inl ⟨_, _, h1, h2, rfl, rfl, rfl⟩
 | hit h1 => exact .inr (.inl ⟨h1, rfl, rfl, rfl⟩)
 | step h1 h2 => exact .inr (.inr ⟨_, h1, h2⟩)
theorem LeastS.none {d : GoAbs.Id} {lim k w m w' : Nat} {b : Bool} {f : Fm} {e : Int} (h : LeastS d lim f 0 k w m b w' e) : m = 0 ∧ b = false ∧ w' = w ∧ e = 0 := by cases h; exact ⟨rfl, rfl, rfl, rfl⟩
theorem least_ok (d : GoAbs.Id) {lim : Nat} (hl : lim ≤ 65536) {a : Fm} (da : Dc [tNat] a) (za : fmSz a ≤ 4096) : ∀ n k w, w ≤ lim →
  LeastS d lim a n k w (leastL (fun w f => dT lim (fdp a) w f) a n k w).1 (leastL (fun w f => dT lim (fdp a) w f) a n k w).2.1 (leastL (fun w f => dT lim (fdp a) w f) a n k w).2.2.1 (leastL (fun w f => dT lim (fdp a) w f) a n k w).2.2.2
 | 0, k, w, hw => .done
 | n + 1, k, w, hw => by
  obtain ⟨h1, h2⟩ := c_with d hl da za k w hw
  rw [leastL]
  generalize dW (fun w f => dT lim (fdp a) w f) a k w = p at h1 h2 ⊢
  obtain ⟨b, w1, e⟩ := p
  simp only at h1 h2 ⊢
  cases he : (e != 0) with
  | true =>
   simp only [if_true]
   exact .err h1 he
  | false =>
   obtain rfl : e = 0 := by simpa using he
   simp only [Bool.false_eq_true, if_false]
   cases b with
   | true => simp only [if_true]; exact .hit h1
   | false =>
    simp only [Bool.false_eq_true, if_false]
    exact .step h1 (least_ok d hl da za n (k + 1) w1 h2.1)
def leastV (r : AnsL) : V := .tup [.int .i64 r.1, .bool r.2.1, .int .i64 r.2.2.1, .int .i64 r.2.2.2]
theorem c_decLeast {f : Fm} (hf : Dc [tNat] f) (zf : fmSz f ≤ 4096) (m : Nat) (hm : m ≤ 4096) (lim : Nat) (hl : lim ≤ 65536) :
  Pure Tryz.prog env 49 [.agg f.cells, .int .i64 m, .int .i64 lim] (leastV (leastL (fun w f' => dT lim (fdp f) w f') f m 0 0)) := by
 intro h
 have h1 := c_may lim hl
 have h2 := c_lookG [tNat] (by simp [TyG.nat]) (by simp) hf zf
 have h3 := c_tNat
 have hS := fun d => least_ok d hl hf zf m 0 0 (by omega)
 simp only [List.map_cons, List.map_nil] at h2
 unfold leastV
 generalize leastL (fun w f' => dT lim (fdp f) w f') f m 0 0 = r at *
 obtain ⟨k, b, w', e⟩ := r
 simp only at hS ⊢
 have d1 : decide ((m : Int) ≥ 0) = true := by simp
 have d2 : decide ((m : Int) ≤ 4096) = true := by simp; omega
 have n0 : ((0 : Int) != 0) = false := rfl
 have z0 : ((0 : Nat) : Int) = 0 := rfl
 have dt : decide True = true := rfl
 have hr0 : (List.range m).length = m := List.length_range
 clear hf zf hl
 refine en Tryz.func49 [.tmp 6, .tmp 7, .tmp 8, .tmp 9] rfl rfl fun g0 w0 gen hrel hfr hfr' hres => ?_
 replace hS := hS ⟨gen, 4, 2⟩
 repeat' (first
  | (refine ⟨?_, ?_⟩; focus ((repeat' (first | refine And.intro ?_ ?_ | refine Or.inr ?_)); all_goals kernel_rfl))
  | (first | refine wp rfl ?_ | refine spt rfl ?_ | refine spf rfl ?_ | (refine spl (fun hc => ?_) fun hc => ?_) <;> (try rw [beq_iff_eq] at hc) <;> try simp only [hc] | (refine gs (fun hb => ?_) fun hb => ?_) <;> try simp only [Bool.not_true, Bool.not_false] at hb | refine cp (h1) ?_ | refine cp (h2) ?_ | refine cp (h3) ?_) <;> try simp only [go_sem, *])
 clear h1 h2 h3 d1 d2
 refine AR_range [3, 11] [⟨gen, 0, 0⟩] (fun i σ => Agree h σ.h ∧ ∃ wi : Nat, σ.h ⟨gen, 4, 2⟩ = some (.box [.int .i64 wi, .int .i64 lim, .int .i64 0]) ∧ LeastS ⟨gen, 4, 2⟩ lim f (m - i) i wi k b w' e) (List.range m).length (by first | omega | (simp only [go_sem, *] <;> omega)) ⟨rfl, rfl, rfl⟩ rfl (by simp only [go_sem, *]) (by simp only [go_sem, *]) ?_ (by intro i σ t v ht hK; simp only [List.mem_cons, List.not_mem_nil, or_false] at ht; rcases ht with rfl | rfl | rfl <;> exact hK) ?_ ?_
 ·simp only [go_sem, *]
  exact ⟨(by repeat (first | exact Agree.refl _ | assumption | refine Agree.new ?_ (hgf0 _ _) | refine Agree.new ?_ (hfr' _ _))), 0, rfl, hS⟩
 ·clear hS
  intro i σ gr0 hgl_gr0 hgn hlt jI jN jS ⟨jA, wi, js, jk⟩
  obtain ⟨jT, jB⟩ := jS
  simp only [go_sem] at jT jB
  have hgf := fresh_of hgn
  have hgf0 : ∀ r i, h ⟨gr0, r, i⟩ = none := fun r i => agree_fresh jA (hgf r i)
  have eg_gen_gr0 := gen_lt (show gen < gr0 by omega)
  have eh_gen_gr0 := gen_lt' (show gen < gr0 by omega)
  obtain ⟨x, hx⟩ : ∃ x, (List.range m)[i]? = some x := ⟨_, List.getElem?_eq_getElem hlt⟩
  have hxm := List.mem_of_getElem? hx
  have hm := min_lt hlt
  clear hgn
  rw [hr0] at hlt
  rw [show m - i = (m - (i + 1)) + 1 by omega] at jk
  rcases jk.cons with ⟨b1, w1, hT, he, rfl, rfl, rfl⟩ | ⟨hT, rfl, rfl, rfl⟩ | ⟨w1, hT, hS⟩
  ·unfold WithT eb at hT
   clear jk
   repeat' (first
    | (refine ⟨?_, ?_⟩; focus ((repeat' (first | refine And.intro ?_ ?_ | refine Or.inr ?_)); all_goals kernel_rfl))
    | exact hin _ | exact agf (by assumption)
    | (first | refine wp rfl ?_ | refine spt rfl ?_ | refine spf rfl ?_ | (refine spl (fun hc => ?_) fun hc => ?_) <;> (try rw [beq_iff_eq] at hc) <;> try simp only [hc] | (refine gs (fun hb => ?_) fun hb => ?_) <;> try simp only [Bool.not_true, Bool.not_false] at hb | (refine ct (hT) ?_ ?_; focus ((simp only [go_sem, *] <;> rfl); done)) | refine finF hrel ?_ ?_ ?_) <;> try simp only [go_sem, *])
  ·unfold WithT eb at hT
   clear jk
   repeat' (first
    | (refine ⟨?_, ?_⟩; focus ((repeat' (first | refine And.intro ?_ ?_ | refine Or.inr ?_)); all_goals kernel_rfl))
    | exact hin _ | exact agf (by assumption)
    | (first | refine wp rfl ?_ | refine spt rfl ?_ | refine spf rfl ?_ | (refine spl (fun hc => ?_) fun hc => ?_) <;> (try rw [beq_iff_eq] at hc) <;> try simp only [hc] | (refine gs (fun hb => ?_) fun hb => ?_) <;> try simp only [Bool.not_true, Bool.not_false] at hb | (refine ct (hT) ?_ ?_; focus ((simp only [go_sem, *] <;> rfl); done)) | refine finF hrel ?_ ?_ ?_) <;> try simp only [go_sem, *])
  ·unfold WithT eb at hT
   clear jk
   repeat' (first
    | (refine ⟨?_, ?_⟩; focus ((repeat' (first | refine And.intro ?_ ?_ | refine Or.inr ?_)); all_goals kernel_rfl))
    | (first | refine wp rfl ?_ | refine spt rfl ?_ | refine spf rfl ?_ | (refine spl (fun hc => ?_) fun hc => ?_) <;> (try rw [beq_iff_eq] at hc) <;> try simp only [hc] | (refine gs (fun hb => ?_) fun hb => ?_) <;> try simp only [Bool.not_true, Bool.not_false] at hb | (refine ct (hT) ?_ ?_; focus ((simp only [go_sem, *] <;> rfl); done)) | refine AR_inv ?_) <;> try simp only [go_sem, *])
   exact ⟨by repeat (first | exact jA | refine Agree.new ?_ (hgf0 _ _) | refine Agree.new ?_ (hfr' _ _)), w1, rfl, hS⟩
 ·clear hS
  intro σ ga0 hgl_ga0 hgn jS ⟨jA, wi, js, jk⟩
  obtain ⟨jT, jB⟩ := jS
  simp only [go_sem] at jT jB
  have hgf := fresh_of hgn
  have hgf0 : ∀ r i, h ⟨ga0, r, i⟩ = none := fun r i => agree_fresh jA (hgf r i)
  have eg_gen_ga0 := gen_lt (show gen < ga0 by omega)
  have eh_gen_ga0 := gen_lt' (show gen < ga0 by omega)
  clear hgn
  rw [hr0, Nat.sub_self] at jk
  obtain ⟨rfl, rfl, rfl, rfl⟩ := jk.none
  repeat' (first
   | (refine ⟨?_, ?_⟩; focus ((repeat' (first | refine And.intro ?_ ?_ | refine Or.inr ?_)); all_goals kernel_rfl))
   | exact hin _ | exact agf (by assumption)
   | (first | refine wp rfl ?_ | refine spt rfl ?_ | refine spf rfl ?_ | (refine spl (fun hc => ?_) fun hc => ?_) <;> (try rw [beq_iff_eq] at hc) <;> try simp only [hc] | (refine gs (fun hb => ?_) fun hb => ?_) <;> try simp only [Bool.not_true, Bool.not_false] at hb | refine finF hrel ?_ ?_ ?_) <;> try simp only [go_sem, *])
theorem c_DecideLess (a : Int) (ha : 0 ≤ a) (ha2 : a ≤ 255) (b : Int) (hb : 0 ≤ b) (hb2 : b ≤ 255) : Pure Tryz.prog env 6 [.int .u8 a, .int .u8 b] (.bool true) := by
 have hS := c_sane09
 have ta : Int.tmod a 9 = a % 9 := Int.tmod_eq_emod_of_nonneg ha
 have tb : Int.tmod b 9 = b % 9 := Int.tmod_eq_emod_of_nonneg hb
 obtain ⟨m, hm, em⟩ : ∃ m : Nat, m < 9 ∧ Int.tmod a 9 = m := ⟨(Int.tmod a 9).toNat, by omega, by omega⟩
 obtain ⟨n, hn, en'⟩ : ∃ n : Nat, n < 9 ∧ Int.tmod b 9 = n := ⟨(Int.tmod b 9).toNat, by omega, by omega⟩
 clear ta tb
 obtain ⟨l1, l2⟩ := less_fin m hm n hn
 obtain ⟨k1, k2, k3⟩ := least_fin m hm
 obtain ⟨q1, q2⟩ := less_dc m n (by omega) (by omega)
 have z1 : fmSz (lessF (tmVar 0) (numT m)) ≤ 100 := by rw [lessF_sz, tmSz_num, tmSz_v]; omega
 have z2 : fmSz (notLess m) ≤ 100 + 5 := by unfold notLess; rw [fmSz_two, noF_sz]; omega
 have h1 := c_Num m (by omega)
 have h2 := c_Num n (by omega)
 have h3 := c_Less08 (numT m) (numT n) (numT_W m) (numT_W n)
 have h4 := c_Var 0
 have h5 := c_Less08 (tmVar 0) (numT m) (tmVar_W 0) (numT_W m)
 have h6 := c_decTruth q1 (by omega) 65536 (by omega)
 have h7 := c_r07Not (lessF (tmVar 0) (numT m)) ((lessV_dc m).G (u := true)).toW (lessV_dc m).G (by omega)
 have h8 := c_decLeast (notLess_dc m) (by omega) 20 (by omega) 65536 (by omega)
 rw [TmG.less (numT_G m) (numT_G n) (by rw [tmSz_num]; omega) (by rw [tmSz_num]; omega)] at h3
 rw [TmG.less (.var (by omega)) (numT_G m) (by rw [tmSz_v]; omega) (by rw [tmSz_num]; omega)] at h5
 unfold fmErrV at h3 h5
 unfold decV at h6
 unfold leastV at h8
 unfold dA at l1 l2
 generalize dT 65536 (fdp (lessF (numT m) (numT n))) 0 (lessF (numT m) (numT n)) = a1 at *
 generalize leastL (fun w f' => dT 65536 (fdp (notLess m)) w f') (notLess m) 20 0 0 = a2 at *
 obtain ⟨b1, w1, e1⟩ := a1
 obtain ⟨n2, b2, w2, e2⟩ := a2
 simp only at l1 l2 k1 k2 k3
 subst l2 k1 k2 k3
 simp only [bne_self_eq_false, Bool.false_eq_true, if_false] at h6 h8
 have hd : decide ((n2 : Int) < (n : Int)) = b1 := by rw [l1]; simp
 have hbb : (b1 == b1) = true := by simp
 have hmm : ((n2 : Int) == (n2 : Int)) = true := by simp
 have wm : IntKind.i64.wrap (n2 : Int) = n2 := wrap_eq rfl (by omega) (by omega)
 have wn : IntKind.i64.wrap (n : Int) = n := wrap_eq rfl (by omega) (by omega)
 replace h1 : Pure Tryz.prog env 51 [.int .i64 n2] (.agg (numT n2).cells) := h1
 replace h2 : Pure Tryz.prog env 51 [.int .i64 n] (.agg (numT n).cells) := h2
 replace h6 : Pure Tryz.prog env 44 [.agg (lessF (numT n2) (numT n)).cells, .int .i64 65536] (.tup [.bool b1, .int .i64 w1, .int .i64 0]) := h6
 replace h7 : Pure Tryz.prog env 43 [.agg (lessF (tmVar 0) (numT n2)).cells] (.tup [.agg (notLess n2).cells, .int .i64 0]) := h7
 replace h8 : Pure Tryz.prog env 49 [.agg (notLess n2).cells, .int .i64 20, .int .i64 65536] (.tup [.int .i64 n2, .bool true, .int .i64 w2, .int .i64 0]) := h8
 clear l1 q1 q2 z1 z2
 generalize notLess n2 = f2 at *
 generalize lessF (tmVar 0) (numT n2) = f3 at *
 generalize lessF (numT n2) (numT n) = f1 at *
 generalize tmVar 0 = t0 at *
 generalize numT n2 = t1 at *
 generalize numT n = t2 at *
 have z9 : ((0 : Int) == 0) = true := rfl
 intro h
 refine en Tryz.func6 [.tmp 4] rfl rfl fun g0 w0 gen hrel hfr hfr' hres => ?_
 repeat' (first
  | exact hin _ | exact agf (by assumption)
  | (first | refine wp rfl ?_ | refine spt rfl ?_ | refine spf rfl ?_ | (refine spl (fun hc => ?_) fun hc => ?_) <;> (try rw [beq_iff_eq] at hc) <;> try simp only [hc] | (refine gs (fun hb => ?_) fun hb => ?_) <;> try simp only [Bool.not_true, Bool.not_false] at hb | refine cp (hS) ?_ | refine cp (h1) ?_ | refine cp (h2) ?_ | refine cp (h3) ?_ | refine cp (h4) ?_ | refine cp (h5) ?_ | refine cp (h6) ?_ | refine cp (h7) ?_ | refine cp (h8) ?_ | refine finF hrel ?_ ?_ ?_) <;> try simp only [go_sem, *])
end Go.Proofs.YtenelbgbjmijiaaGreatDoor
