/-
 Walks: characteristic terms (the program).
-/
import Derived.Test.YtpnjamplciaopaaGreatDoorHc
import Derived.Test.YtpnjamplciaopaaGreatDoorGb
import Derived.Test.YtpnjamplciaopaaGreatDoorAbsDc
set_option linter.unusedSimpArgs false
set_option linter.unusedVariables false
set_option maxRecDepth 20000
set_option maxHeartbeats 4000000
namespace Go.Proofs.YtpnjamplciaopaaGreatDoor
open Go GoAbs Go.Proofs
attribute [go_sem] weakLL_app weakLL_cons' weakLL_nil' Option.map_none List.drop_zero Nat.zero_le Nat.le_refl take_map_len
theorem c_scNat : Pure Tryz.prog env 104 [] (.agg tNat.cells) := by
 intro h
 refine en Tryz.func104 [.cell 0 25] rfl rfl fun g0 w0 gen hrel hfr hfr' hres => ?_
 repeat' (first
  | exact hin _ | exact agf (by assumption)
  | (first | refine wp rfl ?_ | refine finF hrel ?_ ?_ ?_) <;> try simp only [go_sem, *])
 rfl
theorem c_trLam (t : Ty) (b : Tm) : Pure Tryz.prog env 116 [.agg t.cells, .agg b.cells] (.agg (tmT 2 t [b]).cells) := by
 intro h
 refine en Tryz.func116 [.cell 4 31] rfl rfl fun g0 w0 gen hrel hfr hfr' hres => ?_
 repeat' (first
  | exact hin _ | exact agf (by assumption)
  | (first | refine wp rfl ?_ | refine finF hrel ?_ ?_ ?_) <;> try simp only [go_sem, *])
 all_goals simp [tmT, Tm.mk_cells, Ty.mk_kind, Ty.mk_args]
theorem c_Build (k : Int) (s : Ty) (l : List Tm) (hs : TyW s) (hl : l.length ≤ 1000) (hw : ∀ x ∈ l, TmW x) :
  Pure Tryz.prog env 115 [.int .i64 k, .agg s.cells, .sl .any (l.map Tm.cells)] (tmErrV (bldT (tmT k s l))) := by
 intro h
 have h1 := c_Nodes (tmT k s l) (tmT_W hs hl hw)
 have hin : ∀ S, InV S (tmErrV (tmT k s l, 0)) := fun S => by simp [tmErrV, InV, InL, InL_Tm]
 unfold bldT
 generalize hn : (tmT k s l).szW = n at *
 simp only [tmT, Tm.mk_cells] at h1
 cases q1 : decide (n > 4096) with
 | true =>
  simp only [if_true, tmErrV, zeroT, Tm.mk_cells, Ty.mk_kind, Ty.mk_args, List.map_nil]
  clear hin
  refine en Tryz.func115 [.cell 6 31, .tmp 7] rfl rfl fun g0 w0 gen hrel hfr hfr' hres => ?_
  repeat' (first
   | exact hin _ | exact agf (by assumption)
   | (first | refine wp rfl ?_ | refine spt rfl ?_ | refine spf rfl ?_ | (refine spl (fun hc => ?_) fun hc => ?_) <;> (try rw [beq_iff_eq] at hc) <;> try simp only [hc] | refine cp (h1) ?_ | refine finF hrel ?_ ?_ ?_) <;> try simp only [go_sem, *])
 | false =>
  simp only [Bool.false_eq_true, if_false, tmErrV, tmT, Tm.mk_cells] at hin ⊢
  refine en Tryz.func115 [.cell 6 31, .tmp 7] rfl rfl fun g0 w0 gen hrel hfr hfr' hres => ?_
  repeat' (first
   | exact hin _ | exact agf (by assumption)
   | (first | refine wp rfl ?_ | refine spt rfl ?_ | refine spf rfl ?_ | (refine spl (fun hc => ?_) fun hc => ?_) <;> (try rw [beq_iff_eq] at hc) <;> try simp only [hc] | refine cp (h1) ?_ | refine finF hrel ?_ ?_ ?_) <;> try simp only [go_sem, *])
theorem c_trChoose (t : Ty) (c a b : Tm) (ht : TyW t) (hc : TmW c) (ha : TmW a) (hb : TmW b) (hu : TmW (a.sl 2 0)) :
  Pure Tryz.prog env 71 [.agg t.cells, .agg c.cells, .agg a.cells, .agg b.cells] (tmErrV (bldT (chooseT t c (a.sl 2 0) b))) := by
 intro h
 have h1 := c_scNat
 have h2 := c_sLift 2 a ha 0
 have h3 := c_trLam t (a.sl 2 0)
 have h4 := c_trLam tNat (tmT 2 t [a.sl 2 0])
 have h5 := c_Build 6 t [b, tmT 2 tNat [tmT 2 t [a.sl 2 0]], c] ht (by simp) (by simp [hb, hc, tmT_W1 tNat_W (tmT_W1 ht hu)])
 simp only [List.map_cons, List.map_nil] at h5
 rw [show tmT 6 t [b, tmT 2 tNat [tmT 2 t [a.sl 2 0]], c] = chooseT t c (a.sl 2 0) b from rfl] at h5
 clear ht hc ha hb hu
 generalize bldT (chooseT t c (a.sl 2 0) b) = p at *
 obtain ⟨p1, p2⟩ := p
 unfold tmErrV at *
 simp only at *
 refine en Tryz.func71 [.cell 8 31, .tmp 9] rfl rfl fun g0 w0 gen hrel hfr hfr' hres => ?_
 repeat' (first
  | (refine ⟨?_, ?_⟩; focus ((repeat' (first | refine And.intro ?_ ?_ | refine Or.inr ?_)); all_goals kernel_rfl))
  | exact hin _ | exact agf (by assumption)
  | (first | refine wp rfl ?_ | refine cp (h1) ?_ | refine cp (h2) ?_ | refine cp (h3) ?_ | refine cp (h4) ?_ | refine cp (h5) ?_ | refine finF hrel ?_ ?_ ?_) <;> try simp only [go_sem, *])
theorem c_vPlus : Pure Tryz.prog env 144 [] (.agg plusT.cells) := by
 intro h
 have h0 := c_tOf 5 [tmVar 0]
 simp only [List.map_cons, List.map_nil] at h0
 refine en Tryz.func144 [.cell 0 31] rfl rfl fun g0 w0 gen hrel hfr hfr' hres => ?_
 repeat' (first
  | exact hin _ | exact agf (by assumption)
  | (first | refine wp rfl ?_ | refine cp (h0) ?_ | refine cp (c_tVar _) ?_ | refine cp (c_vRec _ _ _) ?_ | refine cp (c_vTwo _) ?_ | refine finF hrel ?_ ?_ ?_) <;> try simp only [go_sem, *])
 rfl
theorem c_vDist : Pure Tryz.prog env 103 [] (.agg distT.cells) := by
 intro h
 have h0 := c_tApp subT [tmVar 1, tmVar 0] (by simp)
 have h1 := c_tApp subT [tmVar 0, tmVar 1] (by simp)
 have h2 := c_tApp plusT [appTm subT [tmVar 1, tmVar 0], appTm subT [tmVar 0, tmVar 1]] (by simp)
 simp only [List.map_cons, List.map_nil] at h0 h1 h2
 have h3 := c_vTwo (appTm plusT [appTm subT [tmVar 1, tmVar 0], appTm subT [tmVar 0, tmVar 1]])
 rw [show lamN (lamN (appTm plusT [appTm subT [tmVar 1, tmVar 0], appTm subT [tmVar 0, tmVar 1]])) = distT from rfl] at h3
 refine en Tryz.func103 [.cell 0 31] rfl rfl fun g0 w0 gen hrel hfr hfr' hres => ?_
 repeat' (first
  | exact hin _ | exact agf (by assumption)
  | (first | refine wp rfl ?_ | refine cp (c_vPlus) ?_ | refine cp (c_vSub) ?_ | refine cp (c_tVar _) ?_ | refine cp (h0) ?_ | refine cp (h1) ?_ | refine cp (h2) ?_ | refine cp (h3) ?_ | refine finF hrel ?_ ?_ ?_) <;> try simp only [go_sem, *])
theorem c_Apply (a b : Tm) (l : List Tm) (hl0 : l = [a, b]) (hx : TmG a) (hy : TmG b) (zx : tmSz a ≤ 4096) (zy : tmSz b ≤ 4096) (wx : TmW a) (wy : TmW b) :
  Pure Tryz.prog env 102 [.agg distT.cells, .sl .any (l.map Tm.cells)] (tmErrV (applyT a b)) := by
 intro h
 have h0 := c_CheckTerm distT distT_W
 rw [chk_dist] at h0
 have hl : ∀ z ∈ l, Pure Tryz.prog env 114 [.agg z.cells] (.tup [.int .i64 (tmSz z), .int .i64 0]) := by
  intro z hz
  rw [hl0] at hz
  simp only [List.mem_cons, List.not_mem_nil, or_false] at hz
  rcases hz with rfl | rfl
  ·have := c_CheckTerm z wx; rw [chk_G hx zx] at this; exact this
  ·have := c_CheckTerm z wy; rw [chk_G hy zy] at this; exact this
 have h1 := c_tApp distT l (by simp [hl0])
 have h2 := c_Own (appTm distT l) (by rw [hl0]; exact tm0_W2 (tm0_W2 distT_W wx) wy)
 have e : appTm distT l = tm0 3 [tm0 3 [distT, a], b] := by rw [hl0]; rfl
 rw [e] at h1 h2
 have n0 : ((0 : Int) != 0) = false := rfl
 unfold two at h0
 simp only at h0
 clear hx hy wx wy e
 have w1 : ∀ z ∈ l, IntKind.i64.wrap ((tmSz z : Int) + 1) = (tmSz z : Int) + 1 := by
  intro z hz
  rw [hl0] at hz
  simp only [List.mem_cons, List.not_mem_nil, or_false] at hz
  rcases hz with rfl | rfl <;> exact wrap_eq rfl (by omega) (by omega)
 have step : ∀ (i : Nat) z, l[i]? = some z → IntKind.i64.wrap ((apAt a b i : Int) + ((tmSz z : Int) + 1)) = (apAt a b (i + 1) : Nat) := by
  intro i z hz
  rw [hl0] at hz
  match i with
  | 0 => simp at hz; subst hz; exact wrap_eq (by simp [apAt]; omega) (by omega) (by simp [apAt]; omega)
  | 1 => simp at hz; subst hz; exact wrap_eq (by simp [apAt]; omega) (by omega) (by simp [apAt]; omega)
  | i + 2 => simp at hz
 have last : (apAt a b 2 : Int) = (tmSz a : Int) + tmSz b + 55 := by simp [apAt]; omega
 have first : (apAt a b 0 : Int) = 53 := rfl
 unfold applyT
 rw [← last]
 have hlen : l.length = 2 := by rw [hl0]; rfl
 clear zx zy last hl0
 generalize apAt a b = ap at *
 cases q : decide (((ap 2 : Nat) : Int) > 4096) with
 | true =>
  simp only [if_true, tmErrV, zeroT, Tm.mk_cells, Ty.mk_kind, Ty.mk_args, List.map_nil]
  clear h1 h2
  refine en Tryz.func102 [.cell 4 31, .tmp 5] rfl rfl fun g0 w0 gen hrel hfr hfr' hres => ?_
  repeat' (first
   | exact hin _ | exact agf (by assumption)
   | (first | refine wp rfl ?_ | refine spt rfl ?_ | refine spf rfl ?_ | (refine spl (fun hc => ?_) fun hc => ?_) <;> (try rw [beq_iff_eq] at hc) <;> try simp only [hc] | refine cp (h0) ?_ | refine finF hrel ?_ ?_ ?_) <;> try simp only [go_sem, *])
  refine AR_range [1, 2, 4, 21] [⟨gen, 0, 0⟩, ⟨gen, 0, 1⟩] (fun i σ => Agree h σ.h ∧ σ.tm 6 = .int .i64 (ap i : Nat)) (l).length (by first | omega | (simp only [go_sem, *] <;> omega)) ⟨rfl, rfl, rfl⟩ rfl (by simp only [go_sem, *]) (by simp only [go_sem, *]) ?_ (by intro i σ t v ht hK; simp only [List.mem_cons, List.not_mem_nil, or_false] at ht; rcases ht with rfl | rfl | rfl <;> exact hK) ?_ ?_
  ·simp only [go_sem, *]
   first | exact (by repeat (first | exact Agree.refl _ | assumption | refine Agree.new ?_ (hgf0 _ _) | refine Agree.new ?_ (hfr' _ _))) | exact ⟨(by repeat (first | exact Agree.refl _ | assumption | refine Agree.new ?_ (hgf0 _ _) | refine Agree.new ?_ (hfr' _ _))), rfl⟩ | exact ⟨(by repeat (first | exact Agree.refl _ | assumption | refine Agree.new ?_ (hgf0 _ _) | refine Agree.new ?_ (hfr' _ _))), trivial⟩
  ·
   intro i σ gr0 hgl_gr0 hgn hlt jI jN jS ⟨jA, jn⟩
   obtain ⟨jT, jB⟩ := jS
   simp only [go_sem] at jT jB
   have hgf := fresh_of hgn
   have hgf0 : ∀ r i, h ⟨gr0, r, i⟩ = none := fun r i => agree_fresh jA (hgf r i)
   have eg_gen_gr0 := gen_lt (show gen < gr0 by omega)
   have eh_gen_gr0 := gen_lt' (show gen < gr0 by omega)
   obtain ⟨x, hx⟩ : ∃ x, (l)[i]? = some x := ⟨_, List.getElem?_eq_getElem hlt⟩
   have hxm := List.mem_of_getElem? hx
   have hm := min_lt hlt
   clear hgn
   have hc := hl x hxm
   have hs := step i x hx
   have hw1 := w1 x hxm
   clear hl step w1
   repeat' (first
    | (first | refine wp rfl ?_ | refine spt rfl ?_ | refine spf rfl ?_ | (refine spl (fun hc => ?_) fun hc => ?_) <;> (try rw [beq_iff_eq] at hc) <;> try simp only [hc] | refine cp (hc) ?_ | refine AR_inv ?_) <;> try simp only [go_sem, *])
   all_goals exact Agree.new jA (hgf0 _ _)
  ·clear hl step w1
   intro σ ga0 hgl_ga0 hgn jS ⟨jA, jn⟩
   obtain ⟨jT, jB⟩ := jS
   simp only [go_sem] at jT jB
   have hgf := fresh_of hgn
   have hgf0 : ∀ r i, h ⟨ga0, r, i⟩ = none := fun r i => agree_fresh jA (hgf r i)
   have eg_gen_ga0 := gen_lt (show gen < ga0 by omega)
   have eh_gen_ga0 := gen_lt' (show gen < ga0 by omega)
   clear hgn
   rw [hlen] at jn
   repeat' (first
    | exact hin _ | exact agf (by assumption)
    | (first | refine wp rfl ?_ | refine spt rfl ?_ | refine spf rfl ?_ | (refine spl (fun hc => ?_) fun hc => ?_) <;> (try rw [beq_iff_eq] at hc) <;> try simp only [hc] | refine finF hrel ?_ ?_ ?_) <;> try simp only [go_sem, *])
 | false =>
  simp only [Bool.false_eq_true, if_false, tmErrV]
  refine en Tryz.func102 [.cell 4 31, .tmp 5] rfl rfl fun g0 w0 gen hrel hfr hfr' hres => ?_
  repeat' (first
   | exact hin _ | exact agf (by assumption)
   | (first | refine wp rfl ?_ | refine spt rfl ?_ | refine spf rfl ?_ | (refine spl (fun hc => ?_) fun hc => ?_) <;> (try rw [beq_iff_eq] at hc) <;> try simp only [hc] | refine cp (h0) ?_ | refine finF hrel ?_ ?_ ?_) <;> try simp only [go_sem, *])
  refine AR_range [1, 2, 4, 21] [⟨gen, 0, 0⟩, ⟨gen, 0, 1⟩] (fun i σ => Agree h σ.h ∧ σ.tm 6 = .int .i64 (ap i : Nat)) (l).length (by first | omega | (simp only [go_sem, *] <;> omega)) ⟨rfl, rfl, rfl⟩ rfl (by simp only [go_sem, *]) (by simp only [go_sem, *]) ?_ (by intro i σ t v ht hK; simp only [List.mem_cons, List.not_mem_nil, or_false] at ht; rcases ht with rfl | rfl | rfl <;> exact hK) ?_ ?_
  ·simp only [go_sem, *]
   first | exact (by repeat (first | exact Agree.refl _ | assumption | refine Agree.new ?_ (hgf0 _ _) | refine Agree.new ?_ (hfr' _ _))) | exact ⟨(by repeat (first | exact Agree.refl _ | assumption | refine Agree.new ?_ (hgf0 _ _) | refine Agree.new ?_ (hfr' _ _))), rfl⟩ | exact ⟨(by repeat (first | exact Agree.refl _ | assumption | refine Agree.new ?_ (hgf0 _ _) | refine Agree.new ?_ (hfr' _ _))), trivial⟩
  ·
   intro i σ gr0 hgl_gr0 hgn hlt jI jN jS ⟨jA, jn⟩
   obtain ⟨jT, jB⟩ := jS
   simp only [go_sem] at jT jB
   have hgf := fresh_of hgn
   have hgf0 : ∀ r i, h ⟨gr0, r, i⟩ = none := fun r i => agree_fresh jA (hgf r i)
   have eg_gen_gr0 := gen_lt (show gen < gr0 by omega)
   have eh_gen_gr0 := gen_lt' (show gen < gr0 by omega)
   obtain ⟨x, hx⟩ : ∃ x, (l)[i]? = some x := ⟨_, List.getElem?_eq_getElem hlt⟩
   have hxm := List.mem_of_getElem? hx
   have hm := min_lt hlt
   clear hgn
   have hc := hl x hxm
   have hs := step i x hx
   have hw1 := w1 x hxm
   clear hl step w1
   repeat' (first
    | (first | refine wp rfl ?_ | refine spt rfl ?_ | refine spf rfl ?_ | (refine spl (fun hc => ?_) fun hc => ?_) <;> (try rw [beq_iff_eq] at hc) <;> try simp only [hc] | refine cp (hc) ?_ | refine AR_inv ?_) <;> try simp only [go_sem, *])
   all_goals exact Agree.new jA (hgf0 _ _)
  ·clear hl step w1
   intro σ ga0 hgl_ga0 hgn jS ⟨jA, jn⟩
   obtain ⟨jT, jB⟩ := jS
   simp only [go_sem] at jT jB
   have hgf := fresh_of hgn
   have hgf0 : ∀ r i, h ⟨ga0, r, i⟩ = none := fun r i => agree_fresh jA (hgf r i)
   have eg_gen_ga0 := gen_lt (show gen < ga0 by omega)
   have eh_gen_ga0 := gen_lt' (show gen < ga0 by omega)
   clear hgn
   rw [hlen] at jn
   repeat' (first
    | exact hin _ | exact agf (by assumption)
    | (first | refine wp rfl ?_ | refine spt rfl ?_ | refine spf rfl ?_ | (refine spl (fun hc => ?_) fun hc => ?_) <;> (try rw [beq_iff_eq] at hc) <;> try simp only [hc] | refine cp (h1) ?_ | refine cp (h2) ?_ | refine finF hrel ?_ ?_ ?_) <;> try simp only [go_sem, *])
end Go.Proofs.YtpnjamplciaopaaGreatDoor
