/-
 Walks: the law that And, Imp and Not are what they are among truth values.
-/
import Derived.Test.YtenelbgbjmijiaaGreatDoorOm
import Derived.Test.YtenelbgbjmijiaaGreatDoorGk
import Derived.Test.YtenelbgbjmijiaaGreatDoorGl
import Derived.Test.YtenelbgbjmijiaaGreatDoorVc
import Derived.Test.YtenelbgbjmijiaaGreatDoorAbsDc
set_option linter.unusedSimpArgs false
set_option linter.unusedVariables false
set_option maxRecDepth 20000
set_option maxHeartbeats 4000000
namespace Go.Proofs.YtenelbgbjmijiaaGreatDoor
open Go GoAbs Go.Proofs
theorem decV_tup (a : Ans) : decV a = .tup [.bool (if a.2.2 != 0 then false else a.1), .int .i64 (if a.2.2 != 0 then 0 else (a.2.1 : Int)), .int .i64 a.2.2] := by
 unfold decV
 cases h : (a.2.2 != 0) with
 | true => rfl
 | false =>
  have : a.2.2 = 0 := by simpa using h
  simp [this]
theorem c_r07Not (f : Fm) (wf : FmW f) (gf : FmG true f) (zf : fmSz f ≤ 4000) : Pure Tryz.prog env 43 [.agg f.cells] (.tup [.agg (fmTwo 3 f noF).cells, .int .i64 0]) := by
 intro h
 have h1 := c_refFmCheck f wf
 rw [gf.err0 (by omega)] at h1
 have h2 := c_False
 rw [show fmEq (tm0 4 []) (tm0 5 [tm0 4 []]) = noF from rfl] at h2
 have wn : FmW noF := noF_dc.G (u := true) |>.toW
 have h3 := c_fmTwo 3 f noF wf wn
 have w2 : FmW (fmTwo 3 f noF) := (FmG.two (u := true) (.inr rfl) gf noF_dc.G).toW
 have h4 := c_fmCount (fmTwo 3 f noF) w2
 rw [(FmG.two (u := true) (.inr rfl) gf noF_dc.G).szW (by rw [fmSz_two, noF_sz]; omega)] at h4
 have d1 : decide ((fmSz (fmTwo 3 f noF) : Int) > 4096) = false := by rw [fmSz_two, noF_sz]; simp; omega
 have h5 : Pure Tryz.prog env 103 [.agg (fmTwo 3 f noF).cells] (.tup [.agg (fmTwo 3 f noF).cells, .int .i64 0]) := by
  intro h
  clear h1 h2 h3 gf zf wf wn w2
  generalize fmTwo 3 f noF = q at *
  refine en Tryz.func103 [.cell 2 29, .tmp 3] rfl rfl fun g0 w0 gen hrel hfr hfr' hres => ?_
  repeat' (first
   | exact hin _ | exact agf (by assumption)
   | (first | refine wp rfl ?_ | refine spt rfl ?_ | refine spf rfl ?_ | (refine spl (fun hc => ?_) fun hc => ?_) <;> (try rw [beq_iff_eq] at hc) <;> try simp only [hc] | refine cp (h4) ?_ | refine finF hrel ?_ ?_ ?_) <;> try simp only [go_sem, *])
 have n0 : ((0 : Int) != 0) = false := rfl
 clear gf zf wf wn w2 d1 h4
 generalize fmTwo 3 f noF = q at *
 generalize noF = q0 at *
 refine en Tryz.func43 [.cell 2 29, .tmp 3] rfl rfl fun g0 w0 gen hrel hfr hfr' hres => ?_
 repeat' (first
  | (refine ⟨?_, ?_⟩; focus ((repeat' (first | refine And.intro ?_ ?_ | refine Or.inr ?_)); all_goals kernel_rfl))
  | exact hin _ | exact agf (by assumption)
  | (first | refine wp rfl ?_ | refine spt rfl ?_ | refine spf rfl ?_ | (refine spl (fun hc => ?_) fun hc => ?_) <;> (try rw [beq_iff_eq] at hc) <;> try simp only [hc] | refine cp (h1) ?_ | refine cp (h2) ?_ | refine cp (h3) ?_ | refine cp (h5) ?_ | refine finF hrel ?_ ?_ ?_) <;> try simp only [go_sem, *])
theorem less_dc (m n : Nat) (hm : m ≤ 100) (hn : n ≤ 100) : Dc [] (lessF (numT m) (numT n)) ∧ fmSz (lessF (numT m) (numT n)) = m + n + 23 := by
 refine ⟨.eq (.t2 ar3 rfl (.t2 ar3 rfl subT_G (.t1 ar5 rfl (numT_G m))) (numT_G n)) (.t0 ar4 rfl) ?_ (HasTy.num 0), ?_⟩
 ·exact .n2 .app (.n2 .app HasTy.sub (HasTy.num (m + 1))) (HasTy.num n)
 ·rw [lessF_sz, tmSz_num, tmSz_num]; omega
theorem c_sane09 : Pure Tryz.prog env 42 [] (.bool true) := by
 obtain ⟨k1, z1⟩ := less_dc 1 2 (by omega) (by omega)
 obtain ⟨k2, z2⟩ := less_dc 2 2 (by omega) (by omega)
 have h1 := c_Num 1 (by omega)
 have h2 := c_Num 2 (by omega)
 have h3 := c_Less08 (numT 1) (numT 2) (numT_W 1) (numT_W 2)
 have h4 := c_Less08 (numT 2) (numT 2) (numT_W 2) (numT_W 2)
 rw [show lessR (numT 1) (numT 2) = (lessF (numT 1) (numT 2), 0) by kernel_rfl] at h3
 rw [show lessR (numT 2) (numT 2) = (lessF (numT 2) (numT 2), 0) by kernel_rfl] at h4
 have h5 := c_decTruth k1 (by omega) 1000 (by omega)
 have h6 := c_decTruth k2 (by omega) 1000 (by omega)
 have e1 : (fun a : Ans => (a.1, a.2.2, decide ((a.2.1 : Int) > 0))) (dT 1000 (fdp (lessF (numT 1) (numT 2))) 0 (lessF (numT 1) (numT 2))) = (true, 0, true) := by kernel_rfl
 have e2 : (fun a : Ans => (a.1, a.2.2, decide ((a.2.1 : Int) > 0))) (dT 1000 (fdp (lessF (numT 2) (numT 2))) 0 (lessF (numT 2) (numT 2))) = (false, 0, true) := by kernel_rfl
 generalize dT 1000 (fdp (lessF (numT 1) (numT 2))) 0 (lessF (numT 1) (numT 2)) = a1 at *
 generalize dT 1000 (fdp (lessF (numT 2) (numT 2))) 0 (lessF (numT 2) (numT 2)) = a2 at *
 obtain ⟨b1, w1, r1⟩ := a1
 obtain ⟨b2, w2, r2⟩ := a2
 simp only [Prod.mk.injEq] at e1 e2
 obtain ⟨rfl, rfl, q1⟩ := e1
 obtain ⟨rfl, rfl, q2⟩ := e2
 unfold fmErrV at h3 h4
 unfold decV at h5 h6
 simp only [bne_self_eq_false, Bool.false_eq_true, if_false] at h3 h4 h5 h6
 replace h1 : Pure Tryz.prog env 51 [.int .i64 1] (.agg (numT 1).cells) := h1
 replace h2 : Pure Tryz.prog env 51 [.int .i64 2] (.agg (numT 2).cells) := h2
 replace h5 : Pure Tryz.prog env 44 [.agg (lessF (numT 1) (numT 2)).cells, .int .i64 1000] (.tup [.bool true, .int .i64 w1, .int .i64 0]) := h5
 replace h6 : Pure Tryz.prog env 44 [.agg (lessF (numT 2) (numT 2)).cells, .int .i64 1000] (.tup [.bool false, .int .i64 w2, .int .i64 0]) := h6
 clear k1 k2 z1 z2
 generalize lessF (numT 1) (numT 2) = f1 at *
 generalize lessF (numT 2) (numT 2) = f2 at *
 generalize numT 1 = t1 at *
 generalize numT 2 = t2 at *
 intro h
 refine en Tryz.func42 [.tmp 0] rfl rfl fun g0 w0 gen hrel hfr hfr' hres => ?_
 repeat' (first
  | exact hin _ | exact agf (by assumption)
  | (first | refine wp rfl ?_ | (refine gs (fun hb => ?_) fun hb => ?_) <;> try simp only [Bool.not_true, Bool.not_false] at hb | refine cp (h1) ?_ | refine cp (h2) ?_ | refine cp (h3) ?_ | refine cp (h4) ?_ | refine cp (h5) ?_ | refine cp (h6) ?_ | refine finF hrel ?_ ?_ ?_) <;> try simp only [go_sem, *])
theorem c_limit09 (e : Int) : Pure Tryz.prog env 46 [.int .i64 e] (.bool (e == 0 || e == 5 || e == 4)) := by
 intro h
 refine en Tryz.func46 [.tmp 2] rfl rfl fun g0 w0 gen hrel hfr hfr' hres => ?_
 repeat' (first
  | exact hin _ | exact agf (by assumption)
  | (first | refine wp rfl ?_ | (refine gs (fun hb => ?_) fun hb => ?_) <;> try simp only [Bool.not_true, Bool.not_false] at hb | refine finF hrel ?_ ?_ ?_) <;> try simp only [go_sem, *])
 all_goals simp_all
theorem c_DecideConnects (l : List Int) : Pure Tryz.prog env 4 [.sl .any (ints l)] (.bool true) := by
 have hS := c_sane09
 have hF := c_Few l
 cases hf : decide ((l.length : Int) ≤ 500) with
 | false =>
  rw [hf] at hF
  clear hf
  intro h
  refine en Tryz.func4 [.tmp 2] rfl rfl fun g0 w0 gen hrel hfr hfr' hres => ?_
  repeat' (first
   | exact hin _ | exact agf (by assumption)
   | (first | refine wp rfl ?_ | refine spt rfl ?_ | refine spf rfl ?_ | (refine spl (fun hc => ?_) fun hc => ?_) <;> (try rw [beq_iff_eq] at hc) <;> try simp only [hc] | (refine gs (fun hb => ?_) fun hb => ?_) <;> try simp only [Bool.not_true, Bool.not_false] at hb | refine cp (hS) ?_ | refine cp (hF) ?_ | refine finF hrel ?_ ?_ ?_) <;> try simp only [go_sem, *])
 | true =>
 rw [hf] at hF
 have hl : l.length ≤ 1000 := by simp at hf; omega
 clear hf
 have hN := c_New l
 obtain ⟨f, a1, mf, wf, Tf⟩ := c_Decidable l hl 2 (by omega) [] 0 (by simp) (by simp)
 obtain ⟨g, a2, mg, wg, Tg⟩ := c_Decidable l hl 2 (by omega) [] a1 (by simp) (by simp)
 simp only [List.map_nil] at Tf Tg
 replace Tf : ∀ d, Turns Tryz.prog env 16 [.ptr d 0, .sl .any [], .int .i64 2] d (.box (deckC l 0)) (.agg f.cells) (.box (deckC l a1)) := Tf
 replace Tg : ∀ d, Turns Tryz.prog env 16 [.ptr d 0, .sl .any [], .int .i64 2] d (.box (deckC l a1)) (.agg g.cells) (.box (deckC l a2)) := Tg
 have df := mf.dc (by simp) (by simp)
 have dg := mg.dc (by simp) (by simp)
 have zf : fmSz f ≤ 1000 := by have := (mf.all (by simp) (by simp)).2.1; omega
 have zg : fmSz g ≤ 1000 := by have := (mg.all (by simp) (by simp)).2.1; omega
 have h1 := c_r07Not f wf df.G (by omega)
 have h2 := c_fmTwo 2 f g wf wg
 have h3 := c_fmTwo 3 f g wf wg
 have h4 := c_decTruth df (by omega) 3000 (by omega)
 have h5 := c_decTruth dg (by omega) 3000 (by omega)
 have h6 := c_decTruth (Dc.two (.inl rfl) df dg) (by rw [fmSz_two]; omega) 65536 (by omega)
 have h7 := c_decTruth (Dc.two (.inr rfl) df dg) (by rw [fmSz_two]; omega) 65536 (by omega)
 have h8 := c_decTruth (Dc.two (.inr rfl) df noF_dc) (by rw [fmSz_two, noF_sz]; omega) 65536 (by omega)
 have k1 := dA_code (lim := 3000) df (by omega)
 have k2 := dA_code (lim := 3000) dg (by omega)
 have law := law_conn df dg zf zg
 have hL := c_limit09
 rw [decV_tup] at h4 h5 h6 h7 h8
 replace h4 : Pure Tryz.prog env 44 [.agg f.cells, .int .i64 3000] (.tup [.bool (if (dA 3000 f).2.2 != 0 then false else (dA 3000 f).1), .int .i64 (if (dA 3000 f).2.2 != 0 then 0 else ((dA 3000 f).2.1 : Int)), .int .i64 (dA 3000 f).2.2]) := h4
 replace h5 : Pure Tryz.prog env 44 [.agg g.cells, .int .i64 3000] (.tup [.bool (if (dA 3000 g).2.2 != 0 then false else (dA 3000 g).1), .int .i64 (if (dA 3000 g).2.2 != 0 then 0 else ((dA 3000 g).2.1 : Int)), .int .i64 (dA 3000 g).2.2]) := h5
 replace h6 : Pure Tryz.prog env 44 [.agg (fmTwo 2 f g).cells, .int .i64 65536] (.tup [.bool (if (dA 65536 (fmTwo 2 f g)).2.2 != 0 then false else (dA 65536 (fmTwo 2 f g)).1), .int .i64 (if (dA 65536 (fmTwo 2 f g)).2.2 != 0 then 0 else ((dA 65536 (fmTwo 2 f g)).2.1 : Int)), .int .i64 (dA 65536 (fmTwo 2 f g)).2.2]) := h6
 replace h7 : Pure Tryz.prog env 44 [.agg (fmTwo 3 f g).cells, .int .i64 65536] (.tup [.bool (if (dA 65536 (fmTwo 3 f g)).2.2 != 0 then false else (dA 65536 (fmTwo 3 f g)).1), .int .i64 (if (dA 65536 (fmTwo 3 f g)).2.2 != 0 then 0 else ((dA 65536 (fmTwo 3 f g)).2.1 : Int)), .int .i64 (dA 65536 (fmTwo 3 f g)).2.2]) := h7
 replace h8 : Pure Tryz.prog env 44 [.agg (fmTwo 3 f noF).cells, .int .i64 65536] (.tup [.bool (if (dA 65536 (fmTwo 3 f noF)).2.2 != 0 then false else (dA 65536 (fmTwo 3 f noF)).1), .int .i64 (if (dA 65536 (fmTwo 3 f noF)).2.2 != 0 then 0 else ((dA 65536 (fmTwo 3 f noF)).2.1 : Int)), .int .i64 (dA 65536 (fmTwo 3 f noF)).2.2]) := h8
 clear df dg zf zg mf mg wf wg
 generalize dA 3000 f = pf at *
 generalize dA 3000 g = pg at *
 generalize dA 65536 (fmTwo 2 f g) = pa at *
 generalize dA 65536 (fmTwo 3 f g) = pi at *
 generalize dA 65536 (fmTwo 3 f noF) = pn at *
 generalize fmTwo 2 f g = fa at *
 generalize fmTwo 3 f g = fi at *
 generalize fmTwo 3 f noF = fn at *
 obtain ⟨bf, uf, ef⟩ := pf
 obtain ⟨bg, ug, eg⟩ := pg
 obtain ⟨ba, ua, ea⟩ := pa
 obtain ⟨bi, ui, ei⟩ := pi
 obtain ⟨bn, un, en'⟩ := pn
 simp only at *
 have l0 := hL 0
 have l4 := hL 4
 have l5 := hL 5
 rw [show ((0 : Int) == 0 || (0 : Int) == 5 || (0 : Int) == 4) = true from rfl] at l0
 rw [show ((4 : Int) == 0 || (4 : Int) == 5 || (4 : Int) == 4) = true from rfl] at l4
 rw [show ((5 : Int) == 0 || (5 : Int) == 5 || (5 : Int) == 4) = true from rfl] at l5
 have n0 : ((0 : Int) != 0) = false := rfl
 have n4 : ((4 : Int) != 0) = true := rfl
 have n5 : ((5 : Int) != 0) = true := rfl
 have m0 : ((0 : Int) == 0) = true := rfl
 have tt : (true == true) = true := rfl
 have ff : (false == false) = true := rfl
 clear hL
 by_cases hok : ef = 0 ∧ eg = 0
 ·obtain ⟨rfl, rfl⟩ := hok
  obtain ⟨r1, r2, r3, r4, r5, r6⟩ := law rfl rfl
  clear law k1 k2 l0 l4 l5
  subst r1 r2 r3 r4 r5 r6
  simp only [n0, Bool.false_eq_true, if_false] at h4 h5 h6 h7 h8
  generalize (uf : Int) = uf' at *
  generalize (ug : Int) = ug' at *
  generalize (ua : Int) = ua' at *
  generalize (ui : Int) = ui' at *
  generalize (un : Int) = un' at *
  intro h
  cases bf <;> cases bg
  all_goals simp only [Bool.and_true, Bool.and_false, Bool.not_true, Bool.not_false, Bool.or_true, Bool.or_false] at h6 h7 h8
  all_goals
   refine en Tryz.func4 [.tmp 2] rfl rfl fun g0 w0 gen hrel hfr hfr' hres => ?_
   repeat' (first
    | exact hin _ | exact agf (by assumption)
    | (first | refine wp rfl ?_ | refine spt rfl ?_ | refine spf rfl ?_ | (refine spl (fun hc => ?_) fun hc => ?_) <;> (try rw [beq_iff_eq] at hc) <;> try simp only [hc] | (refine gs (fun hb => ?_) fun hb => ?_) <;> try simp only [Bool.not_true, Bool.not_false] at hb | refine cp (hS) ?_ | refine cp (hF) ?_ | refine Call1_new ⟨gen, 1000, 0⟩ (hN) (by first | exact hfr' _ _ | simp only [go_sem, *]) ?_ | (refine ct (Tf _) ?_ ?_; focus ((simp only [go_sem, *] <;> rfl); done)) | (refine ct (Tg _) ?_ ?_; focus ((simp only [go_sem, *] <;> rfl); done)) | refine cp (h1) ?_ | refine cp (h2) ?_ | refine cp (h3) ?_ | refine cp (h4) ?_ | refine cp (h5) ?_ | refine cp (h6) ?_ | refine cp (h7) ?_ | refine cp (h8) ?_ | refine finF hrel ?_ ?_ ?_) <;> try simp only [go_sem, *])
 ·clear law
  generalize (if (ef != 0) = true then (0 : Int) else (uf : Int)) = uf' at *
  generalize (if (eg != 0) = true then (0 : Int) else (ug : Int)) = ug' at *
  generalize (if (ea != 0) = true then (0 : Int) else (ua : Int)) = ua' at *
  generalize (if (ei != 0) = true then (0 : Int) else (ui : Int)) = ui' at *
  generalize (if (en' != 0) = true then (0 : Int) else (un : Int)) = un' at *
  generalize (if (ef != 0) = true then false else bf) = bf' at *
  generalize (if (eg != 0) = true then false else bg) = bg' at *
  generalize (if (ea != 0) = true then false else ba) = ba' at *
  generalize (if (ei != 0) = true then false else bi) = bi' at *
  generalize (if (en' != 0) = true then false else bn) = bn' at *
  rcases k1 with rfl | rfl | rfl <;> rcases k2 with rfl | rfl | rfl
  ·exact absurd ⟨rfl, rfl⟩ hok
  all_goals
   clear hok
   intro h
   refine en Tryz.func4 [.tmp 2] rfl rfl fun g0 w0 gen hrel hfr hfr' hres => ?_
   repeat' (first
    | exact hin _ | exact agf (by assumption)
    | (first | refine wp rfl ?_ | refine spt rfl ?_ | refine spf rfl ?_ | (refine spl (fun hc => ?_) fun hc => ?_) <;> (try rw [beq_iff_eq] at hc) <;> try simp only [hc] | (refine gs (fun hb => ?_) fun hb => ?_) <;> try simp only [Bool.not_true, Bool.not_false] at hb | refine cp (hS) ?_ | refine cp (hF) ?_ | refine Call1_new ⟨gen, 1000, 0⟩ (hN) (by first | exact hfr' _ _ | simp only [go_sem, *]) ?_ | (refine ct (Tf _) ?_ ?_; focus ((simp only [go_sem, *] <;> rfl); done)) | (refine ct (Tg _) ?_ ?_; focus ((simp only [go_sem, *] <;> rfl); done)) | refine cp (h1) ?_ | refine cp (h2) ?_ | refine cp (h3) ?_ | refine cp (h4) ?_ | refine cp (h5) ?_ | refine cp (h6) ?_ | refine cp (h7) ?_ | refine cp (h8) ?_ | refine cp (l0) ?_ | refine cp (l4) ?_ | refine cp (l5) ?_ | refine finF hrel ?_ ?_ ?_) <;> try simp only [go_sem, *])
end Go.Proofs.YtenelbgbjmijiaaGreatDoor
