/-
  Walks: content and content types (references).
-/
import Derived.Test.YtjpheflnapmdcaaGreatDoorMa
import Derived.Test.YtjpheflnapmdcaaGreatDoorHg
import Derived.Test.YtjpheflnapmdcaaGreatDoorVc
import Derived.Test.YtjpheflnapmdcaaGreatDoorAbsDb
set_option linter.unusedSimpArgs false
set_option linter.unusedVariables false
set_option maxRecDepth 20000
set_option maxHeartbeats 4000000
namespace Go.Proofs.YtjpheflnapmdcaaGreatDoor
open Go GoAbs Go.Proofs

theorem c_r08content {f : Fm} (hC : FmC f) : FmW f → Pure Tryz.prog env 123 [.agg f.cells] (.bool f.fl.c) := by
  have sub1 : IntKind.i64.wrap (((1 : Nat) : Int) - 1) = 0 := by decide
  have sub2 : IntKind.i64.wrap (((2 : Nat) : Int) - 1) = 1 := by decide
  induction hC with
  | @eq t l =>
    intro hw h
    rw [ctk_1.2]
    have hk : (Fm.mk 1 t l []).kind = 1 := rfl
    generalize Fm.mk 1 t l [] = f at *
    refine en Tryz.func123 [.tmp 2] rfl rfl fun g0 w0 gen hrel hfr hfr' hres => ?_
    repeat' (first
      | exact hin _ | exact agf (by assumption)
      | (first | refine wp rfl ?_ | refine spt rfl ?_ | refine spf rfl ?_ | (refine spl (fun hc => ?_) fun hc => ?_) <;> (try rw [beq_iff_eq] at hc) <;> try simp only [hc] | (refine gs (fun hb => ?_) fun hb => ?_) <;> try simp only [Bool.not_true, Bool.not_false] at hb | refine finF hrel ?_ ?_ ?_) <;> try simp only [go_sem, *])
  | @two k t l a b hk ca cb iha ihb =>
    intro hw h
    have pa := iha (hw.arg (show a ∈ (Fm.mk k t l [a, b]).args by simp [Fm.args]))
    have pb := ihb (hw.arg (show b ∈ (Fm.mk k t l [a, b]).args by simp [Fm.args]))
    have hka : (Fm.mk k t l [a, b]).kind = k := rfl
    have hmap : (Fm.mk k t l [a, b]).args.map Fm.cells = [a.cells, b.cells] := rfl
    clear iha ihb ca cb hw
    rcases hk with rfl | rfl
    · rw [ctk_2.2]
      generalize a.fl.c = xa at *
      generalize b.fl.c = xb at *
      generalize Fm.mk 2 t l [a, b] = f at *
      cases xa <;> cases xb <;> simp only [Bool.or_false, Bool.or_true, Bool.or_self]
      all_goals
        refine en Tryz.func123 [.tmp 2] rfl rfl fun g0 w0 gen hrel hfr hfr' hres => ?_
        repeat' (first
          | exact hin _ | exact agf (by assumption)
          | (first | refine wp rfl ?_ | refine spt rfl ?_ | refine spf rfl ?_ | (refine spl (fun hc => ?_) fun hc => ?_) <;> (try rw [beq_iff_eq] at hc) <;> try simp only [hc] | (refine gs (fun hb => ?_) fun hb => ?_) <;> try simp only [Bool.not_true, Bool.not_false] at hb | refine cp (pa) ?_ | refine cp (pb) ?_ | refine finF hrel ?_ ?_ ?_) <;> try simp only [go_sem, *])
    · rw [ctk_3.2]
      generalize b.fl.c = xb at *
      generalize Fm.mk 3 t l [a, b] = f at *
      clear pa
      refine en Tryz.func123 [.tmp 2] rfl rfl fun g0 w0 gen hrel hfr hfr' hres => ?_
      repeat' (first
        | exact hin _ | exact agf (by assumption)
        | (first | refine wp rfl ?_ | refine spt rfl ?_ | refine spf rfl ?_ | (refine spl (fun hc => ?_) fun hc => ?_) <;> (try rw [beq_iff_eq] at hc) <;> try simp only [hc] | (refine gs (fun hb => ?_) fun hb => ?_) <;> try simp only [Bool.not_true, Bool.not_false] at hb | refine cp (pb) ?_ | refine finF hrel ?_ ?_ ?_) <;> try simp only [go_sem, *])
  | @q k s l a hk hs ca iha =>
    intro hw h
    have pa := iha (hw.arg (show a ∈ (Fm.mk k s l [a]).args by simp [Fm.args]))
    have hka : (Fm.mk k s l [a]).kind = k := rfl
    have hmap : (Fm.mk k s l [a]).args.map Fm.cells = [a.cells] := rfl
    clear iha ca hw
    by_cases h5 : k = 5
    · subst h5
      rw [ctk_5.2]
      clear pa
      generalize Fm.mk 5 s l [a] = f at *
      refine en Tryz.func123 [.tmp 2] rfl rfl fun g0 w0 gen hrel hfr hfr' hres => ?_
      repeat' (first
        | exact hin _ | exact agf (by assumption)
        | (first | refine wp rfl ?_ | refine spt rfl ?_ | refine spf rfl ?_ | (refine spl (fun hc => ?_) fun hc => ?_) <;> (try rw [beq_iff_eq] at hc) <;> try simp only [hc] | (refine gs (fun hb => ?_) fun hb => ?_) <;> try simp only [Bool.not_true, Bool.not_false] at hb | refine finF hrel ?_ ?_ ?_) <;> try simp only [go_sem, *])
    · have hc : (Fm.mk k s l [a]).fl.c = a.fl.c := by
        rcases hk with rfl | rfl | hk
        · rw [ctk_4.2]
        · exact absurd rfl h5
        · rw [(ctk_67 hk).2]
      rw [hc]
      have k5 : (k == 5) = false := by simpa using h5
      have k2 : (k == 2) = false := by rcases hk with rfl | rfl | rfl | rfl <;> rfl
      have k1 : (k == 1) = false := by rcases hk with rfl | rfl | rfl | rfl <;> rfl
      clear hc h5 hk
      generalize a.fl.c = xa at *
      generalize Fm.mk k s l [a] = f at *
      refine en Tryz.func123 [.tmp 2] rfl rfl fun g0 w0 gen hrel hfr hfr' hres => ?_
      repeat' (first
        | exact hin _ | exact agf (by assumption)
        | (first | refine wp rfl ?_ | refine spt rfl ?_ | refine spf rfl ?_ | (refine spl (fun hc => ?_) fun hc => ?_) <;> (try rw [beq_iff_eq] at hc) <;> try simp only [hc] | (refine gs (fun hb => ?_) fun hb => ?_) <;> try simp only [Bool.not_true, Bool.not_false] at hb | refine cp (pa) ?_ | refine finF hrel ?_ ?_ ?_) <;> try simp only [go_sem, *])

theorem c_r08Content (f : Fm) (hC : FmC f) (hw : FmW f) (he : fmErr f = 0) : Pure Tryz.prog env 48 [.agg f.cells] (.tup [.bool f.fl.c, .int .i64 0]) := by
  intro h
  have h1 := c_refFmCheck f hw
  rw [he] at h1
  have h2 := c_r08content hC hw
  have n0 : ((0 : Int) != 0) = false := rfl
  clear hC hw he
  generalize f.fl.c = x at *
  refine en Tryz.func48 [.tmp 2, .tmp 3] rfl rfl fun g0 w0 gen hrel hfr hfr' hres => ?_
  repeat' (first
    | exact hin _ | exact agf (by assumption)
    | (first | refine wp rfl ?_ | refine spt rfl ?_ | refine spf rfl ?_ | (refine spl (fun hc => ?_) fun hc => ?_) <;> (try rw [beq_iff_eq] at hc) <;> try simp only [hc] | refine cp (h1) ?_ | refine cp (h2) ?_ | refine finF hrel ?_ ?_ ?_) <;> try simp only [go_sem, *])

theorem c_r23Has (f : Fm) (hC : FmC f) (hw : FmW f) (he : fmErr f = 0) : Pure Tryz.prog env 205 [.agg f.cells] (.bool f.fl.c) := by
  intro h
  have h1 := c_r08Content f hC hw he
  clear hC hw he
  refine en Tryz.func205 [.tmp 2] rfl rfl fun g0 w0 gen hrel hfr hfr' hres => ?_
  repeat' (first
    | exact hin _ | exact agf (by assumption)
    | (first | refine wp rfl ?_ | refine cp (h1) ?_ | refine finF hrel ?_ ?_ ?_) <;> try simp only [go_sem, *])

theorem c_r01Size (t : Ty) (ht : TyW t) : ∃ n : Int, Pure Tryz.prog env 248 [.agg t.cells] (.tup [.int .i64 n, .int .i64 (tyErr t)]) := by
  have h1 := c_refTyCheck t ht
  have h2 := c_refSize t ht
  clear ht
  cases q1 : (tyErr t != 0) with
  | true =>
    refine ⟨0, ?_⟩
    clear h2
    intro h
    generalize tyErr t = e at *
    refine en Tryz.func248 [.tmp 2, .tmp 3] rfl rfl fun g0 w0 gen hrel hfr hfr' hres => ?_
    repeat' (first
      | exact hin _ | exact agf (by assumption)
      | (first | refine wp rfl ?_ | refine spt rfl ?_ | refine spf rfl ?_ | (refine spl (fun hc => ?_) fun hc => ?_) <;> (try rw [beq_iff_eq] at hc) <;> try simp only [hc] | refine cp (h1) ?_ | refine finF hrel ?_ ?_ ?_) <;> try simp only [go_sem, *])
  | false =>
    refine ⟨t.szW, ?_⟩
    have e0 : tyErr t = 0 := by simpa using q1
    rw [e0] at h1 q1 ⊢
    intro h
    refine en Tryz.func248 [.tmp 2, .tmp 3] rfl rfl fun g0 w0 gen hrel hfr hfr' hres => ?_
    repeat' (first
      | exact hin _ | exact agf (by assumption)
      | (first | refine wp rfl ?_ | refine spt rfl ?_ | refine spf rfl ?_ | (refine spl (fun hc => ?_) fun hc => ?_) <;> (try rw [beq_iff_eq] at hc) <;> try simp only [hc] | refine cp (h1) ?_ | refine cp (h2) ?_ | refine finF hrel ?_ ?_ ?_) <;> try simp only [go_sem, *])

def r23fits (t : Ty) (e : Int) : Ty × Int := if e != 0 then (tZero, e) else if tyErr t != 0 then (tZero, tyErr t) else (t, 0)
theorem c_r23fits (t : Ty) (ht : TyW t) (e : Int) : Pure Tryz.prog env 207 [.agg t.cells, .int .i64 e] (tyErrV (r23fits t e)) := by
  intro h
  obtain ⟨n, h1⟩ := c_r01Size t ht
  have hz := tZero_cells
  have hin : ∀ S, InV S (V.tup [.agg t.cells, .int .i64 0]) := fun S => by simp [InV, InL, InL_Ty]
  have n0 : ((0 : Int) != 0) = false := rfl
  unfold r23fits
  clear ht
  generalize tyErr t = e1 at *
  cases q1 : (e != 0) with
  | true =>
    simp only [if_true, tyErrV, hz]
    clear h1 hin
    refine en Tryz.func207 [.cell 4 25, .tmp 5] rfl rfl fun g0 w0 gen hrel hfr hfr' hres => ?_
    repeat' (first
      | exact hin _ | exact agf (by assumption)
      | (first | refine wp rfl ?_ | refine spt rfl ?_ | refine spf rfl ?_ | (refine spl (fun hc => ?_) fun hc => ?_) <;> (try rw [beq_iff_eq] at hc) <;> try simp only [hc] | refine finF hrel ?_ ?_ ?_) <;> try simp only [go_sem, *])
  | false =>
  cases q2 : (e1 != 0) with
  | true =>
    simp only [if_true, Bool.false_eq_true, if_false, tyErrV, hz]
    clear hin
    refine en Tryz.func207 [.cell 4 25, .tmp 5] rfl rfl fun g0 w0 gen hrel hfr hfr' hres => ?_
    repeat' (first
      | exact hin _ | exact agf (by assumption)
      | (first | refine wp rfl ?_ | refine spt rfl ?_ | refine spf rfl ?_ | (refine spl (fun hc => ?_) fun hc => ?_) <;> (try rw [beq_iff_eq] at hc) <;> try simp only [hc] | refine cp (h1) ?_ | refine finF hrel ?_ ?_ ?_) <;> try simp only [go_sem, *])
  | false =>
    obtain rfl : e1 = 0 := by simpa using q2
    simp only [Bool.false_eq_true, if_false, tyErrV]
    refine en Tryz.func207 [.cell 4 25, .tmp 5] rfl rfl fun g0 w0 gen hrel hfr hfr' hres => ?_
    repeat' (first
      | exact hin _ | exact agf (by assumption)
      | (first | refine wp rfl ?_ | refine spt rfl ?_ | refine spf rfl ?_ | (refine spl (fun hc => ?_) fun hc => ?_) <;> (try rw [beq_iff_eq] at hc) <;> try simp only [hc] | refine cp (h1) ?_ | refine finF hrel ?_ ?_ ?_) <;> try simp only [go_sem, *])

theorem ctJoin_fits {k : Int} {x : Ty} {y : Ty × Int} : ctJoin k (x, 0) y = r23fits (.mk k [x, y.1]) y.2 := rfl
theorem ctJoin_bad {k e : Int} {x : Ty} {y : Ty × Int} (h : (e != 0) = true) : ctJoin k (x, e) y = (tZero, e) := by unfold ctJoin; rw [h]; rfl
theorem ctT2_W {k : Int} {a b : Ty} (ha : TyW a) (hb : TyW b) : TyW (.mk k [a, b]) := .mk _ _ (by simp) (by simp [ha, hb])
theorem ctOk_W {p : Ty × Int} (h : CtOk p) : TyW p.1 := by
  rcases h with ⟨_, h⟩ | h
  · exact h.1.W
  · rw [h]; exact tZero_W

theorem c_r23of {u : Bool} {f : Fm} (hG : FmG u f) : fmSz f ≤ 4096 → FmW f → Pure Tryz.prog env 145 [.agg f.cells] (tyErrV f.ct) := by
  have hU := c_ref23Unit
  have hu : tUnit.cells = [.int .i64 5, .sl .any []] := by simp [tUnit, Ty.mk_cells]
  have hz0 := tZero_cells
  induction hG with
  | @eq x y hx hy =>
    intro hz hw h
    have h1 := c_r23Has _ (FmG.eq (u := u) hx hy).C hw ((FmG.eq (u := u) hx hy).err0 hz)
    have e1 : (fmEq x y).fl.c = false := (ctk_1 (t := .mk 0 []) (l := [x, y])).2
    rw [e1] at h1
    rw [ct_eqn]
    simp only [tyErrV]
    clear hx hy hz hw e1 hu
    generalize tUnit = q at *
    generalize fmEq x y = f at *
    refine en Tryz.func145 [.cell 2 25, .tmp 3] rfl rfl fun g0 w0 gen hrel hfr hfr' hres => ?_
    repeat' (first
      | exact hin _ | exact agf (by assumption)
      | (first | refine wp rfl ?_ | refine spt rfl ?_ | refine spf rfl ?_ | (refine spl (fun hc => ?_) fun hc => ?_) <;> (try rw [beq_iff_eq] at hc) <;> try simp only [hc] | refine cp (h1) ?_ | refine cp (hU) ?_ | refine finF hrel ?_ ?_ ?_) <;> try simp only [go_sem, *])
  | @two k a b hk ga gb iha ihb =>
    intro hz hw
    have za := hz
    rw [fmSz_two] at za
    have wa : FmW a := hw.arg (x := a) (by simp [fmTwo, Fm.args])
    have wb : FmW b := hw.arg (x := b) (by simp [fmTwo, Fm.args])
    have pa := iha (by omega) wa
    have pb := ihb (by omega) wb
    have h0 := c_r23Has _ (FmG.two hk ga gb).C hw ((FmG.two hk ga gb).err0 hz)
    have h1 := c_r23Has a ga.C wa (ga.err0 (by omega))
    have h2 := c_r23Has b gb.C wb (gb.err0 (by omega))
    have oa := ga.C.ok
    have ob := gb.C.ok
    have Wa := ctOk_W oa.1
    have Wb := ctOk_W ob.1
    have hka : (fmTwo k a b).kind = k := rfl
    have hmap : (fmTwo k a b).args.map Fm.cells = [a.cells, b.cells] := rfl
    have fl : (fmTwo k a b).fl.c = (if k == 2 then (a.fl.c || b.fl.c) else b.fl.c) := by
      rcases hk with rfl | rfl
      · simp only [beq_self_eq_true, if_true]; rw [fmTwo, (ctk_2 (t := .mk 0 []) (l := [])).2, Bool.or_comm]
      · exact (ctk_3 (t := .mk 0 []) (l := [])).2
    rw [fl] at h0
    have hPair := fun x y => c_r23Pair x y
    have hFun := fun x y => c_ref23Fun x y
    have hfit := c_r23fits (.mk k [a.ct.1, b.ct.1]) (ctT2_W Wa Wb) b.ct.2
    have key : ∀ h, (a.fl.c = true → b.fl.c = true → Ret Tryz.prog env 145 [.agg (fmTwo k a b).cells] h (tyErrV (ctJoin (if k == 2 then 3 else 4) a.ct b.ct)) h) →
        Ret Tryz.prog env 145 [.agg (fmTwo k a b).cells] h (tyErrV (fmTwo k a b).ct) h := by
      intro h H
      have hin1 : ∀ S, InV S (tyErrV a.ct) := fun S => by simp [tyErrV, InV, InL, InL_Ty]
      have hin2 : ∀ S, InV S (tyErrV b.ct) := fun S => by simp [tyErrV, InV, InL, InL_Ty]
      simp only [tyErrV] at hin1 hin2 pa pb
      rcases hk with rfl | rfl
      · rw [ct_and]
        cases ca : a.fl.c <;> cases cb : b.fl.c <;> rw [ca] at h0 h1 <;> rw [cb] at h0 h2 <;> simp only [if_true, Bool.false_eq_true, if_false, beq_self_eq_true, Bool.or_false, Bool.or_true, Bool.or_self] at h0 ⊢
        case true.true => exact H ca cb
        case false.false =>
          rw [ob.2 cb]
          simp only [tyErrV]
          clear pa pb h1 h2 oa ob hfit hPair hFun H hin1 hin2 iha ihb
          generalize tUnit = q at *
          generalize fmTwo 2 a b = f at *
          refine en Tryz.func145 [.cell 2 25, .tmp 3] rfl rfl fun g0 w0 gen hrel hfr hfr' hres => ?_
          repeat' (first
            | exact hin _ | exact agf (by assumption)
            | (first | refine wp rfl ?_ | refine spt rfl ?_ | refine spf rfl ?_ | (refine spl (fun hc => ?_) fun hc => ?_) <;> (try rw [beq_iff_eq] at hc) <;> try simp only [hc] | refine cp (h0) ?_ | refine cp (hU) ?_ | refine finF hrel ?_ ?_ ?_) <;> try simp only [go_sem, *])
        case false.true =>
          simp only [tyErrV]
          clear pa hin1 oa ob hfit hPair hFun H iha ihb
          generalize b.ct.1 = y at *
          generalize b.ct.2 = e at *
          generalize fmTwo 2 a b = f at *
          refine en Tryz.func145 [.cell 2 25, .tmp 3] rfl rfl fun g0 w0 gen hrel hfr hfr' hres => ?_
          repeat' (first
            | exact hin _ | exact agf (by assumption)
            | (first | refine wp rfl ?_ | refine spt rfl ?_ | refine spf rfl ?_ | (refine spl (fun hc => ?_) fun hc => ?_) <;> (try rw [beq_iff_eq] at hc) <;> try simp only [hc] | refine cp (h0) ?_ | refine cp (h1) ?_ | refine cp (h2) ?_ | refine cp (pb) ?_ | refine finF hrel ?_ ?_ ?_) <;> try simp only [go_sem, *])
        case true.false =>
          simp only [tyErrV]
          clear pb hin2 oa ob hfit hPair hFun H iha ihb
          generalize a.ct.1 = y at *
          generalize a.ct.2 = e at *
          generalize fmTwo 2 a b = f at *
          refine en Tryz.func145 [.cell 2 25, .tmp 3] rfl rfl fun g0 w0 gen hrel hfr hfr' hres => ?_
          repeat' (first
            | exact hin _ | exact agf (by assumption)
            | (first | refine wp rfl ?_ | refine spt rfl ?_ | refine spf rfl ?_ | (refine spl (fun hc => ?_) fun hc => ?_) <;> (try rw [beq_iff_eq] at hc) <;> try simp only [hc] | refine cp (h0) ?_ | refine cp (h1) ?_ | refine cp (h2) ?_ | refine cp (pa) ?_ | refine finF hrel ?_ ?_ ?_) <;> try simp only [go_sem, *])
      · rw [ct_imp]
        cases ca : a.fl.c <;> cases cb : b.fl.c <;> rw [ca] at h1 <;> rw [cb] at h0 h2 <;> simp only [if_true, Bool.false_eq_true, if_false, Int.reduceBEq, (show ((3 : Int) == 2) = false from rfl)] at h0 ⊢
        case true.true => exact H ca cb
        case false.true =>
          simp only [tyErrV]
          clear pa hin1 oa ob hfit hPair hFun H iha ihb
          generalize b.ct.1 = y at *
          generalize b.ct.2 = e at *
          generalize fmTwo 3 a b = f at *
          refine en Tryz.func145 [.cell 2 25, .tmp 3] rfl rfl fun g0 w0 gen hrel hfr hfr' hres => ?_
          repeat' (first
            | exact hin _ | exact agf (by assumption)
            | (first | refine wp rfl ?_ | refine spt rfl ?_ | refine spf rfl ?_ | (refine spl (fun hc => ?_) fun hc => ?_) <;> (try rw [beq_iff_eq] at hc) <;> try simp only [hc] | refine cp (h0) ?_ | refine cp (h1) ?_ | refine cp (h2) ?_ | refine cp (pb) ?_ | refine finF hrel ?_ ?_ ?_) <;> try simp only [go_sem, *])
        all_goals
          simp only [tyErrV]
          clear pa pb h1 h2 oa ob hfit hPair hFun H hin1 hin2 iha ihb
          generalize tUnit = q at *
          generalize fmTwo 3 a b = f at *
          refine en Tryz.func145 [.cell 2 25, .tmp 3] rfl rfl fun g0 w0 gen hrel hfr hfr' hres => ?_
          repeat' (first
            | exact hin _ | exact agf (by assumption)
            | (first | refine wp rfl ?_ | refine spt rfl ?_ | refine spf rfl ?_ | (refine spl (fun hc => ?_) fun hc => ?_) <;> (try rw [beq_iff_eq] at hc) <;> try simp only [hc] | refine cp (h0) ?_ | refine cp (hU) ?_ | refine finF hrel ?_ ?_ ?_) <;> try simp only [go_sem, *])
    intro h
    refine key h (fun ca cb => ?_)
    clear key iha ihb oa ob ga gb hz za hw wa wb
    rw [ca] at h0 h1
    rw [cb] at h0 h2
    simp only [Bool.or_true, ite_self] at h0
    clear ca cb fl
    generalize a.ct = p at *
    generalize b.ct = q at *
    obtain ⟨xa, ea⟩ := p
    obtain ⟨xb, eb⟩ := q
    simp only [tyErrV] at pa pb hfit Wa Wb
    cases q1 : (ea != 0) with
    | true =>
      rw [ctJoin_bad q1]
      simp only [tyErrV, hz0]
      clear hfit hPair hFun pb
      rcases hk with rfl | rfl
      · generalize fmTwo 2 a b = f at *
        refine en Tryz.func145 [.cell 2 25, .tmp 3] rfl rfl fun g0 w0 gen hrel hfr hfr' hres => ?_
        repeat' (first
          | exact hin _ | exact agf (by assumption)
          | (first | refine wp rfl ?_ | refine spt rfl ?_ | refine spf rfl ?_ | (refine spl (fun hc => ?_) fun hc => ?_) <;> (try rw [beq_iff_eq] at hc) <;> try simp only [hc] | refine cp (h0) ?_ | refine cp (h1) ?_ | refine cp (h2) ?_ | refine cp (pa) ?_ | refine finF hrel ?_ ?_ ?_) <;> try simp only [go_sem, *])
      · generalize fmTwo 3 a b = f at *
        refine en Tryz.func145 [.cell 2 25, .tmp 3] rfl rfl fun g0 w0 gen hrel hfr hfr' hres => ?_
        repeat' (first
          | exact hin _ | exact agf (by assumption)
          | (first | refine wp rfl ?_ | refine spt rfl ?_ | refine spf rfl ?_ | (refine spl (fun hc => ?_) fun hc => ?_) <;> (try rw [beq_iff_eq] at hc) <;> try simp only [hc] | refine cp (h0) ?_ | refine cp (h1) ?_ | refine cp (h2) ?_ | refine cp (pa) ?_ | refine finF hrel ?_ ?_ ?_) <;> try simp only [go_sem, *])
    | false =>
      obtain rfl : ea = 0 := by simpa using q1
      rw [ctJoin_fits]
      rcases hk with rfl | rfl
      · simp only [beq_self_eq_true, if_true]
        have hfit := c_r23fits (.mk 3 [xa, xb]) (ctT2_W Wa Wb) eb
        have hP := hPair xa xb
        change Pure _ _ _ _ (.agg (Ty.mk 3 [xa, xb]).cells) at hP
        generalize Ty.mk 3 [xa, xb] = T at *
        have hin : ∀ S, InV S (tyErrV (r23fits T eb)) := fun S => by simp [tyErrV, InV, InL, InL_Ty]
        generalize r23fits T eb = R at *
        simp only [tyErrV] at *
        clear hPair hFun
        generalize fmTwo 2 a b = f at *
        refine en Tryz.func145 [.cell 2 25, .tmp 3] rfl rfl fun g0 w0 gen hrel hfr hfr' hres => ?_
        repeat' (first
          | exact hin _ | exact agf (by assumption)
          | (first | refine wp rfl ?_ | refine spt rfl ?_ | refine spf rfl ?_ | (refine spl (fun hc => ?_) fun hc => ?_) <;> (try rw [beq_iff_eq] at hc) <;> try simp only [hc] | refine cp (h0) ?_ | refine cp (h1) ?_ | refine cp (h2) ?_ | refine cp (pa) ?_ | refine cp (pb) ?_ | refine cp (hP) ?_ | refine cp (hfit) ?_ | refine finF hrel ?_ ?_ ?_) <;> try simp only [go_sem, *])
      · simp only [(show ((3 : Int) == 2) = false from rfl), Bool.false_eq_true, if_false]
        have hfit := c_r23fits (.mk 4 [xa, xb]) (ctT2_W Wa Wb) eb
        have hP := hFun xa xb
        change Pure _ _ _ _ (.agg (Ty.mk 4 [xa, xb]).cells) at hP
        generalize Ty.mk 4 [xa, xb] = T at *
        have hin : ∀ S, InV S (tyErrV (r23fits T eb)) := fun S => by simp [tyErrV, InV, InL, InL_Ty]
        generalize r23fits T eb = R at *
        simp only [tyErrV] at *
        clear hPair hFun
        generalize fmTwo 3 a b = f at *
        refine en Tryz.func145 [.cell 2 25, .tmp 3] rfl rfl fun g0 w0 gen hrel hfr hfr' hres => ?_
        repeat' (first
          | exact hin _ | exact agf (by assumption)
          | (first | refine wp rfl ?_ | refine spt rfl ?_ | refine spf rfl ?_ | (refine spl (fun hc => ?_) fun hc => ?_) <;> (try rw [beq_iff_eq] at hc) <;> try simp only [hc] | refine cp (h0) ?_ | refine cp (h1) ?_ | refine cp (pa) ?_ | refine cp (pb) ?_ | refine cp (hP) ?_ | refine cp (hfit) ?_ | refine finF hrel ?_ ?_ ?_) <;> try simp only [go_sem, *])
  | @q k s a hk hs ga iha =>
    intro hz hw h
    have za := hz
    rw [fmSz_q] at za
    have wa : FmW a := hw.arg (x := a) (by simp [fmQ, Fm.args])
    have pa := iha (by omega) wa
    have h0 := c_r23Has _ (FmG.q hk hs ga).C hw ((FmG.q hk hs ga).err0 hz)
    have h1 := c_r23Has a ga.C wa (ga.err0 (by omega))
    have oa := ga.C.ok
    have Wa := ctOk_W oa.1
    have hka : (fmQ k s a).kind = k := rfl
    have hty : (fmQ k s a).type = s := rfl
    have hmap : (fmQ k s a).args.map Fm.cells = [a.cells] := rfl
    have hPair := fun x y => c_r23Pair x y
    have hFun := fun x y => c_ref23Fun x y
    have hkk : k = 4 ∨ k = 5 ∨ (k = 6 ∨ k = 7) := by rcases hk with h | h | ⟨_, h⟩ <;> simp [h]
    have sW := hs.1.W
    clear iha ga hz za hw wa hk hs
    have hin1 : ∀ S, InV S (tyErrV a.ct) := fun S => by simp [tyErrV, InV, InL, InL_Ty]
    have hin2 : ∀ S, InV S (V.tup [.agg s.cells, .int .i64 0]) := fun S => by simp [InV, InL, InL_Ty]
    rcases hkk with rfl | rfl | hk
    · have e0 : (fmQ 4 s a).fl.c = a.fl.c := (ctk_4 (l := [])).2
      rw [e0] at h0
      rw [ct_all]
      clear hPair hin2
      cases ca : a.fl.c with
      | false =>
        rw [ca] at h0
        simp only [Bool.false_eq_true, if_false, tyErrV]
        clear pa h1 oa Wa hFun hin1 e0 hu
        generalize tUnit = q at *
        generalize fmQ 4 s a = f at *
        refine en Tryz.func145 [.cell 2 25, .tmp 3] rfl rfl fun g0 w0 gen hrel hfr hfr' hres => ?_
        repeat' (first
          | exact hin _ | exact agf (by assumption)
          | (first | refine wp rfl ?_ | refine spt rfl ?_ | refine spf rfl ?_ | (refine spl (fun hc => ?_) fun hc => ?_) <;> (try rw [beq_iff_eq] at hc) <;> try simp only [hc] | refine cp (h0) ?_ | refine cp (hU) ?_ | refine finF hrel ?_ ?_ ?_) <;> try simp only [go_sem, *])
      | true =>
        rw [ca] at h0
        simp only [if_true]
        rw [ctJoin_fits]
        clear oa e0 hin1
        simp only [tyErrV] at pa
        have hP := hFun s a.ct.1
        change Pure _ _ _ _ (.agg (Ty.mk 4 [s, a.ct.1]).cells) at hP
        have hfit := c_r23fits (.mk 4 [s, a.ct.1]) (ctT2_W sW Wa) a.ct.2
        clear hFun sW Wa
        generalize Ty.mk 4 [s, a.ct.1] = T at *
        generalize a.ct.1 = y at *
        generalize a.ct.2 = e at *
        have hin : ∀ S, InV S (tyErrV (r23fits T e)) := fun S => by simp [tyErrV, InV, InL, InL_Ty]
        generalize r23fits T e = R at *
        simp only [tyErrV] at *
        generalize fmQ 4 s a = f at *
        subst hty
        refine en Tryz.func145 [.cell 2 25, .tmp 3] rfl rfl fun g0 w0 gen hrel hfr hfr' hres => ?_
        repeat' (first
          | exact hin _ | exact agf (by assumption)
          | (first | refine wp rfl ?_ | refine spt rfl ?_ | refine spf rfl ?_ | (refine spl (fun hc => ?_) fun hc => ?_) <;> (try rw [beq_iff_eq] at hc) <;> try simp only [hc] | refine cp (h0) ?_ | refine cp (h1) ?_ | refine cp (pa) ?_ | refine cp (hP) ?_ | refine cp (hfit) ?_ | refine finF hrel ?_ ?_ ?_) <;> try simp only [go_sem, *])
    · have e0 : (fmQ 5 s a).fl.c = true := (ctk_5 (l := [])).2
      rw [e0] at h0
      rw [ct_ex]
      clear hFun
      cases ca : a.fl.c with
      | false =>
        rw [ca] at h1
        simp only [Bool.false_eq_true, if_false, tyErrV]
        clear pa oa Wa hPair hin1 e0
        generalize fmQ 5 s a = f at *
        subst hty
        refine en Tryz.func145 [.cell 2 25, .tmp 3] rfl rfl fun g0 w0 gen hrel hfr hfr' hres => ?_
        repeat' (first
          | exact hin _ | exact agf (by assumption)
          | (first | refine wp rfl ?_ | refine spt rfl ?_ | refine spf rfl ?_ | (refine spl (fun hc => ?_) fun hc => ?_) <;> (try rw [beq_iff_eq] at hc) <;> try simp only [hc] | refine cp (h0) ?_ | refine cp (h1) ?_ | refine finF hrel ?_ ?_ ?_) <;> try simp only [go_sem, *])
      | true =>
        rw [ca] at h1
        simp only [if_true]
        rw [ctJoin_fits]
        clear oa e0 hin1 hin2
        simp only [tyErrV] at pa
        have hP := hPair s a.ct.1
        change Pure _ _ _ _ (.agg (Ty.mk 3 [s, a.ct.1]).cells) at hP
        have hfit := c_r23fits (.mk 3 [s, a.ct.1]) (ctT2_W sW Wa) a.ct.2
        clear hPair sW Wa
        generalize Ty.mk 3 [s, a.ct.1] = T at *
        generalize a.ct.1 = y at *
        generalize a.ct.2 = e at *
        have hin : ∀ S, InV S (tyErrV (r23fits T e)) := fun S => by simp [tyErrV, InV, InL, InL_Ty]
        generalize r23fits T e = R at *
        simp only [tyErrV] at *
        generalize fmQ 5 s a = f at *
        subst hty
        refine en Tryz.func145 [.cell 2 25, .tmp 3] rfl rfl fun g0 w0 gen hrel hfr hfr' hres => ?_
        repeat' (first
          | exact hin _ | exact agf (by assumption)
          | (first | refine wp rfl ?_ | refine spt rfl ?_ | refine spf rfl ?_ | (refine spl (fun hc => ?_) fun hc => ?_) <;> (try rw [beq_iff_eq] at hc) <;> try simp only [hc] | refine cp (h0) ?_ | refine cp (h1) ?_ | refine cp (pa) ?_ | refine cp (hP) ?_ | refine cp (hfit) ?_ | refine finF hrel ?_ ?_ ?_) <;> try simp only [go_sem, *])
    · have e0 : (fmQ k s a).fl.c = a.fl.c := (ctk_67 hk (l := [])).2
      have e1 : (fmQ k s a).ct = a.ct := (ctk_67 hk (l := [])).1
      rw [e0] at h0
      rw [e1]
      have k5 : (k == 5) = false := by rcases hk with rfl | rfl <;> rfl
      have k4 : (k == 4) = false := by rcases hk with rfl | rfl <;> rfl
      have k3 : (k == 3) = false := by rcases hk with rfl | rfl <;> rfl
      have k2 : (k == 2) = false := by rcases hk with rfl | rfl <;> rfl
      clear hPair hFun hin2 h1 e0 e1 hk
      cases ca : a.fl.c with
      | false =>
        rw [ca] at h0
        rw [oa.2 ca]
        simp only [tyErrV]
        clear pa oa Wa hin1 hu
        generalize tUnit = q at *
        generalize fmQ k s a = f at *
        refine en Tryz.func145 [.cell 2 25, .tmp 3] rfl rfl fun g0 w0 gen hrel hfr hfr' hres => ?_
        repeat' (first
          | exact hin _ | exact agf (by assumption)
          | (first | refine wp rfl ?_ | refine spt rfl ?_ | refine spf rfl ?_ | (refine spl (fun hc => ?_) fun hc => ?_) <;> (try rw [beq_iff_eq] at hc) <;> try simp only [hc] | refine cp (h0) ?_ | refine cp (hU) ?_ | refine finF hrel ?_ ?_ ?_) <;> try simp only [go_sem, *])
      | true =>
        rw [ca] at h0
        clear oa Wa
        generalize a.ct = p at *
        obtain ⟨y, e⟩ := p
        simp only [tyErrV] at *
        generalize fmQ k s a = f at *
        refine en Tryz.func145 [.cell 2 25, .tmp 3] rfl rfl fun g0 w0 gen hrel hfr hfr' hres => ?_
        repeat' (first
          | exact hin _ | exact agf (by assumption)
          | (first | refine wp rfl ?_ | refine spt rfl ?_ | refine spf rfl ?_ | (refine spl (fun hc => ?_) fun hc => ?_) <;> (try rw [beq_iff_eq] at hc) <;> try simp only [hc] | refine cp (h0) ?_ | refine cp (pa) ?_ | refine finF hrel ?_ ?_ ?_) <;> try simp only [go_sem, *])

theorem c_r23Type {u : Bool} (f : Fm) (hG : FmG u f) (hw : FmW f) (hz : fmErr f = 0 → fmSz f ≤ 4096) : Pure Tryz.prog env 66 [.agg f.cells] (tyErrV f.cty) := by
  intro h
  have h1 := c_refFmCheck f hw
  have h2 := fun z => c_r23of hG z hw
  have hz0 := tZero_cells
  unfold Fm.cty
  clear hG hw
  generalize fmErr f = e at *
  cases q1 : (e != 0) with
  | true =>
    simp only [if_true, tyErrV, hz0]
    clear h2 hz
    refine en Tryz.func66 [.cell 2 25, .tmp 3] rfl rfl fun g0 w0 gen hrel hfr hfr' hres => ?_
    repeat' (first
      | exact hin _ | exact agf (by assumption)
      | (first | refine wp rfl ?_ | refine spt rfl ?_ | refine spf rfl ?_ | (refine spl (fun hc => ?_) fun hc => ?_) <;> (try rw [beq_iff_eq] at hc) <;> try simp only [hc] | refine cp (h1) ?_ | refine finF hrel ?_ ?_ ?_) <;> try simp only [go_sem, *])
  | false =>
    have h3 := h2 (hz (by simpa using q1))
    have hin : ∀ S, InV S (tyErrV f.ct) := fun S => by simp [tyErrV, InV, InL, InL_Ty]
    clear h2 hz
    generalize f.ct = p at *
    obtain ⟨y, e'⟩ := p
    simp only [Bool.false_eq_true, if_false, tyErrV] at *
    refine en Tryz.func66 [.cell 2 25, .tmp 3] rfl rfl fun g0 w0 gen hrel hfr hfr' hres => ?_
    repeat' (first
      | exact hin _ | exact agf (by assumption)
      | (first | refine wp rfl ?_ | refine spt rfl ?_ | refine spf rfl ?_ | (refine spl (fun hc => ?_) fun hc => ?_) <;> (try rw [beq_iff_eq] at hc) <;> try simp only [hc] | refine cp (h1) ?_ | refine cp (h3) ?_ | refine finF hrel ?_ ?_ ?_) <;> try simp only [go_sem, *])
end Go.Proofs.YtjpheflnapmdcaaGreatDoor
