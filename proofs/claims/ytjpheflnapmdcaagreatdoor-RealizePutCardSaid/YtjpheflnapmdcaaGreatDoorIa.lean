/-
  Walks: content types (the program's package content).
-/
import Derived.Test.YtjpheflnapmdcaaGreatDoorGf
import Derived.Test.YtjpheflnapmdcaaGreatDoorMa
import Derived.Test.YtjpheflnapmdcaaGreatDoorAbsDb
set_option linter.unusedSimpArgs false
set_option linter.unusedVariables false
set_option maxRecDepth 20000
set_option maxHeartbeats 4000000
namespace Go.Proofs.YtjpheflnapmdcaaGreatDoor
open Go GoAbs Go.Proofs

theorem ctT_W {k : Int} {a b : Ty} (ha : TyW a) (hb : TyW b) : TyW (.mk k [a, b]) := .mk _ _ (by simp) (by simp [ha, hb])

theorem c_ctJoin (k : Int) (a b : Ty) (ha : TyW a) (hb : TyW b) : Pure Tryz.prog env 274 [.int .i64 k, .agg a.cells, .agg b.cells]
    (.tup [.agg (if tyErr (.mk k [a, b]) != 0 then tZero else .mk k [a, b]).cells, .bool (tyErr (.mk k [a, b]) == 0), .int .i64 (tyErr (.mk k [a, b]))]) := by
  intro h
  have h1 := c_typesCheck _ (ctT_W (k := k) ha hb)
  rw [mk_T] at h1
  have hz := tZero_cells
  have hm := mk_T (k := k) (a := a) (b := b)
  generalize tyErr (.mk k [a, b]) = e at *
  cases q1 : (e != 0) with
  | true =>
    have q2 : (e == 0) = false := by simpa using q1
    simp only [if_true, q2, hz]
    refine en Tryz.func274 [.cell 6 25, .tmp 7, .tmp 8] rfl rfl fun g0 w0 gen hrel hfr hfr' hres => ?_
    repeat' (first
      | exact hin _ | exact agf (by assumption)
      | (first | refine wp rfl ?_ | refine spt rfl ?_ | refine spf rfl ?_ | (refine spl (fun hc => ?_) fun hc => ?_) <;> (try rw [beq_iff_eq] at hc) <;> try simp only [hc] | refine cp (h1) ?_ | refine finF hrel ?_ ?_ ?_) <;> try simp only [go_sem, *])
  | false =>
    have q2 : e = 0 := by simpa using q1
    subst q2
    simp only [Bool.false_eq_true, if_false, hm, beq_self_eq_true]
    refine en Tryz.func274 [.cell 6 25, .tmp 7, .tmp 8] rfl rfl fun g0 w0 gen hrel hfr hfr' hres => ?_
    repeat' (first
      | exact hin _ | exact agf (by assumption)
      | (first | refine wp rfl ?_ | refine spt rfl ?_ | refine spf rfl ?_ | (refine spl (fun hc => ?_) fun hc => ?_) <;> (try rw [beq_iff_eq] at hc) <;> try simp only [hc] | refine cp (h1) ?_ | refine finF hrel ?_ ?_ ?_) <;> try simp only [go_sem, *])

/-- A join, as the contract says it. -/
theorem c_ctJoinR {k : Int} (hk : k = 3 ∨ k = 4) {x y : Ty × Int} (hx : x.2 = 0 ∧ TyG x.1) (hy : y.2 = 0 ∧ TyG y.1) : ∃ v, Pure Tryz.prog env 274 [.int .i64 k, .agg x.1.cells, .agg y.1.cells] v ∧
    (∀ S, InV S v) ∧ (((ctJoin k x y).2 = 0 ∧ v = .tup [.agg (ctJoin k x y).1.cells, .bool true, .int .i64 0]) ∨ (ctJoin k x y = (tZero, 4) ∧ v = .tup [.agg tZero.cells, .bool false, .int .i64 4])) := by
  refine ⟨_, c_ctJoin k x.1 y.1 hx.2.1.W hy.2.1.W, fun S => by simp [InV, InL, InL_Ty], ?_⟩
  rcases ctJoin_ok hk (.inl hx) (.inl hy) with ⟨h1, h2⟩ | h4
  · left
    refine ⟨h1, ?_⟩
    have h0 : tyErr (.mk k [x.1, y.1]) = 0 := by
      unfold ctJoin at h1
      rw [hx.1, hy.1] at h1
      have n0 : ((0 : Int) != 0) = false := rfl
      rw [n0] at h1
      simp only [Bool.false_eq_true, if_false] at h1
      split at h1
      · exact h1
      · rename_i h; simpa using h
    unfold ctJoin
    rw [hx.1, hy.1, h0]
    rfl
  · right
    refine ⟨h4, ?_⟩
    unfold ctJoin at h4
    rw [hx.1, hy.1] at h4
    have n0 : ((0 : Int) != 0) = false := rfl
    rw [n0] at h4
    simp only [Bool.false_eq_true, if_false] at h4
    split at h4
    · simp only [Prod.mk.injEq, true_and] at h4
      rw [h4]; rfl
    · simp at h4

theorem c_ctOf {f : Fm} (hC : FmC f) : FmW f → ∃ v, CtR f v ∧ (∀ S, InV S v) ∧ Pure Tryz.prog env 265 [.agg f.cells] v := by
  have hz := tZero_cells
  have n0 : ((0 : Int) != 0) = false := rfl
  have n4 : ((4 : Int) != 0) = true := rfl
  have sub1 : IntKind.i64.wrap (((1 : Nat) : Int) - 1) = 0 := by decide
  have sub2 : IntKind.i64.wrap (((2 : Nat) : Int) - 1) = 1 := by decide
  induction hC with
  | @eq t l =>
    intro hw
    refine ⟨_, .inl ⟨by rw [ctk_1.1], rfl⟩, fun S => by simp [InV, InL, InL_Ty], ?_⟩
    rw [ctk_1.2]
    simp only [Bool.false_eq_true, if_false, hz]
    intro h
    have hk : (Fm.mk 1 t l []).kind = 1 := rfl
    generalize Fm.mk 1 t l [] = f at *
    refine en Tryz.func265 [.cell 2 25, .tmp 3, .tmp 4] rfl rfl fun g0 w0 gen hrel hfr hfr' hres => ?_
    repeat' (first
      | exact hin _ | exact agf (by assumption)
      | (first | refine wp rfl ?_ | refine spt rfl ?_ | refine spf rfl ?_ | (refine spl (fun hc => ?_) fun hc => ?_) <;> (try rw [beq_iff_eq] at hc) <;> try simp only [hc] | (refine gs (fun hb => ?_) fun hb => ?_) <;> try simp only [Bool.not_true, Bool.not_false] at hb | refine finF hrel ?_ ?_ ?_) <;> try simp only [go_sem, *])
  | @two k t l a b hk ca cb iha ihb =>
    intro hw
    obtain ⟨va, ra, ia, pa⟩ := iha (hw.arg (show a ∈ (Fm.mk k t l [a, b]).args by simp [Fm.args]))
    obtain ⟨vb, rb, ib, pb⟩ := ihb (hw.arg (show b ∈ (Fm.mk k t l [a, b]).args by simp [Fm.args]))
    have oa := ca.ok
    have ob := cb.ok
    have hka : (Fm.mk k t l [a, b]).kind = k := rfl
    have hmap : (Fm.mk k t l [a, b]).args.map Fm.cells = [a.cells, b.cells] := rfl
    clear iha ihb ca cb hw
    have bad : ∀ {x : Fm}, (x.fl.c = false → x.ct = (tUnit, 0)) → x.ct = (tZero, 4) → x.fl.c = true := by
      intro x h1 h2
      cases hc : x.fl.c
      · have := h1 hc; rw [h2] at this; simp [tZero, tUnit] at this
      · rfl
    have jz : ∀ {k : Int} {x y : Ty × Int}, CtOk x → y = (tZero, 4) → ctJoin k x y = (tZero, 4) := by
      intro k x y hx hy
      unfold ctJoin
      rcases hx with ⟨e, _⟩ | e <;> rw [e, hy] <;> rfl
    have jy : ∀ {k : Int} {x y : Ty × Int}, x = (tZero, 4) → ctJoin k x y = (tZero, 4) := by
      intro k x y hx
      unfold ctJoin
      rw [hx]; rfl
    rcases hk with rfl | rfl
    · simp only [CtR, ctk_2.1, ctk_2.2]
      rcases rb with ⟨eb, rfl⟩ | ⟨eb, xb, bb, wxb, rfl⟩
      case inr =>
        have hb := bad ob.2 eb
        refine ⟨_, .inr ⟨?_, tZero, false, tZero_W, rfl⟩, fun S => by simp [InV, InL, InL_Ty], ?_⟩
        · rw [hb]; split
          · exact jz oa.1 eb
          · exact eb
        intro h
        rw [hz]
        clear ib ia pa oa ob bad jz jy
        generalize Fm.mk 2 t l [a, b] = f at *
        refine en Tryz.func265 [.cell 2 25, .tmp 3, .tmp 4] rfl rfl fun g0 w0 gen hrel hfr hfr' hres => ?_
        repeat' (first
          | exact hin _ | exact agf (by assumption)
          | (first | refine wp rfl ?_ | refine spt rfl ?_ | refine spf rfl ?_ | (refine spl (fun hc => ?_) fun hc => ?_) <;> (try rw [beq_iff_eq] at hc) <;> try simp only [hc] | (refine gs (fun hb => ?_) fun hb => ?_) <;> try simp only [Bool.not_true, Bool.not_false] at hb | refine cp (pb) ?_ | refine finF hrel ?_ ?_ ?_) <;> try simp only [go_sem, *])
      rcases ra with ⟨ea, rfl⟩ | ⟨ea, xa, ba, wxa, rfl⟩
      case inr =>
        have ha := bad oa.2 ea
        have wl : TyW (if b.fl.c = true then b.ct.1 else tZero) := by
          split
          · rcases ob.1 with ⟨_, g⟩ | e
            · exact g.1.W
            · rw [e]; exact tZero_W
          · exact tZero_W
        refine ⟨_, .inr ⟨?_, _, b.fl.c, wl, rfl⟩, fun S => by simp [InV, InL, InL_Ty], ?_⟩
        · rw [ha]; simp only [if_true]; split
          · exact jy ea
          · exact ea
        intro h
        clear ib ia oa ob bad jz jy wl eb ea ha
        generalize (if b.fl.c = true then b.ct.1 else tZero) = y at *
        generalize b.fl.c = cb at *
        have hin : ∀ S, InV S (V.tup [.agg y.cells, .bool cb, .int .i64 4]) := fun S => by simp [InV, InL, InL_Ty]
        generalize Fm.mk 2 t l [a, b] = f at *
        refine en Tryz.func265 [.cell 2 25, .tmp 3, .tmp 4] rfl rfl fun g0 w0 gen hrel hfr hfr' hres => ?_
        repeat' (first
          | exact hin _ | exact agf (by assumption)
          | (first | refine wp rfl ?_ | refine spt rfl ?_ | refine spf rfl ?_ | (refine spl (fun hc => ?_) fun hc => ?_) <;> (try rw [beq_iff_eq] at hc) <;> try simp only [hc] | (refine gs (fun hb => ?_) fun hb => ?_) <;> try simp only [Bool.not_true, Bool.not_false] at hb | refine cp (pb) ?_ | refine cp (pa) ?_ | refine finF hrel ?_ ?_ ?_) <;> try simp only [go_sem, *])
      cases ha : a.fl.c with
      | false =>
        rw [ha] at pa
        simp only [Bool.false_eq_true, if_false, Bool.or_false] at pa ⊢
        refine ⟨_, .inl ⟨eb, rfl⟩, fun S => by simp [InV, InL, InL_Ty], ?_⟩
        intro h
        clear ib ia oa ob bad jz jy eb ea ha
        generalize (if b.fl.c = true then b.ct.1 else tZero) = y at *
        generalize b.fl.c = cb at *
        have hin : ∀ S, InV S (V.tup [.agg y.cells, .bool cb, .int .i64 0]) := fun S => by simp [InV, InL, InL_Ty]
        generalize Fm.mk 2 t l [a, b] = f at *
        refine en Tryz.func265 [.cell 2 25, .tmp 3, .tmp 4] rfl rfl fun g0 w0 gen hrel hfr hfr' hres => ?_
        repeat' (first
          | exact hin _ | exact agf (by assumption)
          | (first | refine wp rfl ?_ | refine spt rfl ?_ | refine spf rfl ?_ | (refine spl (fun hc => ?_) fun hc => ?_) <;> (try rw [beq_iff_eq] at hc) <;> try simp only [hc] | (refine gs (fun hb => ?_) fun hb => ?_) <;> try simp only [Bool.not_true, Bool.not_false] at hb | refine cp (pb) ?_ | refine cp (pa) ?_ | refine finF hrel ?_ ?_ ?_) <;> try simp only [go_sem, *])
      | true =>
      rw [ha] at pa
      cases hb : b.fl.c with
      | false =>
        rw [hb] at pb
        simp only [Bool.false_eq_true, if_false, if_true, Bool.or_true] at pa pb ⊢
        refine ⟨_, .inl ⟨ea, rfl⟩, fun S => by simp [InV, InL, InL_Ty], ?_⟩
        intro h
        clear ib ia oa ob bad jz jy eb ea ha hb
        generalize a.ct.1 = y at *
        have hin : ∀ S, InV S (V.tup [.agg y.cells, .bool true, .int .i64 0]) := fun S => by simp [InV, InL, InL_Ty]
        generalize Fm.mk 2 t l [a, b] = f at *
        refine en Tryz.func265 [.cell 2 25, .tmp 3, .tmp 4] rfl rfl fun g0 w0 gen hrel hfr hfr' hres => ?_
        repeat' (first
          | exact hin _ | exact agf (by assumption)
          | (first | refine wp rfl ?_ | refine spt rfl ?_ | refine spf rfl ?_ | (refine spl (fun hc => ?_) fun hc => ?_) <;> (try rw [beq_iff_eq] at hc) <;> try simp only [hc] | (refine gs (fun hb => ?_) fun hb => ?_) <;> try simp only [Bool.not_true, Bool.not_false] at hb | refine cp (pb) ?_ | refine cp (pa) ?_ | refine finF hrel ?_ ?_ ?_) <;> try simp only [go_sem, *])
      | true =>
        rw [hb] at pb
        simp only [if_true, Bool.or_true] at pa pb ⊢
        have gx : a.ct.2 = 0 ∧ TyG a.ct.1 := by
          rcases oa.1 with g | e
          · exact g
          · rw [e] at ea; cases ea
        have gy : b.ct.2 = 0 ∧ TyG b.ct.1 := by
          rcases ob.1 with g | e
          · exact g
          · rw [e] at eb; cases eb
        obtain ⟨v, pj, hin, hv⟩ := c_ctJoinR (.inl rfl) gx gy
        refine ⟨v, ?_, hin, ?_⟩
        · rcases hv with ⟨e1, rfl⟩ | ⟨e1, rfl⟩
          · exact .inl ⟨e1, rfl⟩
          · exact .inr ⟨e1, tZero, false, tZero_W, rfl⟩
        have hv' : ∃ (y : Ty) (c : Bool) (e : Int), v = .tup [.agg y.cells, .bool c, .int .i64 e] := by
          rcases hv with ⟨_, rfl⟩ | ⟨_, rfl⟩ <;> exact ⟨_, _, _, rfl⟩
        clear hv ib ia oa ob bad jz jy eb ea ha hb gx gy
        obtain ⟨y, c, e, rfl⟩ := hv'
        generalize a.ct.1 = ya at *
        generalize b.ct.1 = yb at *
        intro h
        generalize Fm.mk 2 t l [a, b] = f at *
        refine en Tryz.func265 [.cell 2 25, .tmp 3, .tmp 4] rfl rfl fun g0 w0 gen hrel hfr hfr' hres => ?_
        repeat' (first
          | exact hin _ | exact agf (by assumption)
          | (first | refine wp rfl ?_ | refine spt rfl ?_ | refine spf rfl ?_ | (refine spl (fun hc => ?_) fun hc => ?_) <;> (try rw [beq_iff_eq] at hc) <;> try simp only [hc] | (refine gs (fun hb => ?_) fun hb => ?_) <;> try simp only [Bool.not_true, Bool.not_false] at hb | refine cp (pb) ?_ | refine cp (pa) ?_ | refine cp (pj) ?_ | refine finF hrel ?_ ?_ ?_) <;> try simp only [go_sem, *])
    · simp only [CtR, ctk_3.1, ctk_3.2]
      rcases rb with ⟨eb, rfl⟩ | ⟨eb, xb, bb, wxb, rfl⟩
      case inr =>
        have hb := bad ob.2 eb
        refine ⟨_, .inr ⟨?_, tZero, false, tZero_W, rfl⟩, fun S => by simp [InV, InL, InL_Ty], ?_⟩
        · rw [hb]; simp only [if_true]; split
          · exact jz oa.1 eb
          · exact eb
        intro h
        rw [hz]
        clear ib ia pa oa ob bad jz jy
        generalize Fm.mk 3 t l [a, b] = f at *
        refine en Tryz.func265 [.cell 2 25, .tmp 3, .tmp 4] rfl rfl fun g0 w0 gen hrel hfr hfr' hres => ?_
        repeat' (first
          | exact hin _ | exact agf (by assumption)
          | (first | refine wp rfl ?_ | refine spt rfl ?_ | refine spf rfl ?_ | (refine spl (fun hc => ?_) fun hc => ?_) <;> (try rw [beq_iff_eq] at hc) <;> try simp only [hc] | (refine gs (fun hb => ?_) fun hb => ?_) <;> try simp only [Bool.not_true, Bool.not_false] at hb | refine cp (pb) ?_ | refine finF hrel ?_ ?_ ?_) <;> try simp only [go_sem, *])
      cases hb : b.fl.c with
      | false =>
        rw [hb] at pb
        simp only [Bool.false_eq_true, if_false] at pb ⊢
        refine ⟨_, .inl ⟨trivial, rfl⟩, fun S => by simp [InV, InL, InL_Ty], ?_⟩
        intro h
        rw [hz]
        clear ib ia pa oa ob bad jz jy eb hb
        generalize Fm.mk 3 t l [a, b] = f at *
        refine en Tryz.func265 [.cell 2 25, .tmp 3, .tmp 4] rfl rfl fun g0 w0 gen hrel hfr hfr' hres => ?_
        repeat' (first
          | exact hin _ | exact agf (by assumption)
          | (first | refine wp rfl ?_ | refine spt rfl ?_ | refine spf rfl ?_ | (refine spl (fun hc => ?_) fun hc => ?_) <;> (try rw [beq_iff_eq] at hc) <;> try simp only [hc] | (refine gs (fun hb => ?_) fun hb => ?_) <;> try simp only [Bool.not_true, Bool.not_false] at hb | refine cp (pb) ?_ | refine finF hrel ?_ ?_ ?_) <;> try simp only [go_sem, *])
      | true =>
      rw [hb] at pb
      simp only [if_true] at pb ⊢
      rcases ra with ⟨ea, rfl⟩ | ⟨ea, xa, ba, wxa, rfl⟩
      case inr =>
        have ha := bad oa.2 ea
        have wl : TyW b.ct.1 := by
          rcases ob.1 with ⟨_, g⟩ | e
          · exact g.1.W
          · rw [e]; exact tZero_W
        refine ⟨_, .inr ⟨?_, _, true, wl, rfl⟩, fun S => by simp [InV, InL, InL_Ty], ?_⟩
        · rw [ha]; simp only [if_true]; exact jy ea
        intro h
        clear ib ia oa ob bad jz jy wl eb ea ha hb
        generalize b.ct.1 = y at *
        have hin : ∀ S, InV S (V.tup [.agg y.cells, .bool true, .int .i64 4]) := fun S => by simp [InV, InL, InL_Ty]
        generalize Fm.mk 3 t l [a, b] = f at *
        refine en Tryz.func265 [.cell 2 25, .tmp 3, .tmp 4] rfl rfl fun g0 w0 gen hrel hfr hfr' hres => ?_
        repeat' (first
          | exact hin _ | exact agf (by assumption)
          | (first | refine wp rfl ?_ | refine spt rfl ?_ | refine spf rfl ?_ | (refine spl (fun hc => ?_) fun hc => ?_) <;> (try rw [beq_iff_eq] at hc) <;> try simp only [hc] | (refine gs (fun hb => ?_) fun hb => ?_) <;> try simp only [Bool.not_true, Bool.not_false] at hb | refine cp (pb) ?_ | refine cp (pa) ?_ | refine finF hrel ?_ ?_ ?_) <;> try simp only [go_sem, *])
      cases ha : a.fl.c with
      | false =>
        rw [ha] at pa
        simp only [Bool.false_eq_true, if_false] at pa ⊢
        refine ⟨_, .inl ⟨eb, rfl⟩, fun S => by simp [InV, InL, InL_Ty], ?_⟩
        intro h
        clear ib ia oa ob bad jz jy eb ea ha hb
        generalize b.ct.1 = y at *
        have hin : ∀ S, InV S (V.tup [.agg y.cells, .bool true, .int .i64 0]) := fun S => by simp [InV, InL, InL_Ty]
        generalize Fm.mk 3 t l [a, b] = f at *
        refine en Tryz.func265 [.cell 2 25, .tmp 3, .tmp 4] rfl rfl fun g0 w0 gen hrel hfr hfr' hres => ?_
        repeat' (first
          | exact hin _ | exact agf (by assumption)
          | (first | refine wp rfl ?_ | refine spt rfl ?_ | refine spf rfl ?_ | (refine spl (fun hc => ?_) fun hc => ?_) <;> (try rw [beq_iff_eq] at hc) <;> try simp only [hc] | (refine gs (fun hb => ?_) fun hb => ?_) <;> try simp only [Bool.not_true, Bool.not_false] at hb | refine cp (pb) ?_ | refine cp (pa) ?_ | refine finF hrel ?_ ?_ ?_) <;> try simp only [go_sem, *])
      | true =>
        rw [ha] at pa
        simp only [if_true] at pa ⊢
        have gx : a.ct.2 = 0 ∧ TyG a.ct.1 := by
          rcases oa.1 with g | e
          · exact g
          · rw [e] at ea; cases ea
        have gy : b.ct.2 = 0 ∧ TyG b.ct.1 := by
          rcases ob.1 with g | e
          · exact g
          · rw [e] at eb; cases eb
        obtain ⟨v, pj, hin, hv⟩ := c_ctJoinR (.inr rfl) gx gy
        refine ⟨v, ?_, hin, ?_⟩
        · rcases hv with ⟨e1, rfl⟩ | ⟨e1, rfl⟩
          · exact .inl ⟨e1, rfl⟩
          · exact .inr ⟨e1, tZero, false, tZero_W, rfl⟩
        have hv' : ∃ (y : Ty) (c : Bool) (e : Int), v = .tup [.agg y.cells, .bool c, .int .i64 e] := by
          rcases hv with ⟨_, rfl⟩ | ⟨_, rfl⟩ <;> exact ⟨_, _, _, rfl⟩
        clear hv ib ia oa ob bad jz jy eb ea ha hb gx gy
        obtain ⟨y, c, e, rfl⟩ := hv'
        generalize a.ct.1 = ya at *
        generalize b.ct.1 = yb at *
        intro h
        generalize Fm.mk 3 t l [a, b] = f at *
        refine en Tryz.func265 [.cell 2 25, .tmp 3, .tmp 4] rfl rfl fun g0 w0 gen hrel hfr hfr' hres => ?_
        repeat' (first
          | exact hin _ | exact agf (by assumption)
          | (first | refine wp rfl ?_ | refine spt rfl ?_ | refine spf rfl ?_ | (refine spl (fun hc => ?_) fun hc => ?_) <;> (try rw [beq_iff_eq] at hc) <;> try simp only [hc] | (refine gs (fun hb => ?_) fun hb => ?_) <;> try simp only [Bool.not_true, Bool.not_false] at hb | refine cp (pb) ?_ | refine cp (pa) ?_ | refine cp (pj) ?_ | refine finF hrel ?_ ?_ ?_) <;> try simp only [go_sem, *])
  | @q k s l a hk hs ca iha =>
    intro hw
    obtain ⟨va, ra, ia, pa⟩ := iha (hw.arg (show a ∈ (Fm.mk k s l [a]).args by simp [Fm.args]))
    have oa := ca.ok
    have hka : (Fm.mk k s l [a]).kind = k := rfl
    have hty : (Fm.mk k s l [a]).type = s := rfl
    have hmap : (Fm.mk k s l [a]).args.map Fm.cells = [a.cells] := rfl
    have jz : ∀ {k : Int} {y : Ty × Int}, y = (tZero, 4) → ctJoin k (s, 0) y = (tZero, 4) := by
      intro k y hy
      unfold ctJoin
      rw [hy]; rfl
    have er : ∀ {x : Fm}, (x.fl.c = false → x.ct = (tUnit, 0)) → x.ct = (tZero, 4) → x.fl.c = true := by
      intro x h1 h2
      cases hc : x.fl.c
      · have := h1 hc; rw [h2] at this; simp [tZero, tUnit] at this
      · rfl
    clear iha ca hw
    rcases ra with ⟨ea, rfl⟩ | ⟨ea, xa, ba, wxa, rfl⟩
    case inr =>
      have ha := er oa.2 ea
      have hct : (Fm.mk k s l [a]).ct = (tZero, 4) := by
        rcases hk with rfl | rfl | hk
        · rw [ctk_4.1, ha]; exact jz ea
        · rw [ctk_5.1, ha]; exact jz ea
        · rw [(ctk_67 hk).1]; exact ea
      refine ⟨_, .inr ⟨hct, tZero, false, tZero_W, rfl⟩, fun S => by simp [InV, InL, InL_Ty], ?_⟩
      intro h
      rw [hz]
      have k1 : (k == 1) = false := by rcases hk with rfl | rfl | rfl | rfl <;> rfl
      clear ia oa er jz hct hk
      generalize Fm.mk k s l [a] = f at *
      refine en Tryz.func265 [.cell 2 25, .tmp 3, .tmp 4] rfl rfl fun g0 w0 gen hrel hfr hfr' hres => ?_
      repeat' (first
        | exact hin _ | exact agf (by assumption)
        | (first | refine wp rfl ?_ | refine spt rfl ?_ | refine spf rfl ?_ | (refine spl (fun hc => ?_) fun hc => ?_) <;> (try rw [beq_iff_eq] at hc) <;> try simp only [hc] | (refine gs (fun hb => ?_) fun hb => ?_) <;> try simp only [Bool.not_true, Bool.not_false] at hb | refine cp (pa) ?_ | refine finF hrel ?_ ?_ ?_) <;> try simp only [go_sem, *])
    have gx : a.ct.2 = 0 ∧ TyG a.ct.1 := by
      rcases oa.1 with g | e
      · exact g
      · rw [e] at ea; cases ea
    cases ha : a.fl.c with
    | false =>
      rw [ha] at pa
      simp only [Bool.false_eq_true, if_false] at pa
      by_cases h5 : k = 5
      · subst h5
        simp only [CtR, ctk_5.1, ctk_5.2, ha, Bool.false_eq_true, if_false, if_true]
        refine ⟨_, .inl ⟨trivial, rfl⟩, fun S => by simp [InV, InL, InL_Ty], ?_⟩
        intro h
        have hin : ∀ S, InV S (V.tup [.agg s.cells, .bool true, .int .i64 0]) := fun S => by simp [InV, InL, InL_Ty]
        clear ia oa er jz gx ea ha
        generalize Fm.mk 5 s l [a] = f at *
        subst hty
        refine en Tryz.func265 [.cell 2 25, .tmp 3, .tmp 4] rfl rfl fun g0 w0 gen hrel hfr hfr' hres => ?_
        repeat' (first
          | exact hin _ | exact agf (by assumption)
          | (first | refine wp rfl ?_ | refine spt rfl ?_ | refine spf rfl ?_ | (refine spl (fun hc => ?_) fun hc => ?_) <;> (try rw [beq_iff_eq] at hc) <;> try simp only [hc] | (refine gs (fun hb => ?_) fun hb => ?_) <;> try simp only [Bool.not_true, Bool.not_false] at hb | refine cp (pa) ?_ | refine finF hrel ?_ ?_ ?_) <;> try simp only [go_sem, *])
      · have hc : (Fm.mk k s l [a]).fl.c = false ∧ (Fm.mk k s l [a]).ct.2 = 0 := by
          rcases hk with rfl | rfl | hk
          · rw [ctk_4.1, ctk_4.2, ha]; exact ⟨rfl, rfl⟩
          · exact absurd rfl h5
          · rw [(ctk_67 hk).1, (ctk_67 hk).2, ha]; exact ⟨rfl, gx.1⟩
        refine ⟨_, .inl ⟨hc.2, rfl⟩, fun S => by simp [InV, InL, InL_Ty], ?_⟩
        intro h
        rw [hc.1]
        simp only [Bool.false_eq_true, if_false, hz]
        have k5 : (k == 5) = false := by simpa using h5
        have k2 : (k == 2) = false := by rcases hk with rfl | rfl | rfl | rfl <;> rfl
        have k1 : (k == 1) = false := by rcases hk with rfl | rfl | rfl | rfl <;> rfl
        clear ia oa er jz gx ea ha hc h5 hk
        generalize Fm.mk k s l [a] = f at *
        refine en Tryz.func265 [.cell 2 25, .tmp 3, .tmp 4] rfl rfl fun g0 w0 gen hrel hfr hfr' hres => ?_
        repeat' (first
          | exact hin _ | exact agf (by assumption)
          | (first | refine wp rfl ?_ | refine spt rfl ?_ | refine spf rfl ?_ | (refine spl (fun hc => ?_) fun hc => ?_) <;> (try rw [beq_iff_eq] at hc) <;> try simp only [hc] | (refine gs (fun hb => ?_) fun hb => ?_) <;> try simp only [Bool.not_true, Bool.not_false] at hb | refine cp (pa) ?_ | refine finF hrel ?_ ?_ ?_) <;> try simp only [go_sem, *])
    | true =>
      rw [ha] at pa
      simp only [if_true] at pa
      rcases hk with rfl | rfl | hk
      · simp only [CtR, ctk_4.1, ctk_4.2, ha, if_true]
        obtain ⟨v, pj, hin, hv⟩ := c_ctJoinR (x := (s, 0)) (.inr rfl) ⟨rfl, hs⟩ gx
        refine ⟨v, ?_, hin, ?_⟩
        · rcases hv with ⟨e1, rfl⟩ | ⟨e1, rfl⟩
          · exact .inl ⟨e1, rfl⟩
          · exact .inr ⟨e1, tZero, false, tZero_W, rfl⟩
        have hv' : ∃ (y : Ty) (c : Bool) (e : Int), v = .tup [.agg y.cells, .bool c, .int .i64 e] := by
          rcases hv with ⟨_, rfl⟩ | ⟨_, rfl⟩ <;> exact ⟨_, _, _, rfl⟩
        clear hv ia oa er jz gx ea ha
        obtain ⟨y, c, e, rfl⟩ := hv'
        generalize a.ct.1 = ya at *
        intro h
        generalize Fm.mk 4 s l [a] = f at *
        subst hty
        simp only at pj
        refine en Tryz.func265 [.cell 2 25, .tmp 3, .tmp 4] rfl rfl fun g0 w0 gen hrel hfr hfr' hres => ?_
        repeat' (first
          | exact hin _ | exact agf (by assumption)
          | (first | refine wp rfl ?_ | refine spt rfl ?_ | refine spf rfl ?_ | (refine spl (fun hc => ?_) fun hc => ?_) <;> (try rw [beq_iff_eq] at hc) <;> try simp only [hc] | (refine gs (fun hb => ?_) fun hb => ?_) <;> try simp only [Bool.not_true, Bool.not_false] at hb | refine cp (pa) ?_ | refine cp (pj) ?_ | refine finF hrel ?_ ?_ ?_) <;> try simp only [go_sem, *])
      · simp only [CtR, ctk_5.1, ctk_5.2, ha, if_true]
        obtain ⟨v, pj, hin, hv⟩ := c_ctJoinR (x := (s, 0)) (.inl rfl) ⟨rfl, hs⟩ gx
        refine ⟨v, ?_, hin, ?_⟩
        · rcases hv with ⟨e1, rfl⟩ | ⟨e1, rfl⟩
          · exact .inl ⟨e1, rfl⟩
          · exact .inr ⟨e1, tZero, false, tZero_W, rfl⟩
        have hv' : ∃ (y : Ty) (c : Bool) (e : Int), v = .tup [.agg y.cells, .bool c, .int .i64 e] := by
          rcases hv with ⟨_, rfl⟩ | ⟨_, rfl⟩ <;> exact ⟨_, _, _, rfl⟩
        clear hv ia oa er jz gx ea ha
        obtain ⟨y, c, e, rfl⟩ := hv'
        generalize a.ct.1 = ya at *
        intro h
        generalize Fm.mk 5 s l [a] = f at *
        subst hty
        simp only at pj
        refine en Tryz.func265 [.cell 2 25, .tmp 3, .tmp 4] rfl rfl fun g0 w0 gen hrel hfr hfr' hres => ?_
        repeat' (first
          | exact hin _ | exact agf (by assumption)
          | (first | refine wp rfl ?_ | refine spt rfl ?_ | refine spf rfl ?_ | (refine spl (fun hc => ?_) fun hc => ?_) <;> (try rw [beq_iff_eq] at hc) <;> try simp only [hc] | (refine gs (fun hb => ?_) fun hb => ?_) <;> try simp only [Bool.not_true, Bool.not_false] at hb | refine cp (pa) ?_ | refine cp (pj) ?_ | refine finF hrel ?_ ?_ ?_) <;> try simp only [go_sem, *])
      · simp only [CtR, (ctk_67 hk).1, (ctk_67 hk).2, ha, if_true]
        refine ⟨_, .inl ⟨gx.1, rfl⟩, fun S => by simp [InV, InL, InL_Ty], ?_⟩
        intro h
        have hin : ∀ S, InV S (V.tup [.agg a.ct.1.cells, .bool true, .int .i64 0]) := fun S => by simp [InV, InL, InL_Ty]
        have k5 : (k == 5) = false := by rcases hk with rfl | rfl <;> rfl
        have k4 : (k == 4) = false := by rcases hk with rfl | rfl <;> rfl
        have k3 : (k == 3) = false := by rcases hk with rfl | rfl <;> rfl
        have k2 : (k == 2) = false := by rcases hk with rfl | rfl <;> rfl
        have k1 : (k == 1) = false := by rcases hk with rfl | rfl <;> rfl
        clear ia oa er jz gx ea ha hk
        generalize a.ct.1 = ya at *
        generalize Fm.mk k s l [a] = f at *
        refine en Tryz.func265 [.cell 2 25, .tmp 3, .tmp 4] rfl rfl fun g0 w0 gen hrel hfr hfr' hres => ?_
        repeat' (first
          | exact hin _ | exact agf (by assumption)
          | (first | refine wp rfl ?_ | refine spt rfl ?_ | refine spf rfl ?_ | (refine spl (fun hc => ?_) fun hc => ?_) <;> (try rw [beq_iff_eq] at hc) <;> try simp only [hc] | (refine gs (fun hb => ?_) fun hb => ?_) <;> try simp only [Bool.not_true, Bool.not_false] at hb | refine cp (pa) ?_ | refine finF hrel ?_ ?_ ?_) <;> try simp only [go_sem, *])
end Go.Proofs.YtjpheflnapmdcaaGreatDoor
