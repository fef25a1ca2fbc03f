/-
  Walks: the reference of witnesses and challenges, as a whole.
-/
import Derived.Test.YtdbehnonmffhiaaGreatDoorHg
import Derived.Test.YtdbehnonmffhiaaGreatDoorAbsD
set_option linter.unusedSimpArgs false
set_option linter.unusedVariables false
set_option maxRecDepth 20000
set_option maxHeartbeats 4000000
namespace Go.Proofs.YtdbehnonmffhiaaGreatDoor
open Go GoAbs Go.Proofs

theorem err04_F {t : Ty} (h : TyF t) (hs : tySz t ≤ 1000000) : tyErr t = 0 ∨ tyErr t = 4 := by
  rw [h.err hs]; split
  · exact .inl rfl
  · exact .inr rfl
theorem sized_vals {A B : Ty} (hA : tyErr A = 0 ∨ tyErr A = 4) (hB : tyErr B = 0 ∨ tyErr B = 4) : sized A B = if tyErr A == 0 && tyErr B == 0 then ((A, B), 0) else ((tZero, tZero), 4) := by
  unfold sized
  rcases hA with h | h <;> rw [h]
  · rcases hB with h | h <;> rw [h] <;> rfl
  · rfl

theorem zT_cells : tZero.cells = [.int .i64 0, .sl .any []] := rfl
theorem sized_v {A B : Ty} (hA : tyErr A = 0 ∨ tyErr A = 4) (hB : tyErr B = 0 ∨ tyErr B = 4) : ∃ v, v = V.tup [.agg (sized A B).1.1.cells, .agg (sized A B).1.2.cells, .int .i64 (sized A B).2] ∧ (∀ S, InV S v) ∧
    ((tyErr A != 0) = true → v = V.tup [.agg [.int .i64 0, .sl .any []], .agg [.int .i64 0, .sl .any []], .int .i64 4]) ∧
    ((tyErr A != 0) = false → (tyErr B != 0) = true → v = V.tup [.agg [.int .i64 0, .sl .any []], .agg [.int .i64 0, .sl .any []], .int .i64 4]) ∧
    ((tyErr A != 0) = false → (tyErr B != 0) = false → v = V.tup [.agg A.cells, .agg B.cells, .int .i64 0]) := by
  refine ⟨_, rfl, fun S => by simp [InV, InL, InL_Ty], ?_⟩
  rw [sized_vals hA hB]
  rcases hA with h | h <;> rw [h] <;> rcases hB with h' | h' <;> rw [h'] <;> simp [zT_cells]

theorem c_r28Both {f : Fm} (h : FmG false f) : FmW f → Pure Tryz.prog env 85 [.agg f.cells] (.tup [.agg f.ch.1.1.cells, .agg f.ch.1.2.cells, .int .i64 f.ch.2]) := by
  have hz := zT_cells
  induction h with
  | @eq x y hx hy =>
    intro hw h
    rw [ch_eqn]
    have hk : (fmEq x y).kind = 1 := rfl
    generalize fmEq x y = f at *
    have h1 := c_ref23Unit
    simp only
    refine enter Tryz.func85 [.cell 2 30, .cell 3 30, .tmp 4] rfl (by kernel_rfl) follows (by kernel_rfl) rfl fun g0 w0 gen hrel hfr hfr' hres => ?_
    repeat' (first
      | (refine ⟨?_, ?_⟩; focus ((repeat' (first | refine And.intro ?_ ?_ | refine Or.inr ?_)); all_goals kernel_rfl))
      | exact hin _ | exact agf (by assumption)
      | (first | refine wp rfl ?_ | refine spt rfl ?_ | refine spf rfl ?_ | (refine spl (fun hc => ?_) fun hc => ?_) <;> (try rw [beq_iff_eq] at hc) <;> try simp only [hc] | (refine guarded_split (fun hb => ?_) fun hb => ?_) <;> try simp only [Bool.not_true, Bool.not_false] at hb | refine Call1_pure (h1) ?_ | refine finF hrel ?_ ?_ ?_) <;> try simp only [go_sem, *])
  | @two k a b hk ga gb iha ihb =>
    intro hw h
    have hka : (fmTwo k a b).kind = k := rfl
    have hmap : (fmTwo k a b).args.map Fm.cells = [a.cells, b.cells] := rfl
    have ca := iha (hw.arg (show a ∈ (fmTwo k a b).args by simp [fmTwo, Fm.args]))
    have cb := ihb (hw.arg (show b ∈ (fmTwo k a b).args by simp [fmTwo, Fm.args]))
    rw [ch_two]
    generalize fmTwo k a b = f at *
    have oa := ga.ch
    have ob := gb.ch
    clear ga gb iha ihb hw
    generalize a.ch = ra at *
    generalize b.ch = rb at *
    obtain ⟨⟨wa, xa⟩, ea⟩ := ra
    obtain ⟨⟨wb, xb⟩, eb⟩ := rb
    simp only at ca cb
    rcases oa with ⟨rfl, ta, ta'⟩ | rfl
    case inr =>
      simp only [Int.reduceBEq, Bool.false_eq_true, if_false]
      have n4 : ((4 : Int) != 0) = true := rfl
      rcases hk with rfl | rfl
      all_goals
        clear ob cb
        refine enter Tryz.func85 [.cell 2 30, .cell 3 30, .tmp 4] rfl (by kernel_rfl) follows (by kernel_rfl) rfl fun g0 w0 gen hrel hfr hfr' hres => ?_
        repeat' (first
          | (refine ⟨?_, ?_⟩; focus ((repeat' (first | refine And.intro ?_ ?_ | refine Or.inr ?_)); all_goals kernel_rfl))
          | exact hin _ | exact agf (by assumption)
          | (first | refine wp rfl ?_ | refine spt rfl ?_ | refine spf rfl ?_ | (refine spl (fun hc => ?_) fun hc => ?_) <;> (try rw [beq_iff_eq] at hc) <;> try simp only [hc] | (refine guarded_split (fun hb => ?_) fun hb => ?_) <;> try simp only [Bool.not_true, Bool.not_false] at hb | refine Call1_pure (ca) ?_ | refine finF hrel ?_ ?_ ?_) <;> try simp only [go_sem, *])
    rcases ob with ⟨rfl, tb, tb'⟩ | rfl
    case inr =>
      simp only [Int.reduceBEq, Bool.false_eq_true, if_false, if_true]
      have n4 : ((4 : Int) != 0) = true := rfl
      have n0 : ((0 : Int) != 0) = false := rfl
      rcases hk with rfl | rfl
      all_goals
        refine enter Tryz.func85 [.cell 2 30, .cell 3 30, .tmp 4] rfl (by kernel_rfl) follows (by kernel_rfl) rfl fun g0 w0 gen hrel hfr hfr' hres => ?_
        repeat' (first
          | (refine ⟨?_, ?_⟩; focus ((repeat' (first | refine And.intro ?_ ?_ | refine Or.inr ?_)); all_goals kernel_rfl))
          | exact hin _ | exact agf (by assumption)
          | (first | refine wp rfl ?_ | refine spt rfl ?_ | refine spf rfl ?_ | (refine spl (fun hc => ?_) fun hc => ?_) <;> (try rw [beq_iff_eq] at hc) <;> try simp only [hc] | (refine guarded_split (fun hb => ?_) fun hb => ?_) <;> try simp only [Bool.not_true, Bool.not_false] at hb | refine Call1_pure (ca) ?_ | refine Call1_pure (cb) ?_ | refine finF hrel ?_ ?_ ?_) <;> try simp only [go_sem, *])
    simp only at ta ta' tb tb'
    have z1 := ta.2
    have z2 := ta'.2
    have z3 := tb.2
    have z4 := tb'.2
    have n4 : ((4 : Int) != 0) = true := rfl
    have n0 : ((0 : Int) != 0) = false := rfl
    simp only [beq_self_eq_true, if_true]
    rcases hk with rfl | rfl
    · simp only [chCase, List.getD_cons_zero, List.getD_cons_succ, Int.reduceBEq, if_true]
      have FA : TyF (chPair wa wb) := chPair_F ta.1 tb.1
      have FB : TyF (chPair xa xb) := chPair_F ta'.1 tb'.1
      have eA := err04_F FA (by have := chPair_sz (a := wa) (b := wb); omega)
      have eB := err04_F FB (by have := chPair_sz (a := xa) (b := xb); omega)
      have cA := c_refTyCheck _ FA.W
      have cB := c_refTyCheck _ FB.W
      have p1 := c_r28Pair wa wb
      have p2 := c_r28Pair xa xb
      generalize chPair wa wb = A at *
      generalize chPair xa xb = B at *
      clear FA FB ta ta' tb tb' z1 z2 z3 z4
      obtain ⟨v, hv, hin, v1, v2, v3⟩ := sized_v eA eB
      rw [← hv]
      clear hv eA eB
      generalize tyErr A = e1 at *
      generalize tyErr B = e2 at *
      refine enter Tryz.func85 [.cell 2 30, .cell 3 30, .tmp 4] rfl (by kernel_rfl) follows (by kernel_rfl) rfl fun g0 w0 gen hrel hfr hfr' hres => ?_
      repeat' (first
        | (refine ⟨?_, ?_⟩; focus ((repeat' (first | refine And.intro ?_ ?_ | refine Or.inr ?_)); all_goals kernel_rfl))
        | exact hin _ | exact agf (by assumption)
        | (first | refine wp rfl ?_ | refine spt rfl ?_ | refine spf rfl ?_ | (refine spl (fun hc => ?_) fun hc => ?_) <;> (try rw [beq_iff_eq] at hc) <;> try simp only [hc] | (refine guarded_split (fun hb => ?_) fun hb => ?_) <;> try simp only [Bool.not_true, Bool.not_false] at hb | refine Call1_pure (ca) ?_ | refine Call1_pure (cb) ?_ | refine Call1_pure (p1) ?_ | refine Call1_pure (p2) ?_ | refine Call1_pure (cA) ?_ | refine Call1_pure (cB) ?_ | refine finF hrel ?_ ?_ ?_) <;> try simp only [go_sem, *])
      all_goals first | exact (v1 ‹_›).symm | exact (v2 ‹_› ‹_›).symm | exact (v3 ‹_› ‹_›).symm
    · simp only [chCase, List.getD_cons_zero, List.getD_cons_succ, Int.reduceBEq, if_true, Bool.false_eq_true, if_false]
      have q1 := chFun_sz (a := wa) (b := wb)
      have q2 := chFun_sz (a := xb) (b := xa)
      have q3 := chFun_sz (a := wa) (b := chFun xb xa)
      have FA : TyF (chPair (chFun wa wb) (chFun wa (chFun xb xa))) := chPair_F (chFun_F ta.1 tb.1) (chFun_F ta.1 (chFun_F tb'.1 ta'.1))
      have FB : TyF (chPair wa xb) := chPair_F ta.1 tb'.1
      have eA := err04_F FA (by have := chPair_sz (a := chFun wa wb) (b := chFun wa (chFun xb xa)); omega)
      have eB := err04_F FB (by have := chPair_sz (a := wa) (b := xb); omega)
      have cA := c_refTyCheck _ FA.W
      have cB := c_refTyCheck _ FB.W
      have p1 := c_r28Fun wa wb
      have p2 := c_r28Fun xb xa
      have p3 := c_r28Fun wa (chFun xb xa)
      have p4 := c_r28Pair (chFun wa wb) (chFun wa (chFun xb xa))
      have p5 := c_r28Pair wa xb
      clear q1 q2 q3 FA FB ta ta' tb tb' z1 z2 z3 z4
      generalize chFun wa wb = F1 at *
      generalize chFun xb xa = F2 at *
      generalize chFun wa F2 = F3 at *
      generalize chPair F1 F3 = A at *
      generalize chPair wa xb = B at *
      obtain ⟨v, hv, hin, v1, v2, v3⟩ := sized_v eA eB
      rw [← hv]
      clear hv eA eB
      generalize tyErr A = e1 at *
      generalize tyErr B = e2 at *
      refine enter Tryz.func85 [.cell 2 30, .cell 3 30, .tmp 4] rfl (by kernel_rfl) follows (by kernel_rfl) rfl fun g0 w0 gen hrel hfr hfr' hres => ?_
      repeat' (first
        | (refine ⟨?_, ?_⟩; focus ((repeat' (first | refine And.intro ?_ ?_ | refine Or.inr ?_)); all_goals kernel_rfl))
        | exact hin _ | exact agf (by assumption)
        | (first | refine wp rfl ?_ | refine spt rfl ?_ | refine spf rfl ?_ | (refine spl (fun hc => ?_) fun hc => ?_) <;> (try rw [beq_iff_eq] at hc) <;> try simp only [hc] | (refine guarded_split (fun hb => ?_) fun hb => ?_) <;> try simp only [Bool.not_true, Bool.not_false] at hb | refine Call1_pure (ca) ?_ | refine Call1_pure (cb) ?_ | refine Call1_pure (p1) ?_ | refine Call1_pure (p2) ?_ | refine Call1_pure (p3) ?_ | refine Call1_pure (p4) ?_ | refine Call1_pure (p5) ?_ | refine Call1_pure (cA) ?_ | refine Call1_pure (cB) ?_ | refine finF hrel ?_ ?_ ?_) <;> try simp only [go_sem, *])
      all_goals first | exact (v1 ‹_›).symm | exact (v2 ‹_› ‹_›).symm | exact (v3 ‹_› ‹_›).symm
  | @q k t a hk ht ga iha =>
    intro hw h
    have hka : (fmQ k t a).kind = k := rfl
    have htt : (fmQ k t a).type = t := rfl
    have hmap : (fmQ k t a).args.map Fm.cells = [a.cells] := rfl
    have ca := iha (hw.arg (show a ∈ (fmQ k t a).args by simp [fmQ, Fm.args]))
    rw [ch_q]
    generalize fmQ k t a = f at *
    have oa := ga.ch
    clear ga iha hw
    generalize a.ch = ra at *
    obtain ⟨⟨wa, xa⟩, ea⟩ := ra
    simp only at ca
    have hk' : k = 4 ∨ k = 5 := by rcases hk with h | h | ⟨h, _⟩ <;> first | exact .inl h | exact .inr h | cases h
    clear hk
    have n4 : ((4 : Int) != 0) = true := rfl
    have n0 : ((0 : Int) != 0) = false := rfl
    rcases oa with ⟨rfl, ta, ta'⟩ | rfl
    case inr =>
      simp only [Int.reduceBEq, Bool.false_eq_true, if_false]
      rcases hk' with rfl | rfl
      all_goals
        refine enter Tryz.func85 [.cell 2 30, .cell 3 30, .tmp 4] rfl (by kernel_rfl) follows (by kernel_rfl) rfl fun g0 w0 gen hrel hfr hfr' hres => ?_
        repeat' (first
          | (refine ⟨?_, ?_⟩; focus ((repeat' (first | refine And.intro ?_ ?_ | refine Or.inr ?_)); all_goals kernel_rfl))
          | exact hin _ | exact agf (by assumption)
          | (first | refine wp rfl ?_ | refine spt rfl ?_ | refine spf rfl ?_ | (refine spl (fun hc => ?_) fun hc => ?_) <;> (try rw [beq_iff_eq] at hc) <;> try simp only [hc] | (refine guarded_split (fun hb => ?_) fun hb => ?_) <;> try simp only [Bool.not_true, Bool.not_false] at hb | refine Call1_pure (ca) ?_ | refine finF hrel ?_ ?_ ?_) <;> try simp only [go_sem, *])
    simp only at ta ta'
    have z1 := ta.2
    have z2 := ta'.2
    have z3 := ht.2
    simp only [beq_self_eq_true, if_true]
    rcases hk' with rfl | rfl
    · simp only [chCase, List.getD_cons_zero, List.getD_cons_succ, Int.reduceBEq, if_true, Bool.false_eq_true, if_false]
      have FA : TyF (chFun t wa) := chFun_F ht.1 ta.1
      have FB : TyF (chPair t xa) := chPair_F ht.1 ta'.1
      have eA := err04_F FA (by have := chFun_sz (a := t) (b := wa); omega)
      have eB := err04_F FB (by have := chPair_sz (a := t) (b := xa); omega)
      have cA := c_refTyCheck _ FA.W
      have cB := c_refTyCheck _ FB.W
      have p1 := c_r28Fun t wa
      have p2 := c_r28Pair t xa
      clear FA FB ta ta' ht z1 z2 z3
      generalize chFun t wa = A at *
      generalize chPair t xa = B at *
      obtain ⟨v, hv, hin, v1, v2, v3⟩ := sized_v eA eB
      rw [← hv]
      clear hv eA eB
      generalize tyErr A = e1 at *
      generalize tyErr B = e2 at *
      refine enter Tryz.func85 [.cell 2 30, .cell 3 30, .tmp 4] rfl (by kernel_rfl) follows (by kernel_rfl) rfl fun g0 w0 gen hrel hfr hfr' hres => ?_
      repeat' (first
        | (refine ⟨?_, ?_⟩; focus ((repeat' (first | refine And.intro ?_ ?_ | refine Or.inr ?_)); all_goals kernel_rfl))
        | exact hin _ | exact agf (by assumption)
        | (first | refine wp rfl ?_ | refine spt rfl ?_ | refine spf rfl ?_ | (refine spl (fun hc => ?_) fun hc => ?_) <;> (try rw [beq_iff_eq] at hc) <;> try simp only [hc] | (refine guarded_split (fun hb => ?_) fun hb => ?_) <;> try simp only [Bool.not_true, Bool.not_false] at hb | refine Call1_pure (ca) ?_ | refine Call1_pure (p1) ?_ | refine Call1_pure (p2) ?_ | refine Call1_pure (cA) ?_ | refine Call1_pure (cB) ?_ | refine finF hrel ?_ ?_ ?_) <;> try simp only [go_sem, *])
      all_goals first | exact (v1 ‹_›).symm | exact (v2 ‹_› ‹_›).symm | exact (v3 ‹_› ‹_›).symm
    · simp only [chCase, List.getD_cons_zero, List.getD_cons_succ, Int.reduceBEq, if_true, Bool.false_eq_true, if_false]
      have FA : TyF (chPair t wa) := chPair_F ht.1 ta.1
      have eA := err04_F FA (by have := chPair_sz (a := t) (b := wa); omega)
      have eB := err04_F ta'.1 (by omega)
      have cA := c_refTyCheck _ FA.W
      have cB := c_refTyCheck _ ta'.1.W
      have p1 := c_r28Pair t wa
      clear FA ta ta' ht z1 z2 z3
      generalize chPair t wa = A at *
      obtain ⟨v, hv, hin, v1, v2, v3⟩ := sized_v eA eB
      rw [← hv]
      clear hv eA eB
      generalize tyErr A = e1 at *
      generalize tyErr xa = e2 at *
      refine enter Tryz.func85 [.cell 2 30, .cell 3 30, .tmp 4] rfl (by kernel_rfl) follows (by kernel_rfl) rfl fun g0 w0 gen hrel hfr hfr' hres => ?_
      repeat' (first
        | (refine ⟨?_, ?_⟩; focus ((repeat' (first | refine And.intro ?_ ?_ | refine Or.inr ?_)); all_goals kernel_rfl))
        | exact hin _ | exact agf (by assumption)
        | (first | refine wp rfl ?_ | refine spt rfl ?_ | refine spf rfl ?_ | (refine spl (fun hc => ?_) fun hc => ?_) <;> (try rw [beq_iff_eq] at hc) <;> try simp only [hc] | (refine guarded_split (fun hb => ?_) fun hb => ?_) <;> try simp only [Bool.not_true, Bool.not_false] at hb | refine Call1_pure (ca) ?_ | refine Call1_pure (p1) ?_ | refine Call1_pure (cA) ?_ | refine Call1_pure (cB) ?_ | refine finF hrel ?_ ?_ ?_) <;> try simp only [go_sem, *])
      all_goals first | exact (v1 ‹_›).symm | exact (v2 ‹_› ‹_›).symm | exact (v3 ‹_› ‹_›).symm

theorem c_r28types {f : Fm} (hf : FmG false f) (hw : FmW f) : Pure Tryz.prog env 60 [.agg f.cells] (.tup [.agg f.look.1.1.cells, .agg f.look.1.2.cells, .int .i64 f.look.2]) := by
  intro h
  have hz := zT_cells
  have h1 := c_refFmCheck f hw
  have h2 := c_r28uniform f hw
  have h3 := c_r28Both hf hw
  have he := hf.err
  have n4 : ((4 : Int) != 0) = true := rfl
  have n0 : ((0 : Int) != 0) = false := rfl
  unfold Fm.look
  rw [hf.uni] at h2 ⊢
  clear hf hw
  generalize f.ch = r at *
  obtain ⟨⟨a, b⟩, e⟩ := r
  simp only [Bool.false_eq_true, if_false] at h3 ⊢
  rcases he with he | he <;> rw [he] at h1 ⊢ <;> simp only [Int.reduceBEq, if_true, Bool.false_eq_true, if_false]
  all_goals
    refine enter Tryz.func60 [.cell 2 30, .cell 3 30, .tmp 4] rfl (by kernel_rfl) follows (by kernel_rfl) rfl fun g0 w0 gen hrel hfr hfr' hres => ?_
    repeat' (first
      | exact hin _ | exact agf (by assumption)
      | (first | refine wp rfl ?_ | refine spt rfl ?_ | refine spf rfl ?_ | (refine spl (fun hc => ?_) fun hc => ?_) <;> (try rw [beq_iff_eq] at hc) <;> try simp only [hc] | refine Call1_pure (h1) ?_ | refine Call1_pure (h2) ?_ | refine Call1_pure (h3) ?_ | refine finF hrel ?_ ?_ ?_) <;> try simp only [go_sem, *])

theorem c_r28Witness {f : Fm} (hf : FmG false f) (hw : FmW f) : Pure Tryz.prog env 20 [.agg f.cells] (.tup [.agg f.look.1.1.cells, .int .i64 f.look.2]) := by
  intro h
  have h1 := c_r28types hf hw
  generalize f.look = r at *
  obtain ⟨⟨a, b⟩, e⟩ := r
  simp only at h1 ⊢
  refine enter Tryz.func20 [.cell 2 30, .tmp 3] rfl (by kernel_rfl) follows (by kernel_rfl) rfl fun g0 w0 gen hrel hfr hfr' hres => ?_
  repeat' (first
    | exact hin _ | exact agf (by assumption)
    | (first | refine wp rfl ?_ | refine Call1_pure (h1) ?_ | refine finF hrel ?_ ?_ ?_) <;> try simp only [go_sem, *])

theorem c_r28Challenge {f : Fm} (hf : FmG false f) (hw : FmW f) : Pure Tryz.prog env 21 [.agg f.cells] (.tup [.agg f.look.1.2.cells, .int .i64 f.look.2]) := by
  intro h
  have h1 := c_r28types hf hw
  generalize f.look = r at *
  obtain ⟨⟨a, b⟩, e⟩ := r
  simp only at h1 ⊢
  refine enter Tryz.func21 [.cell 2 30, .tmp 3] rfl (by kernel_rfl) follows (by kernel_rfl) rfl fun g0 w0 gen hrel hfr hfr' hres => ?_
  repeat' (first
    | exact hin _ | exact agf (by assumption)
    | (first | refine wp rfl ?_ | refine Call1_pure (h1) ?_ | refine finF hrel ?_ ?_ ?_) <;> try simp only [go_sem, *])
end Go.Proofs.YtdbehnonmffhiaaGreatDoor
