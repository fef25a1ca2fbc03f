/-
  Walks: bounded quantifiers and their parts; typed formulas (references).
-/
import Derived.Test.YtoaiejpnenfpnaaGreatDoorGr
import Derived.Test.YtoaiejpnenfpnaaGreatDoorGh
import Derived.Test.YtoaiejpnenfpnaaGreatDoorGq
import Derived.Test.YtoaiejpnenfpnaaGreatDoorVc
set_option linter.unusedSimpArgs false
set_option linter.unusedVariables false
set_option maxRecDepth 20000
set_option maxHeartbeats 4000000
namespace Go.Proofs.YtoaiejpnenfpnaaGreatDoor
open Go GoAbs Go.Proofs

theorem c_CheckTerm (t : Tm) (ht : TmW t) : Pure Tryz.prog env 166 [.agg t.cells] (two (chk 4096 t.nodes)) := by
  intro h
  have hc := c_termNodes t ht
  have hin : ∀ S, InV S (two (chk 4096 t.nodes)) := fun S => by simp [two, InV, InL]
  cases hn : t.nodes with
  | none =>
    rw [hn] at hc hin
    refine ret_of_walk Tryz.func166 rfl (by kernel_rfl) follows (by kernel_rfl) ?_
    intro g0 w0 gen hrel hfr
    have hfr' := fresh_of hfr
    have hres : Tryz.f166.results.toList = [.tmp 2, .tmp 3] := rfl
    repeat' (first
      | refine AR_seq ?_ | refine AR_skip ?_ | refine AR_block ?_ | refine AR_block_end ?_ | refine AR_exit ?_ | refine AR_code_exit ?_ | refine AR_inv_exit ?_ | refine AR_block_hit ?_
      | refine AR_block_pass (by decide) ?_ | refine AR_ret ?_ | refine AR_fall ?_
      | (refine ⟨?_, ?_⟩; focus ((repeat' (first | (refine And.intro ?_ ?_) | (refine Or.inr ?_))); all_goals kernel_rfl))
      | refine AR_cond_t rfl ?_ | refine AR_cond_f rfl ?_ | (refine AR_cond rfl (fun hc => ?_) (fun hc => ?_) <;> (try rw [beq_iff_eq] at hc) <;> (try simp only [hc]))
      | ((first | refine AR_region ?_ | (refine guarded_split (fun hb => ?_) (fun hb => ?_) <;> (try simp only [Bool.not_true, Bool.not_false] at hb)) | refine Call1_pure (hc) ?_ | refine AR_fin hrel (by first | exact hin _ | simp only [go_sem, and_self]) (by repeat (first | exact Agree.refl _ | assumption | refine Agree.new ?_ (hgf0 _ _) | refine Agree.new ?_ (hfr' _ _))) ?_) <;> simp only [go_sem, *, reduceIte, Nat.reduceEqDiff, Nat.reduceAdd, Nat.reduceLeDiff, Nat.reduceMul, Nat.reduceBEq, Nat.reduceLT, Nat.reduceSub, Int.reduceBEq, Int.reduceToNat, Int.reduceLE, Int.reduceEq]))
    all_goals simp [two, chk]
  | some n =>
    rw [hn] at hc hin
    refine ret_of_walk Tryz.func166 rfl (by kernel_rfl) follows (by kernel_rfl) ?_
    intro g0 w0 gen hrel hfr
    have hfr' := fresh_of hfr
    have hres : Tryz.f166.results.toList = [.tmp 2, .tmp 3] := rfl
    repeat' (first
      | refine AR_seq ?_ | refine AR_skip ?_ | refine AR_block ?_ | refine AR_block_end ?_ | refine AR_exit ?_ | refine AR_code_exit ?_ | refine AR_inv_exit ?_ | refine AR_block_hit ?_
      | refine AR_block_pass (by decide) ?_ | refine AR_ret ?_ | refine AR_fall ?_
      | (refine ⟨?_, ?_⟩; focus ((repeat' (first | (refine And.intro ?_ ?_) | (refine Or.inr ?_))); all_goals kernel_rfl))
      | refine AR_cond_t rfl ?_ | refine AR_cond_f rfl ?_ | (refine AR_cond rfl (fun hc => ?_) (fun hc => ?_) <;> (try rw [beq_iff_eq] at hc) <;> (try simp only [hc]))
      | ((first | refine AR_region ?_ | (refine guarded_split (fun hb => ?_) (fun hb => ?_) <;> (try simp only [Bool.not_true, Bool.not_false] at hb)) | refine Call1_pure (hc) ?_ | refine AR_fin hrel (by first | exact hin _ | simp only [go_sem, and_self]) (by repeat (first | exact Agree.refl _ | assumption | refine Agree.new ?_ (hgf0 _ _) | refine Agree.new ?_ (hfr' _ _))) ?_) <;> simp only [go_sem, *, reduceIte, Nat.reduceEqDiff, Nat.reduceAdd, Nat.reduceLeDiff, Nat.reduceMul, Nat.reduceBEq, Nat.reduceLT, Nat.reduceSub, Int.reduceBEq, Int.reduceToNat, Int.reduceLE, Int.reduceEq]))
    all_goals (try simp only [decide_eq_true_eq, decide_eq_false_iff_not] at *)
    all_goals first | (have hcn : ¬ 4096 < n := by omega); simp [two, chk, hcn] | (have hcn : 4096 < n := by omega); simp [two, chk, hcn]

theorem c_termsCheck (t : Tm) (ht : TmW t) : Pure Tryz.prog env 112 [.agg t.cells] (.int .i64 (tmErr t)) := by
  intro h
  have hc := c_CheckTerm t ht
  unfold two at hc
  refine ret_of_walk Tryz.func112 rfl (by kernel_rfl) follows (by kernel_rfl) ?_
  intro g0 w0 gen hrel hfr
  have hfr' := fresh_of hfr
  have hres : Tryz.f112.results.toList = [.tmp 2] := rfl
  repeat' (first
    | refine AR_seq ?_ | refine AR_skip ?_ | refine AR_block ?_ | refine AR_block_end ?_ | refine AR_exit ?_ | refine AR_code_exit ?_ | refine AR_inv_exit ?_ | refine AR_block_hit ?_
    | refine AR_block_pass (by decide) ?_ | refine AR_ret ?_ | refine AR_fall ?_
    | (refine ⟨?_, ?_⟩; focus ((repeat' (first | (refine And.intro ?_ ?_) | (refine Or.inr ?_))); all_goals kernel_rfl))
    | refine AR_cond_t rfl ?_ | refine AR_cond_f rfl ?_ | (refine AR_cond rfl (fun hc => ?_) (fun hc => ?_) <;> (try rw [beq_iff_eq] at hc) <;> (try simp only [hc]))
    | ((first | refine AR_region ?_ | (refine guarded_split (fun hb => ?_) (fun hb => ?_) <;> (try simp only [Bool.not_true, Bool.not_false] at hb)) | refine Call1_pure (hc) ?_ | refine AR_fin hrel (by first | exact hin _ | simp only [go_sem, and_self]) (by repeat (first | exact Agree.refl _ | assumption | refine Agree.new ?_ (hgf0 _ _) | refine Agree.new ?_ (hfr' _ _))) ?_) <;> simp only [go_sem, *, reduceIte, Nat.reduceEqDiff, Nat.reduceAdd, Nat.reduceLeDiff, Nat.reduceMul, Nat.reduceBEq, Nat.reduceLT, Nat.reduceSub, Int.reduceBEq, Int.reduceToNat, Int.reduceLE, Int.reduceEq]))
  all_goals simp [tmErr]

theorem c_within (n : Int) (h0 : 0 ≤ n) (h1 : n ≤ 4096) : Pure Tryz.prog env 185 [.int .i64 n] (.bool true) := by
  intro h
  have d1 : decide (n ≥ 0) = true := by simp; omega
  have d2 : decide (n ≤ 4096) = true := by simp; omega
  clear h0 h1
  refine ret_of_walk Tryz.func185 rfl (by kernel_rfl) follows (by kernel_rfl) ?_
  intro g0 w0 gen hrel hfr
  have hfr' := fresh_of hfr
  have hres : Tryz.f185.results.toList = [.tmp 2] := rfl
  repeat' (first
    | refine AR_seq ?_ | refine AR_skip ?_ | refine AR_block ?_ | refine AR_block_end ?_ | refine AR_exit ?_ | refine AR_code_exit ?_ | refine AR_inv_exit ?_ | refine AR_block_hit ?_
    | refine AR_block_pass (by decide) ?_ | refine AR_ret ?_ | refine AR_fall ?_
    | (refine ⟨?_, ?_⟩; focus ((repeat' (first | (refine And.intro ?_ ?_) | (refine Or.inr ?_))); all_goals kernel_rfl))
    | refine AR_cond_t rfl ?_ | refine AR_cond_f rfl ?_ | (refine AR_cond rfl (fun hc => ?_) (fun hc => ?_) <;> (try rw [beq_iff_eq] at hc) <;> (try simp only [hc]))
    | ((first | refine AR_region ?_ | (refine guarded_split (fun hb => ?_) (fun hb => ?_) <;> (try simp only [Bool.not_true, Bool.not_false] at hb)) | refine AR_fin hrel (by first | exact hin _ | simp only [go_sem, and_self]) (by repeat (first | exact Agree.refl _ | assumption | refine Agree.new ?_ (hgf0 _ _) | refine Agree.new ?_ (hfr' _ _))) ?_) <;> simp only [go_sem, *, reduceIte, Nat.reduceEqDiff, Nat.reduceAdd, Nat.reduceLeDiff, Nat.reduceMul, Nat.reduceBEq, Nat.reduceLT, Nat.reduceSub, Int.reduceBEq, Int.reduceToNat, Int.reduceLE, Int.reduceEq]))

theorem c_substLift (t : Tm) (ht : TmW t) (gt : TmG t) (zt : tmSz t ≤ 4096) (lt : t.least 536870912 = true) :
    Pure Tryz.prog env 129 [.agg t.cells, .int .i64 0, .int .i64 1] (.tup [.agg (t.up 1 0).cells, .int .i64 0]) := by
  intro h
  have h1 := c_termsCheck t ht
  have h2 := c_Near t ht
  have h3 := c_tLift t ht 0 1
  have h4 := c_within 0 (by omega) (by omega)
  have h5 := c_within 1 (by omega) (by omega)
  rw [gt.err0 zt] at h1
  rw [near_ok lt] at h2
  rw [tLift_up gt (by omega) lt (by omega) (by omega) (by omega) (by omega)] at h3
  have n0 : ((0 : Int) != 0) = false := rfl
  clear gt zt lt ht
  generalize t.up 1 0 = v at *
  refine ret_of_walk Tryz.func129 rfl (by kernel_rfl) follows (by kernel_rfl) ?_
  intro g0 w0 gen hrel hfr
  have hfr' := fresh_of hfr
  have hres : Tryz.f129.results.toList = [.cell 6 51, .tmp 7] := rfl
  repeat' (first
    | refine AR_seq ?_ | refine AR_skip ?_ | refine AR_block ?_ | refine AR_block_end ?_ | refine AR_exit ?_ | refine AR_code_exit ?_ | refine AR_inv_exit ?_ | refine AR_block_hit ?_
    | refine AR_block_pass (by decide) ?_ | refine AR_ret ?_ | refine AR_fall ?_
    | (refine ⟨?_, ?_⟩; focus ((repeat' (first | (refine And.intro ?_ ?_) | (refine Or.inr ?_))); all_goals kernel_rfl))
    | refine AR_cond_t rfl ?_ | refine AR_cond_f rfl ?_ | (refine AR_cond rfl (fun hc => ?_) (fun hc => ?_) <;> (try rw [beq_iff_eq] at hc) <;> (try simp only [hc]))
    | ((first | refine AR_region ?_ | (refine guarded_split (fun hb => ?_) (fun hb => ?_) <;> (try simp only [Bool.not_true, Bool.not_false] at hb)) | refine Call1_pure (h1) ?_ | refine Call1_pure (h2) ?_ | refine Call1_pure (h3) ?_ | refine Call1_pure (h4) ?_ | refine Call1_pure (h5) ?_ | refine AR_fin hrel (by first | exact hin _ | simp only [go_sem, and_self]) (by repeat (first | exact Agree.refl _ | assumption | refine Agree.new ?_ (hgf0 _ _) | refine Agree.new ?_ (hfr' _ _))) ?_) <;> simp only [go_sem, *, reduceIte, Nat.reduceEqDiff, Nat.reduceAdd, Nat.reduceLeDiff, Nat.reduceMul, Nat.reduceBEq, Nat.reduceLT, Nat.reduceSub, Int.reduceBEq, Int.reduceToNat, Int.reduceLE, Int.reduceEq]))

theorem c_Form (k : Int) (l : List Fm) : Pure Tryz.prog env 133 [.int .i64 k, .sl .any (l.map Fm.cells)] (.agg (Fm.mk k (.mk 0 []) [] l).cells) := by
  intro h
  refine ret_of_walk Tryz.func133 rfl (by kernel_rfl) follows (by kernel_rfl) ?_
  intro g0 w0 gen hrel hfr
  have hfr' := fresh_of hfr
  have hres : Tryz.f133.results.toList = [.cell 4 35] := rfl
  repeat' (first
    | refine AR_seq ?_ | refine AR_skip ?_ | refine AR_block ?_ | refine AR_block_end ?_ | refine AR_exit ?_ | refine AR_code_exit ?_ | refine AR_inv_exit ?_ | refine AR_block_hit ?_
    | refine AR_block_pass (by decide) ?_ | refine AR_ret ?_ | refine AR_fall ?_
    | (refine ⟨?_, ?_⟩; focus ((repeat' (first | (refine And.intro ?_ ?_) | (refine Or.inr ?_))); all_goals kernel_rfl))
    | refine AR_cond_t rfl ?_ | refine AR_cond_f rfl ?_ | (refine AR_cond rfl (fun hc => ?_) (fun hc => ?_) <;> (try rw [beq_iff_eq] at hc) <;> (try simp only [hc]))
    | ((first | refine AR_region ?_ | (refine guarded_split (fun hb => ?_) (fun hb => ?_) <;> (try simp only [Bool.not_true, Bool.not_false] at hb)) | refine AR_fin hrel (by first | exact hin _ | simp only [go_sem, and_self]) (by repeat (first | exact Agree.refl _ | assumption | refine Agree.new ?_ (hgf0 _ _) | refine Agree.new ?_ (hfr' _ _))) ?_) <;> simp only [go_sem, *, reduceIte, Nat.reduceEqDiff, Nat.reduceAdd, Nat.reduceLeDiff, Nat.reduceMul, Nat.reduceBEq, Nat.reduceLT, Nat.reduceSub, Int.reduceBEq, Int.reduceToNat, Int.reduceLE, Int.reduceEq]))
  all_goals simp [Fm.mk_cells, Ty.mk_kind, Ty.mk_args]

theorem c_Quantified (k : Int) (t : Ty) (f : Fm) : Pure Tryz.prog env 131 [.int .i64 k, .agg t.cells, .agg f.cells] (.agg (fmQ k t f).cells) := by
  intro h
  refine ret_of_walk Tryz.func131 rfl (by kernel_rfl) follows (by kernel_rfl) ?_
  intro g0 w0 gen hrel hfr
  have hfr' := fresh_of hfr
  have hres : Tryz.f131.results.toList = [.cell 6 35] := rfl
  repeat' (first
    | refine AR_seq ?_ | refine AR_skip ?_ | refine AR_block ?_ | refine AR_block_end ?_ | refine AR_exit ?_ | refine AR_code_exit ?_ | refine AR_inv_exit ?_ | refine AR_block_hit ?_
    | refine AR_block_pass (by decide) ?_ | refine AR_ret ?_ | refine AR_fall ?_
    | (refine ⟨?_, ?_⟩; focus ((repeat' (first | (refine And.intro ?_ ?_) | (refine Or.inr ?_))); all_goals kernel_rfl))
    | refine AR_cond_t rfl ?_ | refine AR_cond_f rfl ?_ | (refine AR_cond rfl (fun hc => ?_) (fun hc => ?_) <;> (try rw [beq_iff_eq] at hc) <;> (try simp only [hc]))
    | ((first | refine AR_region ?_ | (refine guarded_split (fun hb => ?_) (fun hb => ?_) <;> (try simp only [Bool.not_true, Bool.not_false] at hb)) | refine AR_fin hrel (by first | exact hin _ | simp only [go_sem, and_self]) (by repeat (first | exact Agree.refl _ | assumption | refine Agree.new ?_ (hgf0 _ _) | refine Agree.new ?_ (hfr' _ _))) ?_) <;> simp only [go_sem, *, reduceIte, Nat.reduceEqDiff, Nat.reduceAdd, Nat.reduceLeDiff, Nat.reduceMul, Nat.reduceBEq, Nat.reduceLT, Nat.reduceSub, Int.reduceBEq, Int.reduceToNat, Int.reduceLE, Int.reduceEq]))
  all_goals simp [fmQ, Fm.mk_cells, Ty.mk_kind, Ty.mk_args]

theorem c_clsBounded (all : Bool) (t : Tm) (ht : TmW t) (gt : TmG t) (zt : tmSz t ≤ 1000) (lt : t.least 536870912 = true) (f : Fm) (hf : FmW f) (gf : FmG true f) (zf : fmSz f ≤ 3000) :
    Pure Tryz.prog env 55 [.bool all, .agg t.cells, .agg f.cells] (.tup [.agg (bndF all (t.up 1 0) f).cells, .int .i64 0]) := by
  intro h
  have h1 := c_substLift t ht gt (by omega) lt
  have h2 := c_fmCheck f hf
  rw [gf.err0 (by omega)] at h2
  have h3 := c_joint all
  have h4 := c_less (tmVar 0) (t.up 1 0)
  have h5 := c_OwnFormula f hf
  have hu := TmG.up (b := 1) (by omega) (by omega) _ gt (Nat.le_refl _) lt 0
  have zu := tmSz_up (b := 1) t 0
  have wu : TmW (t.up 1 0) := by
    have key : ∀ (t : Tm) (fr : Int), TmW t → TmW (t.up 1 fr) := by
      intro t
      induction t using Tm.ind with | h t ih => ?_
      intro fr ht
      rw [Tm.up_eq]
      refine .mk _ _ _ _ ht.ty (by rw [List.length_map]; exact ht.len) ?_
      intro x hx
      obtain ⟨y, hy, rfl⟩ := List.mem_map.1 hx
      exact ih y hy _ (ht.arg hy)
    exact key t 0 ht
  have h8 := c_fmCheck _ (bndF_W (all := all) wu hf)
  rw [(bndF_G (all := all) hu gf).err0 (by rw [bndF_sz]; omega)] at h8
  unfold bndF at h8 ⊢
  have h6 := c_Form (if all then 3 else 2) [lessF (tmVar 0) (t.up 1 0), f]
  have h7 := c_Quantified (if all then 4 else 5) tNat (fmTwo (if all then 3 else 2) (lessF (tmVar 0) (t.up 1 0)) f)
  have e6 : Fm.mk (if all then 3 else 2) (.mk 0 []) [] [lessF (tmVar 0) (t.up 1 0), f] = fmTwo (if all then 3 else 2) (lessF (tmVar 0) (t.up 1 0)) f := rfl
  rw [e6] at h6
  simp only [List.map_cons, List.map_nil] at h6
  have n0 : ((0 : Int) != 0) = false := rfl
  clear e6 gt zt lt gf zf hu zu wu hf ht
  generalize lessF (tmVar 0) (t.up 1 0) = z1 at *
  generalize t.up 1 0 = z0 at *
  generalize fmTwo (if all then 3 else 2) z1 f = z2 at *
  generalize fmQ (if all then 4 else 5) tNat z2 = z3 at *
  cases all
  all_goals
    simp only [if_true, Bool.false_eq_true, if_false] at h3 h6 h7
    refine ret_of_walk Tryz.func55 rfl (by kernel_rfl) follows (by kernel_rfl) ?_
    intro g0 w0 gen hrel hfr
    have hfr' := fresh_of hfr
    have hres : Tryz.f55.results.toList = [.cell 6 35, .tmp 7] := rfl
    repeat' (first
      | refine AR_seq ?_ | refine AR_skip ?_ | refine AR_block ?_ | refine AR_block_end ?_ | refine AR_exit ?_ | refine AR_code_exit ?_ | refine AR_inv_exit ?_ | refine AR_block_hit ?_
      | refine AR_block_pass (by decide) ?_ | refine AR_ret ?_ | refine AR_fall ?_
      | (refine ⟨?_, ?_⟩; focus ((repeat' (first | (refine And.intro ?_ ?_) | (refine Or.inr ?_))); all_goals kernel_rfl))
      | refine AR_cond_t rfl ?_ | refine AR_cond_f rfl ?_ | (refine AR_cond rfl (fun hc => ?_) (fun hc => ?_) <;> (try rw [beq_iff_eq] at hc) <;> (try simp only [hc]))
      | ((first | refine AR_region ?_ | (refine guarded_split (fun hb => ?_) (fun hb => ?_) <;> (try simp only [Bool.not_true, Bool.not_false] at hb)) | refine Call1_pure (h1) ?_ | refine Call1_pure (h2) ?_ | refine Call1_pure (h3) ?_ | refine Call1_pure (h4) ?_ | refine Call1_pure (h5) ?_ | refine Call1_pure (h6) ?_ | refine Call1_pure (h7) ?_ | refine Call1_pure (h8) ?_ | refine Call1_pure (c_tVar 0) ?_ | refine Call1_pure (c_tNat) ?_ | refine AR_fin hrel (by first | exact hin _ | simp only [go_sem, and_self]) (by repeat (first | exact Agree.refl _ | assumption | refine Agree.new ?_ (hgf0 _ _) | refine Agree.new ?_ (hfr' _ _))) ?_) <;> simp only [go_sem, *, reduceIte, Nat.reduceEqDiff, Nat.reduceAdd, Nat.reduceLeDiff, Nat.reduceMul, Nat.reduceBEq, Nat.reduceLT, Nat.reduceSub, Int.reduceBEq, Int.reduceToNat, Int.reduceLE, Int.reduceEq]))

theorem c_clsBound (all : Bool) (t : Tm) (gt : TmG t) (zt : tmSz t ≤ 1000) (lt : t.least 536870912 = true) (hc : (t.up 1 0).count 0 = 0) (f : Fm) (hf : FmW f)
    (hb : FmW (bndF all (t.up 1 0) f)) (he : fmErr (bndF all (t.up 1 0) f) = 0) (wu : TmW (t.up 1 0)) :
    Pure Tryz.prog env 56 [.agg (bndF all (t.up 1 0) f).cells] (.tup [.bool all, .agg t.cells, .agg f.cells, .bool true]) := by
  intro h
  have h1 := c_fmCheck _ hb
  rw [he] at h1
  have he' : (fmErr (bndF all (t.up 1 0) f) != 0) = false := by rw [he]; rfl
  have h2 := c_bound _ hb (Fm.ok_good he') (by cases all <;> simp [bndF, fmQ, Fm.kind])
  have e1 : bndTerm (bndF all (t.up 1 0) f) = t.up 1 0 := rfl
  have e2 : bndBody (bndF all (t.up 1 0) f) = f := rfl
  have e3 : ((bndF all (t.up 1 0) f).kind == 4) = all := by cases all <;> rfl
  unfold boundV at h2
  rw [if_pos (bndF_bnd hc), e1, e2, e3] at h2
  have h3 := c_tPut (t.up 1 0) wu 0 zeroT zeroT_W
  have e4 : tPut (t.up 1 0) 0 zeroT = t := TmG.put_up (s := zeroT) _ gt (Nat.le_refl _) lt 0 (by omega) (by omega)
  rw [e4, zeroT_cells] at h3
  have h4 := c_OwnFormula f hf
  have n0 : ((0 : Int) != 0) = false := rfl
  clear he he' e1 e2 e3 e4 gt zt lt hc hb wu hf
  generalize bndF all (t.up 1 0) f = z at *
  generalize t.up 1 0 = z0 at *
  refine ret_of_walk Tryz.func56 rfl (by kernel_rfl) follows (by kernel_rfl) ?_
  intro g0 w0 gen hrel hfr
  have hfr' := fresh_of hfr
  have hres : Tryz.f56.results.toList = [.tmp 2, .cell 3 51, .cell 4 35, .tmp 5] := rfl
  repeat' (first
    | refine AR_seq ?_ | refine AR_skip ?_ | refine AR_block ?_ | refine AR_block_end ?_ | refine AR_exit ?_ | refine AR_code_exit ?_ | refine AR_inv_exit ?_ | refine AR_block_hit ?_
    | refine AR_block_pass (by decide) ?_ | refine AR_ret ?_ | refine AR_fall ?_
    | (refine ⟨?_, ?_⟩; focus ((repeat' (first | (refine And.intro ?_ ?_) | (refine Or.inr ?_))); all_goals kernel_rfl))
    | refine AR_cond_t rfl ?_ | refine AR_cond_f rfl ?_ | (refine AR_cond rfl (fun hc => ?_) (fun hc => ?_) <;> (try rw [beq_iff_eq] at hc) <;> (try simp only [hc]))
    | ((first | refine AR_region ?_ | (refine guarded_split (fun hb => ?_) (fun hb => ?_) <;> (try simp only [Bool.not_true, Bool.not_false] at hb)) | refine Call1_pure (h1) ?_ | refine Call1_pure (h2) ?_ | refine Call1_pure (h3) ?_ | refine Call1_pure (h4) ?_ | refine AR_fin hrel (by first | exact hin _ | simp only [go_sem, and_self]) (by repeat (first | exact Agree.refl _ | assumption | refine Agree.new ?_ (hgf0 _ _) | refine Agree.new ?_ (hfr' _ _))) ?_) <;> simp only [go_sem, *, reduceIte, Nat.reduceEqDiff, Nat.reduceAdd, Nat.reduceLeDiff, Nat.reduceMul, Nat.reduceBEq, Nat.reduceLT, Nat.reduceSub, Int.reduceBEq, Int.reduceToNat, Int.reduceLE, Int.reduceEq]))
end Go.Proofs.YtoaiejpnenfpnaaGreatDoor
