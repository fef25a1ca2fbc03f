/-
 Walks: several parts in one text.
-/
import Derived.Test.YtmbpmbofehmdaaaGreatDoorGf
import Derived.Test.YtmbpmbofehmdaaaGreatDoorMa
import Derived.Test.YtmbpmbofehmdaaaGreatDoorMg
import Derived.Test.YtmbpmbofehmdaaaGreatDoorMc
import Derived.Test.YtmbpmbofehmdaaaGreatDoorAbsD
set_option linter.unusedSimpArgs false
set_option linter.unusedVariables false
set_option maxRecDepth 20000
set_option maxHeartbeats 4000000
namespace Go.Proofs.YtmbpmbofehmdaaaGreatDoor
open Go GoAbs Go.Proofs
theorem c_universal (f : Fm) (hf : FmW f) (hg : f.good = true) (hs : fmSz f ≤ 1000000) :
  Pure Tryz.prog env 61 [.agg f.cells] (.tup [.sl .any (f.univ.1.map Ty.cells), .agg f.univ.2.cells]) := by
 intro h
 have hb := univ_len f
 generalize hu0 : f.univ = p at *
 obtain ⟨ul, uf⟩ := p
 simp only at hb ⊢
 refine en_ Tryz.func61 [.tmp 2, .cell 3 29] fun g0 w0 gen hrel hfr hfr' hres => ?_
 refine wq_ ?_
 refine AR_loop_nat (fun i σ => σ.tm 1 = .ptr ⟨gen, 0, 0⟩ 0 ∧ σ.tm 3 = .ptr ⟨gen, 0, 2⟩ 0 ∧ σ.h ⟨gen, 0, 2⟩ = some (.box [.int .i64 0, .int .i64 0, .sl .full [], .sl .full [], .sl .full []]) ∧ Agree h σ.h ∧
  ∃ (f' : Fm) (l' : List Ty), σ.h ⟨gen, 0, 0⟩ = some (.box f'.cells) ∧ OwnS h σ.h (σ.tm 4) 2 (l'.map Ty.cells) ∧ FmW f' ∧ f'.good = true ∧ l' ++ f'.univ.1 = ul ∧ f'.univ.2 = uf ∧ l'.length = i) ul.length ?_ ?_
 ·simp only [go_sem, *]
  exact ⟨ag_, f, [], rfl, .inl rfl, hf, hg, by rw [hu0]; rfl, by rw [hu0], rfl⟩
 clear hf hg hu0
 intro i σ hi ⟨j1, j2, j3, j4, f', l', j5, j6, j7, j8, j9, j10, j11⟩
 refine AR_gen (fun gn hgn => ?_)
 have hgf := fresh_of hgn
 have hgf0 : ∀ r i, h ⟨gn, r, i⟩ = none := fun r i => agree_fresh j4 (hgf r i)
 have e1 := gen_ne hgn j5
 have e2 := gen_ne' hgn j5
 clear hgn
 cases k : (f'.kind == 4) with
 | true =>
  obtain ⟨a, ha, ga⟩ := Fm.good_q j8 (.inl (by simpa using k))
  have wa : FmW a := j7.arg (by rw [ha]; simp)
  have hO := c_OwnType f'.type j7.ty
  rw [Fm.univ_4 k ha] at j9 j10
  have hlt : i < ul.length := by
   have := congrArg List.length j9
   simp at this; omega
  clear j7 j8
  have hts : ((l' ++ [f'.type]).map Ty.cells) = l'.map Ty.cells ++ [f'.type.cells] := by simp
  repeat' (first
   |(refine ⟨?_,?_⟩; focus ((repeat' (first|refine ⟨?_,?_⟩|refine .inr ?_)); all_goals kernel_rfl))
   |(refine okE_app_owne j6 (by repeat (first|exact Keeps.refl _|refine Keeps.new ?_ (hgf _ _)|refine Keeps.new ?_ (hfr' _ _)|refine Keeps.box ?_ rfl|refine Keeps.box ?_ (by simp only [go_sem, *]))) rfl (by simp only [go_sem, *] <;> omega) (by first|exact hgf0 _ _|exact hfr' _ _) (by simp only [go_sem, *]) (by intro hd e; simp only [logOk_cons, logOk_nil, and_true]; repeat (first|exact trivial|refine ⟨.inr (by kernel_rfl), ?_⟩|exact .inr (by kernel_rfl))) ?_; intro v' h' id' jO jK jAg jAb jF jI; obtain ⟨cO, rfl⟩ := jO.val; simp only [go_sem, *])
   | (first|refine wp rfl ?_|refine spt rfl ?_|refine spf rfl ?_|(refine spl (fun hc => ?_) fun hc => ?_) <;> (try rw [beq_iff_eq] at hc) <;> try simp only [hc]|refine cp hO ?_|refine AR_inv ?_)<;>try simp only [go_sem, *])
  exact ⟨Agree.new (jAg ag_) (hfr' _ _), a, l' ++ [f'.type], rfl, by rw [hts]; exact jO.keep (Keeps.box (Keeps.refl _) (by rw [jK _ (by rw [j5]; rfl), j5]; rfl)), wa, ga, by simpa using j9, j10, by simp; omega⟩
 | false =>
  rw [Fm.univ_n k] at j9 j10
  simp only [List.append_nil] at j9 j10
  subst j9
  subst j10
  obtain ⟨c, j6⟩ := j6.val
  clear j7 j8
  exact wk_
theorem c_Task (f : Fm) (hf : FmW f) (hs : fmSz f ≤ 1000000) : Pure Tryz.prog env 28 [.agg f.cells] (taskV f.task) := by
 intro h
 have hC := c_fmCheck f hf
 have hzf := zeroF_cells
 have hzt : tZero.cells = [.int .i64 0, .sl .any []] := by simp [tZero, Ty.mk_cells]
 unfold taskV Fm.task
 cases he : (fmErr f != 0) with
 | true =>
  simp only [if_true, List.map_nil]
  clear hf hs
  generalize fmErr f = e at *
  exact ek_ Tryz.func28 [.tmp 2, .cell 3 25, .cell 4 29, .tmp 5]
 | false =>
  have h0 : fmErr f = 0 := by simpa using he
  have hg := Fm.ok_good he
  have hU := c_universal f hf hg hs
  obtain ⟨wu, gu, wt⟩ := univ_good f hf hg
  rw [h0] at hC
  have n0 : ((0 : Int) != 0) = false := rfl
  simp only [Bool.false_eq_true, if_false]
  clear he h0 hs hg hf
  generalize f.univ = p at *
  obtain ⟨ul, uf⟩ := p
  simp only at hU wu gu wt ⊢
  cases k : (uf.kind != 5) with
  | true =>
   simp only [Bool.true_or, if_true, List.map_nil]
   clear wu gu wt
   exact ek_ Tryz.func28 [.tmp 2, .cell 3 25, .cell 4 29, .tmp 5]
  | false =>
   obtain ⟨a, ha, ga⟩ := Fm.good_q gu (.inr (.inl (by simpa using k)))
   have e0 : fa uf 0 = a := fa_at (by rw [ha]; rfl)
   have wa : FmW a := wu.arg (by rw [ha]; simp)
   have hO := c_valOf _ a (Nat.le_refl _) wa ga
   have h1 := c_OwnType uf.type wu.ty
   have h2 := c_OwnFormula a wa
   rw [e0]
   have hn1 : ((Fl.mk false false true).n == 0) = false := rfl
   have hn0 : ((Fl.mk false false false).n == 0) = true := rfl
   clear wu gu wt wa ga e0
   generalize a.fl = x at *
   obtain ⟨x1, x2, x3⟩ := x
   cases x3
   all_goals
    simp only [Bool.false_or, Bool.not_true, Bool.not_false, Bool.false_eq_true, if_true, if_false, List.map_nil]
    exact ek_ Tryz.func28 [.tmp 2, .cell 3 25, .cell 4 29, .tmp 5]
def saneF : Fm := fmQ 4 tNat (fmQ 5 tNat (fmEq (tmVar 0) (tmVar 1)))
theorem saneF_W : FmW saneF := fmQ_W tNat_W (fmQ_W tNat_W (fmEq_W (tmVar_W _) (tmVar_W _)))
theorem saneF_task : saneF.task = (([tNat], tNat), (fmEq (tmVar 0) (tmVar 1), true)) := by
 have g : FmG true saneF := .q (.inl rfl) .nat (.q (.inr (.inl rfl)) .nat (.eq v0_G v1_G))
 have z : fmSz saneF = 5 := by simp [saneF, fmSz_q, fmSz_eq, tmSz_v]
 have e := g.err_val (by omega)
 rw [if_pos (by omega)] at e
 unfold Fm.task
 rw [e]
 rw [saneF, Fm.univ_4 (f := fmQ 4 tNat (fmQ 5 tNat (fmEq (tmVar 0) (tmVar 1)))) rfl rfl, Fm.univ_n (f := fmQ 5 tNat (fmEq (tmVar 0) (tmVar 1))) rfl]
 have e1 : fa (fmQ 5 tNat (fmEq (tmVar 0) (tmVar 1))) 0 = fmEq (tmVar 0) (tmVar 1) := rfl
 simp only [e1, Fm.fl_eqn]
 rfl
theorem c_sane08 : Pure Tryz.prog env 4 [] (.bool true) := by
 intro h
 have hT := c_Task saneF saneF_W (by simp [saneF, fmSz_q, fmSz_eq, tmSz_v])
 rw [saneF_task] at hT
 unfold taskV at hT
 simp only [List.map_cons, List.map_nil] at hT
 have h1 := c_Eq _ _ (tmVar_W 0) (tmVar_W 1)
 have w1 := fmEq_W (tmVar_W 0) (tmVar_W 1)
 have h2 := c_fmQ 5 tNat _ tNat_W w1
 have h3 := c_fmQ 4 tNat _ tNat_W (fmQ_W (k := 5) tNat_W w1)
 have hS := c_refSame _ tNat_W _ tNat_W
 rw [Ty.same_refl] at hS
 have hk : (fmEq (tmVar 0) (tmVar 1)).kind = 1 := rfl
 have n1 : (((1 : Nat) : Int) == 1) = true := rfl
 unfold saneF at hT
 clear w1
 generalize hq : fmQ 4 tNat (fmQ 5 tNat (fmEq (tmVar 0) (tmVar 1))) = q at *
 generalize hq2 : fmQ 5 tNat (fmEq (tmVar 0) (tmVar 1)) = q2 at *
 generalize hq3 : fmEq (tmVar 0) (tmVar 1) = q3 at *
 clear hq hq2 hq3
 refine en_ Tryz.func4 [.tmp 0] fun g0 w0 gen hrel hfr hfr' hres => ?_
 repeat' (first
  |(refine ⟨?_,?_⟩; focus ((repeat' (first|refine ⟨?_,?_⟩|refine .inr ?_)); all_goals kernel_rfl))
  |exact hin _|exact agf (by assumption)
  | (first|refine wp rfl ?_|(refine gs (fun hb => ?_) fun hb => ?_) <;> try simp only [Bool.not_true, Bool.not_false] at hb|refine cp c_refNat ?_|refine cp (c_Var _) ?_|refine cp h1 ?_|refine cp h2 ?_|refine cp h3 ?_|refine cp hT ?_|refine cp hS ?_|refine finF hrel ?_ ?_ ?_)<;>try simp only [go_sem, *])
end Go.Proofs.YtmbpmbofehmdaaaGreatDoor
