/-
 Walks: typed formulas (references); the law of bounded quantifiers.
-/
import Derived.Test.YtkoeoklndhgejaaGreatDoorMn
import Derived.Test.YtkoeoklndhgejaaGreatDoorGl
import Derived.Test.YtkoeoklndhgejaaGreatDoorMr
import Derived.Test.YtkoeoklndhgejaaGreatDoorMd
set_option linter.unusedSimpArgs false
set_option linter.unusedVariables false
set_option maxRecDepth 20000
set_option maxHeartbeats 4000000
namespace Go.Proofs.YtkoeoklndhgejaaGreatDoor
open Go GoAbs Go.Proofs
theorem c_refContext (g : List Ty) (hg : ∀ y ∈ g, TyG y) (hl : g.length ≤ 16) : Pure Tryz.prog env 95 [.sl .any (g.map Ty.cells)] (.int .i64 0) := by
 intro h
 have d1 : decide ((g.length : Int) > 16) = false := by simp; omega
 have n0 : ((0 : Int) != 0) = false := rfl
 have hc : ∀ y ∈ g, Pure Tryz.prog env 144 [.agg y.cells] (.int .i64 0) := fun y hy => by
  have := c_refTyCheck y (hg y hy).1.W
  rw [(hg y hy).err] at this; exact this
 clear hg
 refine en_ Tryz.func95 [.tmp 2] fun g0 w0 gen hrel hfr hfr' hres => ?_
 refine wq_ ?_
 refine ar_ [9] [] (fun i σ => Agree h σ.h ∧ True) (g).length ?_ ?_ ?_
 ·simp only [go_sem, *]
  exact ag_
 ·
  intro i σ gr0 hgl_gr0 hgn hlt jI jN jS ⟨jA, _⟩
  obtain ⟨jT, jB⟩ := jS
  simp only [go_sem] at jT jB
  obtain ⟨hgf, hgf0, eg_gen_gr0, eh_gen_gr0⟩ := rnd hgn hgl_gr0 jA
  obtain ⟨x, hx, hxm, hm⟩ := rnx hlt
  clear hgn
  have h1 := hc x hxm
  clear hc
  first|refine wq_ ?_|exact wk_
  all_goals exact Agree.new jA (hgf0 _ _)
 ·clear hc
  intro σ ga0 hgl_ga0 hgn jS ⟨jA, _⟩
  obtain ⟨jT, jB⟩ := jS
  simp only [go_sem] at jT jB
  obtain ⟨hgf, hgf0, eg_gen_ga0, eh_gen_ga0⟩ := rnd hgn hgl_ga0 jA
  clear hgn
  exact wk_
theorem c_refTyped (g : List Ty) (t : Tm) (s : Ty) (h : HasTy TyG g t s) (hg : ∀ y ∈ g, TyW y) (ht : TmW t) (he : tmErr t = 0) (hb : g.length + tmSz t ≤ 1000000) :
  Pure Tryz.prog env 187 [.sl .any (g.map Ty.cells), .agg t.cells] (.tup [.agg s.cells, .int .i64 0]) := by
 have h1 := c_tmCheck t ht
 rw [he] at h1
 have h2 := c_infer h hg ht hb
 have n0 : ((0 : Int) != 0) = false := rfl
 clear h hg ht he hb
 intro h
 exact ek_ Tryz.func187 [.cell 4 25, .tmp 5]
theorem fmTy_parts {g : List Ty} {f : Fm} (h : FmTy TyG g f) : (∀ x ∈ f.terms, HasTy TyG g x tNat) ∧ (∀ x ∈ f.args, FmTy TyG (if quant f.kind then g ++ [f.type] else g) x) := by
 cases h with
 | eq h1 h2 => exact ⟨by intro x hx; simp [fmEq, Fm.terms] at hx; rcases hx with rfl | rfl <;> assumption, by simp [fmEq, Fm.args]⟩
 | @two g k a b hk h1 h2 =>
  have e : quant k = false := by rcases hk with rfl | rfl <;> rfl
  refine ⟨by simp [fmTwo, Fm.terms], ?_⟩
  intro x hx
  simp only [fmTwo, Fm.args, Fm.kind, e, Bool.false_eq_true, if_false, List.mem_cons, List.not_mem_nil, or_false] at hx ⊢
  rcases hx with rfl | rfl <;> assumption
 | @q g k s a hk h1 =>
  have e : quant k = true := by rcases hk with rfl | rfl | rfl | rfl <;> rfl
  refine ⟨by simp [fmQ, Fm.terms], ?_⟩
  intro x hx
  simp only [fmQ, Fm.args, Fm.kind, Fm.type, e, if_true, List.mem_cons, List.not_mem_nil, or_false] at hx ⊢
  subst hx; exact h1
theorem c_typed : ∀ (n : Nat) (f : Fm) (g : List Ty), fmSz f ≤ n → FmTy TyG g f → FmG true f → fmSz f ≤ 4096 → FmW f → (∀ y ∈ g, TyW y) → g.length + fmSz f ≤ 100000 →
  Pure Tryz.prog env 145 [.sl .any (g.map Ty.cells), .agg f.cells] (.int .i64 0) := by
 intro n
 induction n with
 | zero =>
  intro f g hn; have : 1 ≤ fmSz f := by (cases f; rw [fmSz]; omega)
  omega
 | succ n ih =>
 intro f g hn hf gf zf wf hg hb h
 have hlen := wf.len
 have htlen := wf.tlen
 obtain ⟨p1, p2⟩ := fmTy_parts hf
 have gT : ∀ x ∈ f.terms, TmG x := by
  cases gf with
  | eq hx hy => intro x hx'; simp [fmEq, Fm.terms] at hx'; rcases hx' with rfl | rfl <;> assumption
  | two => simp [fmTwo, Fm.terms]
  | q => simp [fmQ, Fm.terms]
 have gA : ∀ x ∈ f.args, FmG true x := by
  cases gf with
  | eq => simp [fmEq, Fm.args]
  | two hk ha hb => intro x hx'; simp [fmTwo, Fm.args] at hx'; rcases hx' with rfl | rfl <;> assumption
  | q hk hs ha => intro x hx'; simp [fmQ, Fm.args] at hx'; subst hx'; assumption
 have sT : ∀ x ∈ f.terms, tmSz x < fmSz f := by
  intro x hx
  obtain ⟨k, t, l, a⟩ := f
  rw [fmSz]
  have := tmSzL_mem (show x ∈ l from hx)
  omega
 have hterm : ∀ x ∈ f.terms, Pure Tryz.prog env 187 [.sl .any (g.map Ty.cells), .agg x.cells] (.tup [.agg tNat.cells, .int .i64 0]) := by
  intro x hx
  have hs := sT x hx
  exact c_refTyped g x tNat (p1 x hx) hg (wf.term hx) ((gT x hx).err0 (by omega)) (by omega)
 have hq := c_quant f.kind
 have hk1 : ((1 : Int) != 1) = false := rfl
 have n0 : ((0 : Int) != 0) = false := rfl
 have hnk : tNat.kind = 1 := rfl
 have t1 : (0 : Int) ≤ (g.length : Int) := by omega
 have t2 : ((g.length : Int)).toNat = g.length := Int.toNat_natCast _
 have t3 : List.take g.length (g.map Ty.cells) = g.map Ty.cells := List.take_of_length_le (by simp)
 have t4 : 0 ≤ g.length := by omega
 have t5 : g.length ≤ g.length := Nat.le_refl _
 have mn : ∀ (f : Operand → V), Option.map f none = none := fun _ => rfl
 have ml : (g.map Ty.cells).length = g.length := by simp
 have b3 : (g.length + 1) * 32 ≤ 140737488355328 := by omega
 have b4 : g.length + 1 ≤ 140737488355328 := by omega
 have harg : ∀ x ∈ f.args, Pure Tryz.prog env 145 [.sl .any ((if quant f.kind then g ++ [f.type] else g).map Ty.cells), .agg x.cells] (.int .i64 0) := by
  intro x hx
  have hs := fmSz_arg hx
  refine ih x _ (by omega) (p2 x hx) (gA x hx) (by omega) (wf.arg hx) ?_ ?_
  ·intro y hy
   split at hy
   ·rcases List.mem_append.1 hy with hy | hy
    ·exact hg y hy
    ·simp at hy; subst hy; exact wf.ty
   ·exact hg y hy
  ·split <;> (try simp only [List.length_append, List.length_cons, List.length_nil]) <;> omega
 clear ih p1 p2 gT gA sT hf gf wf hg
 refine en_ Tryz.func145 [.tmp 4] fun g0 w0 gen hrel hfr hfr' hres => ?_
 refine wq_ ?_
 refine ar_ [0, 3, 13] [⟨gen, 0, 0⟩] (fun i σ => Agree h σ.h ∧ True) (f.terms).length ?_ ?_ ?_
 ·simp only [go_sem, *]
  exact ag_
 ·clear harg
  intro i σ gr0 hgl_gr0 hgn hlt jI jN jS ⟨jA, _⟩
  obtain ⟨jT, jB⟩ := jS
  simp only [go_sem] at jT jB
  obtain ⟨hgf, hgf0, eg_gen_gr0, eh_gen_gr0⟩ := rnd hgn hgl_gr0 jA
  obtain ⟨x, hx, hxm, hm⟩ := rnx hlt
  clear hgn
  have h1 := hterm x hxm
  clear hterm
  first|refine wq_ ?_|exact wk_
  all_goals exact (by repeat (first|exact jA|refine Agree.new ?_ (hgf0 _ _)))
 clear hterm
 intro σ ga0 hgl_ga0 hgn jS ⟨jA, _⟩
 obtain ⟨jT, jB⟩ := jS
 simp only [go_sem] at jT jB
 obtain ⟨hgf, hgf0, eg_gen_ga0, eh_gen_ga0⟩ := rnd hgn hgl_ga0 jA
 clear hgn
 have hwk : weakLL (g.map Ty.cells ++ [f.type.cells]) = (g ++ [f.type]).map Ty.cells := by rw [← weakLL_Ty (g ++ [f.type])]; simp
 cases hqq : quant f.kind with
 | false =>
  rw [hqq] at hq harg
  simp only [Bool.false_eq_true, if_false] at harg
  clear hqq
  refine wq_ ?_
  refine ar_ [0, 46] [] (fun i σ => Agree h σ.h ∧ True) (f.args).length ?_ ?_ ?_
  ·simp only [go_sem, *]
   first | done|exact ag_|exact ⟨ag_, jA⟩|exact jA
  ·
   intro i σ gr1 hgl_gr1 hgn hlt jI jN jS ⟨jA, _⟩
   obtain ⟨jT, jB⟩ := jS
   simp only [go_sem] at jT jB
   have hgf := fresh_of hgn
   have hgf0 := fun r i => agree_fresh jA (hgf r i)
   have eg_gen_gr1 := gen_lt (show gen < gr1 by omega)
   have eh_gen_gr1 := gen_lt' (show gen < gr1 by omega)
   have eg_ga0_gr1 := gen_lt (show ga0 < gr1 by omega)
   have eh_ga0_gr1 := gen_lt' (show ga0 < gr1 by omega)
   obtain ⟨x, hx, hxm, hm⟩ := rnx hlt
   clear hgn
   have h1 := harg x hxm
   clear harg
   first|refine wq_ ?_|exact wk_
   all_goals exact (by repeat (first|exact jA|refine Agree.new ?_ (hgf0 _ _)))
  ·clear harg
   intro σ ga1 hgl_ga1 hgn jS ⟨jA, _⟩
   obtain ⟨jT, jB⟩ := jS
   simp only [go_sem] at jT jB
   have hgf := fresh_of hgn
   have hgf0 := fun r i => agree_fresh jA (hgf r i)
   have eg_gen_ga1 := gen_lt (show gen < ga1 by omega)
   have eh_gen_ga1 := gen_lt' (show gen < ga1 by omega)
   have eg_ga0_ga1 := gen_lt (show ga0 < ga1 by omega)
   have eh_ga0_ga1 := gen_lt' (show ga0 < ga1 by omega)
   clear hgn
   exact wk_
 | true =>
  rw [hqq] at hq harg
  simp only [if_true] at harg
  clear hqq
  refine wq_ ?_
  refine ar_ [0, 46] [] (fun i σ => Agree h σ.h ∧ True) (f.args).length ?_ ?_ ?_
  ·simp only [go_sem, *]
   first | done|exact ag_|exact ⟨ag_, jA⟩|exact jA
  ·
   intro i σ gr1 hgl_gr1 hgn hlt jI jN jS ⟨jA, _⟩
   obtain ⟨jT, jB⟩ := jS
   simp only [go_sem] at jT jB
   have hgf := fresh_of hgn
   have hgf0 := fun r i => agree_fresh jA (hgf r i)
   have eg_gen_gr1 := gen_lt (show gen < gr1 by omega)
   have eh_gen_gr1 := gen_lt' (show gen < gr1 by omega)
   have eg_ga0_gr1 := gen_lt (show ga0 < gr1 by omega)
   have eh_ga0_gr1 := gen_lt' (show ga0 < gr1 by omega)
   obtain ⟨x, hx, hxm, hm⟩ := rnx hlt
   clear hgn
   have h1 := harg x hxm
   clear harg
   first|refine wq_ ?_|exact wk_
   all_goals exact (by repeat (first|exact jA|refine Agree.new ?_ (hgf0 _ _)))
  ·clear harg
   intro σ ga1 hgl_ga1 hgn jS ⟨jA, _⟩
   obtain ⟨jT, jB⟩ := jS
   simp only [go_sem] at jT jB
   have hgf := fresh_of hgn
   have hgf0 := fun r i => agree_fresh jA (hgf r i)
   have eg_gen_ga1 := gen_lt (show gen < ga1 by omega)
   have eh_gen_ga1 := gen_lt' (show gen < ga1 by omega)
   have eg_ga0_ga1 := gen_lt (show ga0 < ga1 by omega)
   have eh_ga0_ga1 := gen_lt' (show ga0 < ga1 by omega)
   clear hgn
   exact wk_
theorem c_fmTyped (g : List Ty) (hg : ∀ y ∈ g, TyG y) (hl : g.length ≤ 16) (f : Fm) (hf : FmTy TyG g f) (gf : FmG true f) (zf : fmSz f ≤ 4096) (wf : FmW f) :
  Pure Tryz.prog env 46 [.sl .any (g.map Ty.cells), .agg f.cells] (.int .i64 0) := by
 have h1 := c_refContext g hg hl
 have h2 := c_refFmCheck f wf
 rw [gf.err0 zf] at h2
 have h3 := c_typed _ f g (Nat.le_refl _) hf gf zf wf (fun y hy => (hg y hy).1.W) (by omega)
 have n0 : ((0 : Int) != 0) = false := rfl
 have h4 : Pure Tryz.prog env 96 [.sl .any (g.map Ty.cells), .agg f.cells] (.int .i64 0) := by
  clear h1 hg hl hf gf zf wf
  intro h
  exact ek_ Tryz.func96 [.tmp 4]
 clear h2 h3 hg hl hf gf zf wf
 intro h
 exact ek_ Tryz.func46 [.tmp 4]
end Go.Proofs.YtkoeoklndhgejaaGreatDoor
