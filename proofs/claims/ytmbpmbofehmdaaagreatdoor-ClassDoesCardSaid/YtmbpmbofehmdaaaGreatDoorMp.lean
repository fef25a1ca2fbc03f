/-
 Walks: several parts in one text.
-/
import Derived.Test.YtmbpmbofehmdaaaGreatDoorGk
import Derived.Test.YtmbpmbofehmdaaaGreatDoorVc
import Derived.Test.YtmbpmbofehmdaaaGreatDoorWt
import Derived.Test.YtmbpmbofehmdaaaGreatDoorMn
import Derived.Test.YtmbpmbofehmdaaaGreatDoorMa
import Derived.Test.YtmbpmbofehmdaaaGreatDoorMc
import Derived.Test.YtmbpmbofehmdaaaGreatDoorAbsC
import Derived.Test.YtmbpmbofehmdaaaGreatDoorGm
set_option linter.unusedSimpArgs false
set_option linter.unusedVariables false
set_option maxRecDepth 20000
set_option maxHeartbeats 4000000
namespace Go.Proofs.YtmbpmbofehmdaaaGreatDoor
open Go GoAbs Go.Proofs
theorem mk_FH {g : List Ty} (hg : ∀ y ∈ g, MkTy 1 y) : ∀ y ∈ g, TyF y ∧ tyH y ≤ 40 := fun y hy => ⟨(hg y hy).F, by have := (hg y hy).H; omega⟩
theorem c_Decidable (l : List Int) (hl : l.length ≤ 1000) : ∀ (n : Nat), n ≤ 4 → ∀ (g : List Ty) (a : Nat), (∀ y ∈ g, MkTy 1 y) → g.length + n ≤ 100 →
  ∃ f a', MkDec n g f ∧ FmW f ∧ ∀ d, Turns Tryz.prog env 11 [.ptr d 0, .sl .any (g.map Ty.cells), .int .i64 n] d (.box (deckC l a)) (.agg f.cells) (.box (deckC l a')) := by
 intro n
 have heq : ∀ (g : List Ty) (a : Nat), (∀ y ∈ g, MkTy 1 y) → g.length ≤ 200 → ∃ x a1, MkTm 1 g tNat x ∧ TmW x ∧
   (∀ d, Turns Tryz.prog env 32 [.ptr d 0, .sl .any (g.map Ty.cells), .agg tNat.cells, .int .i64 1] d (.box (deckC l a)) (.agg x.cells) (.box (deckC l a1))) := by
  intro g a hg hb
  obtain ⟨x, a1, hx, wx, Tx⟩ := c_Term l hl 1 g tNat a (mk_FH hg) .nat (by rw [tyH_nat]; omega) (by rw [tyH_nat]; simp; omega) (by rw [tyH_nat]; omega)
  exact ⟨x, a1, hx, wx, Tx⟩
 induction n with
 | zero =>
  intro _ g a hg hb
  have hz : decide (((0 : Nat) : Int) > 0) = false := rfl
  obtain ⟨x, ax, kx, wx, Tx⟩ := heq g a hg (by omega)
  obtain ⟨y, ay, ky, wy, Ty⟩ := heq g ax hg (by omega)
  refine ⟨_, ay, .eq kx ky, fmEq_W wx wy, ?_⟩
  clear heq hg
  intro d h hd
  refine en_ Tryz.func11 [.cell 6 29] fun g0 w0 gen hrel hfr hfr' hres => ?_
  have f1 := fresh_ne hfr hd
  have f2 := fresh_ne' hfr hd
  repeat' (first
   |(refine ⟨?_,?_⟩; focus ((repeat' (first|refine ⟨?_,?_⟩|refine .inr ?_)); all_goals kernel_rfl))
   |exact agb (by assumption)
   | (first|refine wp rfl ?_|refine spt rfl ?_|refine spf rfl ?_|(refine spl (fun hc => ?_) fun hc => ?_) <;> (try rw [beq_iff_eq] at hc) <;> try simp only [hc]|refine cp c_refNat ?_|refine cp (c_Eq _ _ wx wy) ?_|(refine ct (Tx d) ?_ ?_; focus ((simp only [go_sem, *] <;> rfl); done))|(refine ct (Ty d) ?_ ?_; focus ((simp only [go_sem, *] <;> rfl); done))|refine finT hrel hd ?_ ?_ ?_ ?_ ?_)<;>try simp only [go_sem, *])
 | succ n ih =>
  intro hn g a hg hb
  have hz : decide (((n + 1 : Nat) : Int) > 0) = true := by simp <;> omega
  have hw : IntKind.i64.wrap (((n + 1 : Nat) : Int) - 1) = (n : Int) := wrap_eq (by omega) (by omega) (by omega)
  have ih := ih (by omega)
  have hr := nextD_range (l := l) (a := a) (n := 6) (by omega) (by omega)
  generalize hq : nextD l a 6 = q at hr
  obtain ⟨c, a1⟩ := q
  have hc1 : (nextD l a 6).1 = c := by rw [hq]
  have hc2 : (nextD l a 6).2 = a1 := by rw [hq]
  simp only at hr
  clear hq
  obtain rfl | rfl | hm | hge : c = 0 ∨ c = 1 ∨ (c = 2 ∨ c = 3) ∨ 4 ≤ c := by omega
  ·
   obtain ⟨x, ax, kx, wx, Tx⟩ := ih g a1 hg (by omega)
   obtain ⟨y, ay, ky, wy, Ty⟩ := ih g ax hg (by omega)
   refine ⟨_, ay, .two (k := 2) (by omega) kx ky, fmTwo_W wx wy, ?_⟩
   clear heq hg ih hr
   intro d h hd
   refine en_ Tryz.func11 [.cell 6 29] fun g0 w0 gen hrel hfr hfr' hres => ?_
   have f1 := fresh_ne hfr hd
   have f2 := fresh_ne' hfr hd
   repeat' (first
    |(refine ⟨?_,?_⟩; focus ((repeat' (first|refine ⟨?_,?_⟩|refine .inr ?_)); all_goals kernel_rfl))
    |exact agb (by assumption)
    | (first|refine wp rfl ?_|refine spt rfl ?_|refine spf rfl ?_|(refine spl (fun hc => ?_) fun hc => ?_) <;> (try rw [beq_iff_eq] at hc) <;> try simp only [hc]|refine cp c_refNat ?_|refine cp (c_fmTwo 2 _ _ wx wy) ?_|(refine ct (Tx d) ?_ ?_; focus ((simp only [go_sem, *] <;> rfl); done))|(refine ct (Ty d) ?_ ?_; focus ((simp only [go_sem, *] <;> rfl); done))|refine ct (c_Next l hl d _ _) (by simp only [go_sem, *] <;> rfl) ?_|refine finT hrel hd ?_ ?_ ?_ ?_ ?_)<;>try simp only [go_sem, *])
  ·
   obtain ⟨x, ax, kx, wx, Tx⟩ := ih g a1 hg (by omega)
   obtain ⟨y, ay, ky, wy, Ty⟩ := ih g ax hg (by omega)
   refine ⟨_, ay, .two (k := 3) (by omega) kx ky, fmTwo_W wx wy, ?_⟩
   clear heq hg ih hr
   intro d h hd
   refine en_ Tryz.func11 [.cell 6 29] fun g0 w0 gen hrel hfr hfr' hres => ?_
   have f1 := fresh_ne hfr hd
   have f2 := fresh_ne' hfr hd
   repeat' (first
    |(refine ⟨?_,?_⟩; focus ((repeat' (first|refine ⟨?_,?_⟩|refine .inr ?_)); all_goals kernel_rfl))
    |exact agb (by assumption)
    | (first|refine wp rfl ?_|refine spt rfl ?_|refine spf rfl ?_|(refine spl (fun hc => ?_) fun hc => ?_) <;> (try rw [beq_iff_eq] at hc) <;> try simp only [hc]|refine cp c_refNat ?_|refine cp (c_fmTwo 3 _ _ wx wy) ?_|(refine ct (Tx d) ?_ ?_; focus ((simp only [go_sem, *] <;> rfl); done))|(refine ct (Ty d) ?_ ?_; focus ((simp only [go_sem, *] <;> rfl); done))|refine ct (c_Next l hl d _ _) (by simp only [go_sem, *] <;> rfl) ?_|refine finT hrel hd ?_ ?_ ?_ ?_ ?_)<;>try simp only [go_sem, *])
  ·
   generalize hq2 : nextD l a1 2 = q
   obtain ⟨c2, a2⟩ := q
   have hd1 : (nextD l a1 2).1 = c2 := by rw [hq2]
   have hd2 : (nextD l a1 2).2 = a2 := by rw [hq2]
   clear hq2
   obtain ⟨x, ax, kx, wx, Tx⟩ := heq g a2 hg (by omega)
   have hgn := app_mk hg (.nat (n := 1))
   obtain ⟨b, ab, kb, wb, Tb⟩ := ih (g ++ [tNat]) ax hgn (by simp; omega)
   have hL := c_longer g [tNat] (by omega) (by simp)
   simp only [List.map_cons, List.map_nil] at hL
   obtain ⟨gx, zx, lx⟩ := kx.small hg (by omega)
   obtain ⟨gb, zb, _⟩ := kb.all hgn (by simp; omega)
   have hpow : 2 ^ n ≤ 2 ^ 4 := Nat.pow_le_pow_right (by omega) (by omega)
   have hsm := bndR_small (all := (c2 == 0)) gx (by omega) lx gb (by omega)
   have hB := c_Bounded08 (c2 == 0) x wx b wb
   rw [hsm] at hB
   unfold fmErrV at hB
   have wz := bndF_W (all := (c2 == 0)) (tmUp_W (b := 1) x 0 wx) wb
   refine ⟨_, ab, .bnd (all := (c2 == 0)) kx kb, wz, ?_⟩
   clear heq hg ih hr hsm kx kb gx gb zx lx zb hpow hgn wz
   generalize bndF (c2 == 0) (x.up 1 0) b = z at *
   have n0 : ((0 : Int) == 0) = true := rfl
   rcases hm with rfl | rfl
   all_goals
    intro d h hd
    refine en_ Tryz.func11 [.cell 6 29] fun g0 w0 gen hrel hfr hfr' hres => ?_
    have f1 := fresh_ne hfr hd
    have f2 := fresh_ne' hfr hd
    repeat' (first
     |(refine ⟨?_,?_⟩; focus ((repeat' (first|refine ⟨?_,?_⟩|refine .inr ?_)); all_goals kernel_rfl))
     |exact agb (by assumption)
     | (first|refine wp rfl ?_|refine spt rfl ?_|refine spf rfl ?_|(refine spl (fun hc => ?_) fun hc => ?_) <;> (try rw [beq_iff_eq] at hc) <;> try simp only [hc]|refine cp hL ?_|refine cp hB ?_|refine cp c_refNat ?_|(refine ct (Tx d) ?_ ?_; focus ((simp only [go_sem, *] <;> rfl); done))|(refine ct (Tb d) ?_ ?_; focus ((simp only [go_sem, *] <;> rfl); done))|refine ct (c_Next l hl d _ _) (by simp only [go_sem, *] <;> rfl) ?_|refine finT hrel hd ?_ ?_ ?_ ?_ ?_)<;>try simp only [go_sem, *])
  ·
   have q0 : (c == 0) = false := by simp; omega
   have q1 : (c == 1) = false := by simp; omega
   have q2 : (c == 2) = false := by simp; omega
   have q3 : (c == 3) = false := by simp; omega
   clear hge hr ih
   obtain ⟨x, ax, kx, wx, Tx⟩ := heq g a1 hg (by omega)
   obtain ⟨y, ay, ky, wy, Ty⟩ := heq g ax hg (by omega)
   refine ⟨_, ay, .eq kx ky, fmEq_W wx wy, ?_⟩
   clear heq hg
   intro d h hd
   refine en_ Tryz.func11 [.cell 6 29] fun g0 w0 gen hrel hfr hfr' hres => ?_
   have f1 := fresh_ne hfr hd
   have f2 := fresh_ne' hfr hd
   repeat' (first
    |(refine ⟨?_,?_⟩; focus ((repeat' (first|refine ⟨?_,?_⟩|refine .inr ?_)); all_goals kernel_rfl))
    |exact agb (by assumption)
    | (first|refine wp rfl ?_|refine spt rfl ?_|refine spf rfl ?_|(refine spl (fun hc => ?_) fun hc => ?_) <;> (try rw [beq_iff_eq] at hc) <;> try simp only [hc]|refine cp c_refNat ?_|refine cp (c_Eq _ _ wx wy) ?_|(refine ct (Tx d) ?_ ?_; focus ((simp only [go_sem, *] <;> rfl); done))|(refine ct (Ty d) ?_ ?_; focus ((simp only [go_sem, *] <;> rfl); done))|refine ct (c_Next l hl d _ _) (by simp only [go_sem, *] <;> rfl) ?_|refine finT hrel hd ?_ ?_ ?_ ?_ ?_)<;>try simp only [go_sem, *])
theorem c_r08Universal (f : Fm) (hf : FmW f) (he : fmErr f = 0) (hs : fmSz f ≤ 1000000) :
  Pure Tryz.prog env 27 [.agg f.cells] (.tup [.sl .any (f.univ.1.map Ty.cells), .agg f.univ.2.cells, .int .i64 0]) := by
 intro h
 have hC := c_refFmCheck f hf
 rw [he] at hC
 have hg : f.good = true := Fm.ok_good (by rw [he]; rfl)
 have n0 : ((0 : Int) != 0) = false := rfl
 have hO2 := c_fmCopy f.univ.2 (univ_good f hf hg).1
 have hb := univ_len f
 clear he
 generalize hu0 : f.univ = p at *
 obtain ⟨ul, uf⟩ := p
 simp only at hb hO2 ⊢
 refine en_ Tryz.func27 [.tmp 2, .cell 3 29, .tmp 4] fun g0 w0 gen hrel hfr hfr' hres => ?_
 refine wq_ ?_
 clear hC
 refine AR_loop_nat (fun i σ => σ.tm 1 = .ptr ⟨gen, 0, 0⟩ 0 ∧ σ.tm 3 = .ptr ⟨gen, 0, 2⟩ 0 ∧ σ.h ⟨gen, 0, 2⟩ = some (.box [.int .i64 0, .int .i64 0, .sl .full [], .sl .full [], .sl .full []]) ∧ Agree h σ.h ∧
  ∃ (f' : Fm) (l' : List Ty), σ.h ⟨gen, 0, 0⟩ = some (.box f'.cells) ∧ OwnS h σ.h (σ.tm 6) 2 (l'.map Ty.cells) ∧ FmW f' ∧ f'.good = true ∧ l' ++ f'.univ.1 = ul ∧ f'.univ.2 = uf ∧ l'.length = i) ul.length ?_ ?_
 ·simp only [go_sem, *]
  exact ⟨ag_, f, [], rfl, .inl rfl, hf, hg, by rw [hu0]; rfl, by rw [hu0], rfl⟩
 clear hf hg hu0
 intro i σ hi ⟨j1, j2, j3, j4, f', l', j5, j6, j7, j8, j9, j10, j11⟩
 refine AR_gen (fun gn hgn => ?_)
 have hgf := fresh_of hgn
 have hgf0 : ∀ r i, h ⟨gn, r, i⟩ = none := fun r i => agree_fresh j4 (hgf r i)
 have e1 := gen_ne hgn j5
 have e2 := gen_ne' hgn j5
 clear hgn
 cases k : (f'.kind == 4) with
 | true =>
  obtain ⟨a, ha, ga⟩ := Fm.good_q j8 (.inl (by simpa using k))
  have wa : FmW a := j7.arg (by rw [ha]; simp)
  have hO := c_refCopy f'.type j7.ty
  rw [Fm.univ_4 k ha] at j9 j10
  have hlt : i < ul.length := by
   have := congrArg List.length j9
   simp at this; omega
  clear j7 j8 hO2
  have hts : ((l' ++ [f'.type]).map Ty.cells) = l'.map Ty.cells ++ [f'.type.cells] := by simp
  repeat' (first
   |(refine okE_app_owne j6 (by repeat (first|exact Keeps.refl _|refine Keeps.new ?_ (hgf _ _)|refine Keeps.new ?_ (hfr' _ _)|refine Keeps.box ?_ rfl|refine Keeps.box ?_ (by simp only [go_sem, *]))) rfl (by simp only [go_sem, *] <;> omega) (by first|exact hgf0 _ _|exact hfr' _ _) (by simp only [go_sem, *]) (by intro hd e; simp only [logOk_cons, logOk_nil, and_true]; repeat (first|exact trivial|refine ⟨.inr (by kernel_rfl), ?_⟩|exact .inr (by kernel_rfl))) ?_; intro v' h' id' jO jK jAg jAb jF jI; obtain ⟨cO, rfl⟩ := jO.val; simp only [go_sem, *])
   | (first|refine wp rfl ?_|refine spt rfl ?_|refine spf rfl ?_|(refine spl (fun hc => ?_) fun hc => ?_) <;> (try rw [beq_iff_eq] at hc) <;> try simp only [hc]|refine cp hO ?_|refine AR_inv ?_)<;>try simp only [go_sem, *])
  exact ⟨Agree.new (jAg ag_) (hfr' _ _), a, l' ++ [f'.type], rfl, by rw [hts]; exact jO.keep (Keeps.box (Keeps.refl _) (by rw [jK _ (by rw [j5]; rfl), j5]; rfl)), wa, ga, by simpa using j9, j10, by simp; omega⟩
 | false =>
  rw [Fm.univ_n k] at j9 j10
  simp only [List.append_nil] at j9 j10
  subst j9
  subst j10
  obtain ⟨c, j6⟩ := j6.val
  clear j7 j8
  exact wk_
def mkCtx (l : List Int) : Nat → Nat → List Ty × Nat
 | 0, a => ([], a)
 | n + 1, a => ((mkCtx l n a).1 ++ [(mkType l 1 (mkCtx l n a).2).1], (mkType l 1 (mkCtx l n a).2).2)
theorem mkCtx_all {l : List Int} : ∀ (n a : Nat), (∀ y ∈ (mkCtx l n a).1, MkTy 1 y) ∧ (mkCtx l n a).1.length = n
 | 0, a => by simp [mkCtx]
 | n + 1, a => by
  obtain ⟨h1, h2⟩ := mkCtx_all (l := l) n a
  refine ⟨?_, by simp [mkCtx, h2]⟩
  intro y hy
  rw [mkCtx] at hy
  rcases List.mem_append.1 hy with hy | hy
  ·exact h1 y hy
  ·simp at hy; subst hy; exact mkType_Mk 1 _
theorem c_Context (l : List Int) (hl : l.length ≤ 1000) (a : Nat) : ∃ (g : List Ty) (a' : Nat), (∀ y ∈ g, MkTy 1 y) ∧ g.length ≤ 3 ∧
  ∀ d, Turns Tryz.prog env 9 [.ptr d 0] d (.box (deckC l a)) (.sl .any (g.map Ty.cells)) (.box (deckC l a')) := by
 have hr := nextD_range (l := l) (a := a) (n := 4) (by omega) (by omega)
 generalize hq : nextD l a 4 = q at hr
 obtain ⟨c, a1⟩ := q
 have hc1 : (nextD l a 4).1 = c := by rw [hq]
 have hc2 : (nextD l a 4).2 = a1 := by rw [hq]
 simp only at hr
 obtain ⟨n, rfl⟩ : ∃ n : Nat, c = (n : Int) := ⟨c.toNat, by omega⟩
 have hn : n ≤ 3 := by omega
 obtain ⟨hm, hlen⟩ := mkCtx_all (l := l) n a1
 refine ⟨(mkCtx l n a1).1, (mkCtx l n a1).2, hm, by omega, ?_⟩
 clear hm hlen hr hq
 intro d h hd
 refine en_ Tryz.func9 [.tmp 2] fun g0 w0 gen hrel hfr hfr' hres => ?_
 have f1 := fresh_ne hfr hd
 have f2 := fresh_ne' hfr hd
 repeat' (first
  | (first|refine wp rfl ?_|refine spt rfl ?_|refine spf rfl ?_|(refine spl (fun hc => ?_) fun hc => ?_) <;> (try rw [beq_iff_eq] at hc) <;> try simp only [hc]|refine ct (c_Next l hl d a 4) (by simp only [go_sem, *] <;> rfl) ?_)<;>try simp only [go_sem, *])
 refine AR_loop_nat (fun i σ => σ.tm 4 = .int .i64 ((n : Int) - i) ∧ σ.tm 0 = .ptr d 0 ∧ σ.h d = some (.box (deckC l (mkCtx l i a1).2)) ∧ AgreeBut d h σ.h ∧ OwnS h σ.h (σ.tm 3) 2 ((mkCtx l i a1).1.map Ty.cells)) n ?_ ?_
 ·simp only [go_sem, *]
  exact ⟨by simp, rfl, by repeat (first|exact AgreeBut.refl _ _|refine AgreeBut.set ?_), .inl rfl⟩
 clear hc1 hc2
 intro i σ hi ⟨j1, j2, j3, jA, j5⟩
 refine AR_gen2 (fun gn hlt hgn => ?_)
 have hgf := fresh_of hgn
 have hgf0 := agreeBut_fresh' hd jA hgf (fun r i e => by have := hfr d (by rw [hd]; simp); rw [e] at this; simp at this; omega)
 have g1 := fresh_ne2 hfr hd hlt
 have g2 := fresh_ne2' hfr hd hlt
 clear hgn
 have hln := (mkCtx_all (l := l) i a1).2
 generalize hp : mkCtx l i a1 = p at j3 j5 hln
 obtain ⟨gi, ai⟩ := p
 simp only at j3 j5 hln
 rcases Nat.lt_or_ge i n with h1 | h1
 ·have hd1 : decide ((n : Int) - (i : Int) > 0) = true := by simp; omega
  have hw1 : IntKind.i64.wrap ((n : Int) - (i : Int) - 1) = (n : Int) - ((i + 1 : Nat) : Int) := wrap_eq (by omega) (by omega) (by omega)
  have hT := c_Type l hl d 1 (by omega) ai
  have hs1 : (mkCtx l (i + 1) a1).1 = gi ++ [(mkType l 1 ai).1] := by rw [mkCtx, hp]
  have hs2 : (mkCtx l (i + 1) a1).2 = (mkType l 1 ai).2 := by rw [mkCtx, hp]
  clear hp
  generalize mkType l 1 ai = q at *
  have hmm : List.map Ty.cells (gi ++ [q.1]) = List.map Ty.cells gi ++ [q.1.cells] := by simp
  repeat' (first
   |(refine okE_app_own j5 (by repeat (first|exact Keeps.refl _|refine Keeps.new ?_ (hgf _ _)|refine Keeps.new ?_ (hfr' _ _)|refine Keeps.box ?_ rfl|refine Keeps.box ?_ (by simp only [go_sem, *]))) rfl (by simp only [go_sem, *] <;> omega) (by first|exact hgf0 _ _|exact hfr' _ _) (by simp only [go_sem, *]) (by intro hd; cases hd) ?_; intro v' h' log' jO jK jAg jAb jF; simp only [go_sem, *])
   | (first|refine wp rfl ?_|refine spt rfl ?_|refine spf rfl ?_|(refine spl (fun hc => ?_) fun hc => ?_) <;> (try rw [beq_iff_eq] at hc) <;> try simp only [hc]|(refine ct (hT) ?_ ?_; focus ((simp only [go_sem, *] <;> rfl); done))|refine AR_inv ?_)<;>try simp only [go_sem, *])
  exact jAb d (AgreeBut.set jA)
 ·have hd1 : decide ((n : Int) - (i : Int) > 0) = false := by simp; omega
  obtain rfl : i = n := by omega
  obtain ⟨c, j5⟩ := j5.val
  have e1 : (mkCtx l i a1).1 = gi := by rw [hp]
  have e2 : (mkCtx l i a1).2 = ai := by rw [hp]
  clear hp
  rw [e1, e2]
  clear e1 e2
  exact wkT_
theorem c_Universal (f : Fm) (hf : FmW f) (he : fmErr f = 0) (hs : fmSz f ≤ 1000000) :
  Pure Tryz.prog env 26 [.agg f.cells] (.tup [.sl .any (f.univ.1.map Ty.cells), .agg f.univ.2.cells, .int .i64 0]) := by
 intro h
 have hC := c_fmCheck f hf
 rw [he] at hC
 have he' : (fmErr f != 0) = false := by rw [he]; rfl
 have hU := c_universal f hf (Fm.ok_good he') hs
 have hO := c_OwnFormula f.univ.2 (univ_good f hf (Fm.ok_good he')).1
 have n0 : ((0 : Int) != 0) = false := rfl
 clear hf he he' hs
 generalize f.univ = p at *
 exact ek_ Tryz.func26 [.tmp 2, .cell 3 29, .tmp 4]
end Go.Proofs.YtmbpmbofehmdaaaGreatDoor
