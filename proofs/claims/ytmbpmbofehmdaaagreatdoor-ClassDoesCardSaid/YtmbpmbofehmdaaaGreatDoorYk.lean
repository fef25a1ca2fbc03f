/-
 Walks: the law of classes.
-/
import Derived.Test.YtmbpmbofehmdaaaGreatDoorYj
import Derived.Test.YtmbpmbofehmdaaaGreatDoorYh
import Derived.Test.YtmbpmbofehmdaaaGreatDoorMp
import Derived.Test.YtmbpmbofehmdaaaGreatDoorWv
import Derived.Test.YtmbpmbofehmdaaaGreatDoorMn
set_option linter.unusedSimpArgs false
set_option linter.unusedVariables false
set_option maxRecDepth 20000
set_option maxHeartbeats 4000000
namespace Go.Proofs.YtmbpmbofehmdaaaGreatDoor
open Go GoAbs Go.Proofs
theorem c_ClassDoes (l : List Int) (raw : Fm) (nr : FmN raw) (s : Tm) (ns : TmN s) (u : Tm) (nu : TmN u) (all : Bool) :
  Pure Tryz.prog env 3 [.sl .any (ints l), .agg raw.cells, .agg s.cells, .agg u.cells, .bool all] (.bool true) := by
 intro h
 have hF := c_Few l
 have hn := c_nodes raw
 have hs := c_terms s
 have hu := c_terms u
 have cs := Tm.cnt_le s 20000
 have cu := Tm.cnt_le u 20000
 have hw : IntKind.i64.wrap ((s.cnt 20000 : Nat) + (u.cnt 20000 : Nat) : Int) = ((s.cnt 20000 : Nat) + (u.cnt 20000 : Nat) : Int) := wrap_eq rfl (by omega) (by omega)
 cases hf : decide ((l.length : Int) ≤ 500) with
 | false =>
  rw [hf] at hF
  clear hf
  have zq0 := c_sane08
  exact ek_ Tryz.func3 [.tmp 10]
 | true =>
 rw [hf] at hF
 cases k1 : decide (((raw.cnt 20000 : Nat) : Int) > 700) with
 | true =>
  clear hf
  generalize raw.cnt 20000 = nn at *
  have zq0 := c_sane08
  exact ek_ Tryz.func3 [.tmp 10]
 | false =>
 cases k2 : decide (((s.cnt 20000 : Nat) + (u.cnt 20000 : Nat) : Int) > 800) with
 | true =>
  clear hf
  generalize raw.cnt 20000 = nn at *
  generalize s.cnt 20000 = ms at *
  generalize u.cnt 20000 = mu at *
  have zq0 := c_sane08
  exact ek_ Tryz.func3 [.tmp 10]
 | false =>
 have hl : l.length ≤ 1000 := by simp at hf; omega
 have aR : FmA 20000 raw := (FmA.raw (m := 20000) (N := 700) nr (by omega) (by omega) (by simp at k1; omega)).mono (by omega)
 have aS : TmA 20000 s := (TmA.raw (m := 20000) (N := 800) ns (by omega) (by omega) (by simp at k2; omega)).mono (by omega)
 have aU : TmA 20000 u := (TmA.raw (m := 20000) (N := 800) nu (by omega) (by omega) (by simp at k2; omega)).mono (by omega)
 obtain ⟨g, a0, hgm, hgl, hC⟩ := c_Context l hl 0
 obtain ⟨x, a1, mx, wx, hX⟩ := c_Formula l hl 3 (by omega) g a0 (mk_FH hgm) (by omega)
 obtain ⟨y, a2, my, wy, hY⟩ := c_Decidable l hl 3 (by omega) g a1 hgm (by omega)
 obtain ⟨ax, _, _⟩ := mx.A hgm (by omega) wx
 obtain ⟨ay, gy, ly⟩ := my.A hgm (by omega) wy
 obtain ⟨sp, a3, asp, hSp⟩ := c_spoilt l hl a2 y wy gy ay.n 1100 ay.z ly
 have ms := mkType_Mk (l := l) 1 a3
 have hTy := fun d => c_Type l hl d 1 (by omega) a3
 generalize mkType l 1 a3 = q at ms hTy
 obtain ⟨ty, a4⟩ := q
 simp only at ms hTy
 have aq := quant_A ms ay gy
 have hQ1 := c_fmQ 5 ty y ms.F.W wy
 have hQ2 := c_fmQ 4 tNat (fmQ 5 ty y) tNat_W (fmQ_W ms.F.W wy)
 have hall : ∀ f ∈ [raw, x, y, sp, fmQ 4 tNat (fmQ 5 ty y)], FmA 20000 f := by
  intro f hf
  simp only [List.mem_cons, List.not_mem_nil, or_false] at hf
  rcases hf with rfl | rfl | rfl | rfl | rfl
  ·exact aR
  ·exact ax.mono (by omega)
  ·exact ay.mono (by omega)
  ·exact asp.mono (by omega)
  ·exact aq.mono (by omega)
 clear nr ns nu aR ax ay gy ly asp aq mx my wx wy ms cs cu hf
 generalize fmQ 5 ty y = q5 at *
 generalize fmQ 4 tNat q5 = q4 at *
 generalize raw.cnt 20000 = nn at *
 generalize s.cnt 20000 = ms at *
 generalize u.cnt 20000 = mu at *
 obtain ⟨fs, hfs⟩ : ∃ fs, fs = [raw, x, y, sp, q4] := ⟨_, rfl⟩
 rw [← hfs] at hall
 have hfl : fs.length = 5 := by rw [hfs]; rfl
 have hN := c_New l
 refine en_ Tryz.func3 [.tmp 10] fun g0 w0 gen hrel hfr hfr' hres => ?_
 repeat' (first
  |(refine ⟨?_,?_⟩; focus ((repeat' (first|refine ⟨?_,?_⟩|refine .inr ?_)); all_goals kernel_rfl))
  | (first|refine wp rfl ?_|refine spt rfl ?_|refine spf rfl ?_|(refine spl (fun hc => ?_) fun hc => ?_) <;> (try rw [beq_iff_eq] at hc) <;> try simp only [hc]|(refine gs (fun hb => ?_) fun hb => ?_) <;> try simp only [Bool.not_true, Bool.not_false] at hb|refine cp hF ?_|refine cp c_sane08 ?_|refine cp hn ?_|refine cp hs ?_|refine cp hu ?_|refine Call1_new ⟨gen, 1000, 0⟩ (hN) (by first|exact hfr' _ _ | simp only [go_sem, *]) ?_|(refine ct (hC _) ?_ ?_; focus ((simp only [go_sem, *] <;> rfl); done))|(refine ct (hX _) ?_ ?_; focus ((simp only [go_sem, *] <;> rfl); done))|(refine ct (hY _) ?_ ?_; focus ((simp only [go_sem, *] <;> rfl); done))|(refine ct (hSp _) ?_ ?_; focus ((simp only [go_sem, *] <;> rfl); done))|(refine ct (hTy _) ?_ ?_; focus ((simp only [go_sem, *] <;> rfl); done))|refine cp c_refNat ?_|refine cp hQ1 ?_|refine cp hQ2 ?_)<;>try simp only [go_sem, *])
 refine AR_loop_nat (fun i σ => σ.tm 101 = .int .i64 i ∧ σ.tm 100 = .int .i64 5 ∧ (∃ c, σ.tm 99 = .sl c (fs.map Fm.cells)) ∧ σ.tm 4 = .bool all ∧ σ.tm 7 = .ptr ⟨gen, 0, 1⟩ 0 ∧ σ.tm 8 = .ptr ⟨gen, 0, 2⟩ 0 ∧
  σ.tm 11 = .ptr ⟨gen, 1000, 0⟩ 0 ∧ σ.tm 12 = .sl .any (g.map Ty.cells) ∧ σ.h ⟨gen, 0, 1⟩ = some (.box s.cells) ∧ σ.h ⟨gen, 0, 2⟩ = some (.box u.cells) ∧ (∃ a, σ.h ⟨gen, 1000, 0⟩ = some (.box (deckC l a))) ∧ Agree h σ.h) 5 ?_ ?_
 ·rw [hfs]
  simp only [go_sem, *]
  exact ⟨rfl, rfl, ⟨_, rfl⟩, ⟨_, rfl⟩, ag_⟩
 clear hF hn hs hu hC hX hY hSp hTy hQ1 hQ2 hN hfs k1 k2 hw
 intro i σ hi ⟨j1, j2, ⟨cc, j3⟩, j4, j5, j6, j7, j8, j9, j10, ⟨aa, j11⟩, j12⟩
 refine AR_gen2 (fun gn hlt hgn => ?_)
 have hgf := fresh_of hgn
 have hgf0 : ∀ r i, h ⟨gn, r, i⟩ = none := fun r i => agree_fresh j12 (hgf r i)
 have g1 := gen_lt hlt
 have g2 := gen_lt' hlt
 clear hgn
 rcases Nat.lt_or_ge i 5 with h5 | h5
 ·obtain ⟨f, hx⟩ : ∃ f, fs[i]? = some f := ⟨_, List.getElem?_eq_getElem (by omega)⟩
  have hA := hall f (List.mem_of_getElem? hx)
  obtain ⟨p1, p2, p3, b1, T, B, b2, L, F, e, L2, S, F2, b3, c1, d1, c2, d2, c3, d3, c4, d4, c5, d5, c6, d6, s1, s2, s3, s4, s5, s6, s7⟩ := formOk f hA
  obtain ⟨z, a5, mz, wz, hZ⟩ := c_Term l hl 2 g tNat aa (mk_FH hgm) .nat (by rw [tyH_nat]; omega) (by rw [tyH_nat]; simp; omega) (by rw [tyH_nat]; omega)
  have az := (mz.A2 hgm (by omega) wz).mono (M := 20000) (by omega)
  have qb : ∀ b : Bool, (b != b) = false := fun b => by cases b <;> rfl
  have qi : ∀ n : Int, (n != n) = false := fun n => by simp
  have hd : decide ((i : Int) < 5) = true := by simp; omega
  have hw := wrap_succ (i := i) (by omega)
  obtain ⟨p11, p12⟩ := p1
  obtain ⟨p21, p22⟩ := p2
  obtain ⟨p31, p32⟩ := p3
  clear mz wz
  repeat' (first
   |(refine ⟨?_,?_⟩; focus ((repeat' (first|refine ⟨?_,?_⟩|refine .inr ?_)); all_goals kernel_rfl))
   | (first|refine wp rfl ?_|refine spt rfl ?_|refine spf rfl ?_|(refine spl (fun hc => ?_) fun hc => ?_) <;> (try rw [beq_iff_eq] at hc) <;> try simp only [hc]|(refine gs (fun hb => ?_) fun hb => ?_) <;> try simp only [Bool.not_true, Bool.not_false] at hb|refine cp c1 ?_|refine cp d1 ?_|refine cp c2 ?_|refine cp d2 ?_|refine cp c3 ?_|refine cp d3 ?_|refine cp c4 ?_|refine cp d4 ?_|refine cp c5 ?_|refine cp d5 ?_|refine cp c6 ?_|refine cp d6 ?_|refine cp s1 ?_|refine cp s2 ?_|refine cp s3 ?_|refine cp s4 ?_|refine cp s5 ?_|refine cp s6 ?_|refine cp s7 ?_|refine cp c_refNat ?_|(refine ct (hZ _) ?_ ?_; focus ((simp only [go_sem, *] <;> rfl); done)))<;>try simp only [go_sem, *])
  obtain ⟨ts, hts⟩ : ∃ ts, ts = [s, u, z] := ⟨_, rfl⟩
  have htl : ts.length = 3 := by rw [hts]; rfl
  have hta : ∀ t ∈ ts, TmA 20000 t := by
   rw [hts]
   intro t ht
   simp only [List.mem_cons, List.not_mem_nil, or_false] at ht
   rcases ht with rfl | rfl | rfl <;> assumption
  refine AR_loop_nat (fun j σ => σ.tm 269 = .int .i64 j ∧ σ.tm 268 = .int .i64 3 ∧ (∃ c, σ.tm 267 = .sl c (ts.map Tm.cells)) ∧ σ.tm 16 = .ptr ⟨gn, 10, 2⟩ 0 ∧ σ.h ⟨gn, 10, 2⟩ = some (.box f.cells) ∧
   σ.tm 101 = .int .i64 i ∧ σ.tm 100 = .int .i64 5 ∧ (∃ c, σ.tm 99 = .sl c (fs.map Fm.cells)) ∧ σ.tm 4 = .bool all ∧ σ.tm 7 = .ptr ⟨gen, 0, 1⟩ 0 ∧ σ.tm 8 = .ptr ⟨gen, 0, 2⟩ 0 ∧
   σ.tm 11 = .ptr ⟨gen, 1000, 0⟩ 0 ∧ σ.tm 12 = .sl .any (g.map Ty.cells) ∧ σ.h ⟨gen, 0, 1⟩ = some (.box s.cells) ∧ σ.h ⟨gen, 0, 2⟩ = some (.box u.cells) ∧ (∃ a, σ.h ⟨gen, 1000, 0⟩ = some (.box (deckC l a))) ∧ Agree h σ.h) 3 ?_ ?_
  ·rw [hts]
   simp only [go_sem, *]
   exact ⟨rfl, rfl, ⟨_, rfl⟩, ⟨_, rfl⟩, ⟨_, rfl⟩, by repeat (first|assumption|refine Agree.new ?_ (hgf0 _ _)|refine Agree.new ?_ (hfr' _ _))⟩
  clear j1 j2 j3 j4 j5 j6 j7 j8 j9 j10 j11 j12 hgf hts c1 d1 c2 d2 c3 d3 c4 d4 c5 d5 c6 d6 s1 s2 s3 s4 s5 s6 s7 hZ hgf0 hd
  clear σ
  intro j σ hj ⟨j1, j2, ⟨cd, j3⟩, jf, jfb, ji, ji2, ⟨cc', ji3⟩, j4, j5, j6, j7, j8, j9, j10, ⟨ab, j11⟩, j12⟩
  refine AR_gen2 (fun gm hlt2 hgm2 => ?_)
  have hgf := fresh_of hgm2
  have hgf0 : ∀ r i, h ⟨gm, r, i⟩ = none := fun r i => agree_fresh j12 (hgf r i)
  have g3 := gen_ne hgm2 jfb
  have g4 := gen_ne' hgm2 jfb
  have g5 := gen_ne hgm2 j9
  have g6 := gen_ne' hgm2 j9
  clear hgm2
  rcases Nat.lt_or_ge j 3 with h3 | h3
  ·obtain ⟨t, hx2⟩ : ∃ t, ts[j]? = some t := ⟨_, List.getElem?_eq_getElem (by omega)⟩
   obtain ⟨F', e', G', e'', c1, d1, c2, d2, s1, s2⟩ := termOk all f hA s t aS (hta t (List.mem_of_getElem? hx2))
   have hd : decide ((j : Int) < 3) = true := by simp; omega
   have hwj := wrap_succ (i := j) (by omega)
   clear hA aS hta
   repeat' (first
    |(refine ⟨?_,?_⟩; focus ((repeat' (first|refine ⟨?_,?_⟩|refine .inr ?_)); all_goals kernel_rfl))
    | (first|refine wp rfl ?_|refine spt rfl ?_|refine spf rfl ?_|(refine spl (fun hc => ?_) fun hc => ?_) <;> (try rw [beq_iff_eq] at hc) <;> try simp only [hc]|(refine gs (fun hb => ?_) fun hb => ?_) <;> try simp only [Bool.not_true, Bool.not_false] at hb|refine cp c1 ?_|refine cp d1 ?_|refine cp c2 ?_|refine cp d2 ?_|refine cp s1 ?_|refine cp s2 ?_)<;>try simp only [go_sem, *])
   refine AR_inv ?_
   simp only [go_sem, *]
   exact ⟨⟨_, rfl⟩, ⟨_, rfl⟩, ⟨_, rfl⟩, by repeat (first|assumption|refine Agree.new ?_ (hgf0 _ _))⟩
  ·obtain rfl : j = 3 := by omega
   have hd : decide (((3 : Nat) : Int) < 3) = false := by simp
   clear hA aS hta
   repeat' (first
    |(refine ⟨?_,?_⟩; focus ((repeat' (first|refine ⟨?_,?_⟩|refine .inr ?_)); all_goals kernel_rfl))
    | (first|refine wp rfl ?_|refine spt rfl ?_|refine spf rfl ?_|(refine spl (fun hc => ?_) fun hc => ?_) <;> (try rw [beq_iff_eq] at hc) <;> try simp only [hc]|(refine gs (fun hb => ?_) fun hb => ?_) <;> try simp only [Bool.not_true, Bool.not_false] at hb)<;>try simp only [go_sem, *])
   refine AR_inv ?_
   simp only [go_sem, *]
   exact ⟨⟨_, rfl⟩, _, rfl⟩
 ·obtain rfl : i = 5 := by omega
  have hd : decide (((5 : Nat) : Int) < 5) = false := by simp
  clear hall aS aU
  exact wk_
end Go.Proofs.YtmbpmbofehmdaaaGreatDoor
