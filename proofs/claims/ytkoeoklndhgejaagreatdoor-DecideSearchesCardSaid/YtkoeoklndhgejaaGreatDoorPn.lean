/-
 Walks: a decidable formula at plain values (the reference).
-/
import Derived.Test.YtkoeoklndhgejaaGreatDoorPm
import Derived.Test.YtkoeoklndhgejaaGreatDoorMj
set_option linter.unusedSimpArgs false
set_option linter.unusedVariables false
set_option maxRecDepth 20000
set_option maxHeartbeats 4000000
namespace Go.Proofs.YtkoeoklndhgejaaGreatDoor
open Go GoAbs Go.Proofs
theorem c_r09Holds {g : List Ty} {l : List PVl} {ts : List Tm} (hs : IsVls g l ts) (hg : g.length ≤ 16) {f : Fm} (hf : Dc g f) (zf : fmSz f ≤ 4096) (lim : Nat) (hl : lim ≤ 65536) :
  Pure Tryz.prog env 32 [.agg f.cells, .sl .any (l.map PVl.cells), .int .i64 lim] (decV (holdsR lim f ts)) := by
 intro h
 have h1 := c_refFmCheck f (hf.G (u := true)).toW
 rw [(hf.G (u := true)).err0 zf] at h1
 obtain ⟨ll, lt⟩ := hs.len
 have h2 : ∀ (i : Nat) (v : PVl), l[i]? = some v → ∃ t : Tm, ts[i]? = some t ∧ Pure Tryz.prog env 71 [.agg v.cells] (.tup [.agg t.cells, .int .i64 0]) := by
  intro i v hv
  obtain ⟨a, v', t, _, q2, q3, q4, q5, q6⟩ := hs.at i (by have := (List.getElem?_eq_some_iff.1 hv).1; omega)
  rw [hv] at q2
  cases q2
  exact ⟨t, q3, c_refValue q4 q6 q5⟩
 have hput : ∀ (i : Nat) (F : Fm), i < ts.length → Dc (g.take (i + 1)) F → fmSz F ≤ 4096 → ∃ t : Tm, ts[i]? = some t ∧ Pure Tryz.prog env 72 [.agg F.cells, .int .i64 0, .agg t.cells] (fmErrV (putR F t)) ∧
   ((putR F t).2 = 0 → Dc (g.take i) (putR F t).1 ∧ fmSz (putR F t).1 ≤ 4096) := by
  intro i F hi hF zF
  obtain ⟨a, v, t, q1, q2, q3, q4, q5, q6⟩ := hs.at i (by omega)
  rw [take_ty q1] at hF
  have hlen : (g.take i).length ≤ 16 := by simp; omega
  refine ⟨t, q3, ?_, fun h0 => putR_dc hF q4 q5 q6 (by omega) zF h0⟩
  have := c_fmPut F (hF.G (u := true)).toW 0 t q4.G.toW
  rw [fmPut_R (hF.G (u := true)) q4.G zF q6 (hF.least (by simp at hlen ⊢; omega)) ((q4.ty q5 []).least _ (by omega) (by simp; omega))] at this
  exact this
 have hT : ∀ F : Fm, Dc [] F → fmSz F ≤ 4096 → Pure Tryz.prog env 73 [.agg F.cells, .int .i64 lim] (decV (dA lim F)) := fun F hF zF => c_r09Truth hF zF lim hl
 have hR0 : putsR f (ts.take ts.length).reverse = putsR f ts.reverse := by rw [List.take_length]
 have hfg : Dc (g.take ts.length) f := by rw [lt, List.take_length]; exact hf
 have hvd : decV (holdsR lim f ts) = if (putsR f ts.reverse).2 != 0 then .tup [.bool false, .int .i64 0, .int .i64 (putsR f ts.reverse).2] else decV (dA lim (putsR f ts.reverse).1) := by
  unfold holdsR
  cases hz : ((putsR f ts.reverse).2 != 0) with
  | true => simp only [if_true]; unfold decV; rw [if_pos hz]
  | false => simp only [Bool.false_eq_true, if_false]
 rw [hvd]
 generalize putsR f ts.reverse = R at *
 have h5 : ∀ e ∈ ts.map Tm.cells, e.length = 5 := by
  intro e he
  obtain ⟨t, _, rfl⟩ := List.mem_map.1 he
  exact Tm.cells_len t
 have hgT : ∀ (i : Nat) (t : Tm), ts[i]? = some t → (ts.map Tm.cells)[i]? = some t.cells := by
  intro i t ht
  rw [List.getElem?_map, ht]; rfl
 have n0 : ((0 : Int) != 0) = false := rfl
 have hl16 : l.length ≤ 16 := by omega
 have hlts : l.length ≤ ts.length ∧ ts.length ≤ l.length := by omega
 have hml : (ts.map Tm.cells).length = ts.length := by simp
 clear hvd hf hl ll lt
 obtain ⟨v, hv⟩ : ∃ v, v = if (R.2 != 0) = true then V.tup [.bool false, .int .i64 0, .int .i64 R.2] else decV (dA lim R.1) := ⟨_, rfl⟩
 have hin : ∀ S, InV S v := by
  intro S
  rw [hv]
  unfold decV
  repeat' split
  all_goals simp [InV, InL]
 rw [← hv]
 have hvE : ((R.2 != 0) = true) → V.tup [.bool false, .int .i64 0, .int .i64 R.2] = v := fun e => by rw [hv, if_pos e]
 have hvO : ((R.2 != 0) = false) → decV (dA lim R.1) = v := fun e => by rw [hv, e]; rfl
 clear hv
 refine en_ Tryz.func32 [.tmp 6, .tmp 7, .tmp 8] fun g0 w0 gen hrel hfr hfr' hres => ?_
 have hput' := hput
 have hT' := hT
 have hvE' := hvE
 have hvO' := hvO
 clear hput hT hvE hvO
 refine wq_ ?_
 refine ar_ [2, 3, 23] [⟨gen, 0, 0⟩] (fun i σ => Agree h σ.h ∧ OwnS h σ.h (σ.tm 10) 5 ((ts.take i).map Tm.cells)) (l).length ?_ ?_ ?_
 ·simp only [go_sem, *]
  exact ⟨ag_, .inl rfl⟩
 ·
  intro i σ gr0 hgl_gr0 hgn hlt jI jN jS ⟨jA, j10⟩
  obtain ⟨jT, jB⟩ := jS
  simp only [go_sem] at jT jB
  obtain ⟨hgf, hgf0, eg_gen_gr0, eh_gen_gr0⟩ := rnd hgn hgl_gr0 jA
  obtain ⟨x, hx, hxm, hm⟩ := rnx hlt
  clear hgn
  obtain ⟨t, ht, hc⟩ := h2 i x hx
  have hse : (ts.take (i + 1)).map Tm.cells = (ts.take i).map Tm.cells ++ [t.cells] := by rw [List.take_add_one, ht]; simp
  have hel : ((ts.take i).map Tm.cells).length = i := by
   have := (List.getElem?_eq_some_iff.1 ht).1
   simp; omega
  have hal : ((ts.take i).map Tm.cells).all (fun e => e.length == 5) = true := by
   rw [List.all_eq_true]; intro e he; obtain ⟨y, _, rfl⟩ := List.mem_map.1 he; simp [Tm.cells_len]
  generalize (ts.take i).map Tm.cells = es at *
  clear h2 hput' hT'
  repeat' (first
   |(refine ⟨?_,?_⟩; focus ((repeat' (first|refine ⟨?_,?_⟩|refine .inr ?_)); all_goals kernel_rfl))
   |(refine okE_app_own j10 (by repeat (first|exact Keeps.refl _|refine Keeps.new ?_ (hgf _ _)|refine Keeps.new ?_ (hfr' _ _)|refine Keeps.box ?_ rfl|refine Keeps.box ?_ (by simp only [go_sem, *]))) rfl (by simp only [go_sem, *] <;> omega) (by first|exact hgf0 _ _|exact hfr' _ _) (by simp only [go_sem, *]) (by intro hd; cases hd) ?_; intro v' h' log' jO jK jAg jAb jF; simp only [go_sem, *])
   | (first|refine wp rfl ?_|refine spt rfl ?_|refine spf rfl ?_|(refine spl (fun hc => ?_) fun hc => ?_) <;> (try rw [beq_iff_eq] at hc) <;> try simp only [hc]|refine cp hc ?_|refine AR_inv ?_)<;>try simp only [go_sem, *])
  exact jAg (by repeat (first|exact jA|refine Agree.new ?_ (hgf0 _ _)))
 ·
  intro σ ga0 hgl_ga0 hgn jS ⟨jA, j10⟩
  obtain ⟨jT, jB⟩ := jS
  simp only [go_sem] at jT jB
  obtain ⟨hgf, hgf0, eg_gen_ga0, eh_gen_ga0⟩ := rnd hgn hgl_ga0 jA
  clear hgn
  rw [show l.length = ts.length by omega, List.take_length] at j10
  obtain ⟨cO, j10⟩ := j10.val
  clear h2
  have hw0 : IntKind.i64.wrap ((ts.length : Int) - 1) = (ts.length : Int) - 1 := wrap_eq rfl (by omega) (by omega)
  refine wq_ ?_
  refine AR_loop_nat (fun i σ' => σ'.tm 2 = .int .i64 lim ∧ σ'.tm 3 = .ptr ⟨gen, 0, 0⟩ 0 ∧ σ'.tm 10 = .sl cO (ts.map Tm.cells) ∧ σ'.tm 15 = .int .i64 ((ts.length - i : Nat) - 1 : Int) ∧ Agree h σ'.h ∧
   ∃ F : Fm, σ'.h ⟨gen, 0, 0⟩ = some (.box F.cells) ∧ Dc (g.take (ts.length - i)) F ∧ fmSz F ≤ 4096 ∧ putsR F (ts.take (ts.length - i)).reverse = R) ts.length ?_ ?_
  ·simp only [go_sem, *]
   exact ⟨by simp, f, rfl, by simpa using hfg, zf, by simpa using hR0⟩
  clear jA jT jB hR0 hw0
  intro i σ' hi ⟨j2, j3, jt, j15, jA, F, jB, hF, zF, hR⟩
  rcases Nat.lt_or_ge i ts.length with hlt | hge
  ·rw [show ts.length - i = ts.length - (i + 1) + 1 by omega] at hF hR
   obtain ⟨t, ht, hP, hok⟩ := hput' _ F (by omega) hF zF
   rw [take_rev ht] at hR
   have hg1 := hgT _ t ht
   have hc : ((ts.length - i : Nat) : Int) - 1 = ((ts.length - (i + 1) : Nat) : Int) := by omega
   rw [hc] at j15
   have d1 : decide (((ts.length - (i + 1) : Nat) : Int) ≥ 0) = true := by simp
   have d3 : ts.length - (i + 1) < ts.length := by omega
   have hw : IntKind.i64.wrap (((ts.length - (i + 1) : Nat) : Int) - 1) = ((ts.length - (i + 1) : Nat) : Int) - 1 := wrap_eq rfl (by omega) (by omega)
   rw [putsR] at hR
   unfold fmErrV at hP
   clear hput' hT' hgT hF zF hc
   refine AR_gen2 (fun gn hgl hgn => ?_)
   have hgf := fresh_of hgn
   have hgf0 := fun r i => agree_fresh jA (hgf r i)
   have eg1 := gen_lt (show gen < gn by omega)
   have eg2 := gen_lt' (show gen < gn by omega)
   clear hgn
   cases hz : ((putR F t).2 != 0) with
   | true =>
    rw [hz] at hR
    simp only [if_true] at hR
    subst hR
    have hv := hvE' hz
    subst hv
    clear hok
    generalize (putR F t).1 = F1 at *
    generalize (putR F t).2 = e at *
    generalize ts.length - (i + 1) = z at *
    generalize ts.map Tm.cells = tcs at *
    repeat' (first
     |(refine ⟨?_,?_⟩; focus ((repeat' (first|refine ⟨?_,?_⟩|refine .inr ?_)); all_goals kernel_rfl))
     |exact hin _|exact agf (by assumption)
     | (first|refine wp rfl ?_|refine spt rfl ?_|refine spf rfl ?_|(refine spl (fun hc => ?_) fun hc => ?_) <;> (try rw [beq_iff_eq] at hc) <;> try simp only [hc]|refine cp hP ?_|refine finF hrel ?_ ?_ ?_)<;>try simp only [go_sem, *])
    all_goals rfl
   | false =>
    rw [hz] at hR
    simp only [Bool.false_eq_true, if_false] at hR
    have hz0 : (putR F t).2 = 0 := by simpa using hz
    obtain ⟨q1, q2⟩ := hok hz0
    rw [hz0] at hP
    clear hok hz hz0
    generalize (putR F t).1 = F1 at *
    generalize ts.length - (i + 1) = z at *
    generalize htc : ts.map Tm.cells = tcs at *
    repeat' (first
     |(refine ⟨?_,?_⟩; focus ((repeat' (first|refine ⟨?_,?_⟩|refine .inr ?_)); all_goals kernel_rfl))
     | (first|refine wp rfl ?_|refine spt rfl ?_|refine spf rfl ?_|(refine spl (fun hc => ?_) fun hc => ?_) <;> (try rw [beq_iff_eq] at hc) <;> try simp only [hc]|refine cp hP ?_)<;>try simp only [go_sem, *])
    refine AR_inv ?_
    simp only [go_sem, *]
    exact ⟨by repeat (first|exact jA|refine Agree.new ?_ (hgf0 _ _)|refine Agree.new ?_ (hfr' _ _)), F1, rfl, q1, q2, hR⟩
  ·obtain rfl : i = ts.length := by omega
   rw [Nat.sub_self] at hF hR j15
   simp only [List.take_zero, List.reverse_nil, putsR] at hR
   have hTF := hT' F (by simpa using hF) zF
   have hv := hvO' (by rw [← hR]; rfl)
   have e1 : R.1 = F := by rw [← hR]
   rw [e1] at hv
   subst hv
   rw [decV_tup] at hTF ⊢
   have d1 : decide ((((0 : Nat) : Int) - 1) ≥ 0) = false := by simp
   clear hput' hT' hgT hF zF hR hin
   exact wk_
end Go.Proofs.YtkoeoklndhgejaaGreatDoor
