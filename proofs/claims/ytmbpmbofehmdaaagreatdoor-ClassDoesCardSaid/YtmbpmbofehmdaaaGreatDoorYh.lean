/-
 Walks: a formula with another term (law 8).
-/
import Derived.Test.YtmbpmbofehmdaaaGreatDoorMs
import Derived.Test.YtmbpmbofehmdaaaGreatDoorWt
import Derived.Test.YtmbpmbofehmdaaaGreatDoorAbsDe
set_option linter.unusedSimpArgs false
set_option linter.unusedVariables false
set_option maxRecDepth 20000
set_option maxHeartbeats 4000000
namespace Go.Proofs.YtmbpmbofehmdaaaGreatDoor
open Go GoAbs Go.Proofs
theorem c_spoilt (l : List Int) (hl : l.length ≤ 1000) (a : Nat) (f : Fm) (wf : FmW f) (gf : FmG true f) (nf : FmN f) (N : Nat) (zf : fmSz f ≤ N) (lf : f.least 536870912 = true) :
  ∃ f' a', FmA (2 * N + 100) f' ∧ ∀ d, Turns Tryz.prog env 12 [.ptr d 0, .agg f.cells] d (.box (deckC l a)) (.agg f'.cells) (.box (deckC l a')) := by
 obtain ⟨p, b, hW⟩ := Fm.walks l f wf a
 have hP := hW.path
 obtain ⟨x, y, hxy, gx, gy⟩ := leaf_terms gf hP
 have hn2 : (f.atP p).terms.length = 2 := by rw [hxy]; rfl
 have hC := c_copyPath 2 p f wf hP hn2 (by rw [hxy]; simp)
 have hcs : ((f.atP p).terms.map Tm.cells).flatten = x.cells ++ y.cells := by rw [hxy]; simp
 rw [hcs] at hC
 have hr := nextD_range (l := l) (a := b) (n := 2) (by omega) (by omega)
 generalize hq : nextD l b 2 = q at hr
 obtain ⟨j, b2⟩ := q
 simp only at hr
 obtain ⟨t, b3, mt, wt, hT⟩ := c_Term l hl 1 [] tNat b2 (by simp) .nat (by rw [tyH_nat]; omega) (by rw [tyH_nat]; simp) (by rw [tyH_nat]; omega)
 simp only [List.map_nil] at hT
 obtain ⟨gt, zt, lt⟩ := mt.small (by simp) (by simp)
 have nt := gt.N lt
 have hX : FmW (f.atP p) ∧ FmN (f.atP p) ∧ fmSz (f.atP p) ≤ fmSz f := by
  have key : ∀ (p : List Nat) (f : Fm), FmW f → FmN f → Fm.Path p f → FmW (f.atP p) ∧ FmN (f.atP p) ∧ fmSz (f.atP p) ≤ fmSz f := by
   intro p
   induction p with
   | nil => intro f wf nf _; exact ⟨wf, nf, Nat.le_refl _⟩
   | cons i p ih =>
    intro f wf nf hP
    cases hP with
    | @step _ x _ _ hi hx =>
     have hm := List.mem_of_getElem? hi
     obtain ⟨h1, h2, h3⟩ := ih x (wf.arg hm) (nf.arg hm) hx
     rw [Fm.atP, fa_at hi]
     exact ⟨h1, h2, by have := fmSz_arg hm; omega⟩
  exact key p f wf nf hP
 obtain ⟨wX, nX, zX⟩ := hX
 have wx : TmW x := wX.term (by rw [hxy]; simp)
 have wy : TmW y := wX.term (by rw [hxy]; simp)
 have nx : TmN x := nX.term (by rw [hxy]; simp)
 have ny : TmN y := nX.term (by rw [hxy]; simp)
 have sy := fmSz_term (f := f.atP p) (x := y) (by rw [hxy]; simp)
 have sx := fmSz_term (f := f.atP p) (x := x) (by rw [hxy]; simp)
 refine ⟨f.putP p (if j = 0 then [t, y] else [x, t]), b3, ?_, ?_⟩
 ·by_cases hj : j = 0
  ·rw [if_pos hj]
   obtain ⟨a1, a2, a3, a4⟩ := putP_A (ts := [t, y]) rfl gt gy wt wy nt ny gf wf nf hP
   exact ⟨a2, a3, by omega, fun _ => a1⟩
  ·rw [if_neg hj]
   obtain ⟨a1, a2, a3, a4⟩ := putP_A (ts := [x, t]) rfl gx gt wx wt nx nt gf wf nf hP
   exact ⟨a2, a3, by omega, fun _ => a1⟩
 have hj2 : j = 0 ∨ j = 1 := by omega
 have hn1 : (nextD l b 2).1 = j := by rw [hq]
 have hn3 : (nextD l b 2).2 = b2 := by rw [hq]
 clear sx sy wX nX zX nx ny nt hq hn2 hxy hcs lt zt gt gx gy lf zf nf gf hr mt wt wx wy
 intro d h hd
 have hlen := wf.len
 refine en_ Tryz.func12 [.cell 4 29] fun g0 w0 gen hrel hfr hfr' hres => ?_
 have f1 := fresh_ne hfr hd
 have f2 := fresh_ne' hfr hd
 have hA := hC.at ⟨gen, 1000, 0⟩
 clear hC
 have hH1 : (Fm.hole p (.slb ⟨gen, 1000, 0⟩ 2) f).length = 5 := hole_len
 have hH2 : (Fm.hole p (.slb ⟨gen, 1000, 0⟩ 2) f).all oneV = true := hole_one rfl
 have hHw : weakL (Fm.hole p (.slb ⟨gen, 1000, 0⟩ 2) f) = Fm.hole p (.slb ⟨gen, 1000, 0⟩ 2) f := weakL_hole hP
 generalize hV : Fm.hole p (.slb ⟨gen, 1000, 0⟩ 2) f = B at *
 have hsp : splice f.cells 0 B = B := splice_full (by rw [Fm.cells_len, hH1])
 repeat' (first
  |refine AR_seq ?_|refine AR_skip ?_|refine AR_block ?_|refine AR_block_end ?_|refine AR_exit ?_|refine AR_code_exit ?_|refine AR_inv_exit ?_|refine AR_block_hit ?_
  |refine AR_block_pass (by decide) ?_|refine AR_ret ?_|refine AR_fall ?_
  |(refine ⟨?_,?_⟩; focus ((repeat' (first|refine ⟨?_,?_⟩|refine .inr ?_)); all_goals kernel_rfl))
  |refine AR_cond_t rfl ?_|refine AR_cond_f rfl ?_|(refine AR_cond rfl (fun hc => ?_) (fun hc => ?_) <;> (try rw [beq_iff_eq] at hc) <;> (try simp only [hc]))
  |(refine Call1_newAt hA (by first|exact hfr' _ _ | simp only [go_sem, *]) ?_ <;> simp only [go_sem, *])
  | ((first|refine AR_region ?_|(refine guarded_split (fun hb => ?_) (fun hb => ?_) <;> (try simp only [Bool.not_true, Bool.not_false] at hb))) <;> simp only [go_sem, *]))
 refine AR_loop_nat (fun i σ => σ.tm 0 = .ptr d 0 ∧ σ.tm 3 = .ptr ⟨gen, 0, 0⟩ 0 ∧ σ.tm 4 = .ptr ⟨gen, 0, 1⟩ 0 ∧ σ.h ⟨gen, 0, 0⟩ = some (.box B) ∧ σ.h ⟨gen, 0, 1⟩ = some (.box [.int .i64 0, .int .i64 0, .sl .full [], .sl .full [], .sl .full []]) ∧
  σ.h ⟨gen, 1000, 0⟩ = some (.box (x.cells ++ y.cells)) ∧ AgreeBut d h σ.h ∧ ∃ f' a' q, Fm.Walk l f' a' q b ∧ q.length + i = p.length ∧ σ.h d = some (.box (deckC l a')) ∧ FmW f' ∧
   ((σ.tm 5 = .ptr ⟨gen, 0, 0⟩ 0 ∧ B = Fm.hole q (.slb ⟨gen, 1000, 0⟩ 2) f') ∨ σ.tm 5 = .el (Fm.hole q (.slb ⟨gen, 1000, 0⟩ 2) f') 0)) p.length ?_ ?_
 ·simp only [go_sem, *]
  exact ⟨by repeat (first|exact AgreeBut.refl _ _|refine AgreeBut.new ?_ (hfr' _ _)), f, a, p, hW, rfl, rfl, wf, .inl hV.symm⟩
 clear hA wf hlen hsp
 intro i σ hi ⟨j1, j2, j3, j4, j5, j6, jA, f', a', q, hw, hql, jd, wf, jp⟩
 cases hw with
 | @step _ x' _ k a'' _ q hD hk hw' =>
  have hkl : k < f'.args.length := (List.getElem?_eq_some_iff.1 hk).1
  have hlen := wf.len
  have e1 : (nextD l a' f'.args.length).1 = (k : Int) := by rw [hD]
  have e2 : (nextD l a' f'.args.length).2 = a'' := by rw [hD]
  have hR5 : (holeRow f' k (Fm.hole q (.slb ⟨gen, 1000, 0⟩ 2) x'))[k]? = some (Fm.hole q (.slb ⟨gen, 1000, 0⟩ 2) x') := by
   unfold holeRow; rw [List.getElem?_set_self (by simpa using hkl)]
  have hRl : (holeRow f' k (Fm.hole q (.slb ⟨gen, 1000, 0⟩ 2) x')).length = f'.args.length := holeRow_len
  have hE5 : (Fm.hole q (.slb ⟨gen, 1000, 0⟩ 2) x').length = 5 := hole_len
  have hhc := hole_cons (p := q) (v := .slb ⟨gen, 1000, 0⟩ 2) hk
  have d13 : decide ((f'.args.length : Int) > 0) = true := by simp; omega
  have hN := c_Next l hl d a' f'.args.length
  have wx' := wf.arg (List.mem_of_getElem? hk)
  have hql' : q.length + (i + 1) = p.length := by simp at hql; omega
  have hip : i < p.length := by simp at hql; omega
  have k0 : (0 : Int) ≤ (k : Int) := by omega
  rw [hhc] at jp
  clear hhc hD hk hkl hP hV hql hT hW
  change _ ∨ _ at jp
  rw [show (f'.args.map Fm.cells).set k (Fm.hole q (.slb ⟨gen, 1000, 0⟩ 2) x') = holeRow f' k (Fm.hole q (.slb ⟨gen, 1000, 0⟩ 2) x') from rfl] at jp
  generalize hE : Fm.hole q (.slb ⟨gen, 1000, 0⟩ 2) x' = E at *
  generalize holeRow f' k E = R at *
  rcases jp with ⟨jp, rfl⟩ | jp
  ·
   repeat' (first
    |(refine ⟨?_,?_⟩; focus ((repeat' (first|refine ⟨?_,?_⟩|refine .inr ?_)); all_goals kernel_rfl))
    | (first|refine wp rfl ?_|refine spt rfl ?_|refine spf rfl ?_|(refine spl (fun hc => ?_) fun hc => ?_) <;> (try rw [beq_iff_eq] at hc) <;> try simp only [hc]|(refine ct (hN) ?_ ?_; focus ((simp only [go_sem, *] <;> rfl); done)))<;>try simp only [go_sem, *])
   refine AR_inv ?_
   simp only [go_sem, *]
   exact ⟨AgreeBut.set jA, _, _, _, hw', hql', rfl, wx', by rw [hE]; exact .inr rfl⟩
  ·
   repeat' (first
    |(refine ⟨?_,?_⟩; focus ((repeat' (first|refine ⟨?_,?_⟩|refine .inr ?_)); all_goals kernel_rfl))
    | (first|refine wp rfl ?_|refine spt rfl ?_|refine spf rfl ?_|(refine spl (fun hc => ?_) fun hc => ?_) <;> (try rw [beq_iff_eq] at hc) <;> try simp only [hc]|(refine ct (hN) ?_ ?_; focus ((simp only [go_sem, *] <;> rfl); done)))<;>try simp only [go_sem, *])
   refine AR_inv ?_
   simp only [go_sem, *]
   exact ⟨AgreeBut.set jA, _, _, _, hw', hql', rfl, wx', by rw [hE]; exact .inr rfl⟩
 | leaf ha =>
  have hhn := hole_nil (.slb ⟨gen, 1000, 0⟩ 2) f'
  rw [ha, List.map_nil] at hhn
  have hN := c_Next l hl d b 2
  have hTd := hT d
  have hF := c_refNat
  have eB : ∀ ts : List Tm, fzL ⟨gen, 1000, 0⟩ 2 (.sl .any (ts.map Tm.cells)) B = (f.putP p ts).cells := fun ts => by rw [← hV]; exact fz_put hP
  have hBt : B.take 5 = B := List.take_of_length_le (by omega)
  have hBl : ∀ z0 z1 z2 z3 z4 : V, splice [z0, z1, z2, z3, z4] 0 B = B := fun _ _ _ _ _ => splice_full (by rw [hH1]; rfl)
  rw [hhn] at jp
  have s0 : ∀ x y t : Tm, splice (x.cells ++ y.cells) 0 t.cells = t.cells ++ y.cells := fun _ _ _ => two_store0
  have s1 : ∀ x y t : Tm, splice (x.cells ++ y.cells) 5 t.cells = x.cells ++ t.cells := fun _ _ _ => two_store1
  clear hT hhn ha hql hW hV hP
  rw [hn1, hn3] at hN
  rcases hj2 with rfl | rfl
  ·have z0 : ((0 : Int) = 0) = True := by simp
   simp only [z0, if_true]
   rcases jp with ⟨jp, jB⟩ | jp
   ·rw [jB] at j4
    refine wq_ ?_
    have ee := eB [t, y]
    simp only [List.map_cons, List.map_nil] at ee
    refine AR_freezeT ⟨gen, 1000, 0⟩ 2 5 [t.cells, y.cells] [(4, .ptr ⟨gen, 0, 1⟩ 0)] [(⟨gen, 0, 1⟩, B, fzL ⟨gen, 1000, 0⟩ 2 (.sl .any [t.cells, y.cells]) B)] rfl hd (dk := deckC l b3) (cs := t.cells ++ y.cells) ?_ ?_ rfl hrel ?_ ?_ rfl ?_ ?_ (hfr' _ _) ?_ ?_ ?_ ?_ ?_ ?_
    ·simp only [go_sem, *]
    ·simp only [deckC_in]
    ·simp only [go_sem, *]
    ·rw [List.take_of_length_le (by simp [Tm.cells_len])]; simp
    ·intro r hr
     simp only [List.mem_cons, List.not_mem_nil, or_false] at hr
     rcases hr with rfl | rfl <;> exact Tm.cells_len _
    ·simp [Tm.cells_len]
    ·simp
    ·repeat (first|assumption|refine AgreeBut.set ?_|refine AgreeBut.new ?_ (hfr' _ _))
    ·simp only [InLL, InL_Tm, and_self]
    ·intro b hb
     simp only [List.mem_cons, List.not_mem_nil, or_false] at hb
     subst hb
     refine ⟨hfr' _ _, by simp only [go_sem, *], by rw [fzL_length], zip_fz B, ?_⟩
     simp only [ee]
     exact InL_Fm _
    ·intro b hb
     simp only [List.mem_cons, List.not_mem_nil, or_false] at hb
     subst hb
     refine ⟨.inr (.inl (by simp only [go_sem, *])), ?_⟩
     simp only [InV, List.foldr_cons, List.foldr_nil, hset_same, ne_eq, reduceCtorEq, not_false_eq_true]
    simp only [List.foldr_cons, List.foldr_nil, ee]
    clear ee eB
    generalize Fm.putP p [t, y] f = F' at *
    exact wkT_
   ·
    refine wq_ ?_
    have ee := eB [t, y]
    simp only [List.map_cons, List.map_nil] at ee
    refine AR_freezeT ⟨gen, 1000, 0⟩ 2 5 [t.cells, y.cells] [(4, .ptr ⟨gen, 0, 1⟩ 0)] [(⟨gen, 0, 1⟩, B, fzL ⟨gen, 1000, 0⟩ 2 (.sl .any [t.cells, y.cells]) B)] rfl hd (dk := deckC l b3) (cs := t.cells ++ y.cells) ?_ ?_ rfl hrel ?_ ?_ rfl ?_ ?_ (hfr' _ _) ?_ ?_ ?_ ?_ ?_ ?_
    ·simp only [go_sem, *]
    ·simp only [deckC_in]
    ·simp only [go_sem, *]
    ·rw [List.take_of_length_le (by simp [Tm.cells_len])]; simp
    ·intro r hr
     simp only [List.mem_cons, List.not_mem_nil, or_false] at hr
     rcases hr with rfl | rfl <;> exact Tm.cells_len _
    ·simp [Tm.cells_len]
    ·simp
    ·repeat (first|assumption|refine AgreeBut.set ?_|refine AgreeBut.new ?_ (hfr' _ _))
    ·simp only [InLL, InL_Tm, and_self]
    ·intro b hb
     simp only [List.mem_cons, List.not_mem_nil, or_false] at hb
     subst hb
     refine ⟨hfr' _ _, by simp only [go_sem, *], by rw [fzL_length], zip_fz B, ?_⟩
     simp only [ee]
     exact InL_Fm _
    ·intro b hb
     simp only [List.mem_cons, List.not_mem_nil, or_false] at hb
     subst hb
     refine ⟨.inr (.inl (by simp only [go_sem, *])), ?_⟩
     simp only [InV, List.foldr_cons, List.foldr_nil, hset_same, ne_eq, reduceCtorEq, not_false_eq_true]
    simp only [List.foldr_cons, List.foldr_nil, ee]
    clear ee eB
    generalize Fm.putP p [t, y] f = F' at *
    exact wkT_
  ·have z0 : ((1 : Int) = 0) = False := by simp
   simp only [z0, if_false]
   rcases jp with ⟨jp, jB⟩ | jp
   ·rw [jB] at j4
    refine wq_ ?_
    have ee := eB [x, t]
    simp only [List.map_cons, List.map_nil] at ee
    refine AR_freezeT ⟨gen, 1000, 0⟩ 2 5 [x.cells, t.cells] [(4, .ptr ⟨gen, 0, 1⟩ 0)] [(⟨gen, 0, 1⟩, B, fzL ⟨gen, 1000, 0⟩ 2 (.sl .any [x.cells, t.cells]) B)] rfl hd (dk := deckC l b3) (cs := x.cells ++ t.cells) ?_ ?_ rfl hrel ?_ ?_ rfl ?_ ?_ (hfr' _ _) ?_ ?_ ?_ ?_ ?_ ?_
    ·simp only [go_sem, *]
    ·simp only [deckC_in]
    ·simp only [go_sem, *]
    ·rw [List.take_of_length_le (by simp [Tm.cells_len])]; simp
    ·intro r hr
     simp only [List.mem_cons, List.not_mem_nil, or_false] at hr
     rcases hr with rfl | rfl <;> exact Tm.cells_len _
    ·simp [Tm.cells_len]
    ·simp
    ·repeat (first|assumption|refine AgreeBut.set ?_|refine AgreeBut.new ?_ (hfr' _ _))
    ·simp only [InLL, InL_Tm, and_self]
    ·intro b hb
     simp only [List.mem_cons, List.not_mem_nil, or_false] at hb
     subst hb
     refine ⟨hfr' _ _, by simp only [go_sem, *], by rw [fzL_length], zip_fz B, ?_⟩
     simp only [ee]
     exact InL_Fm _
    ·intro b hb
     simp only [List.mem_cons, List.not_mem_nil, or_false] at hb
     subst hb
     refine ⟨.inr (.inl (by simp only [go_sem, *])), ?_⟩
     simp only [InV, List.foldr_cons, List.foldr_nil, hset_same, ne_eq, reduceCtorEq, not_false_eq_true]
    simp only [List.foldr_cons, List.foldr_nil, ee]
    clear ee eB
    generalize Fm.putP p [x, t] f = F' at *
    exact wkT_
   ·
    refine wq_ ?_
    have ee := eB [x, t]
    simp only [List.map_cons, List.map_nil] at ee
    refine AR_freezeT ⟨gen, 1000, 0⟩ 2 5 [x.cells, t.cells] [(4, .ptr ⟨gen, 0, 1⟩ 0)] [(⟨gen, 0, 1⟩, B, fzL ⟨gen, 1000, 0⟩ 2 (.sl .any [x.cells, t.cells]) B)] rfl hd (dk := deckC l b3) (cs := x.cells ++ t.cells) ?_ ?_ rfl hrel ?_ ?_ rfl ?_ ?_ (hfr' _ _) ?_ ?_ ?_ ?_ ?_ ?_
    ·simp only [go_sem, *]
    ·simp only [deckC_in]
    ·simp only [go_sem, *]
    ·rw [List.take_of_length_le (by simp [Tm.cells_len])]; simp
    ·intro r hr
     simp only [List.mem_cons, List.not_mem_nil, or_false] at hr
     rcases hr with rfl | rfl <;> exact Tm.cells_len _
    ·simp [Tm.cells_len]
    ·simp
    ·repeat (first|assumption|refine AgreeBut.set ?_|refine AgreeBut.new ?_ (hfr' _ _))
    ·simp only [InLL, InL_Tm, and_self]
    ·intro b hb
     simp only [List.mem_cons, List.not_mem_nil, or_false] at hb
     subst hb
     refine ⟨hfr' _ _, by simp only [go_sem, *], by rw [fzL_length], zip_fz B, ?_⟩
     simp only [ee]
     exact InL_Fm _
    ·intro b hb
     simp only [List.mem_cons, List.not_mem_nil, or_false] at hb
     subst hb
     refine ⟨.inr (.inl (by simp only [go_sem, *])), ?_⟩
     simp only [InV, List.foldr_cons, List.foldr_nil, hset_same, ne_eq, reduceCtorEq, not_false_eq_true]
    simp only [List.foldr_cons, List.foldr_nil, ee]
    clear ee eB
    generalize Fm.putP p [x, t] f = F' at *
    exact wkT_
end Go.Proofs.YtmbpmbofehmdaaaGreatDoor
