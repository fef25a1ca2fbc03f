/-
 Walks: the machine of the program: lists gone through from their end.
-/
import Derived.Test.YtenelbgbjmijiaaGreatDoorNf
set_option linter.unusedSimpArgs false
set_option linter.unusedVariables false
set_option maxRecDepth 20000
set_option maxHeartbeats 4000000
namespace Go.Proofs.YtenelbgbjmijiaaGreatDoor
open Go GoAbs Go.Proofs
def cellI (l : List Nat) : V := .iface 253 (cellV l)
def sufV : List Nat → List V
 | [] => []
 | x :: l => cellV (x :: l) :: sufV l
theorem sufV_len : ∀ l, (sufV l).length = l.length
 | [] => rfl
 | x :: l => by simp [sufV, sufV_len l]
theorem sufV_get : ∀ (l : List Nat) (i : Nat), i < l.length → (sufV l)[i]? = some (cellV (l.drop i))
 | [], i, h => by simp at h
 | x :: l, 0, _ => rfl
 | x :: l, i + 1, h => by simp only [sufV, List.getElem?_cons_succ, List.drop_succ_cons]; exact sufV_get l i (by simpa using h)
theorem sufV_w : ∀ l, weakL (sufV l) = sufV l
 | [] => rfl
 | x :: l => by simp [sufV, weakL, cellV_weak, sufV_w l]
theorem sufV_rows (l : List Nat) : weakLL ((sufV l).map fun v => [v]) = (sufV l).map fun v => [v] := by
 have h := sufV_w l
 rw [weakL_eq] at h
 rw [weakLL_eq, List.map_map]
 conv => rhs; rw [← h]
 simp [weakL]
theorem cell_split {l : List Nat} {i : Nat} (h : i < l.length) : ∃ x, l.drop i = x :: l.drop (i + 1) ∧ l.getD i 0 = x ∧ cellV (l.drop i) = .el [.int .i64 x, cellV (l.drop (i + 1))] 0 := by
 refine ⟨l[i], List.drop_eq_getElem_cons h, by simp [h], ?_⟩
 rw [List.drop_eq_getElem_cons h, cellV]
theorem cellV_cases (l : List Nat) : cellV l = .nilp ∨ ∃ c, cellV l = .el c 0 ∧ weakL c = c ∧ ∀ S, InL S c = True := by
 cases l with
 | nil => exact .inl rfl
 | cons x l => exact .inr ⟨_, rfl, by simp [weakL, weak, cellV_weak], fun S => by simp [InL, InV, cellV_in]⟩
inductive FoldS (d : GoAbs.Id) (most : Nat) (sv : V) (l : List Nat) : Nat → Nat → V → Nat → Bool → V → Prop
 | nil {u : Nat} {rv : V} : FoldS d most sv l 0 u rv u false rv
 | stop {i u u' : Nat} {rv w : V} : CallS d most u sv [intV (l.getD i 0), cellI (l.drop (i + 1)), rv] u' true w → FoldS d most sv l (i + 1) u rv u' true w
 | step {i u u1 u' : Nat} {rv rv1 w : V} {o : Bool} : CallS d most u sv [intV (l.getD i 0), cellI (l.drop (i + 1)), rv] u1 false rv1 → IsI rv1 → FoldS d most sv l i u1 rv1 u' o w → FoldS d most sv l (i + 1) u rv u' o w
theorem FoldS.cons {d : GoAbs.Id} {most i u u' : Nat} {sv rv w : V} {l : List Nat} {o : Bool} (h : FoldS d most sv l (i + 1) u rv u' o w) :
  (o = true ∧ CallS d most u sv [intV (l.getD i 0), cellI (l.drop (i + 1)), rv] u' true w) ∨
  ∃ u1 rv1, CallS d most u sv [intV (l.getD i 0), cellI (l.drop (i + 1)), rv] u1 false rv1 ∧ IsI rv1 ∧ FoldS d most sv l i u1 rv1 u' o w := by
 cases h with
 | stop h => exact .inl ⟨rfl, h⟩
 | step h1 h2 h3 => exact .inr ⟨_, _, h1, h2, h3⟩
theorem FoldS.none {d : GoAbs.Id} {most u u' : Nat} {sv rv w : V} {l : List Nat} {o : Bool} (h : FoldS d most sv l 0 u rv u' o w) : u' = u ∧ o = false ∧ w = rv := by cases h; exact ⟨rfl, rfl, rfl⟩
theorem c_foldS {d : GoAbs.Id} {most u u' : Nat} {zv sv w : V} {l : List Nat} {o : Bool} (h0 : FoldS d most sv l l.length u zv u' o w) (hz : IsI zv) (hs : IsI sv) (hl : l.length ≤ 100000) :
  Turns Tryz.prog env 277 [.ptr d 0, .agg [zv, sv, cellI l]] d (mb u most) (evR o w) (mb u' most) := by
 intro h hd
 unfold mb at hd ⊢
 have x0 : ((0 : Int) < ((3 : Nat) : Int)) = True := by simp
 have x1 : ((1 : Int) < ((3 : Nat) : Int)) = True := by simp
 have x2 : ((2 : Int) < ((3 : Nat) : Int)) = True := by simp
 have hsI := hs
 have hzI := hz
 obtain ⟨s1, s2, rfl, ws, is⟩ := hs
 obtain ⟨z1, z2, rfl, wz, iz⟩ := hz
 unfold cellI
 refine ret_of_walkX Tryz.func277 rfl (by kernel_rfl) fun g0 w0 gen hrel hfr => ?_
 have hfr' : ∀ r i, h ⟨gen, r, i⟩ = none := fresh_of hfr
 have hres : Tryz.f277.results.toList = [.tmp 4, .tmp 5] := rfl
 have hl0 : ∀ b, w0.heap.size ≤ b → g0.lim b = 0 := hrel.limnew
 have f1 := fresh_ne hfr hd
 have f2 := fresh_ne' hfr hd
 refine ARX_pieces ?_
 simp only [flatC_seq, flatC_region, flatC_block, flatC_ret, List.append_assoc, List.cons_append, List.nil_append, List.map_cons, List.map_nil, List.append_nil]
 refine ARX_of_AR (J := fun σ => ∃ gn, gen < gn ∧ σ.tm 2 = .ptr ⟨gen, 0, 0⟩ 0 ∧ σ.tm 3 = .ptr ⟨gen, 0, 1⟩ 0 ∧ σ.tm 8 = .ptr ⟨gn, 6, 2⟩ 0 ∧ σ.tm 9 = .ptr ⟨gn, 6, 3⟩ 0 ∧
  σ.tm 28 = .fn (.func 280) [] [.el [.sl .any ((sufV l).map fun v => [v])] 0] ∧ AgreeBut d h σ.h ∧ σ.h d = some (.box [.int .i64 u, .int .i64 most]) ∧
  σ.h ⟨gen, 0, 0⟩ = some (.box [.ptr d 0]) ∧ σ.h ⟨gen, 0, 1⟩ = some (.box [.iface z1 z2, .iface s1 s2, .iface 253 (cellV l)]) ∧ σ.h ⟨gn, 6, 2⟩ = some (.box [.iface z1 z2]) ∧ σ.h ⟨gn, 6, 3⟩ = some (.box [.bool true]))
  [_, _, _, _, _, _] (by kernel_rfl) follows ?_ ?_
 ·clear h0 hsI hzI
  simp only [List.map_cons, List.map_nil, List.cons_append, List.nil_append]
  have hcl := cellV_cases l
  repeat' (first
   |(refine ⟨?_,?_⟩; focus ((repeat' (first|refine ⟨?_,?_⟩|refine .inr ?_)); all_goals kernel_rfl))
   | (first|refine wp rfl ?_|refine spt rfl ?_|refine spf rfl ?_|(refine spl (fun hc => ?_) fun hc => ?_) <;> (try rw [beq_iff_eq] at hc) <;> try simp only [hc]|(refine gs (fun hb => ?_) fun hb => ?_) <;> try simp only [Bool.not_true, Bool.not_false] at hb)<;>try simp only [go_sem, *])
  refine AR_loop_nat (fun i σ => σ.tm 2 = .ptr ⟨gen, 0, 0⟩ 0 ∧ σ.tm 3 = .ptr ⟨gen, 0, 1⟩ 0 ∧ σ.tm 7 = cellV (l.drop i) ∧ i ≤ l.length ∧ AgreeBut d h σ.h ∧ σ.h d = some (.box [.int .i64 u, .int .i64 most]) ∧
   σ.h ⟨gen, 0, 0⟩ = some (.box [.ptr d 0]) ∧ σ.h ⟨gen, 0, 1⟩ = some (.box [.iface z1 z2, .iface s1 s2, .iface 253 (cellV l)]) ∧ OwnS h σ.h (σ.tm 6) 1 (((sufV l).take i).map fun v => [v])) l.length ?_ ?_
  ·simp only [go_sem, *]
   exact ⟨by repeat (first|exact AgreeBut.refl _ _|refine AgreeBut.new ?_ (hfr' _ _)), .inl rfl⟩
  intro i σ hi ⟨j2, j3, j7, ji, jA, jd, jb0, jb1, j6⟩
  refine AR_gen2 (fun gn hgl hgn => ?_)
  have hgf := fresh_of hgn
  have hgf0 := agreeBut_fresh' hd jA hgf (fun r i e => by have := hfr d (by rw [hd]; simp); rw [e] at this; simp at this; omega)
  have eg1 := gen_lt hgl
  have eg2 := gen_lt' hgl
  have fd := fresh_ne2 hfr hd hgl
  have fe := fresh_ne2' hfr hd hgl
  clear hgn hcl
  rcases Nat.lt_or_ge i l.length with hlt | hge
  ·obtain ⟨x, hx1, hx2, hx3⟩ := cell_split hlt
   have hcl := cellV_cases (l.drop (i + 1))
   rw [hx3] at j7
   have hse : ((sufV l).take (i + 1)).map (fun v => [v]) = ((sufV l).take i).map (fun v => [v]) ++ [[.el [.int .i64 x, cellV (l.drop (i + 1))] 0]] := by
    rw [List.take_add_one, sufV_get l i hlt, hx3]; simp
   generalize hes : ((sufV l).take i).map (fun v => [v]) = es at j6 hse
   have hel : es.length = i := by rw [← hes]; simp [sufV_len]; omega
   have hal : es.all (fun e => e.length == 1) = true := by rw [← hes, List.all_eq_true]; intro e he; obtain ⟨v, _, rfl⟩ := List.mem_map.1 he; rfl
   clear hes hx3 hx1 hx2
   repeat' (first
    |(refine ⟨?_,?_⟩; focus ((repeat' (first|refine ⟨?_,?_⟩|refine .inr ?_)); all_goals kernel_rfl))
    |(refine okE_app_own j6 (by repeat (first|exact Keeps.refl _|refine Keeps.new ?_ (hgf _ _)|refine Keeps.new ?_ (hfr' _ _)|refine Keeps.box ?_ rfl|refine Keeps.box ?_ (by simp only [go_sem, *]))) rfl (by simp only [go_sem, *] <;> omega) (by first|exact hgf0 _ _|exact hfr' _ _) (by simp only [go_sem, *]) (by intro hd; cases hd) ?_; intro v' h' log' jO jK jAg jAb jF; simp only [go_sem, *])
    | (first|refine wp rfl ?_|refine spt rfl ?_|refine spf rfl ?_|(refine spl (fun hc => ?_) fun hc => ?_) <;> (try rw [beq_iff_eq] at hc) <;> try simp only [hc]|(refine gs (fun hb => ?_) fun hb => ?_) <;> try simp only [Bool.not_true, Bool.not_false] at hb|refine AR_inv ?_)<;>try simp only [go_sem, *])
   exact hlt
  ·rw [show l.drop i = [] from List.drop_eq_nil_of_le hge] at j7
   unfold cellV at j7
   have hse : ((sufV l).take i).map (fun v => [v]) = (sufV l).map (fun v => [v]) := by rw [List.take_of_length_le (by rw [sufV_len]; exact hge)]
   rw [hse] at j6
   obtain ⟨cO, j6⟩ := j6.val
   have hsr := sufV_rows l
   repeat' (first
    |(refine ⟨?_,?_⟩; focus ((repeat' (first|refine ⟨?_,?_⟩|refine .inr ?_)); all_goals kernel_rfl))
    | (first|refine wp rfl ?_|refine spt rfl ?_|refine spf rfl ?_|(refine spl (fun hc => ?_) fun hc => ?_) <;> (try rw [beq_iff_eq] at hc) <;> try simp only [hc]|(refine gs (fun hb => ?_) fun hb => ?_) <;> try simp only [Bool.not_true, Bool.not_false] at hb|refine cp c_backward ?_|refine AR_inv ?_)<;>try simp only [go_sem, *])
   exact ⟨gn, hgl, rfl, rfl, by repeat (first|exact jA|refine AgreeBut.new ?_ (hgf0 _ _)|refine AgreeBut.set ?_), by simp, by simp⟩
 ·clear x0 x2
  rintro σ ⟨gn, hgl, j2, j3, j8, j9, j28, jA, jd, jb0, jb1, jb2, jb3⟩
  have eg1 := gen_lt hgl
  have eg2 := gen_lt' hgl
  have fd := fresh_ne2 hfr hd hgl
  have fe := fresh_ne2' hfr hd hgl
  have hgn : ∀ r i, h ⟨gn, r, i⟩ = none := fun r i => Classical.byContradiction fun e => by have := hfr _ e; simp at this; omega
  have k1 : ∀ q j q' j', (({ gen := gen, reg := q, op := j } : GoAbs.Id) = { gen := gn, reg := q', op := j' }) = False := fun _ _ _ _ => by simp; omega
  refine ARX_block ?_
  refine ARX_back (vs := sufV l) back_ok j28 (by rw [sufV_len]; omega) (of_decide_eq_true (by kernel_rfl)) (of_decide_eq_true (by kernel_rfl))
   (fun i hi => AgreeBut d h hi ∧ hi ⟨gen, 0, 0⟩ = some (.box [.ptr d 0]) ∧ hi ⟨gen, 0, 1⟩ = some (.box [.iface z1 z2, .iface s1 s2, .iface 253 (cellV l)]) ∧ i ≤ l.length ∧
    ∃ (uj : Nat) (rj : V) (oj : Bool), hi d = some (.box [.int .i64 uj, .int .i64 most]) ∧ hi ⟨gn, 6, 2⟩ = some (.box [rj]) ∧ hi ⟨gn, 6, 3⟩ = some (.box [.bool (!oj)]) ∧ (oj = true → rj = .nili ∧ u' = uj ∧ o = true) ∧
     (oj = false → IsI rj ∧ FoldS d most (.iface s1 s2) l i uj rj u' o w))
   (fun id hi => id = some 2 ∧ AgreeBut d h hi ∧ hi d = some (.box [.int .i64 u', .int .i64 most]) ∧ hi ⟨gn, 6, 2⟩ = some (.box [.nili]) ∧ hi ⟨gn, 6, 3⟩ = some (.box [.bool false]) ∧ o = true) ?_ ?_ ?_ ?_
  ·rw [sufV_len]
   exact ⟨jA, jb0, jb1, Nat.le_refl _, u, _, false, jd, jb2, jb3, (fun e => by cases e), fun _ => ⟨hzI, h0⟩⟩
  ·
   intro xa xb gr i v hi oka okb hgr hlt hv ⟨jA, jb0, jb1, ji, uj, rj, oj, jd, jb2, jb3, jt, jf⟩ mid fin finx
   rw [sufV_len] at hlt
   obtain ⟨x, hx1, hx2, hx3⟩ := cell_split hlt
   have hv' := sufV_get l i hlt
   rw [hv', hx3] at hv
   cases hv
   clear hv' hx3 hx1 j28
   refine ARX_region oka follows (by kernel_rfl) ?_
   simp only [go_sem, *]
   refine mid _ _ ?_
   clear mid
   refine ARX_gen (fun gm hgm => ?_)
   have hgf : ∀ r i, hi ⟨gm, r, i⟩ = none := fresh_of hgm
   have hgf0 := agreeBut_fresh' hd jA hgf (fun r i e => by have := hfr d (by rw [hd]; simp); have := hgm ⟨gen, 0, 0⟩ (by simp [jb0]); rw [e] at *; simp at *; omega)
   have hg1 : gen < gm := hgm ⟨gen, 0, 0⟩ (by simp [jb0])
   have hg2 : gn < gm := hgm ⟨gn, 6, 2⟩ (by simp [jb2])
   have e1 := gen_lt hg1
   have e2 := gen_lt' hg1
   have e3 := gen_lt hg2
   have e4 := gen_lt' hg2
   clear hgm
   cases oj with
   | true =>
    obtain ⟨rfl, rfl, rfl⟩ := jt rfl
    clear jt jf fin
    simp only [Bool.not_true] at jb3
    replace finx := fun gn' σ' h => finx gn' (some 2) σ' ⟨rfl, h⟩
    simp only [jumpE] at finx
    repeat' (first
     |(refine ⟨?_,?_⟩; focus ((repeat' (first|refine ⟨?_,?_⟩|refine .inr ?_)); all_goals kernel_rfl))
     |exact agb (by assumption)
     | (first|refine ARX_seq ?_|refine ARX_region okb follows (by kernel_rfl) ?_|refine ARX_condP ?_|refine ARX_block ?_|refine ARX_exit ?_|refine ARX_skip ?_|refine ARX_ret ?_|refine ARX_block_end ?_|refine ARX_block_pass (by decide) ?_|refine ARX_block_hit ?_|refine ARX_code_exit ?_|refine spt rfl ?_|refine spf rfl ?_)<;>try simp only [go_sem, *])
   | false =>
    obtain ⟨jI, jk⟩ := jf rfl
    clear jt jf finx
    simp only [Bool.not_false] at jb3
    have hcw := cellV_weak (l.drop (i + 1))
    obtain ⟨r1, r2, rfl, wr, ir⟩ := id jI
    rcases jk.cons with ⟨rfl, hk⟩ | ⟨u1, rv1, hk, hI1, hr1⟩
    ·have hT := c_callS' hk (by simp) (fun e => by cases e) hsI
     rw [hx2] at hT
     unfold evR outV mb intV cellI at hT
     simp only [if_true, Bool.not_true, List.map_cons, List.map_nil] at hT
     clear jk hk hsI jI h0 hzI
     repeat' (first
      |(refine ⟨?_,?_⟩; focus ((repeat' (first|refine ⟨?_,?_⟩|refine .inr ?_)); all_goals kernel_rfl))
      |exact agb (by assumption)
      | (first|refine ARX_seq ?_|refine ARX_region okb follows (by kernel_rfl) ?_|refine ARX_condP ?_|refine ARX_block ?_|refine ARX_exit ?_|refine ARX_skip ?_|refine ARX_ret ?_|refine ARX_block_end ?_|refine ARX_block_pass (by decide) ?_|refine ARX_block_hit ?_|refine ARX_code_exit ?_|refine spt rfl ?_|refine spf rfl ?_|(refine ct (hT) ?_ ?_; focus ((simp only [go_sem, *] <;> rfl); done)))<;>try simp only [go_sem, *])
     refine fin _ _ ⟨by repeat (first|exact jA|refine AgreeBut.new ?_ (hgf0 _ _)|refine AgreeBut.new ?_ (hgn _ _)|refine AgreeBut.set ?_), by simp only [go_sem, *], by simp only [go_sem, *], by omega, u', _, true, by simp only [go_sem, *], by simp only [go_sem, *] <;> rfl, by simp only [go_sem, *] <;> rfl, (fun _ => ⟨rfl, rfl, rfl⟩), fun e => by cases e⟩
    ·have hT := c_callS' hk (by simp) (fun _ => hI1) hsI
     rw [hx2] at hT
     unfold evR outV mb intV cellI at hT
     simp only [Bool.false_eq_true, if_false, Bool.not_false, List.map_cons, List.map_nil] at hT
     clear jk hk hsI jI h0 hzI
     obtain ⟨q1, q2, rfl, wq, iq⟩ := id hI1
     repeat' (first
      |(refine ⟨?_,?_⟩; focus ((repeat' (first|refine ⟨?_,?_⟩|refine .inr ?_)); all_goals kernel_rfl))
      |exact agb (by assumption)
      | (first|refine ARX_seq ?_|refine ARX_region okb follows (by kernel_rfl) ?_|refine ARX_condP ?_|refine ARX_block ?_|refine ARX_exit ?_|refine ARX_skip ?_|refine ARX_ret ?_|refine ARX_block_end ?_|refine ARX_block_pass (by decide) ?_|refine ARX_block_hit ?_|refine ARX_code_exit ?_|refine spt rfl ?_|refine spf rfl ?_|(refine ct (hT) ?_ ?_; focus ((simp only [go_sem, *] <;> rfl); done)))<;>try simp only [go_sem, *])
     refine fin _ _ ⟨by repeat (first|exact jA|refine AgreeBut.new ?_ (hgf0 _ _)|refine AgreeBut.new ?_ (hgn _ _)|refine AgreeBut.set ?_), by simp only [go_sem, *], by simp only [go_sem, *], by omega, u1, _, false, by simp only [go_sem, *], by simp only [go_sem, *] <;> rfl, by simp only [go_sem, *] <;> rfl, (fun e => by cases e), fun _ => ⟨hI1, hr1⟩⟩
  ·rintro D h' ⟨jA, jb0, jb1, ji, uj, rj, oj, jd, jb2, jb3, jt, jf⟩
   have okD := xD_ok ⟨Tryz.prog, env, Tryz.f277.ntmps, Tryz.f277, g0, w0, h, evR o w, hset h d (.box [.int .i64 u', .int .i64 most])⟩ D
   clear j28 j2 j3 jb0 jb1
   cases oj with
   | true =>
    obtain ⟨rfl, rfl, rfl⟩ := jt rfl
    clear jt jf hsI hzI h0
    simp only [Bool.not_true] at jb3
    unfold evR outV
    simp only [if_true, Bool.not_true]
    repeat' (first
     |(refine ⟨?_,?_⟩; focus ((repeat' (first|refine ⟨?_,?_⟩|refine .inr ?_)); all_goals kernel_rfl))
     |exact agb (by assumption)
     | (first|refine ARX_seq ?_|refine ARX_region okD follows (by kernel_rfl) ?_|refine ARX_condP ?_|refine ARX_block ?_|refine ARX_exit ?_|refine ARX_skip ?_|refine ARX_ret ?_|refine ARX_block_end ?_|refine ARX_block_pass (by decide) ?_|refine ARX_block_hit ?_|refine ARX_code_exit ?_|refine spt rfl ?_|refine spf rfl ?_|refine ARX_doneD follows hl0 ?_|refine finT hrel hd ?_ ?_ ?_ ?_ ?_)<;>try simp only [go_sem, *])
   | false =>
    obtain ⟨jI, jk⟩ := jf rfl
    clear jt jf
    simp only [Bool.not_false] at jb3
    obtain ⟨rfl, rfl, rfl⟩ := jk.none
    obtain ⟨r1, r2, rfl, wr, ir⟩ := id jI
    clear jk jI hsI hzI h0
    unfold evR outV
    simp only [Bool.false_eq_true, if_false, Bool.not_false]
    repeat' (first
     |(refine ⟨?_,?_⟩; focus ((repeat' (first|refine ⟨?_,?_⟩|refine .inr ?_)); all_goals kernel_rfl))
     |exact agb (by assumption)
     | (first|refine ARX_seq ?_|refine ARX_region okD follows (by kernel_rfl) ?_|refine ARX_condP ?_|refine ARX_block ?_|refine ARX_exit ?_|refine ARX_skip ?_|refine ARX_ret ?_|refine ARX_block_end ?_|refine ARX_block_pass (by decide) ?_|refine ARX_block_hit ?_|refine ARX_code_exit ?_|refine spt rfl ?_|refine spf rfl ?_|refine ARX_doneD follows hl0 ?_|refine finT hrel hd ?_ ?_ ?_ ?_ ?_)<;>try simp only [go_sem, *])
  ·rintro D id' h' ⟨rfl, jA, jd, jb2, jb3, rfl⟩
   simp only [jumpE]
   have okD := xD_ok ⟨Tryz.prog, env, Tryz.f277.ntmps, Tryz.f277, g0, w0, h, evR true w, hset h d (.box [.int .i64 u', .int .i64 most])⟩ D
   clear j28 j2 j3 hsI hzI h0
   unfold evR outV
   simp only [if_true, Bool.not_true]
   repeat' (first
    |(refine ⟨?_,?_⟩; focus ((repeat' (first|refine ⟨?_,?_⟩|refine .inr ?_)); all_goals kernel_rfl))
    |exact agb (by assumption)
    | (first|refine ARX_seq ?_|refine ARX_region okD follows (by kernel_rfl) ?_|refine ARX_condP ?_|refine ARX_block ?_|refine ARX_exit ?_|refine ARX_skip ?_|refine ARX_ret ?_|refine ARX_block_end ?_|refine ARX_block_pass (by decide) ?_|refine ARX_block_hit ?_|refine ARX_code_exit ?_|refine spt rfl ?_|refine spf rfl ?_|refine ARX_doneD follows hl0 ?_|refine finT hrel hd ?_ ?_ ?_ ?_ ?_)<;>try simp only [go_sem, *])
end Go.Proofs.YtenelbgbjmijiaaGreatDoor
