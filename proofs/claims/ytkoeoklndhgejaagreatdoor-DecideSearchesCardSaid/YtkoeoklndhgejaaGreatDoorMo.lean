/-
 Walks: several parts in one text.
-/
import Derived.Test.YtkoeoklndhgejaaGreatDoorMa
import Derived.Test.YtkoeoklndhgejaaGreatDoorAbsDd
import Derived.Test.YtkoeoklndhgejaaGreatDoorAbsC
set_option linter.unusedSimpArgs false
set_option linter.unusedVariables false
set_option maxRecDepth 20000
set_option maxHeartbeats 4000000
namespace Go.Proofs.YtkoeoklndhgejaaGreatDoor
open Go GoAbs Go.Proofs
attribute [go_sem] weakLL_app weakLL_cons' weakLL_nil' Option.map_none List.drop_zero Nat.zero_le Nat.le_refl take_map_len decide_true decide_false
def EvT (d : GoAbs.Id) (most u u' : Nat) (o : Bool) (t : Tm) (e : List Res) (r : Res) : Prop :=
 Turns Tryz.prog env 239 [.ptr d 0, .agg t.cells, .sl .any (e.map Res.cells)] d (.box (mc u most false)) (.agg r.cells) (.box (mc u' most o))
def EvC (d : GoAbs.Id) (most : Nat) (E : Evl) : Prop := ∀ (c u : Nat) (t : Tm) (e : List Res) (r : Res) (u' : Nat) (o : Bool), E u t e = some (r, u', o) → c ≤ u → u ≤ most → TmW t → e.length ≤ u - c → (∀ x ∈ e, ResW (u - c) x) →
 EvT d most u u' o t e r
theorem c_mcall {d : GoAbs.Id} {most u u' : Nat} {o : Bool} {f a r : Res} (hl : f.env.length ≤ 100000) (hE : EvT d most u u' o f.body (f.env ++ [a]) r) :
  Turns Tryz.prog env 240 [.ptr d 0, .agg f.cells, .agg a.cells] d (.box (mc u most false)) (.agg r.cells) (.box (mc u' most o)) := by
 intro h hd
 unfold EvT at hE
 rw [List.map_append] at hE
 simp only [List.map_cons, List.map_nil] at hE
 have b1 : (f.env.length + 1) * 152 ≤ 140737488355328 := by omega
 have b2 : f.env.length + 1 ≤ 140737488355328 := by omega
 clear hl
 refine en_ Tryz.func240 [.cell 6 234] fun g0 w0 gen hrel hfr hfr' hres => ?_
 have f1 := fresh_ne hfr hd
 have f2 := fresh_ne' hfr hd
 exact wkT_
theorem c_mcallC {d : GoAbs.Id} {most : Nat} {E : Evl} (hC : EvC d most E) (hm : most ≤ 65536) {c u u' : Nat} {o : Bool} {f a r : Res} (h : evCall E u f a = some (r, u', o)) (hc : c + 1 ≤ u) (hu : u ≤ most)
  (hf : ResW (u - c - 1) f) (ha : ResW (u - c - 1) a) :
  Turns Tryz.prog env 240 [.ptr d 0, .agg f.cells, .agg a.cells] d (.box (mc u most false)) (.agg r.cells) (.box (mc u' most o)) := by
 refine c_mcall (by have := hf.el; omega) (hC c u _ _ _ _ _ h (by omega) hu hf.bd (by have := hf.el; simp; omega) fun x hx => ?_)
 rcases List.mem_append.1 hx with hx | hx
 ·exact (hf.es x hx).up (by omega)
 ·simp at hx; subst hx; exact ha.up (by omega)
theorem c_mLim {d : GoAbs.Id} {most : Nat} {t : Tm} {e : List Res} : EvT d most most most true t e zeroR := by
 intro h hd
 rw [zeroR_cells]
 have k0 : ((most : Int) == (most : Int)) = true := by simp
 refine en_ Tryz.func239 [.cell 6 234] fun g0 w0 gen hrel hfr hfr' hres => ?_
 have f1 := fresh_ne hfr hd
 have f2 := fresh_ne' hfr hd
 exact wkT_
theorem c_mVar {d : GoAbs.Id} {most u : Nat} {t : Tm} {e : List Res} {x : Res} (hne : u ≠ most) (hu : u ≤ 65536) (hel : e.length ≤ 65536) (hk : t.kind = 1) (h0 : 0 ≤ (e.length : Int) - 1 - t.index)
  (hx : e[((e.length : Int) - 1 - t.index).toNat]? = some x) : EvT d most u (u + 1) false t e x := by
 intro h hd
 have k0 : ((u : Int) == (most : Int)) = false := by simp; omega
 have w0 := wrap_succ (i := u) (by omega)
 have hlt := (List.getElem?_eq_some_iff.1 hx).1
 have w1 : IntKind.i64.wrap ((e.length : Int) - 1) = (e.length : Int) - 1 := wrap_eq rfl (by omega) (by omega)
 have w2 : IntKind.i64.wrap ((e.length : Int) - 1 - t.index) = (e.length : Int) - 1 - t.index := wrap_eq rfl (by omega) (by omega)
 clear hlt hel hu hne
 refine en_ Tryz.func239 [.cell 6 234] fun g0 w0 gen hrel hfr hfr' hres => ?_
 have f1 := fresh_ne hfr hd
 have f2 := fresh_ne' hfr hd
 exact wkT_
theorem c_mLam {d : GoAbs.Id} {most u : Nat} {t b : Tm} {e : List Res} (hne : u ≠ most) (hu : u ≤ 65536) (hk : t.kind = 2) (hb : t.args = [b]) : EvT d most u (u + 1) false t e (cloR b e) := by
 intro h hd
 have k0 : ((u : Int) == (most : Int)) = false := by simp; omega
 have w0 := wrap_succ (i := u) (by omega)
 have hc := cloR_cells b e
 have hbc := Tm.cells_eq b
 clear hu hne
 refine en_ Tryz.func239 [.cell 6 234] fun g0 w0 gen hrel hfr hfr' hres => ?_
 have f1 := fresh_ne hfr hd
 have f2 := fresh_ne' hfr hd
 exact wkT_
theorem c_mArgs {d : GoAbs.Id} {most : Nat} {E : Evl} (hC : EvC d most E) (hW : EvW most E) (hm : most ≤ 65536) {c u u' : Nat} {t : Tm} {e : List Res} {r : Res} {o : Bool}
  (h0 : argsK E e t.kind (u + 1) [] t.args = some (r, u', o)) (hne : u ≠ most) (hc : c ≤ u) (hu : u ≤ most) (ht : TmW t) (hel : e.length ≤ u - c) (he : ∀ x ∈ e, ResW (u - c) x)
  (k1 : (t.kind == 1) = false) (k2 : (t.kind == 2) = false) : EvT d most u u' o t e r := by
 intro h hd
 have k0 : ((u : Int) == (most : Int)) = false := by simp; omega
 have w0 := wrap_succ (i := u) (by omega)
 have hlen := ht.len
 have hz := zeroR_cells
 refine en_ Tryz.func239 [.cell 6 234] fun g0 w0 gen hrel hfr hfr' hres => ?_
 have f1 := fresh_ne hfr hd
 have f2 := fresh_ne' hfr hd
 refine wq_ ?_
 refine ar_ [0, 2, 4, 6, 64] [⟨gen, 0, 0⟩, ⟨gen, 0, 1⟩] (fun i σ => AgreeBut d h σ.h ∧ ∃ (ui : Nat) (li : List Res), σ.h d = some (.box (mc ui most false)) ∧ OwnS h σ.h (σ.tm 7) 9 (li.map Res.cells) ∧ u + 1 ≤ ui ∧ ui ≤ most ∧ (li ≠ [] → u + 2 ≤ ui) ∧ li.length = i ∧ (∀ x ∈ li, ResW (ui - c - 2) x) ∧ argsK E e t.kind ui li (t.args.drop i) = some (r, u', o)) (t.args).length ?_ ?_ ?_
 ·simp only [go_sem, *]
  exact ⟨by repeat (first|exact AgreeBut.refl _ _|assumption|refine AgreeBut.new ?_ (hfr' _ _)|refine AgreeBut.set ?_), u + 1, [], rfl, .inl rfl, by omega, by omega, by simp, rfl, by simp, h0⟩
 ·clear h0
  intro i σ gr0 hgl_gr0 hgn hlt jI jN jS ⟨jA, ui, li, js, jo, ju1, ju2, ju3, jl, jw, jk⟩
  obtain ⟨jT, jB⟩ := jS
  simp only [go_sem] at jT jB
  have hgf := fresh_of hgn
  have hgf0 := agreeBut_fresh' hd jA hgf (fun r i e => by have := hfr d (by rw [hd]; simp); rw [e] at this; simp at this; omega)
  have fd_gr0 := fresh_ne2 hfr hd (show gen < gr0 by omega)
  have fe_gr0 := fresh_ne2' hfr hd (show gen < gr0 by omega)
  have eg_gen_gr0 := gen_lt (show gen < gr0 by omega)
  have eh_gen_gr0 := gen_lt' (show gen < gr0 by omega)
  obtain ⟨x, hx, hxm, hm⟩ := rnx hlt
  clear hgn
  rw [drop_get hx, argsK_cons] at jk
  cases hr : E ui x e with
  | none => rw [hr] at jk; cases jk
  | some p =>
  obtain ⟨y, u1, o1⟩ := p
  have hw1 := hW (c + 1) ui x e y u1 o1 hr (by omega) ju2 (ht.arg hxm) (by omega) (fun z hz => (he z hz).up (by omega))
  have hT := hC (c + 1) ui x e y u1 o1 hr (by omega) ju2 (ht.arg hxm) (by omega) (fun z hz => (he z hz).up (by omega))
  unfold EvT at hT
  rw [hr] at jk
  clear hC hW ht hr he
  have hmm : List.map Res.cells (li ++ [y]) = List.map Res.cells li ++ [y.cells] := by simp
  cases o1 with
  | true =>
   simp only [Option.some.injEq, Prod.mk.injEq] at jk
   obtain ⟨rfl, rfl, rfl⟩ := jk
   clear jw ju1 ju3 hw1
   repeat' (first
    |(refine ⟨?_,?_⟩; focus ((repeat' (first|refine ⟨?_,?_⟩|refine .inr ?_)); all_goals kernel_rfl))
    |exact agb (by assumption)
    |(refine okE_app_own jo (by repeat (first|exact Keeps.refl _|refine Keeps.new ?_ (hgf _ _)|refine Keeps.new ?_ (hfr' _ _)|refine Keeps.box ?_ rfl|refine Keeps.box ?_ (by simp only [go_sem, *]))) rfl (by simp only [go_sem, *] <;> omega) (by first|exact hgf0 _ _|exact hfr' _ _) (by simp only [go_sem, *]) (by intro hd; cases hd) ?_; intro v' h' log' jO jK jAg jAb jF; simp only [go_sem, *])
    | (first|refine wp rfl ?_|refine spt rfl ?_|refine spf rfl ?_|(refine spl (fun hc => ?_) fun hc => ?_) <;> (try rw [beq_iff_eq] at hc) <;> try simp only [hc]|(refine gs (fun hb => ?_) fun hb => ?_) <;> try simp only [Bool.not_true, Bool.not_false] at hb|(refine ct (hT) ?_ ?_; focus ((simp only [go_sem, *] <;> rfl); done))|refine finT hrel hd ?_ ?_ ?_ ?_ ?_)<;>try simp only [go_sem, *])
   all_goals exact agb (jAb d (AgreeBut.set (AgreeBut.new jA (hgf0 _ _))))
  | false =>
   obtain ⟨a1, a2, a3⟩ := hw1
   obtain ⟨a3, a4⟩ := a3 rfl
   simp only at jk
   repeat' (first
    |(refine ⟨?_,?_⟩; focus ((repeat' (first|refine ⟨?_,?_⟩|refine .inr ?_)); all_goals kernel_rfl))
    |(refine okE_app_own jo (by repeat (first|exact Keeps.refl _|refine Keeps.new ?_ (hgf _ _)|refine Keeps.new ?_ (hfr' _ _)|refine Keeps.box ?_ rfl|refine Keeps.box ?_ (by simp only [go_sem, *]))) rfl (by simp only [go_sem, *] <;> omega) (by first|exact hgf0 _ _|exact hfr' _ _) (by simp only [go_sem, *]) (by intro hd; cases hd) ?_; intro v' h' log' jO jK jAg jAb jF; simp only [go_sem, *])
    | (first|refine wp rfl ?_|refine spt rfl ?_|refine spf rfl ?_|(refine spl (fun hc => ?_) fun hc => ?_) <;> (try rw [beq_iff_eq] at hc) <;> try simp only [hc]|(refine gs (fun hb => ?_) fun hb => ?_) <;> try simp only [Bool.not_true, Bool.not_false] at hb|(refine ct (hT) ?_ ?_; focus ((simp only [go_sem, *] <;> rfl); done))|refine AR_inv ?_)<;>try simp only [go_sem, *])
   exact ⟨jAb d (AgreeBut.set (AgreeBut.new jA (hgf0 _ _))), u1, li ++ [y], rfl, by rw [hmm]; exact jO, by omega, by omega, fun _ => by omega, by simp [jl], fun z hz => by
    rcases List.mem_append.1 hz with hz | hz
    ·exact (jw z hz).up (by omega)
    ·simp at hz; subst hz; exact a4.up (by omega), jk⟩
 ·clear h0
  intro σ ga0 hgl_ga0 hgn jS ⟨jA, ui, li, js, jo, ju1, ju2, ju3, jl, jw, jk⟩
  obtain ⟨jT, jB⟩ := jS
  simp only [go_sem] at jT jB
  have hgf := fresh_of hgn
  have hgf0 := agreeBut_fresh' hd jA hgf (fun r i e => by have := hfr d (by rw [hd]; simp); rw [e] at this; simp at this; omega)
  have fd_ga0 := fresh_ne2 hfr hd (show gen < ga0 by omega)
  have fe_ga0 := fresh_ne2' hfr hd (show gen < ga0 by omega)
  have eg_gen_ga0 := gen_lt (show gen < ga0 by omega)
  have eh_gen_ga0 := gen_lt' (show gen < ga0 by omega)
  clear hgn
  rw [List.drop_length, argsK_nil] at jk
  obtain ⟨cc, jo⟩ := jo.val
  have two : ∀ {x y : Res}, li = [x, y] → c + 1 ≤ ui - 1 := fun e => by have := ju3 (by rw [e]; simp); omega
  by_cases q3 : t.kind = 3
  ·
   rw [q3] at jk
   obtain ⟨f, a, rfl, hk⟩ := evOf_3 jk
   have := ju3 (by simp)
   have hT := c_mcallC hC hm (c := c) hk (by omega) ju2 ((jw f (by simp)).up (by omega)) ((jw a (by simp)).up (by omega))
   simp only [List.map_cons, List.map_nil] at jo
   clear jk jw hC hW hk he ju3 two
   exact wkT_
  by_cases q5 : t.kind = 5
  ·
   rw [q5] at jk
   obtain ⟨a, rfl, hk⟩ := evOf_5 jk
   have hb := (jw a (by simp)).n1
   simp only [Prod.mk.injEq] at hk
   obtain ⟨rfl, rfl, rfl⟩ := hk
   have hc := numR_cells (a.num + 1)
   have w1 := wrap_succ (i := a.num) (by omega)
   simp only [List.map_cons, List.map_nil] at jo
   clear jk jw hC hW he ju3 two hb
   exact wkT_
  by_cases q6 : t.kind = 6
  ·
   rw [q6] at jk
   obtain ⟨z, s, n, rfl, hk⟩ := evOf_6 jk
   have hu3 := ju3 (by simp)
   have zw := jw z (by simp)
   have sw := jw s (by simp)
   have nw := (jw n (by simp)).n1
   simp only [List.map_cons, List.map_nil] at jo
   clear jk jw he ju3 two hz
   have hga := hgf0
   refine wq_ ?_
   refine AR_loop_nat (fun i σ2 => σ2.tm 11 = .int .i64 i ∧ σ2.tm 0 = .ptr d 0 ∧ σ2.tm 6 = .ptr ⟨gen, 0, 1⟩ 0 ∧ σ2.tm 7 = .sl cc [z.cells, s.cells, n.cells] ∧ σ2.tm 10 = .ptr ⟨ga0, 23, 3⟩ 0 ∧
    σ2.h ⟨gen, 0, 1⟩ = some (.box [.int .i64 0, .sl .full [], .sl .full [], .int .i64 0, .int .i64 0, .int .i64 0, .sl .full [], .sl .full [], .sl .full []]) ∧ AgreeBut d h σ2.h ∧ i ≤ n.num ∧
    ∃ (uj : Nat) (rj : Res) (oj : Bool), σ2.h d = some (.box (mc uj most oj)) ∧ σ2.h ⟨ga0, 23, 3⟩ = some (.box rj.cells) ∧ (oj = true → r = rj ∧ u' = uj ∧ o = true) ∧
     (oj = false → ui ≤ uj ∧ uj ≤ most ∧ ResW (uj - c - 1) rj ∧ evRec E s (n.num - i) i uj rj = some (r, u', o))) n.num ?_ ?_
   ·simp only [go_sem, *]
    exact ⟨by rfl, AgreeBut.new jA (hga _ _), ui, z, false, rfl, rfl, (fun e => by cases e), fun _ => ⟨by omega, ju2, zw.up (by omega), hk⟩⟩
   clear hk zw jA js jo jT jB hgf hgf0
   intro i σ2 hi ⟨j1, j2, j3, j4, j5, j6, jA, j7, uj, rj, oj, j8, j9, j10, j11⟩
   refine AR_gen2 (fun gn hgl hgn => ?_)
   have hgf := fresh_of hgn
   have hgf0 := agreeBut_fresh' hd jA hgf (fun r i e => by have := hfr d (by rw [hd]; simp); rw [e] at this; simp at this; omega)
   have eg1 := gen_lt hgl
   have eg2 := gen_lt' hgl
   have eg3 := gen_lt (show gen < gn by omega)
   have eg4 := gen_lt' (show gen < gn by omega)
   have fd := fresh_ne2 hfr hd (show gen < gn by omega)
   have fe := fresh_ne2' hfr hd (show gen < gn by omega)
   clear hgn
   cases oj with
   | true =>
    obtain ⟨rfl, rfl, rfl⟩ := j10 rfl
    clear j10 j11 hC hW
    cases hlt : decide ((i : Int) < (n.num : Int)) with
    | true =>
     exact wkT_
    | false =>
     exact wkT_
   | false =>
   obtain ⟨c1, c2, c3, jr⟩ := j11 rfl
   clear j10 j11
   rcases Nat.lt_or_ge i n.num with hlt | hge
   ·have hlt' := lt_true hlt
    have hsu := wrap_succ (i := i) (by omega)
    have hf : n.num - i = (n.num - (i + 1)) + 1 := by omega
    rw [hf, evRec] at jr
    have hnc := numR_cells i
    cases h1 : evCall E uj s (numR i) with
    | none => rw [h1] at jr; cases jr
    | some p =>
    obtain ⟨f, u1, o1⟩ := p
    obtain ⟨a1, a2, a3⟩ := evCall_W (c := c) hW h1 (by omega) c2 (sw.up (by omega)) (ResW.num (by omega))
    have hT1 := c_mcallC hC hm (c := c) h1 (by omega) c2 (sw.up (by omega)) (ResW.num (by omega))
    rw [hnc] at hT1
    rw [h1] at jr
    clear h1 hnc
    cases o1 with
    | true =>
     simp only [Option.some.injEq, Prod.mk.injEq] at jr
     obtain ⟨rfl, rfl, rfl⟩ := jr
     clear hC hW
     refine wq_ ?_
     exact ⟨by repeat (first|exact jA|refine AgreeBut.new ?_ (hgf0 _ _)|refine AgreeBut.set ?_), by omega, _, _, true, rfl, rfl, (fun _ => by simp), fun e => by cases e⟩
    | false =>
     obtain ⟨a3, a4⟩ := a3 rfl
     simp only at jr
     cases h2 : evCall E u1 f rj with
     | none => rw [h2] at jr; cases jr
     | some q =>
     obtain ⟨r1, u2, o2⟩ := q
     obtain ⟨b1, b2, b3⟩ := evCall_W (c := c) hW h2 (by omega) a2 a4 (c3.up (by omega))
     have hT2 := c_mcallC hC hm (c := c) h2 (by omega) a2 a4 (c3.up (by omega))
     rw [h2] at jr
     clear h2
     cases o2 with
     | true =>
      simp only [Option.some.injEq, Prod.mk.injEq] at jr
      obtain ⟨rfl, rfl, rfl⟩ := jr
      clear hC hW
      refine wq_ ?_
      exact ⟨by repeat (first|exact jA|refine AgreeBut.new ?_ (hgf0 _ _)|refine AgreeBut.new ?_ (hga _ _)|refine AgreeBut.set ?_), by omega, _, _, true, rfl, rfl, (fun _ => by simp), fun e => by cases e⟩
     | false =>
      obtain ⟨b3, b4⟩ := b3 rfl
      simp only at jr
      clear hC hW
      refine wq_ ?_
      exact ⟨by repeat (first|exact jA|refine AgreeBut.new ?_ (hgf0 _ _)|refine AgreeBut.new ?_ (hga _ _)|refine AgreeBut.set ?_), by omega, _, _, false, rfl, rfl, (fun e => by cases e), fun _ => ⟨by omega, b2, b4, jr⟩⟩
   ·have hlt' := lt_false hge
    rw [show n.num - i = 0 by omega, evRec] at jr
    simp only [Option.some.injEq, Prod.mk.injEq] at jr
    obtain ⟨rfl, rfl, rfl⟩ := jr
    clear hC hW
    exact wkT_
  by_cases q8 : t.kind = 8
  ·
   rw [q8] at jk
   obtain ⟨a, b, rfl, hk⟩ := evOf_8 jk
   have hb := (jw b (by simp)).ll
   simp only [Prod.mk.injEq] at hk
   obtain ⟨rfl, rfl, rfl⟩ := hk
   have hc := listR_cells (a.num :: b.list)
   rw [natI_cons] at hc
   have b1 : (1 + b.list.length) * 8 ≤ 140737488355328 := by omega
   have b2 : 1 + b.list.length ≤ 140737488355328 := by omega
   simp only [List.map_cons, List.map_nil] at jo
   clear jk jw hC hW he ju3 two hb
   exact wkT_
  by_cases q9 : t.kind = 9
  ·
   rw [q9] at jk
   obtain ⟨z, s, n, rfl, hk⟩ := evOf_9 jk
   have hu3 := ju3 (by simp)
   have zw := jw z (by simp)
   have sw := jw s (by simp)
   have nw := (jw n (by simp)).ll
   have nl := (jw n (by simp)).ls
   simp only [List.map_cons, List.map_nil] at jo
   clear jk jw he ju3 two hz
   have hga := hgf0
   have hw0 : IntKind.i64.wrap ((n.list.length : Int) - 1) = (n.list.length : Int) - 1 := wrap_eq rfl (by omega) (by omega)
   refine wq_ ?_
   refine AR_loop_nat (fun i σ2 => σ2.tm 14 = .int .i64 ((n.list.length : Int) - 1 - (i : Int)) ∧ σ2.tm 0 = .ptr d 0 ∧ σ2.tm 6 = .ptr ⟨gen, 0, 1⟩ 0 ∧ σ2.tm 7 = .sl cc [z.cells, s.cells, n.cells] ∧ σ2.tm 13 = .ptr ⟨ga0, 34, 3⟩ 0 ∧
    σ2.h ⟨gen, 0, 1⟩ = some (.box [.int .i64 0, .sl .full [], .sl .full [], .int .i64 0, .int .i64 0, .int .i64 0, .sl .full [], .sl .full [], .sl .full []]) ∧ AgreeBut d h σ2.h ∧ i ≤ n.list.length ∧
    ∃ (uj : Nat) (rj : Res) (oj : Bool), σ2.h d = some (.box (mc uj most oj)) ∧ σ2.h ⟨ga0, 34, 3⟩ = some (.box rj.cells) ∧ (oj = true → r = rj ∧ u' = uj ∧ o = true) ∧
     (oj = false → ui ≤ uj ∧ uj ≤ most ∧ ResW (uj - c - 1) rj ∧ evFold E s n.list (n.list.length - i) uj rj = some (r, u', o))) n.list.length ?_ ?_
   ·simp only [go_sem, *]
    exact ⟨by simp, AgreeBut.new jA (hga _ _), ui, z, false, rfl, rfl, (fun e => by cases e), fun _ => ⟨by omega, ju2, zw.up (by omega), hk⟩⟩
   clear hk zw jA js jo jT jB hgf hgf0 hw0
   intro i σ2 hi ⟨j1, j2, j3, j4, j5, j6, jA, j7, uj, rj, oj, j8, j9, j10, j11⟩
   refine AR_gen2 (fun gn hgl hgn => ?_)
   have hgf := fresh_of hgn
   have hgf0 := agreeBut_fresh' hd jA hgf (fun r i e => by have := hfr d (by rw [hd]; simp); rw [e] at this; simp at this; omega)
   have eg1 := gen_lt hgl
   have eg2 := gen_lt' hgl
   have eg3 := gen_lt (show gen < gn by omega)
   have eg4 := gen_lt' (show gen < gn by omega)
   have fd := fresh_ne2 hfr hd (show gen < gn by omega)
   have fe := fresh_ne2' hfr hd (show gen < gn by omega)
   clear hgn
   cases oj with
   | true =>
    obtain ⟨rfl, rfl, rfl⟩ := j10 rfl
    clear j10 j11 hC hW
    cases hlt : decide (((n.list.length : Int) - 1 - (i : Int)) ≥ 0) with
    | true =>
     exact wkT_
    | false =>
     exact wkT_
   | false =>
   obtain ⟨c1, c2, c3, jr⟩ := j11 rfl
   clear j10 j11
   rcases Nat.lt_or_ge i n.list.length with hlt | hge
   ·obtain ⟨j, hj⟩ : ∃ j, n.list.length - 1 - i = j := ⟨_, rfl⟩
    have e0 : (n.list.length : Int) - 1 - (i : Int) = (j : Int) := by omega
    rw [e0] at j1
    have hd1 : decide ((j : Int) ≥ 0) = true := by simp
    have hsu := wrap_succ (i := j) (by omega)
    have hsd : IntKind.i64.wrap ((j : Int) - 1) = (n.list.length : Int) - 1 - ((i + 1 : Nat) : Int) := wrap_eq (by omega) (by omega) (by omega)
    have hf : n.list.length - i = j + 1 := by omega
    have hf2 : n.list.length - (i + 1) = j := by omega
    have hjl : j < n.list.length := by omega
    have hj1 : j + 1 ≤ n.list.length := by omega
    have hget := natI_get hjl
    have hx0 : n.list.getD j 0 ≤ ui - c - 2 := nl _ (by rw [List.getD_eq_getElem?_getD, List.getElem?_eq_getElem hjl]; exact List.getElem_mem _)
    have hne : (j + 1 = 0) = False := by simp
    rw [hf, evFold] at jr
    have hnc := numR_cells (n.list.getD j 0)
    have hlc := listR_cells (n.list.drop (j + 1))
    have lw : ResW (ui - c - 1) (listR (n.list.drop (j + 1))) := ResW.list (fun x hx => by have := nl x (List.mem_of_mem_drop hx); omega) (by simp; omega)
    clear e0 hj hjl
    cases h1 : evCall E uj s (numR (n.list.getD j 0)) with
    | none => rw [h1] at jr; cases jr
    | some p =>
    obtain ⟨f, u1, o1⟩ := p
    obtain ⟨a1, a2, a3⟩ := evCall_W (c := c) hW h1 (by omega) c2 (sw.up (by omega)) (ResW.num (by omega))
    have hT1 := c_mcallC hC hm (c := c) h1 (by omega) c2 (sw.up (by omega)) (ResW.num (by omega))
    rw [hnc] at hT1
    rw [h1] at jr
    clear h1 hnc
    cases o1 with
    | true =>
     simp only [Option.some.injEq, Prod.mk.injEq] at jr
     obtain ⟨rfl, rfl, rfl⟩ := jr
     clear hC hW hlc
     refine wq_ ?_
     exact ⟨by repeat (first|exact jA|refine AgreeBut.new ?_ (hgf0 _ _)|refine AgreeBut.new ?_ (hga _ _)|refine AgreeBut.set ?_), by omega, _, _, true, rfl, rfl, (fun _ => by simp), fun e => by cases e⟩
    | false =>
     obtain ⟨a3, a4⟩ := a3 rfl
     simp only at jr
     cases h2 : evCall E u1 f (listR (n.list.drop (j + 1))) with
     | none => rw [h2] at jr; cases jr
     | some q =>
     obtain ⟨f1, u2, o2⟩ := q
     obtain ⟨b1, b2, b3⟩ := evCall_W (c := c) hW h2 (by omega) a2 a4 (lw.up (by omega))
     have hT2 := c_mcallC hC hm (c := c) h2 (by omega) a2 a4 (lw.up (by omega))
     rw [hlc] at hT2
     rw [h2] at jr
     clear h2 hlc
     cases o2 with
     | true =>
      simp only [Option.some.injEq, Prod.mk.injEq] at jr
      obtain ⟨rfl, rfl, rfl⟩ := jr
      clear hC hW
      refine wq_ ?_
      exact ⟨by repeat (first|exact jA|refine AgreeBut.new ?_ (hgf0 _ _)|refine AgreeBut.new ?_ (hga _ _)|refine AgreeBut.set ?_), by omega, _, _, true, rfl, rfl, (fun _ => by simp), fun e => by cases e⟩
     | false =>
      obtain ⟨b3, b4⟩ := b3 rfl
      simp only at jr
      cases h3 : evCall E u2 f1 rj with
      | none => rw [h3] at jr; cases jr
      | some q =>
      obtain ⟨r1, u3, o3⟩ := q
      obtain ⟨d1, d2, d3⟩ := evCall_W (c := c) hW h3 (by omega) b2 b4 (c3.up (by omega))
      have hT3 := c_mcallC hC hm (c := c) h3 (by omega) b2 b4 (c3.up (by omega))
      rw [h3] at jr
      clear h3
      cases o3 with
      | true =>
       simp only [Option.some.injEq, Prod.mk.injEq] at jr
       obtain ⟨rfl, rfl, rfl⟩ := jr
       clear hC hW
       refine wq_ ?_
       exact ⟨by repeat (first|exact jA|refine AgreeBut.new ?_ (hgf0 _ _)|refine AgreeBut.new ?_ (hga _ _)|refine AgreeBut.set ?_), by omega, _, _, true, rfl, rfl, (fun _ => by simp), fun e => by cases e⟩
      | false =>
       obtain ⟨d3, d4⟩ := d3 rfl
       simp only at jr
       clear hC hW
       refine wq_ ?_
       exact ⟨by repeat (first|exact jA|refine AgreeBut.new ?_ (hgf0 _ _)|refine AgreeBut.new ?_ (hga _ _)|refine AgreeBut.set ?_), by omega, _, _, false, rfl, rfl, (fun e => by cases e), fun _ => ⟨by omega, d2, d4, jr⟩⟩
   ·have hlt' : decide (((n.list.length : Int) - 1 - (i : Int)) ≥ 0) = false := by simp; omega
    rw [show n.list.length - i = 0 by omega, evFold] at jr
    simp only [Option.some.injEq, Prod.mk.injEq] at jr
    obtain ⟨rfl, rfl, rfl⟩ := jr
    clear hC hW
    exact wkT_
  by_cases q10 : t.kind = 10
  ·
   rw [q10] at jk
   have hk := evOf_10 jk
   simp only [Prod.mk.injEq] at hk
   obtain ⟨rfl, rfl, rfl⟩ := hk
   have hc := pairR_cells li
   clear jk jw hC hW he ju3 two
   exact wkT_
  by_cases q11 : t.kind = 11
  ·
   rw [q11] at jk
   obtain ⟨a, x, y, rfl, hp, hk⟩ := evOf_11 jk
   simp only [Prod.mk.injEq] at hk
   obtain ⟨rfl, rfl, rfl⟩ := hk
   simp only [List.map_cons, List.map_nil] at jo
   clear jk jw hC hW he ju3 two
   exact wkT_
  by_cases q12 : t.kind = 12
  ·
   rw [q12] at jk
   obtain ⟨a, x, y, rfl, hp, hk⟩ := evOf_12 jk
   simp only [Prod.mk.injEq] at hk
   obtain ⟨rfl, rfl, rfl⟩ := hk
   simp only [List.map_cons, List.map_nil] at jo
   clear jk jw hC hW he ju3 two
   exact wkT_
  have e3 : (t.kind == 3) = false := by simpa using q3
  have e5 : (t.kind == 5) = false := by simpa using q5
  have e6 : (t.kind == 6) = false := by simpa using q6
  have e8 : (t.kind == 8) = false := by simpa using q8
  have e9 : (t.kind == 9) = false := by simpa using q9
  have e10 : (t.kind == 10) = false := by simpa using q10
  have e11 : (t.kind == 11) = false := by simpa using q11
  have e12 : (t.kind == 12) = false := by simpa using q12
  have hk := evOf_0 jk e3 e5 e6 e8 e9 e10 e11 e12
  simp only [Prod.mk.injEq] at hk
  obtain ⟨rfl, rfl, rfl⟩ := hk
  clear jk jw hC hW he ju3 two q3 q5 q6 q8 q9 q10 q11 q12
  exact wkT_
end Go.Proofs.YtkoeoklndhgejaaGreatDoor
