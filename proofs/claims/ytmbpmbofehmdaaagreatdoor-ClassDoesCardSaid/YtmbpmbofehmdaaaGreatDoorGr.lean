/-
 Walks: rebuilding terms; lifting and putting in (tree).
-/
import Derived.Test.YtmbpmbofehmdaaaGreatDoorMh
import Derived.Test.YtmbpmbofehmdaaaGreatDoorAbsD
set_option linter.unusedSimpArgs false
set_option linter.unusedVariables false
set_option maxRecDepth 20000
set_option maxHeartbeats 4000000
namespace Go.Proofs.YtmbpmbofehmdaaaGreatDoor
open Go GoAbs Go.Proofs
theorem c_Near1 (d : GoAbs.Id) (i b : Int) (s : Bool) (A : GoAbs.Id) (oA : GoAbs.Obj) :
  TurnsE Tryz.prog env 125 (.int .i64 i :: .int .i64 b :: [.ptr d 0]) [(A, oA)] d (.box [.bool s]) (.tup []) (.box [.bool (nearF i b s)]) := by
 intro h he hd
 unfold nearF
 clear he
 cases s
 all_goals
  cases hq : decide (i ≤ 536870912)
  all_goals
   simp only [Bool.false_and, Bool.true_and]
   refine en_ Tryz.func125 [] fun g0 w0 gen hrel hfr hfr' hres => ?_
   have f1 := fresh_ne hfr hd
   have f2 := fresh_ne' hfr hd
   exact wkT_
theorem c_Near (t : Tm) (ht : TmW t) : Pure Tryz.prog env 104 [.agg t.cells] (.bool t.near) := by
 intro h
 unfold Tm.near
 refine en_ Tryz.func104 [.tmp 2] fun g0 w0 gen hrel hfr hfr' hres => ?_
 have nA : (⟨gen, 0, 0⟩ : GoAbs.Id) ≠ ⟨gen, 1, 0⟩ := by simp
 have hc := c_Each (fun n : Bool => V.bool n) nearF 125 [.ptr ⟨gen, 1, 0⟩ 0] rfl (fun _ _ => by simp [InV]) ⟨gen, 0, 0⟩ ⟨gen, 1, 0⟩ (.box t.cells) nA
  (fun i b n => c_Near1 _ i b n _ _) t ht true
 clear nA
 generalize t.eachF nearF 0 true = v at hc ⊢
 repeat' (first
  |exact hin _|exact agf (by assumption)
  | (first|refine wp rfl ?_|(refine Call1_turnE (hc) ?_ ?_ ?_; (focus ((simp only [go_sem, *] <;> (repeat (first|assumption | rfl|refine And.intro ?_ ?_))); done)); (focus ((simp only [go_sem, *] <;> first | rfl|assumption); done)))|refine finF hrel ?_ ?_ ?_)<;>try simp only [go_sem, *])
theorem c_rebuild1 (F : Int → Int → Tm) (kd : Nat) (cap : List V) (hcap : weakL cap = cap)
  (O R A B : GoAbs.Id) (oA oB : GoAbs.Obj)
  (hof : ∀ i b, PureE Tryz.prog env kd (.int .i64 i :: .int .i64 b :: cap) [(A, oA), (B, oB)] (.agg (F i b).cells)) :
  ∀ t : Tm, TmW t → ∀ b : Int, PureE Tryz.prog env 120 [.agg t.cells, .int .i64 b, .ptr O 0, .ptr R 0]
   [(O, .box [.fn (.func kd) [] cap]), (R, .box [.fn (.func 120) [] [.ptr O 0, .ptr R 0]]), (A, oA), (B, oB)] (.agg (t.rb F b).cells) := by
 intro t
 induction t using Tm.ind with | h t ih => ?_
 intro ht b h he
 simp only [List.mem_cons, List.not_mem_nil, or_false, forall_eq_or_imp, forall_eq] at he
 obtain ⟨hO, hR, hA, hB⟩ := he
 have hlen := ht.len
 have ih' : ∀ x ∈ t.args, ∀ b : Int, PureE Tryz.prog env 120 [.agg x.cells, .int .i64 b, .ptr O 0, .ptr R 0]
   [(O, .box [.fn (.func kd) [] cap]), (R, .box [.fn (.func 120) [] [.ptr O 0, .ptr R 0]]), (A, oA), (B, oB)] (.agg (x.rb F b).cells) := fun x hx => ih x hx (ht.arg hx)
 have hT := c_OwnType t.type ht.ty
 clear ih ht
 have hw : IntKind.i64.wrap (b + 1) = addW b 1 := rfl
 have hin : ∀ S, InV S (V.agg (t.rb F b).cells) := fun S => by simp [InV, InL_Tm]
 cases k1 : (t.kind == 1) with
 | true =>
  have hv : t.rb F b = F t.index b := by rw [Tm.rb_eq, k1]; rfl
  rw [hv] at hin ⊢
  clear ih'
  have hc := hof t.index b
  clear hof hT
  generalize F t.index b = v at *
  refine en_ Tryz.func120 [.cell 6 31] fun g0 w0 gen hrel hfr hfr' hres => ?_
  have f3 := fresh_ne hfr hO
  have f4 := fresh_ne hfr hR
  have f5 := fresh_ne hfr hA
  have f6 := fresh_ne hfr hB
  repeat' (first
   |(refine ⟨?_,?_⟩; focus ((repeat' (first|refine ⟨?_,?_⟩|refine .inr ?_)); all_goals kernel_rfl))
   |exact hin _|exact agf (by assumption)
   | (first|refine wp rfl ?_|refine spt rfl ?_|refine spf rfl ?_|(refine spl (fun hc => ?_) fun hc => ?_) <;> (try rw [beq_iff_eq] at hc) <;> try simp only [hc]|(refine Call1_pureE (hc) ?_ ?_; (focus ((simp only [go_sem, *] <;> (repeat (first|assumption | rfl|refine And.intro ?_ ?_))); done)))|refine finF hrel ?_ ?_ ?_)<;>try simp only [go_sem, *])
 | false =>
  have hv0 : V.agg (Tm.mk t.kind t.index t.type (t.args.map fun x => x.rb F (if (t.kind == 2) = true then addW b 1 else b))).cells = .agg (t.rb F b).cells := by rw [Tm.rb_eq F t b, k1]; rfl
  generalize hvv : V.agg (t.rb F b).cells = v at hv0 hin ⊢
  clear hvv
  generalize hb1 : (if (t.kind == 2) = true then addW b 1 else b) = b1 at hv0
  cases k2 : (t.kind == 2)
  all_goals
   rw [k2] at hb1
   simp only [if_true, Bool.false_eq_true, if_false] at hb1
   first | (obtain rfl : b1 = b := hb1.symm) | skip
   refine en_ Tryz.func120 [.cell 6 31] fun g0 w0 gen hrel hfr hfr' hres => ?_
   have f3 := fresh_ne hfr hO
   have f4 := fresh_ne hfr hR
   have f5 := fresh_ne hfr hA
   have f6 := fresh_ne hfr hB
   clear hof
   refine wq_ ?_
   refine ar_ [1, 3, 6, 7, 32] [⟨gen, 0, 1⟩] (fun i σ => Agree h σ.h ∧ ∃ v, σ.h ⟨gen, 3, 8⟩ = some (.box [.int .i64 t.kind, .int .i64 t.index, .int .i64 t.type.kind, .sl .any (t.type.args.map Ty.cells), v]) ∧ OwnS h σ.h v 5 (((t.args.take i).map fun x => x.rb F b1).map Tm.cells)) (t.args).length ?_ ?_ ?_
   ·simp only [go_sem, *]
    exact ⟨ag_, _, rfl, .inl rfl⟩
   ·clear hv0
    intro i σ gr0 hgl_gr0 hgn hlt jI jN jS ⟨jA, v, jb, jO0⟩
    obtain ⟨jT, jB⟩ := jS
    simp only [go_sem] at jT jB
    obtain ⟨hgf, hgf0, eg_gen_gr0, eh_gen_gr0⟩ := rnd hgn hgl_gr0 jA
    obtain ⟨x, hx, hxm, hm⟩ := rnx hlt
    clear hgn
    have hc := ih' x hxm b1
    have hts : ((t.args.take (i + 1)).map fun x => x.rb F b1).map Tm.cells = ((t.args.take i).map fun x => x.rb F b1).map Tm.cells ++ [(x.rb F b1).cells] := by rw [map_take_succ hx, List.map_append]; rfl
    have hO' := (jA O (by rw [hO]; simp)).trans hO
    have hR' := (jA R (by rw [hR]; simp)).trans hR
    have hA' := (jA A (by rw [hA]; simp)).trans hA
    have hB' := (jA B (by rw [hB]; simp)).trans hB
    have g3 := fresh_ne2 hfr hO hgl_gr0
    have g4 := fresh_ne2 hfr hR hgl_gr0
    have g5 := fresh_ne2 hfr hA hgl_gr0
    have g6 := fresh_ne2 hfr hB hgl_gr0
    clear ih' hO hR hA hB hT
    repeat' (first
     |(refine ⟨?_,?_⟩; focus ((repeat' (first|refine ⟨?_,?_⟩|refine .inr ?_)); all_goals kernel_rfl))
     |(refine okE_app_ownd jO0 (by repeat (first|exact Keeps.refl _|refine Keeps.new ?_ (hgf _ _)|refine Keeps.new ?_ (hfr' _ _)|refine Keeps.box ?_ rfl|refine Keeps.box ?_ (by simp only [go_sem, *]))) rfl (by simp only [go_sem, *] <;> omega) (by first|exact hgf0 _ _|exact hfr' _ _) (by simp only [go_sem, *]) (by intro hd e; simp only [logOk_cons, logOk_nil, and_true]; repeat (first|exact trivial|refine ⟨.inr (by kernel_rfl), ?_⟩|exact .inr (by kernel_rfl))) ?_; intro v' h' id' jO jK jAg jAb jF; obtain ⟨cO, rfl⟩ := jO.val; simp only [go_sem, *])
     | (first|refine wp rfl ?_|refine spt rfl ?_|refine spf rfl ?_|(refine spl (fun hc => ?_) fun hc => ?_) <;> (try rw [beq_iff_eq] at hc) <;> try simp only [hc]|(refine Call1_pureE (hc) ?_ ?_; (focus ((simp only [go_sem, *] <;> (repeat (first|assumption | rfl|refine And.intro ?_ ?_))); done)))|refine AR_inv ?_)<;>try simp only [go_sem, *])
    refine ⟨?_, _, rfl, jO.keep (Keeps.box (Keeps.refl _) (by simp only [go_sem, *]))⟩
    exact Agree.new (jAg ag_) (hfr' _ _)
   ·
    intro σ ga0 hgl_ga0 hgn jS ⟨jA, v, jb, jO0⟩
    obtain ⟨jT, jB⟩ := jS
    simp only [go_sem] at jT jB
    obtain ⟨hgf, hgf0, eg_gen_ga0, eh_gen_ga0⟩ := rnd hgn hgl_ga0 jA
    clear hgn
    rw [List.take_length] at jO0
    obtain ⟨c, rfl⟩ := jO0.val
    clear ih' hT
    rw [Tm.mk_cells] at hv0
    subst hv0
    exact wk_
theorem c_Rebuild (F : Int → Int → Tm) (kd : Nat) (cap : List V) (hcap : weakL cap = cap) (A B : GoAbs.Id) (oA oB : GoAbs.Obj)
  (hof : ∀ i b, PureE Tryz.prog env kd (.int .i64 i :: .int .i64 b :: cap) [(A, oA), (B, oB)] (.agg (F i b).cells)) (t : Tm) (ht : TmW t) :
  PureE Tryz.prog env 92 [.agg t.cells, .fn (.func kd) [] cap] [(A, oA), (B, oB)] (.agg (t.rb F 0).cells) := by
 intro h he
 simp only [List.mem_cons, List.not_mem_nil, or_false, forall_eq_or_imp, forall_eq] at he
 obtain ⟨hA, hB⟩ := he
 refine en_ Tryz.func92 [.cell 4 31] fun g0 w0 gen hrel hfr hfr' hres => ?_
 have f5 := fresh_ne hfr hA
 have f6 := fresh_ne hfr hB
 have hc := c_rebuild1 F kd cap hcap ⟨gen, 0, 1⟩ ⟨gen, 1, 0⟩ A B oA oB hof t ht 0
 clear hof
 generalize t.rb F 0 = v at *
 repeat' (first
  |exact hin _|exact agf (by assumption)
  | (first|refine wp rfl ?_|(refine Call1_pureE (hc) ?_ ?_; (focus ((simp only [go_sem, *] <;> (repeat (first|assumption | rfl|refine And.intro ?_ ?_))); done)))|refine finF hrel ?_ ?_ ?_)<;>try simp only [go_sem, *])
theorem c_Lift1 (fr by' : Int) (A B : GoAbs.Id) (i b : Int) : PureE Tryz.prog env 121 (.int .i64 i :: .int .i64 b :: [.ptr A 0, .ptr B 0])
  [(A, .box [.int .i64 fr]), (B, .box [.int .i64 by'])] (.agg (liftG fr by' i b).cells) := by
 intro h he
 simp only [List.mem_cons, List.not_mem_nil, or_false, forall_eq_or_imp, forall_eq] at he
 obtain ⟨hA, hB⟩ := he
 have hw : IntKind.i64.wrap (i - b) = subW i b := rfl
 have hw1 : IntKind.i64.wrap (i + by') = addW i by' := rfl
 unfold liftG
 generalize subW i b = q at *
 generalize addW i by' = m at *
 cases hq : decide (q ≥ fr)
 all_goals
  simp only [if_true, Bool.false_eq_true, if_false]
  refine en_ Tryz.func121 [.cell 6 31] fun g0 w0 gen hrel hfr hfr' hres => ?_
  have f5 := fresh_ne hfr hA
  have f6 := fresh_ne hfr hB
  repeat' (first
   |exact hin _|exact agf (by assumption)
   | (first|refine wp rfl ?_|refine spt rfl ?_|refine spf rfl ?_|(refine spl (fun hc => ?_) fun hc => ?_) <;> (try rw [beq_iff_eq] at hc) <;> try simp only [hc]|refine cp (c_tVar _) ?_|refine finF hrel ?_ ?_ ?_)<;>try simp only [go_sem, *])
theorem c_tLift (t : Tm) (ht : TmW t) (fr by' : Int) : Pure Tryz.prog env 94 [.agg t.cells, .int .i64 fr, .int .i64 by'] (.agg (tLift t fr by').cells) := by
 intro h
 unfold tLift
 refine en_ Tryz.func94 [.cell 6 31] fun g0 w0 gen hrel hfr hfr' hres => ?_
 have hc := c_Rebuild (liftG fr by') 121 [.ptr ⟨gen, 0, 1⟩ 0, .ptr ⟨gen, 0, 2⟩ 0] rfl ⟨gen, 0, 1⟩ ⟨gen, 0, 2⟩ _ _ (fun i b => c_Lift1 fr by' _ _ i b) t ht
 generalize t.rb (liftG fr by') 0 = v at *
 repeat' (first
  |exact hin _|exact agf (by assumption)
  | (first|refine wp rfl ?_|(refine Call1_pureE (hc) ?_ ?_; (focus ((simp only [go_sem, *] <;> (repeat (first|assumption | rfl|refine And.intro ?_ ?_))); done)))|refine finF hrel ?_ ?_ ?_)<;>try simp only [go_sem, *])
theorem c_Put1 (a : Int) (s : Tm) (hs : TmW s) (A B : GoAbs.Id) (i b : Int) : PureE Tryz.prog env 93 (.int .i64 i :: .int .i64 b :: [.ptr A 0, .ptr B 0])
  [(A, .box [.int .i64 a]), (B, .box s.cells)] (.agg (putG a s i b).cells) := by
 intro h he
 simp only [List.mem_cons, List.not_mem_nil, or_false, forall_eq_or_imp, forall_eq] at he
 obtain ⟨hA, hB⟩ := he
 have hw : IntKind.i64.wrap (i - b) = subW i b := rfl
 have hw1 : IntKind.i64.wrap (a + b) = addW a b := rfl
 have hw2 : IntKind.i64.wrap (i - 1) = subW i 1 := rfl
 have hL := c_tLift s hs 0 (addW a b)
 unfold putG
 clear hs
 generalize tLift s 0 (addW a b) = v at *
 generalize subW i b = q at *
 generalize addW a b = m at *
 generalize subW i 1 = p at *
 cases hq : (q == a) with
 | true =>
  simp only [if_true]
  refine en_ Tryz.func93 [.cell 6 31] fun g0 w0 gen hrel hfr hfr' hres => ?_
  have f5 := fresh_ne hfr hA
  have f6 := fresh_ne hfr hB
  exact wk_
 | false =>
  cases hq2 : decide (q > a)
  all_goals
   simp only [if_true, Bool.false_eq_true, if_false]
   refine en_ Tryz.func93 [.cell 6 31] fun g0 w0 gen hrel hfr hfr' hres => ?_
   have f5 := fresh_ne hfr hA
   have f6 := fresh_ne hfr hB
   repeat' (first
    |exact hin _|exact agf (by assumption)
    | (first|refine wp rfl ?_|refine spt rfl ?_|refine spf rfl ?_|(refine spl (fun hc => ?_) fun hc => ?_) <;> (try rw [beq_iff_eq] at hc) <;> try simp only [hc]|refine cp (c_tVar _) ?_|refine finF hrel ?_ ?_ ?_)<;>try simp only [go_sem, *])
theorem c_tPut (t : Tm) (ht : TmW t) (a : Int) (s : Tm) (hs : TmW s) : Pure Tryz.prog env 57 [.agg t.cells, .int .i64 a, .agg s.cells] (.agg (tPut t a s).cells) := by
 intro h
 unfold tPut
 refine en_ Tryz.func57 [.cell 6 31] fun g0 w0 gen hrel hfr hfr' hres => ?_
 have hc := c_Rebuild (putG a s) 93 [.ptr ⟨gen, 0, 1⟩ 0, .ptr ⟨gen, 0, 2⟩ 0] rfl ⟨gen, 0, 1⟩ ⟨gen, 0, 2⟩ _ _ (fun i b => c_Put1 a s hs _ _ i b) t ht
 generalize t.rb (putG a s) 0 = v at *
 repeat' (first
  |exact hin _|exact agf (by assumption)
  | (first|refine wp rfl ?_|(refine Call1_pureE (hc) ?_ ?_; (focus ((simp only [go_sem, *] <;> (repeat (first|assumption | rfl|refine And.intro ?_ ?_))); done)))|refine finF hrel ?_ ?_ ?_)<;>try simp only [go_sem, *])
end Go.Proofs.YtmbpmbofehmdaaaGreatDoor
