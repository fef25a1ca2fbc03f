/-
 Walks: one step of normalization (references).
-/
import Derived.Test.YtpnjamplciaopaaGreatDoorGv
import Derived.Test.YtpnjamplciaopaaGreatDoorAbsDc
set_option linter.unusedSimpArgs false
set_option linter.unusedVariables false
set_option maxRecDepth 20000
set_option maxHeartbeats 4000000
namespace Go.Proofs.YtpnjamplciaopaaGreatDoor
open Go GoAbs Go.Proofs
theorem c_next : ∀ (t : Tm), TmG t → TmW t → (∃ g s, HasTy TyG g t s) → ∀ room : Int,
  Pure Tryz.prog env 135 [.agg t.cells, .int .i64 room] (.tup [.agg (t.nx Tm.grow room).1.cells, .bool (t.nx Tm.grow room).2.1, .bool (t.nx Tm.grow room).2.2]) := by
 intro t
 induction t using Tm.ind with | h t ih => ?_
 intro hG hW ⟨g, s, hT⟩ room h
 have h1 := c_Root t hG
 have hz : zeroT.cells = [.int .i64 0, .int .i64 0, .int .i64 0, .sl .any [], .sl .any []] := by simp [zeroT, Tm.mk_cells, Ty.mk_kind, Ty.mk_args]
 cases hr : t.root with
 | true =>
  rw [hr] at h1
  have h2 := c_growth hT hr hW
  have h3 := c_reduced hT hr hW
  rw [nx_root hr]
  clear ih hG hW hT hr
  generalize t.red = r at *
  generalize t.grow = n at *
  cases q : decide (n > room) with
  | true =>
   simp only [if_true, hz]
   clear h3
   refine en Tryz.func135 [.cell 4 31, .tmp 5, .tmp 6] rfl rfl fun g0 w0 gen hrel hfr hfr' hres => ?_
   repeat' (first
    | exact hin _ | exact agf (by assumption)
    | (first | refine wp rfl ?_ | refine spt rfl ?_ | refine spf rfl ?_ | (refine spl (fun hc => ?_) fun hc => ?_) <;> (try rw [beq_iff_eq] at hc) <;> try simp only [hc] | refine cp (h1) ?_ | refine cp (h2) ?_ | refine finF hrel ?_ ?_ ?_) <;> try simp only [go_sem, *])
  | false =>
   simp only [Bool.false_eq_true, if_false]
   refine en Tryz.func135 [.cell 4 31, .tmp 5, .tmp 6] rfl rfl fun g0 w0 gen hrel hfr hfr' hres => ?_
   repeat' (first
    | exact hin _ | exact agf (by assumption)
    | (first | refine wp rfl ?_ | refine spt rfl ?_ | refine spf rfl ?_ | (refine spl (fun hc => ?_) fun hc => ?_) <;> (try rw [beq_iff_eq] at hc) <;> try simp only [hc] | refine cp (h1) ?_ | refine cp (h2) ?_ | refine cp (h3) ?_ | refine finF hrel ?_ ?_ ?_) <;> try simp only [go_sem, *])
 | false =>
  rw [hr] at h1
  rw [nx_nxR hr]
  have hlen := hW.len
  have ih' : ∀ x ∈ t.args, ∀ room : Int, Pure Tryz.prog env 135 [.agg x.cells, .int .i64 room] (.tup [.agg (x.nx Tm.grow room).1.cells, .bool (x.nx Tm.grow room).2.1, .bool (x.nx Tm.grow room).2.2]) :=
   fun x hx => ih x hx (hG.arg hx) (hW.arg hx) (hT.args x hx)
  clear ih hG hT hr hW
  generalize hR : Tm.nxL Tm.grow room t.args = R
  refine en Tryz.func135 [.cell 4 31, .tmp 5, .tmp 6] rfl rfl fun g0 w0 gen hrel hfr hfr' hres => ?_
  repeat' (first
   | exact hin _ | exact agf (by assumption)
   | (first | refine wp rfl ?_ | refine spt rfl ?_ | refine spf rfl ?_ | (refine spl (fun hc => ?_) fun hc => ?_) <;> (try rw [beq_iff_eq] at hc) <;> try simp only [hc] | refine cp (h1) ?_ | refine finF hrel ?_ ?_ ?_) <;> try simp only [go_sem, *])
  clear h1
  refine AR_range [1, 2, 4, 23] [⟨gen, 0, 0⟩, ⟨gen, 0, 1⟩] (fun i σ => Agree h σ.h ∧ nxAt Tm.grow room t.args i) (t.args).length (by first | omega | (simp only [go_sem, *] <;> omega)) ⟨rfl, rfl, rfl⟩ rfl (by simp only [go_sem, *]) (by simp only [go_sem, *]) ?_ (by intro i σ t v ht hK; simp only [List.mem_cons, List.not_mem_nil, or_false] at ht; rcases ht with rfl | rfl | rfl <;> exact hK) ?_ ?_
  ·simp only [go_sem, *]
   first | exact ⟨(by repeat (first | exact Agree.refl _ | assumption | refine Agree.new ?_ (hgf0 _ _) | refine Agree.new ?_ (hfr' _ _))), nxAt_0⟩ | exact ⟨(by repeat (first | exact Agree.refl _ | assumption | refine Agree.new ?_ (hgf0 _ _) | refine Agree.new ?_ (hfr' _ _))), nxAt_0, trivial⟩
  ·
   intro i σ gr0 hgl_gr0 hgn hlt jI jN jS ⟨jA, jn⟩
   obtain ⟨jT, jB⟩ := jS
   simp only [go_sem] at jT jB
   have hgf := fresh_of hgn
   have hgf0 : ∀ r i, h ⟨gr0, r, i⟩ = none := fun r i => agree_fresh jA (hgf r i)
   have eg_gen_gr0 := gen_lt (show gen < gr0 by omega)
   have eh_gen_gr0 := gen_lt' (show gen < gr0 by omega)
   obtain ⟨x, hx⟩ : ∃ x, (t.args)[i]? = some x := ⟨_, List.getElem?_eq_getElem hlt⟩
   have hxm := List.mem_of_getElem? hx
   have hm := min_lt hlt
   clear hgn
   have hc := ih' x hxm room
   clear ih'
   generalize hp : x.nx Tm.grow room = p at hc
   obtain ⟨y, found, fits⟩ := p
   simp only at hc
   cases found with
   | false =>
    have jn1 := nxAt_next jn hx (by rw [hp])
    clear jn hp hR
    repeat' (first
     | (first | refine wp rfl ?_ | refine spt rfl ?_ | refine spf rfl ?_ | (refine spl (fun hc => ?_) fun hc => ?_) <;> (try rw [beq_iff_eq] at hc) <;> try simp only [hc] | refine cp (hc) ?_ | refine AR_inv ?_) <;> try simp only [go_sem, *])
    all_goals first | exact ⟨by repeat (first | assumption | refine Agree.new ?_ (hgf0 _ _)), jn1⟩ | (repeat (first | assumption | refine Agree.new ?_ (hgf0 _ _)))
   | true =>
    have jr := nxAt_found jn hx (by rw [hp])
    rw [hp, hR] at jr
    simp only at jr
    subst jr
    simp only [nxR]
    have hmk : (Tm.mk t.kind t.index t.type (t.args.set i y)).cells = [.int .i64 t.kind, .int .i64 t.index, .int .i64 t.type.kind, .sl .any (t.type.args.map Ty.cells), .sl .any ((t.args.set i y).map Tm.cells)] := by rw [Tm.cells_eq]; rfl
    rw [hmk]
    clear jn hR hp hmk
    have hne : t.args.map Tm.cells ≠ [] := by intro e; have := congrArg List.length e; simp at this; rw [this] at hlt; simp at hlt
    have b1 : (t.args.map Tm.cells).length * 88 ≤ 140737488355328 := by simp; omega
    have b2 : (t.args.map Tm.cells).length ≤ 140737488355328 := by simp; omega
    have a5 : (t.args.map Tm.cells).all (fun e => e.length == 5) = true := all_len_Tm _
    have f0 : 0 ≤ (i : Int) := by omega
    have f1 : ((i : Int)).toNat = i := by omega
    have hts4 : ∀ v : V, splice t.cells 4 [v] = [.int .i64 t.kind, .int .i64 t.index, .int .i64 t.type.kind, .sl .any (t.type.args.map Ty.cells), v] := fun v => by rw [Tm.cells_eq]; rfl
    have hkT : ∀ r ∈ (t.args.set i y).map Tm.cells, r.length = 5 := by intro r hr; obtain ⟨z, _, rfl⟩ := List.mem_map.1 hr; exact Tm.cells_len z
    have fin : ∀ cs : List V, t.args.length * 5 ≤ cs.length → (splice cs (i * 5) y.cells).take (t.args.length * 5) = ((t.args.set i y).map Tm.cells).flatten → i * 5 + 5 ≤ cs.length ∧ t.args.length * 5 ≤ (splice cs (i * 5) y.cells).length := by
     intro cs h1 h2
     refine ⟨by omega, ?_⟩
     have := congrArg List.length h2
     rw [flat5, List.length_take, List.length_set] at this
     omega
    have app : ∀ q : Nat, t.args.length * 5 ≤ ((t.args.map Tm.cells).flatten ++ List.replicate q V.undef).length ∧
      (splice ((t.args.map Tm.cells).flatten ++ List.replicate q V.undef) (i * 5) y.cells).take (t.args.length * 5) = ((t.args.set i y).map Tm.cells).flatten := fun q =>
     ⟨by rw [List.length_append, flat5]; omega, take_splice hlt⟩
    repeat' (first
     | refine AR_seq ?_ | refine AR_skip ?_ | refine AR_block ?_ | refine AR_block_end ?_ | refine AR_exit ?_ | refine AR_code_exit ?_ | refine AR_inv_exit ?_ | refine AR_block_hit ?_
     | refine AR_block_pass (by decide) ?_ | refine AR_ret ?_ | refine AR_fall ?_
     | (refine ⟨?_, ?_⟩; focus ((repeat' (first | (refine And.intro ?_ ?_) | (refine Or.inr ?_))); all_goals kernel_rfl))
     | refine AR_cond_t rfl ?_ | refine AR_cond_f rfl ?_ | (refine AR_cond rfl (fun hc => ?_) (fun hc => ?_) <;> (try rw [beq_iff_eq] at hc) <;> (try simp only [hc]))
     | (refine AR_region_app (id := 11) 2 (by rfl) (by rfl) (by rfl) (by rfl) ?_; simp only [go_sem, *, List.take_succ_cons, List.take_zero, List.drop_succ_cons, List.drop_zero]; refine ⟨t.args.map Tm.cells, ⟨rfl, ⟨_, rfl⟩, hne, ⟨_, _, rfl, rfl, rfl, rfl, by decide, rfl, a5, by simp; omega, by simp; omega⟩⟩, fun q => ?_⟩; obtain ⟨p1, p2⟩ := app q; clear app; generalize (t.args.map Tm.cells).flatten ++ List.replicate q V.undef = cs at *; obtain ⟨p3, p4⟩ := fin cs p1 p2; clear fin; simp only [go_sem, *])
     | (refine AR_freezeL (k := .code (.region 13 _ _) :: _) ⟨gr0, 11, 2⟩ t.args.length 5 ((t.args.set i y).map Tm.cells) [(4, .ptr ⟨gen, 0, 1⟩ 0), (12, .ptr ⟨gr0, 10, 1⟩ 0), (11, .bool fits)] [(⟨gen, 0, 1⟩, [.int .i64 0, .int .i64 0, .int .i64 0, .sl .full [], .sl .full []], [.int .i64 0, .int .i64 0, .int .i64 0, .sl .full [], .sl .full []]), (⟨gr0, 10, 1⟩, [.int .i64 t.kind, .int .i64 t.index, .int .i64 t.type.kind, .sl .any (t.type.args.map Ty.cells), .slb ⟨gr0, 11, 2⟩ t.args.length], [.int .i64 t.kind, .int .i64 t.index, .int .i64 t.type.kind, .sl .any (t.type.args.map Ty.cells), .sl .any ((t.args.set i y).map Tm.cells)])] rfl rfl hrel ?_ p2 (by simp) hkT p4 (hgf0 _ _) (by simp) (by repeat (first | exact jA | refine Agree.new ?_ (hgf0 _ _) | refine Agree.new ?_ (hfr' _ _))) (by simp only [go_sem, *]) (by intro b hb; simp only [List.mem_cons, List.not_mem_nil, or_false] at hb; rcases hb with rfl | rfl; exact ⟨hfr' _ _, by simp only [go_sem, *], rfl, (by intro p hp; simp only [List.zip_cons_cons, List.zip_nil_left, List.zip_nil_right, List.mem_cons, List.not_mem_nil, or_false] at hp; rcases hp with rfl | rfl | rfl | rfl | rfl <;> first | exact .inr (.inl rfl) | exact .inr (.inr ⟨rfl, rfl⟩)), by simp only [go_sem, *]⟩; exact ⟨hgf0 _ _, by simp only [go_sem, *], rfl, (by intro p hp; simp only [List.zip_cons_cons, List.zip_nil_left, List.zip_nil_right, List.mem_cons, List.not_mem_nil, or_false] at hp; rcases hp with rfl | rfl | rfl | rfl | rfl <;> first | exact .inr (.inl rfl) | exact .inr (.inr ⟨rfl, rfl⟩)), by simp only [go_sem, *]⟩) (by intro p hp; simp only [List.mem_cons, List.not_mem_nil, or_false] at hp; rcases hp with rfl | rfl | rfl <;> exact ⟨.inr (.inl (by simp only [go_sem, *])), by simp only [go_sem, *, List.foldr_cons, List.foldr_nil, ne_eq, reduceCtorEq, not_false_eq_true]⟩) ?_; (focus (simp only [go_sem, *]; done)); simp only [go_sem, *, List.foldr_cons, List.foldr_nil])
     | ((first | refine AR_region ?_ | (refine guarded_split (fun hb => ?_) (fun hb => ?_) <;> (try simp only [Bool.not_true, Bool.not_false] at hb)) | refine Call1_pure (hc) ?_ | refine AR_fin hrel (by first | exact hin _ | simp only [go_sem, and_self]) (by repeat (first | exact Agree.refl _ | assumption | refine Agree.new ?_ (hgf0 _ _) | refine Agree.new ?_ (hfr' _ _))) ?_) <;> simp only [go_sem, *]))
  ·clear ih'
   intro σ ga0 hgl_ga0 hgn jS ⟨jA, jn⟩
   obtain ⟨jT, jB⟩ := jS
   simp only [go_sem] at jT jB
   have hgf := fresh_of hgn
   have hgf0 : ∀ r i, h ⟨ga0, r, i⟩ = none := fun r i => agree_fresh jA (hgf r i)
   have eg_gen_ga0 := gen_lt (show gen < ga0 by omega)
   have eh_gen_ga0 := gen_lt' (show gen < ga0 by omega)
   clear hgn
   have jr := nxAt_end jn
   rw [hR] at jr
   subst jr
   simp only [nxR]
   clear jn hR
   repeat' (first
    | exact hin _ | exact agf (by assumption)
    | (first | refine wp rfl ?_ | refine spt rfl ?_ | refine spf rfl ?_ | (refine spl (fun hc => ?_) fun hc => ?_) <;> (try rw [beq_iff_eq] at hc) <;> try simp only [hc] | refine finF hrel ?_ ?_ ?_) <;> try simp only [go_sem, *])
end Go.Proofs.YtpnjamplciaopaaGreatDoor
