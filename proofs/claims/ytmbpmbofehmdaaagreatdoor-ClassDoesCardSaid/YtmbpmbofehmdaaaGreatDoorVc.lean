/-
 Walks: the references' form of formulas.
-/
import Derived.Test.YtmbpmbofehmdaaaGreatDoorMg
set_option linter.unusedSimpArgs false
set_option linter.unusedVariables false
set_option maxRecDepth 20000
set_option maxHeartbeats 4000000
namespace Go.Proofs.YtmbpmbofehmdaaaGreatDoor
open Go GoAbs Go.Proofs
theorem formed_1 (t : Ty) (n m : Int) : formed 1 t n m = (noType t && n == 2 && m == 0) := rfl
theorem formed_23 {k : Int} (hk : k = 2 ∨ k = 3) (t : Ty) (n m : Int) : formed k t n m = (noType t && n == 0 && m == 2) := by rcases hk with rfl | rfl <;> rfl
theorem quant_cases {k : Int} (h : quant k = true) : k = 4 ∨ k = 5 ∨ k = 6 ∨ k = 7 := by simpa [quant, or_assoc] using h
theorem formed_q {k : Int} (hk : quant k = true) (t : Ty) (n m : Int) : formed k t n m = (tyErr t == 0 && n == 0 && m == 1) := by
 rcases quant_cases hk with rfl | rfl | rfl | rfl <;> rfl
theorem formed_no {k : Int} (h1 : (k == 1) = false) (h2 : (k == 2) = false) (h3 : (k == 3) = false) (hk : quant k = false) (t : Ty) (n m : Int) : formed k t n m = false := by
 simp only [quant, Bool.or_eq_false_iff] at hk
 simp [formed, fmWant, h1, h2, h3, hk]
theorem c_fmShape : ∀ t : Fm, FmW t → Pure Tryz.prog env 88 [.agg t.cells] (.bool t.good) := by
 intro t
 induction t using Fm.ind with | h t ih => ?_
 intro ht h
 have ih' : ∀ x ∈ t.args, Pure Tryz.prog env 88 [.agg x.cells] (.bool x.good) := fun x hx => ih x hx (ht.arg hx)
 clear ih
 have hv0 := t.good_eq.symm
 have hZ := c_refZero t.type
 have hC := c_refTyCheck t.type ht.ty
 have hT := fun x hx => c_tmShape x (ht.term (x := x) hx)
 generalize hvv : t.good = v at hv0 ⊢
 clear hvv ht
 cases k1 : (t.kind == 1) with
 | true =>
  have hk : t.kind = 1 := by simpa using k1
  rw [hk, formed_1] at hv0
  clear k1
  cases b1 : ((t.args.length : Int) == 0) with
  | false =>
   simp only [b1, Bool.false_and, Bool.and_false] at hv0
   clear ih' hT
   subst hv0
   refine en_ Tryz.func88 [.tmp 2] fun g0 w0 gen hrel hfr hfr' hres => ?_
   repeat' (first
    |exact hin _|exact agf (by assumption)
    | (first|refine wp rfl ?_|refine spt rfl ?_|refine spf rfl ?_|(refine spl (fun hc => ?_) fun hc => ?_) <;> (try rw [beq_iff_eq] at hc) <;> try simp only [hc]|(refine gs (fun hb => ?_) fun hb => ?_) <;> try simp only [Bool.not_true, Bool.not_false] at hb|refine cp hZ ?_|refine cp hC ?_|refine cp (c_quant _) ?_|refine finF hrel ?_ ?_ ?_)<;>try simp only [go_sem, *])
  | true =>
  cases b2 : noType t.type with
  | false =>
   simp only [b2, Bool.false_and, Bool.and_false] at hv0
   clear ih' hT
   subst hv0
   refine en_ Tryz.func88 [.tmp 2] fun g0 w0 gen hrel hfr hfr' hres => ?_
   repeat' (first
    |exact hin _|exact agf (by assumption)
    | (first|refine wp rfl ?_|refine spt rfl ?_|refine spf rfl ?_|(refine spl (fun hc => ?_) fun hc => ?_) <;> (try rw [beq_iff_eq] at hc) <;> try simp only [hc]|(refine gs (fun hb => ?_) fun hb => ?_) <;> try simp only [Bool.not_true, Bool.not_false] at hb|refine cp hZ ?_|refine cp hC ?_|refine cp (c_quant _) ?_|refine finF hrel ?_ ?_ ?_)<;>try simp only [go_sem, *])
  | true =>
  rw [b2] at hZ
  cases b3 : ((t.terms.length : Int) == 2) with
  | false =>
   simp only [b3, Bool.false_and, Bool.and_false] at hv0
   clear ih' hT
   subst hv0
   refine en_ Tryz.func88 [.tmp 2] fun g0 w0 gen hrel hfr hfr' hres => ?_
   repeat' (first
    |exact hin _|exact agf (by assumption)
    | (first|refine wp rfl ?_|refine spt rfl ?_|refine spf rfl ?_|(refine spl (fun hc => ?_) fun hc => ?_) <;> (try rw [beq_iff_eq] at hc) <;> try simp only [hc]|(refine gs (fun hb => ?_) fun hb => ?_) <;> try simp only [Bool.not_true, Bool.not_false] at hb|refine cp hZ ?_|refine cp hC ?_|refine cp (c_quant _) ?_|refine finF hrel ?_ ?_ ?_)<;>try simp only [go_sem, *])
  | true =>
  obtain ⟨x, y, hxy⟩ := lst2 (show t.terms.length = 2 by have := b3; simp at this; omega)
  have ha0 : t.args = [] := List.length_eq_zero_iff.1 (by simpa using b1)
  have h1 := hT x (by rw [hxy]; simp)
  have h2 := hT y (by rw [hxy]; simp)
  clear hT ih' b1 b3
  simp only [b2, hxy, ha0, List.length_cons, List.length_nil, List.all_cons, List.all_nil, Bool.and_true] at hv0
  simp only [show (((0 + 1 + 1 : Nat) : Int) == 2) = true from rfl, show (((0 : Nat) : Int) == 0) = true from rfl, Bool.true_and] at hv0
  cases b4 : x.good with
  | false =>
   rw [b4, Bool.false_and] at hv0
   rw [b4] at h1
   subst hv0
   refine en_ Tryz.func88 [.tmp 2] fun g0 w0 gen hrel hfr hfr' hres => ?_
   repeat' (first
    |exact hin _|exact agf (by assumption)
    | (first|refine wp rfl ?_|refine spt rfl ?_|refine spf rfl ?_|(refine spl (fun hc => ?_) fun hc => ?_) <;> (try rw [beq_iff_eq] at hc) <;> try simp only [hc]|(refine gs (fun hb => ?_) fun hb => ?_) <;> try simp only [Bool.not_true, Bool.not_false] at hb|refine cp hZ ?_|refine cp hC ?_|refine cp (c_quant _) ?_|refine cp h1 ?_|refine cp h2 ?_|refine finF hrel ?_ ?_ ?_)<;>try simp only [go_sem, *])
  | true =>
   rw [b4, Bool.true_and] at hv0
   rw [b4] at h1
   subst hv0
   refine en_ Tryz.func88 [.tmp 2] fun g0 w0 gen hrel hfr hfr' hres => ?_
   repeat' (first
    |exact hin _|exact agf (by assumption)
    | (first|refine wp rfl ?_|refine spt rfl ?_|refine spf rfl ?_|(refine spl (fun hc => ?_) fun hc => ?_) <;> (try rw [beq_iff_eq] at hc) <;> try simp only [hc]|(refine gs (fun hb => ?_) fun hb => ?_) <;> try simp only [Bool.not_true, Bool.not_false] at hb|refine cp hZ ?_|refine cp hC ?_|refine cp (c_quant _) ?_|refine cp h1 ?_|refine cp h2 ?_|refine finF hrel ?_ ?_ ?_)<;>try simp only [go_sem, *])
   all_goals (simp_all; done)
 | false =>
 cases k23 : (t.kind == 2 || t.kind == 3) with
 | true =>
  have hk : t.kind = 2 ∨ t.kind = 3 := by simpa using k23
  rw [formed_23 hk] at hv0
  clear k23
  rcases hk with hk | hk
  all_goals
   clear k1
   cases b1 : ((t.terms.length : Int) == 0) with
   | false =>
    simp only [b1, Bool.false_and, Bool.and_false] at hv0
    clear ih' hT
    subst hv0
    refine en_ Tryz.func88 [.tmp 2] fun g0 w0 gen hrel hfr hfr' hres => ?_
    repeat' (first
     |exact hin _|exact agf (by assumption)
     | (first|refine wp rfl ?_|refine spt rfl ?_|refine spf rfl ?_|(refine spl (fun hc => ?_) fun hc => ?_) <;> (try rw [beq_iff_eq] at hc) <;> try simp only [hc]|(refine gs (fun hb => ?_) fun hb => ?_) <;> try simp only [Bool.not_true, Bool.not_false] at hb|refine cp hZ ?_|refine cp hC ?_|refine cp (c_quant _) ?_|refine finF hrel ?_ ?_ ?_)<;>try simp only [go_sem, *])
   | true =>
   cases b2 : noType t.type with
   | false =>
    simp only [b2, Bool.false_and, Bool.and_false] at hv0
    clear ih' hT
    subst hv0
    refine en_ Tryz.func88 [.tmp 2] fun g0 w0 gen hrel hfr hfr' hres => ?_
    repeat' (first
     |exact hin _|exact agf (by assumption)
     | (first|refine wp rfl ?_|refine spt rfl ?_|refine spf rfl ?_|(refine spl (fun hc => ?_) fun hc => ?_) <;> (try rw [beq_iff_eq] at hc) <;> try simp only [hc]|(refine gs (fun hb => ?_) fun hb => ?_) <;> try simp only [Bool.not_true, Bool.not_false] at hb|refine cp hZ ?_|refine cp hC ?_|refine cp (c_quant _) ?_|refine finF hrel ?_ ?_ ?_)<;>try simp only [go_sem, *])
   | true =>
   rw [b2] at hZ
   cases b3 : ((t.args.length : Int) == 2) with
   | false =>
    simp only [b3, Bool.false_and, Bool.and_false] at hv0
    clear ih' hT
    subst hv0
    refine en_ Tryz.func88 [.tmp 2] fun g0 w0 gen hrel hfr hfr' hres => ?_
    repeat' (first
     |exact hin _|exact agf (by assumption)
     | (first|refine wp rfl ?_|refine spt rfl ?_|refine spf rfl ?_|(refine spl (fun hc => ?_) fun hc => ?_) <;> (try rw [beq_iff_eq] at hc) <;> try simp only [hc]|(refine gs (fun hb => ?_) fun hb => ?_) <;> try simp only [Bool.not_true, Bool.not_false] at hb|refine cp hZ ?_|refine cp hC ?_|refine cp (c_quant _) ?_|refine finF hrel ?_ ?_ ?_)<;>try simp only [go_sem, *])
   | true =>
   obtain ⟨x, y, hxy⟩ := lst2 (show t.args.length = 2 by have := b3; simp at this; omega)
   have ha0 : t.terms = [] := List.length_eq_zero_iff.1 (by simpa using b1)
   have h1 := ih' x (by rw [hxy]; simp)
   have h2 := ih' y (by rw [hxy]; simp)
   clear hT ih' b1 b3
   simp only [b2, hxy, ha0, List.length_cons, List.length_nil, List.all_cons, List.all_nil, Bool.and_true] at hv0
   simp only [show (((0 + 1 + 1 : Nat) : Int) == 2) = true from rfl, show (((0 : Nat) : Int) == 0) = true from rfl, Bool.true_and] at hv0
   cases b4 : x.good with
   | false =>
    rw [b4, Bool.false_and] at hv0
    rw [b4] at h1
    subst hv0
    refine en_ Tryz.func88 [.tmp 2] fun g0 w0 gen hrel hfr hfr' hres => ?_
    repeat' (first
     |exact hin _|exact agf (by assumption)
     | (first|refine wp rfl ?_|refine spt rfl ?_|refine spf rfl ?_|(refine spl (fun hc => ?_) fun hc => ?_) <;> (try rw [beq_iff_eq] at hc) <;> try simp only [hc]|(refine gs (fun hb => ?_) fun hb => ?_) <;> try simp only [Bool.not_true, Bool.not_false] at hb|refine cp hZ ?_|refine cp hC ?_|refine cp (c_quant _) ?_|refine cp h1 ?_|refine cp h2 ?_|refine finF hrel ?_ ?_ ?_)<;>try simp only [go_sem, *])
   | true =>
    rw [b4, Bool.true_and] at hv0
    rw [b4] at h1
    subst hv0
    refine en_ Tryz.func88 [.tmp 2] fun g0 w0 gen hrel hfr hfr' hres => ?_
    repeat' (first
     |exact hin _|exact agf (by assumption)
     | (first|refine wp rfl ?_|refine spt rfl ?_|refine spf rfl ?_|(refine spl (fun hc => ?_) fun hc => ?_) <;> (try rw [beq_iff_eq] at hc) <;> try simp only [hc]|(refine gs (fun hb => ?_) fun hb => ?_) <;> try simp only [Bool.not_true, Bool.not_false] at hb|refine cp hZ ?_|refine cp hC ?_|refine cp (c_quant _) ?_|refine cp h1 ?_|refine cp h2 ?_|refine finF hrel ?_ ?_ ?_)<;>try simp only [go_sem, *])
    all_goals (simp_all; done)
 | false =>
 have k2 : (t.kind == 2) = false := by cases h2 : (t.kind == 2) <;> simp_all
 have k3 : (t.kind == 3) = false := by cases h3 : (t.kind == 3) <;> simp_all
 clear k23
 cases kq : quant t.kind with
 | true =>
  rw [formed_q kq] at hv0
  cases b1 : ((t.terms.length : Int) == 0) with
  | false =>
   simp only [b1, Bool.false_and, Bool.and_false] at hv0
   clear ih' hT
   subst hv0
   refine en_ Tryz.func88 [.tmp 2] fun g0 w0 gen hrel hfr hfr' hres => ?_
   repeat' (first
    |exact hin _|exact agf (by assumption)
    | (first|refine wp rfl ?_|refine spt rfl ?_|refine spf rfl ?_|(refine spl (fun hc => ?_) fun hc => ?_) <;> (try rw [beq_iff_eq] at hc) <;> try simp only [hc]|(refine gs (fun hb => ?_) fun hb => ?_) <;> try simp only [Bool.not_true, Bool.not_false] at hb|refine cp hZ ?_|refine cp hC ?_|refine cp (c_quant _) ?_|refine finF hrel ?_ ?_ ?_)<;>try simp only [go_sem, *])
  | true =>
  cases b2 : (tyErr t.type == 0) with
  | false =>
   simp only [b2, Bool.false_and, Bool.and_false] at hv0
   clear ih' hT
   subst hv0
   refine en_ Tryz.func88 [.tmp 2] fun g0 w0 gen hrel hfr hfr' hres => ?_
   repeat' (first
    |exact hin _|exact agf (by assumption)
    | (first|refine wp rfl ?_|refine spt rfl ?_|refine spf rfl ?_|(refine spl (fun hc => ?_) fun hc => ?_) <;> (try rw [beq_iff_eq] at hc) <;> try simp only [hc]|(refine gs (fun hb => ?_) fun hb => ?_) <;> try simp only [Bool.not_true, Bool.not_false] at hb|refine cp hZ ?_|refine cp hC ?_|refine cp (c_quant _) ?_|refine finF hrel ?_ ?_ ?_)<;>try simp only [go_sem, *])
  | true =>
  cases b3 : ((t.args.length : Int) == 1) with
  | false =>
   simp only [b3, Bool.false_and, Bool.and_false] at hv0
   clear ih' hT
   subst hv0
   refine en_ Tryz.func88 [.tmp 2] fun g0 w0 gen hrel hfr hfr' hres => ?_
   repeat' (first
    |exact hin _|exact agf (by assumption)
    | (first|refine wp rfl ?_|refine spt rfl ?_|refine spf rfl ?_|(refine spl (fun hc => ?_) fun hc => ?_) <;> (try rw [beq_iff_eq] at hc) <;> try simp only [hc]|(refine gs (fun hb => ?_) fun hb => ?_) <;> try simp only [Bool.not_true, Bool.not_false] at hb|refine cp hZ ?_|refine cp hC ?_|refine cp (c_quant _) ?_|refine finF hrel ?_ ?_ ?_)<;>try simp only [go_sem, *])
  | true =>
  obtain ⟨x, hxy⟩ := lst1 (show t.args.length = 1 by have := b3; simp at this; omega)
  have ha0 : t.terms = [] := List.length_eq_zero_iff.1 (by simpa using b1)
  have h1 := ih' x (by rw [hxy]; simp)
  clear hT ih' b1 b3
  simp only [b2, hxy, ha0, List.length_cons, List.length_nil, List.all_cons, List.all_nil, Bool.and_true] at hv0
  simp only [show (((0 + 1 : Nat) : Int) == 1) = true from rfl, show (((0 : Nat) : Int) == 0) = true from rfl, Bool.true_and] at hv0
  subst hv0
  refine en_ Tryz.func88 [.tmp 2] fun g0 w0 gen hrel hfr hfr' hres => ?_
  repeat' (first
   |exact hin _|exact agf (by assumption)
   | (first|refine wp rfl ?_|refine spt rfl ?_|refine spf rfl ?_|(refine spl (fun hc => ?_) fun hc => ?_) <;> (try rw [beq_iff_eq] at hc) <;> try simp only [hc]|(refine gs (fun hb => ?_) fun hb => ?_) <;> try simp only [Bool.not_true, Bool.not_false] at hb|refine cp hZ ?_|refine cp hC ?_|refine cp (c_quant _) ?_|refine cp h1 ?_|refine finF hrel ?_ ?_ ?_)<;>try simp only [go_sem, *])
  all_goals (simp_all; done)
 | false =>
  rw [formed_no k1 k2 k3 kq, Bool.false_and, Bool.false_and] at hv0
  clear ih' hT
  subst hv0
  refine en_ Tryz.func88 [.tmp 2] fun g0 w0 gen hrel hfr hfr' hres => ?_
  repeat' (first
   |exact hin _|exact agf (by assumption)
   | (first|refine wp rfl ?_|refine spt rfl ?_|refine spf rfl ?_|(refine spl (fun hc => ?_) fun hc => ?_) <;> (try rw [beq_iff_eq] at hc) <;> try simp only [hc]|(refine gs (fun hb => ?_) fun hb => ?_) <;> try simp only [Bool.not_true, Bool.not_false] at hb|refine cp hZ ?_|refine cp hC ?_|refine cp (c_quant _) ?_|refine finF hrel ?_ ?_ ?_)<;>try simp only [go_sem, *])
theorem c_refFmCheck (t : Fm) (ht : FmW t) : Pure Tryz.prog env 51 [.agg t.cells] (.int .i64 (fmErr t)) := by
 intro h
 have h1 := c_fmShape t ht
 have h2 := c_fmCount t ht
 have hsz := t.szW_nodes
 have hv0 : (chk 4096 t.nodes).2 = fmErr t := rfl
 generalize hvv : fmErr t = v at hv0 ⊢
 clear hvv
 unfold Fm.good at h1
 cases hn : t.nodes with
 | none =>
  rw [hn] at h1 hv0
  simp only [chk, Option.isSome_none] at h1 hv0
  subst hv0
  clear h2 hsz
  exact ek_ Tryz.func51 [.tmp 2]
 | some n =>
  rw [hsz n hn] at h2
  rw [hn] at h1 hv0
  simp only [chk, Option.isSome_some] at h1 hv0
  clear hsz hn
  cases hd : decide (n > 4096) with
  | true =>
   have : 4096 < n := by simpa using hd
   rw [if_pos this] at hv0
   subst hv0
   exact ek_ Tryz.func51 [.tmp 2]
  | false =>
   have : ¬ 4096 < n := by simpa using hd
   rw [if_neg this] at hv0
   subst hv0
   exact ek_ Tryz.func51 [.tmp 2]
end Go.Proofs.YtmbpmbofehmdaaaGreatDoor
