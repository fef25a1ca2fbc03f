/-
  What the walk needs of the types of this translation. Written by program (genbase.py).
-/
import Derived.Test.YtmbpmbofehmdaaaGreatDoorAbsB
import Derived.Test.YtmbpmbofehmdaaaGreatDoorRows
import Derived.KernelRfl
set_option linter.unusedSimpArgs false
namespace Go.Proofs.YtmbpmbofehmdaaaGreatDoor
open Go GoAbs Go.Proofs

theorem follows : Tryz.prog.follows .mixedOrders = true := by kernel_rfl
theorem en {env : Nat → Option (List V)} {f : FuncId} {fn : Func} {body : Code} {args : List V} {h : H} {v : V} {h' : H} (hf : Tryz.prog.funcs[f]? = some fn) (rs : List ResultVar) (hb : fn.body = some body) (hres : fn.results.toList = rs)
    (walk : ∀ (g : G) (w : World) (gen : Nat), Rel env g w h → (∀ id, h id ≠ none → id.gen < gen) → (∀ r i, h ⟨gen, r, i⟩ = none) → fn.results.toList = rs → AR ⟨Tryz.prog, env, fn.ntmps, fn, g, w, h, v, h'⟩ gen [.code body] .normal ⟨argTm args, h⟩)
    (hname : (fn.name == "runtime.NumGoroutine") = false := by kernel_rfl) (hok : okCode fn.ntmps body = true := by kernel_rfl) : Ret Tryz.prog env f args h v h' := enter hf rs hb hname follows hok hres walk
/- Walks: the steps as default arguments; wk, ek: a walk that ends; wq: a walk that comes to one more thing to do. -/
theorem wk_ {c : Ctx} {gen : Nat} {k : List It} {e : Exit} {σ : St} (h : AR c gen k e σ := by
      repeat' (first
        | (refine ⟨?_, ?_⟩; focus ((repeat' (first | refine And.intro ?_ ?_ | refine Or.inr ?_)); all_goals kernel_rfl))
        | exact hin _ | exact agf (by assumption)
        | (first | refine wp rfl ?_ | refine spt rfl ?_ | refine spf rfl ?_ | (refine spl (fun hc => ?_) fun hc => ?_) <;> (try rw [beq_iff_eq] at hc) <;> try simp only [hc] | (refine gs (fun hb => ?_) fun hb => ?_) <;> try simp only [Bool.not_true, Bool.not_false] at hb | refine cp (by assumption) ?_ | (refine ct (by assumption) ?_ ?_; focus ((simp only [go_sem, *] <;> rfl); done)) | refine finF hrel ?_ ?_ ?_) <;> try simp only [go_sem, *])) : AR c gen k e σ := h
theorem wq_ {c : Ctx} {gen : Nat} {k : List It} {e : Exit} {σ : St} {G : Prop} (hh : G) (h : PLift G → AR c gen k e σ := by
      intro zz
      repeat' (first
        | (refine ⟨?_, ?_⟩; focus ((repeat' (first | refine And.intro ?_ ?_ | refine Or.inr ?_)); all_goals kernel_rfl))
        | exact hin _ | exact agf (by assumption)
        | (first | refine wp rfl ?_ | refine spt rfl ?_ | refine spf rfl ?_ | (refine spl (fun hc => ?_) fun hc => ?_) <;> (try rw [beq_iff_eq] at hc) <;> try simp only [hc] | (refine gs (fun hb => ?_) fun hb => ?_) <;> try simp only [Bool.not_true, Bool.not_false] at hb | refine cp (by assumption) ?_ | (refine ct (by assumption) ?_ ?_; focus ((simp only [go_sem, *] <;> rfl); done)) | refine finF hrel ?_ ?_ ?_ | refine AR_inv ?_) <;> try simp only [go_sem, *])
      exact zz.down) : AR c gen k e σ := h ⟨hh⟩
theorem ek_ {env : Nat → Option (List V)} {f : FuncId} {fn : Func} {body : Code} {args : List V} {h : H} {v : V} {h' : H} (hf : Tryz.prog.funcs[f]? = some fn) (rs : List ResultVar) (hb : fn.body = some body := by rfl) (hres : fn.results.toList = rs := by rfl)
    (walk : ∀ (g0 : G) (w0 : World) (gen : Nat), Rel env g0 w0 h → (∀ id, h id ≠ none → id.gen < gen) → (∀ r i, h ⟨gen, r, i⟩ = none) → fn.results.toList = rs → AR ⟨Tryz.prog, env, fn.ntmps, fn, g0, w0, h, v, h'⟩ gen [.code body] .normal ⟨argTm args, h⟩ := by
      intro g0 w0 gen hrel hfr hfr' hres
      repeat' (first
        | (refine ⟨?_, ?_⟩; focus ((repeat' (first | refine And.intro ?_ ?_ | refine Or.inr ?_)); all_goals kernel_rfl))
        | exact hin _ | exact agf (by assumption)
        | (first | refine wp rfl ?_ | refine spt rfl ?_ | refine spf rfl ?_ | (refine spl (fun hc => ?_) fun hc => ?_) <;> (try rw [beq_iff_eq] at hc) <;> try simp only [hc] | (refine gs (fun hb => ?_) fun hb => ?_) <;> try simp only [Bool.not_true, Bool.not_false] at hb | refine cp (by assumption) ?_ | (refine ct (by assumption) ?_ ?_; focus ((simp only [go_sem, *] <;> rfl); done)) | refine finF hrel ?_ ?_ ?_) <;> try simp only [go_sem, *]))
    (hname : (fn.name == "runtime.NumGoroutine") = false := by kernel_rfl) (hok : okCode fn.ntmps body = true := by kernel_rfl) : Ret Tryz.prog env f args h v h' := enter hf rs hb hname follows hok hres walk
theorem wkT_ {c : Ctx} {gen : Nat} {k : List It} {e : Exit} {σ : St} (h : AR c gen k e σ := by
      repeat' (first
        | (refine ⟨?_, ?_⟩; focus ((repeat' (first | refine And.intro ?_ ?_ | refine Or.inr ?_)); all_goals kernel_rfl))
        | exact agb (by assumption)
        | (first | refine wp rfl ?_ | refine spt rfl ?_ | refine spf rfl ?_ | (refine spl (fun hc => ?_) fun hc => ?_) <;> (try rw [beq_iff_eq] at hc) <;> try simp only [hc] | (refine gs (fun hb => ?_) fun hb => ?_) <;> try simp only [Bool.not_true, Bool.not_false] at hb | refine cp (by assumption) ?_ | (refine ct (by assumption) ?_ ?_; focus ((simp only [go_sem, *] <;> rfl); done)) | refine finT hrel hd ?_ ?_ ?_ ?_ ?_) <;> try simp only [go_sem, *])) : AR c gen k e σ := h
theorem wqT_ {c : Ctx} {gen : Nat} {k : List It} {e : Exit} {σ : St} {G : Prop} (hh : G) (h : PLift G → AR c gen k e σ := by
      intro zz
      repeat' (first
        | (refine ⟨?_, ?_⟩; focus ((repeat' (first | refine And.intro ?_ ?_ | refine Or.inr ?_)); all_goals kernel_rfl))
        | exact agb (by assumption)
        | (first | refine wp rfl ?_ | refine spt rfl ?_ | refine spf rfl ?_ | (refine spl (fun hc => ?_) fun hc => ?_) <;> (try rw [beq_iff_eq] at hc) <;> try simp only [hc] | (refine gs (fun hb => ?_) fun hb => ?_) <;> try simp only [Bool.not_true, Bool.not_false] at hb | refine cp (by assumption) ?_ | (refine ct (by assumption) ?_ ?_; focus ((simp only [go_sem, *] <;> rfl); done)) | refine finT hrel hd ?_ ?_ ?_ ?_ ?_ | refine AR_inv ?_) <;> try simp only [go_sem, *])
      exact zz.down) : AR c gen k e σ := h ⟨hh⟩
theorem ekT_ {env : Nat → Option (List V)} {f : FuncId} {fn : Func} {body : Code} {args : List V} {h : H} {v : V} {h' : H} (hf : Tryz.prog.funcs[f]? = some fn) (rs : List ResultVar) (hb : fn.body = some body := by rfl) (hres : fn.results.toList = rs := by rfl)
    (walk : ∀ (g0 : G) (w0 : World) (gen : Nat), Rel env g0 w0 h → (∀ id, h id ≠ none → id.gen < gen) → (∀ r i, h ⟨gen, r, i⟩ = none) → fn.results.toList = rs → AR ⟨Tryz.prog, env, fn.ntmps, fn, g0, w0, h, v, h'⟩ gen [.code body] .normal ⟨argTm args, h⟩ := by
      intro g0 w0 gen hrel hfr hfr' hres
      repeat' (first
        | (refine ⟨?_, ?_⟩; focus ((repeat' (first | refine And.intro ?_ ?_ | refine Or.inr ?_)); all_goals kernel_rfl))
        | exact agb (by assumption)
        | (first | refine wp rfl ?_ | refine spt rfl ?_ | refine spf rfl ?_ | (refine spl (fun hc => ?_) fun hc => ?_) <;> (try rw [beq_iff_eq] at hc) <;> try simp only [hc] | (refine gs (fun hb => ?_) fun hb => ?_) <;> try simp only [Bool.not_true, Bool.not_false] at hb | refine cp (by assumption) ?_ | (refine ct (by assumption) ?_ ?_; focus ((simp only [go_sem, *] <;> rfl); done)) | refine finT hrel hd ?_ ?_ ?_ ?_ ?_) <;> try simp only [go_sem, *]))
    (hname : (fn.name == "runtime.NumGoroutine") = false := by kernel_rfl) (hok : okCode fn.ntmps body = true := by kernel_rfl) : Ret Tryz.prog env f args h v h' := enter hf rs hb hname follows hok hres walk
theorem en_ {env : Nat → Option (List V)} {f : FuncId} {fn : Func} {body : Code} {args : List V} {h : H} {v : V} {h' : H} (hf : Tryz.prog.funcs[f]? = some fn) (rs : List ResultVar)
    (walk : ∀ (g : G) (w : World) (gen : Nat), Rel env g w h → (∀ id, h id ≠ none → id.gen < gen) → (∀ r i, h ⟨gen, r, i⟩ = none) → fn.results.toList = rs → AR ⟨Tryz.prog, env, fn.ntmps, fn, g, w, h, v, h'⟩ gen [.code body] .normal ⟨argTm args, h⟩)
    (hb : fn.body = some body := by rfl) (hres : fn.results.toList = rs := by rfl) (hname : (fn.name == "runtime.NumGoroutine") = false := by kernel_rfl) (hok : okCode fn.ntmps body = true := by kernel_rfl) : Ret Tryz.prog env f args h v h' := enter hf rs hb hname follows hok hres walk
@[go_sem] theorem ty1 : tyi Tryz.prog 1 = some { size := 1, bytes := 8, agg := false, zero := [.nilf], fields := [], fok := false, kind := 0, alen := 0, esize := 0, ebytes := 0, eagg := false, ezero := [], ik := none, frz := false } := by kernel_rfl
@[go_sem] theorem ty2 : tyi Tryz.prog 2 = some { size := 1, bytes := 8, agg := false, zero := [.int .i64 0], fields := [], fok := false, kind := 2, alen := 0, esize := 0, ebytes := 0, eagg := false, ezero := [], ik := some .i64, frz := false } := by kernel_rfl
@[go_sem] theorem ty3 : tyi Tryz.prog 3 = some { size := 1, bytes := 8, agg := false, zero := [.int .i64 0], fields := [], fok := false, kind := 2, alen := 0, esize := 0, ebytes := 0, eagg := false, ezero := [], ik := some .i64, frz := false } := by kernel_rfl
@[go_sem] theorem ty4 : tyi Tryz.prog 4 = some { size := 1, bytes := 1, agg := false, zero := [.bool false], fields := [], fok := false, kind := 1, alen := 0, esize := 0, ebytes := 0, eagg := false, ezero := [], ik := none, frz := false } := by kernel_rfl
@[go_sem] theorem ty5 : tyi Tryz.prog 5 = some { size := 1, bytes := 1, agg := false, zero := [.int .u8 0], fields := [], fok := false, kind := 2, alen := 0, esize := 0, ebytes := 0, eagg := false, ezero := [], ik := some .u8, frz := false } := by kernel_rfl
@[go_sem] theorem ty22 : tyi Tryz.prog 22 = some { size := 1, bytes := 24, agg := false, zero := [.sl .full []], fields := [], fok := false, kind := 4, alen := 0, esize := 1, ebytes := 8, eagg := false, ezero := [.int .i64 0], ik := none, frz := false } := by kernel_rfl
@[go_sem] theorem ty23 : tyi Tryz.prog 23 = some { size := 1, bytes := 24, agg := false, zero := [.sl .full []], fields := [], fok := false, kind := 4, alen := 0, esize := 2, ebytes := 32, eagg := true, ezero := [.int .i64 0, .sl .full []], ik := none, frz := false } := by kernel_rfl
@[go_sem] theorem ty25 : tyi Tryz.prog 25 = some { size := 2, bytes := 32, agg := true, zero := [.int .i64 0, .sl .full []], fields := [(0, 1, false), (1, 1, false)], fok := true, kind := 3, alen := 0, esize := 0, ebytes := 0, eagg := false, ezero := [], ik := none, frz := false } := by kernel_rfl
@[go_sem] theorem ty26 : tyi Tryz.prog 26 = some { size := 1, bytes := 24, agg := false, zero := [.sl .full []], fields := [], fok := false, kind := 4, alen := 0, esize := 5, ebytes := 72, eagg := true, ezero := [.int .i64 0, .int .i64 0, .int .i64 0, .sl .full [], .sl .full []], ik := none, frz := false } := by kernel_rfl
@[go_sem] theorem ty27 : tyi Tryz.prog 27 = some { size := 1, bytes := 24, agg := false, zero := [.sl .full []], fields := [], fok := false, kind := 4, alen := 0, esize := 5, ebytes := 88, eagg := true, ezero := [.int .i64 0, .int .i64 0, .sl .full [], .sl .full [], .sl .full []], ik := none, frz := false } := by kernel_rfl
@[go_sem] theorem ty29 : tyi Tryz.prog 29 = some { size := 5, bytes := 88, agg := true, zero := [.int .i64 0, .int .i64 0, .sl .full [], .sl .full [], .sl .full []], fields := [(0, 1, false), (1, 2, true), (3, 1, false), (4, 1, false)], fok := true, kind := 3, alen := 0, esize := 0, ebytes := 0, eagg := false, ezero := [], ik := none, frz := false } := by kernel_rfl
@[go_sem] theorem ty31 : tyi Tryz.prog 31 = some { size := 5, bytes := 72, agg := true, zero := [.int .i64 0, .int .i64 0, .int .i64 0, .sl .full [], .sl .full []], fields := [(0, 1, false), (1, 1, false), (2, 2, true), (4, 1, false)], fok := true, kind := 3, alen := 0, esize := 0, ebytes := 0, eagg := false, ezero := [], ik := none, frz := false } := by kernel_rfl
@[go_sem] theorem ty36 : tyi Tryz.prog 36 = some { size := 1, bytes := 8, agg := false, zero := [.nilp], fields := [], fok := false, kind := 7, alen := 0, esize := 0, ebytes := 0, eagg := false, ezero := [], ik := none, frz := false } := by kernel_rfl
@[go_sem] theorem ty44 : tyi Tryz.prog 44 = some { size := 1, bytes := 8, agg := false, zero := [.int .i64 0], fields := [], fok := false, kind := 2, alen := 0, esize := 0, ebytes := 0, eagg := false, ezero := [], ik := some .i64, frz := false } := by kernel_rfl
@[go_sem] theorem ty67 : tyi Tryz.prog 67 = some { size := 2, bytes := 32, agg := true, zero := [.sl .full [], .int .i64 0], fields := [(0, 1, false), (1, 1, false)], fok := true, kind := 3, alen := 0, esize := 0, ebytes := 0, eagg := false, ezero := [], ik := none, frz := false } := by kernel_rfl
@[go_sem] theorem ty76 : tyi Tryz.prog 76 = some { size := 1, bytes := 1, agg := false, zero := [.int .u8 0], fields := [], fok := false, kind := 2, alen := 0, esize := 0, ebytes := 0, eagg := false, ezero := [], ik := some .u8, frz := false } := by kernel_rfl
@[go_sem] theorem ty94 : tyi Tryz.prog 94 = some { size := 10, bytes := 144, agg := true, zero := [.int .i64 0, .int .i64 0, .int .i64 0, .sl .full [], .sl .full [], .int .i64 0, .int .i64 0, .int .i64 0, .sl .full [], .sl .full []], fields := [], fok := false, kind := 5, alen := 2, esize := 5, ebytes := 72, eagg := true, ezero := [.int .i64 0, .int .i64 0, .int .i64 0, .sl .full [], .sl .full []], ik := none, frz := false } := by kernel_rfl
@[go_sem] theorem ty105 : tyi Tryz.prog 105 = some { size := 1, bytes := 8, agg := false, zero := [.nilf], fields := [], fok := false, kind := 0, alen := 0, esize := 0, ebytes := 0, eagg := false, ezero := [], ik := none, frz := false } := by kernel_rfl
@[go_sem] theorem ty117 : tyi Tryz.prog 117 = some { size := 1, bytes := 8, agg := false, zero := [.nilf], fields := [], fok := false, kind := 0, alen := 0, esize := 0, ebytes := 0, eagg := false, ezero := [], ik := none, frz := false } := by kernel_rfl
@[go_sem] theorem ty118 : tyi Tryz.prog 118 = some { size := 1, bytes := 8, agg := false, zero := [.nilf], fields := [], fok := false, kind := 0, alen := 0, esize := 0, ebytes := 0, eagg := false, ezero := [], ik := none, frz := false } := by kernel_rfl
@[go_sem] theorem ty121 : tyi Tryz.prog 121 = some { size := 1, bytes := 8, agg := false, zero := [.nilf], fields := [], fok := false, kind := 0, alen := 0, esize := 0, ebytes := 0, eagg := false, ezero := [], ik := none, frz := false } := by kernel_rfl
@[go_sem] theorem ty126 : tyi Tryz.prog 126 = some { size := 14, bytes := 112, agg := true, zero := [.int .i64 0, .int .i64 0, .int .i64 0, .int .i64 0, .int .i64 0, .int .i64 0, .int .i64 0, .int .i64 0, .int .i64 0, .int .i64 0, .int .i64 0, .int .i64 0, .int .i64 0, .int .i64 0], fields := [], fok := false, kind := 5, alen := 14, esize := 1, ebytes := 8, eagg := false, ezero := [.int .i64 0], ik := none, frz := false } := by kernel_rfl
end Go.Proofs.YtmbpmbofehmdaaaGreatDoor
