/-
  What the walk needs of the types of this translation. Written by program (genbase.py).
-/
import Derived.Test.YteopcebaeojjkaaDoorAbsB
import Derived.Test.YteopcebaeojjkaaDoorRows
import Derived.KernelRfl
set_option linter.unusedSimpArgs false
namespace Go.Proofs.YteopcebaeojjkaaDoor
open Go GoAbs Go.Proofs

theorem follows : Tryd.prog.follows .mixedOrders = true := by kernel_rfl
theorem en {env : Nat → Option (List V)} {f : FuncId} {fn : Func} {body : Code} {args : List V} {h : H} {v : V} {h' : H} (hf : Tryd.prog.funcs[f]? = some fn) (rs : List ResultVar) (hb : fn.body = some body) (hres : fn.results.toList = rs)
    (walk : ∀ (g : G) (w : World) (gen : Nat), Rel env g w h → (∀ id, h id ≠ none → id.gen < gen) → (∀ r i, h ⟨gen, r, i⟩ = none) → fn.results.toList = rs → AR ⟨Tryd.prog, env, fn.ntmps, fn, g, w, h, v, h'⟩ gen [.code body] .normal ⟨argTm args, h⟩)
    (hname : (fn.name == "runtime.NumGoroutine") = false := by kernel_rfl) (hok : okCode fn.ntmps body = true := by kernel_rfl) : Ret Tryd.prog env f args h v h' := enter hf rs hb hname follows hok hres walk
@[go_sem] theorem ty1 : tyi Tryd.prog 1 = some { size := 1, bytes := 8, agg := false, zero := [.nilf], fields := [], fok := false, kind := 0, alen := 0, esize := 0, ebytes := 0, eagg := false, ezero := [], ik := none } := by kernel_rfl
@[go_sem] theorem ty2 : tyi Tryd.prog 2 = some { size := 1, bytes := 8, agg := false, zero := [.int .i64 0], fields := [], fok := false, kind := 2, alen := 0, esize := 0, ebytes := 0, eagg := false, ezero := [], ik := some .i64 } := by kernel_rfl
@[go_sem] theorem ty3 : tyi Tryd.prog 3 = some { size := 1, bytes := 8, agg := false, zero := [.int .i64 0], fields := [], fok := false, kind := 2, alen := 0, esize := 0, ebytes := 0, eagg := false, ezero := [], ik := some .i64 } := by kernel_rfl
@[go_sem] theorem ty4 : tyi Tryd.prog 4 = some { size := 1, bytes := 1, agg := false, zero := [.bool false], fields := [], fok := false, kind := 1, alen := 0, esize := 0, ebytes := 0, eagg := false, ezero := [], ik := none } := by kernel_rfl
@[go_sem] theorem ty22 : tyi Tryd.prog 22 = some { size := 1, bytes := 24, agg := false, zero := [.sl .full []], fields := [], fok := false, kind := 4, alen := 0, esize := 1, ebytes := 8, eagg := false, ezero := [.int .i64 0], ik := none } := by kernel_rfl
@[go_sem] theorem ty25 : tyi Tryd.prog 25 = some { size := 1, bytes := 8, agg := false, zero := [.nilp], fields := [], fok := false, kind := 7, alen := 0, esize := 0, ebytes := 0, eagg := false, ezero := [], ik := none } := by kernel_rfl
@[go_sem] theorem ty27 : tyi Tryd.prog 27 = some { size := 1, bytes := 24, agg := false, zero := [.sl .full []], fields := [], fok := false, kind := 4, alen := 0, esize := 2, ebytes := 32, eagg := true, ezero := [.int .i64 0, .sl .full []], ik := none } := by kernel_rfl
@[go_sem] theorem ty29 : tyi Tryd.prog 29 = some { size := 2, bytes := 32, agg := true, zero := [.int .i64 0, .sl .full []], fields := [(0, 1, false), (1, 1, false)], fok := true, kind := 3, alen := 0, esize := 0, ebytes := 0, eagg := false, ezero := [], ik := none } := by kernel_rfl
@[go_sem] theorem ty31 : tyi Tryd.prog 31 = some { size := 1, bytes := 24, agg := false, zero := [.sl .full []], fields := [], fok := false, kind := 4, alen := 0, esize := 5, ebytes := 72, eagg := true, ezero := [.int .i64 0, .int .i64 0, .int .i64 0, .sl .full [], .sl .full []], ik := none } := by kernel_rfl
@[go_sem] theorem ty33 : tyi Tryd.prog 33 = some { size := 5, bytes := 72, agg := true, zero := [.int .i64 0, .int .i64 0, .int .i64 0, .sl .full [], .sl .full []], fields := [(0, 1, false), (1, 1, false), (2, 2, true), (4, 1, false)], fok := true, kind := 3, alen := 0, esize := 0, ebytes := 0, eagg := false, ezero := [], ik := none } := by kernel_rfl
@[go_sem] theorem ty36 : tyi Tryd.prog 36 = some { size := 1, bytes := 8, agg := false, zero := [.int .i64 0], fields := [], fok := false, kind := 2, alen := 0, esize := 0, ebytes := 0, eagg := false, ezero := [], ik := some .i64 } := by kernel_rfl
@[go_sem] theorem ty44 : tyi Tryd.prog 44 = some { size := 1, bytes := 24, agg := false, zero := [.sl .full []], fields := [], fok := false, kind := 4, alen := 0, esize := 5, ebytes := 88, eagg := true, ezero := [.int .i64 0, .int .i64 0, .sl .full [], .sl .full [], .sl .full []], ik := none } := by kernel_rfl
@[go_sem] theorem ty46 : tyi Tryd.prog 46 = some { size := 5, bytes := 88, agg := true, zero := [.int .i64 0, .int .i64 0, .sl .full [], .sl .full [], .sl .full []], fields := [(0, 1, false), (1, 2, true), (3, 1, false), (4, 1, false)], fok := true, kind := 3, alen := 0, esize := 0, ebytes := 0, eagg := false, ezero := [], ik := none } := by kernel_rfl
@[go_sem] theorem ty51 : tyi Tryd.prog 51 = some { size := 2, bytes := 32, agg := true, zero := [.sl .full [], .int .i64 0], fields := [(0, 1, false), (1, 1, false)], fok := true, kind := 3, alen := 0, esize := 0, ebytes := 0, eagg := false, ezero := [], ik := none } := by kernel_rfl
@[go_sem] theorem ty69 : tyi Tryd.prog 69 = some { size := 4, bytes := 64, agg := true, zero := [.int .i64 0, .sl .full [], .int .i64 0, .sl .full []], fields := [(0, 2, true), (2, 2, true)], fok := true, kind := 3, alen := 0, esize := 0, ebytes := 0, eagg := false, ezero := [], ik := none } := by kernel_rfl
@[go_sem] theorem ty90 : tyi Tryd.prog 90 = some { size := 1, bytes := 24, agg := false, zero := [.sl .full []], fields := [], fok := false, kind := 4, alen := 0, esize := 4, ebytes := 64, eagg := true, ezero := [.int .i64 0, .sl .full [], .int .i64 0, .sl .full []], ik := none } := by kernel_rfl
@[go_sem] theorem ty96 : tyi Tryd.prog 96 = some { size := 4, bytes := 64, agg := true, zero := [.int .i64 0, .sl .full [], .int .i64 0, .sl .full []], fields := [], fok := false, kind := 5, alen := 2, esize := 2, ebytes := 32, eagg := true, ezero := [.int .i64 0, .sl .full []], ik := none } := by kernel_rfl
@[go_sem] theorem ty103 : tyi Tryd.prog 103 = some { size := 14, bytes := 112, agg := true, zero := [.int .i64 0, .int .i64 0, .int .i64 0, .int .i64 0, .int .i64 0, .int .i64 0, .int .i64 0, .int .i64 0, .int .i64 0, .int .i64 0, .int .i64 0, .int .i64 0, .int .i64 0, .int .i64 0], fields := [], fok := false, kind := 5, alen := 14, esize := 1, ebytes := 8, eagg := false, ezero := [.int .i64 0], ik := none } := by kernel_rfl
end Go.Proofs.YteopcebaeojjkaaDoor
