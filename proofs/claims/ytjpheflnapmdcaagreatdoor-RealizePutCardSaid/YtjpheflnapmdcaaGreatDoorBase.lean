/-
  What the walk needs of the types of this translation. Written by program (genbase.py).
-/
import Derived.Test.YtjpheflnapmdcaaGreatDoorAbsB
import Derived.Test.YtjpheflnapmdcaaGreatDoorRows
import Derived.KernelRfl
set_option linter.unusedSimpArgs false
namespace Go.Proofs.YtjpheflnapmdcaaGreatDoor
open Go GoAbs Go.Proofs

theorem follows : Tryz.prog.follows .mixedOrders = true := by kernel_rfl
theorem en {env : Nat → Option (List V)} {f : FuncId} {fn : Func} {body : Code} {args : List V} {h : H} {v : V} {h' : H} (hf : Tryz.prog.funcs[f]? = some fn) (rs : List ResultVar) (hb : fn.body = some body) (hres : fn.results.toList = rs)
    (walk : ∀ (g : G) (w : World) (gen : Nat), Rel env g w h → (∀ id, h id ≠ none → id.gen < gen) → (∀ r i, h ⟨gen, r, i⟩ = none) → fn.results.toList = rs → AR ⟨Tryz.prog, env, fn.ntmps, fn, g, w, h, v, h'⟩ gen [.code body] .normal ⟨argTm args, h⟩)
    (hname : (fn.name == "runtime.NumGoroutine") = false := by kernel_rfl) (hok : okCode fn.ntmps body = true := by kernel_rfl) : Ret Tryz.prog env f args h v h' := enter hf rs hb hname follows hok hres walk
@[go_sem] theorem ty1 : tyi Tryz.prog 1 = some { size := 1, bytes := 8, agg := false, zero := [.nilf], fields := [], fok := false, kind := 0, alen := 0, esize := 0, ebytes := 0, eagg := false, ezero := [], ik := none } := by kernel_rfl
@[go_sem] theorem ty2 : tyi Tryz.prog 2 = some { size := 1, bytes := 8, agg := false, zero := [.int .i64 0], fields := [], fok := false, kind := 2, alen := 0, esize := 0, ebytes := 0, eagg := false, ezero := [], ik := some .i64 } := by kernel_rfl
@[go_sem] theorem ty3 : tyi Tryz.prog 3 = some { size := 1, bytes := 8, agg := false, zero := [.int .i64 0], fields := [], fok := false, kind := 2, alen := 0, esize := 0, ebytes := 0, eagg := false, ezero := [], ik := some .i64 } := by kernel_rfl
@[go_sem] theorem ty4 : tyi Tryz.prog 4 = some { size := 1, bytes := 1, agg := false, zero := [.bool false], fields := [], fok := false, kind := 1, alen := 0, esize := 0, ebytes := 0, eagg := false, ezero := [], ik := none } := by kernel_rfl
@[go_sem] theorem ty22 : tyi Tryz.prog 22 = some { size := 1, bytes := 24, agg := false, zero := [.sl .full []], fields := [], fok := false, kind := 4, alen := 0, esize := 1, ebytes := 8, eagg := false, ezero := [.int .i64 0], ik := none } := by kernel_rfl
@[go_sem] theorem ty23 : tyi Tryz.prog 23 = some { size := 1, bytes := 24, agg := false, zero := [.sl .full []], fields := [], fok := false, kind := 4, alen := 0, esize := 2, ebytes := 32, eagg := true, ezero := [.int .i64 0, .sl .full []], ik := none } := by kernel_rfl
@[go_sem] theorem ty25 : tyi Tryz.prog 25 = some { size := 2, bytes := 32, agg := true, zero := [.int .i64 0, .sl .full []], fields := [(0, 1, false), (1, 1, false)], fok := true, kind := 3, alen := 0, esize := 0, ebytes := 0, eagg := false, ezero := [], ik := none } := by kernel_rfl
@[go_sem] theorem ty26 : tyi Tryz.prog 26 = some { size := 1, bytes := 24, agg := false, zero := [.sl .full []], fields := [], fok := false, kind := 4, alen := 0, esize := 5, ebytes := 72, eagg := true, ezero := [.int .i64 0, .int .i64 0, .int .i64 0, .sl .full [], .sl .full []], ik := none } := by kernel_rfl
@[go_sem] theorem ty27 : tyi Tryz.prog 27 = some { size := 1, bytes := 24, agg := false, zero := [.sl .full []], fields := [], fok := false, kind := 4, alen := 0, esize := 5, ebytes := 88, eagg := true, ezero := [.int .i64 0, .int .i64 0, .sl .full [], .sl .full [], .sl .full []], ik := none } := by kernel_rfl
@[go_sem] theorem ty29 : tyi Tryz.prog 29 = some { size := 5, bytes := 88, agg := true, zero := [.int .i64 0, .int .i64 0, .sl .full [], .sl .full [], .sl .full []], fields := [(0, 1, false), (1, 2, true), (3, 1, false), (4, 1, false)], fok := true, kind := 3, alen := 0, esize := 0, ebytes := 0, eagg := false, ezero := [], ik := none } := by kernel_rfl
@[go_sem] theorem ty31 : tyi Tryz.prog 31 = some { size := 5, bytes := 72, agg := true, zero := [.int .i64 0, .int .i64 0, .int .i64 0, .sl .full [], .sl .full []], fields := [(0, 1, false), (1, 1, false), (2, 2, true), (4, 1, false)], fok := true, kind := 3, alen := 0, esize := 0, ebytes := 0, eagg := false, ezero := [], ik := none } := by kernel_rfl
@[go_sem] theorem ty40 : tyi Tryz.prog 40 = some { size := 1, bytes := 8, agg := false, zero := [.nilp], fields := [], fok := false, kind := 7, alen := 0, esize := 0, ebytes := 0, eagg := false, ezero := [], ik := none } := by kernel_rfl
@[go_sem] theorem ty44 : tyi Tryz.prog 44 = some { size := 1, bytes := 8, agg := false, zero := [.int .i64 0], fields := [], fok := false, kind := 2, alen := 0, esize := 0, ebytes := 0, eagg := false, ezero := [], ik := some .i64 } := by kernel_rfl
@[go_sem] theorem ty97 : tyi Tryz.prog 97 = some { size := 2, bytes := 32, agg := true, zero := [.sl .full [], .int .i64 0], fields := [(0, 1, false), (1, 1, false)], fok := true, kind := 3, alen := 0, esize := 0, ebytes := 0, eagg := false, ezero := [], ik := none } := by kernel_rfl
@[go_sem] theorem ty130 : tyi Tryz.prog 130 = some { size := 1, bytes := 1, agg := false, zero := [.int .u8 0], fields := [], fok := false, kind := 2, alen := 0, esize := 0, ebytes := 0, eagg := false, ezero := [], ik := some .u8 } := by kernel_rfl
@[go_sem] theorem ty142 : tyi Tryz.prog 142 = some { size := 2, bytes := 48, agg := true, zero := [.sl .full [], .sl .full []], fields := [(0, 1, false), (1, 1, false)], fok := true, kind := 3, alen := 0, esize := 0, ebytes := 0, eagg := false, ezero := [], ik := none } := by kernel_rfl
@[go_sem] theorem ty148 : tyi Tryz.prog 148 = some { size := 1, bytes := 8, agg := false, zero := [.nilf], fields := [], fok := false, kind := 0, alen := 0, esize := 0, ebytes := 0, eagg := false, ezero := [], ik := none } := by kernel_rfl
@[go_sem] theorem ty195 : tyi Tryz.prog 195 = some { size := 1, bytes := 8, agg := false, zero := [.nilf], fields := [], fok := false, kind := 0, alen := 0, esize := 0, ebytes := 0, eagg := false, ezero := [], ik := none } := by kernel_rfl
@[go_sem] theorem ty196 : tyi Tryz.prog 196 = some { size := 1, bytes := 8, agg := false, zero := [.nilf], fields := [], fok := false, kind := 0, alen := 0, esize := 0, ebytes := 0, eagg := false, ezero := [], ik := none } := by kernel_rfl
@[go_sem] theorem ty207 : tyi Tryz.prog 207 = some { size := 1, bytes := 8, agg := false, zero := [.nilf], fields := [], fok := false, kind := 0, alen := 0, esize := 0, ebytes := 0, eagg := false, ezero := [], ik := none } := by kernel_rfl
@[go_sem] theorem ty212 : tyi Tryz.prog 212 = some { size := 14, bytes := 112, agg := true, zero := [.int .i64 0, .int .i64 0, .int .i64 0, .int .i64 0, .int .i64 0, .int .i64 0, .int .i64 0, .int .i64 0, .int .i64 0, .int .i64 0, .int .i64 0, .int .i64 0, .int .i64 0, .int .i64 0], fields := [], fok := false, kind := 5, alen := 14, esize := 1, ebytes := 8, eagg := false, ezero := [.int .i64 0], ik := none } := by kernel_rfl
end Go.Proofs.YtjpheflnapmdcaaGreatDoor
