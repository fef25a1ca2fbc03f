/-
  What the walk needs of the types of this translation. Written by program (genbase.py).
-/
import Derived.Test.YteaijonkbbkkjaaGreatDoorAbsB
import Derived.Test.YteaijonkbbkkjaaGreatDoorRows
import Derived.KernelRfl
set_option linter.unusedSimpArgs false
namespace Go.Proofs.YteaijonkbbkkjaaGreatDoor
open Go GoAbs Go.Proofs

theorem follows:Tryz.prog.follows .mixedOrders=true:=by kernel_rfl
theorem en {env:Nat→Option (List V)} {f:FuncId} {fn:Func} {body:Code} {args:List V} {h:H} {v:V} {h':H} (hf:Tryz.prog.funcs[f]? = some fn) (rs:List ResultVar) (hb:fn.body=some body) (m0:fn.results.toList=rs)
    (walk:∀ (g:G) (w:World) (gen:Nat),Rel env g w h→(∀ id,h id≠none→id.gen<gen)→(∀ r i,h ⟨gen,r,i⟩=none)→fn.results.toList=rs→AR ⟨Tryz.prog,env,fn.ntmps,fn,g,w,h,v,h'⟩ gen [.code body] .normal ⟨ag6 args,h⟩)
    (aj4 : (fn.name == "runtime.NumGoroutine") = false := by kernel_rfl) (hok : J9 fn.ntmps body = true := by kernel_rfl) : Ret Tryz.prog env f args h v h' := enter hf rs hb aj4 follows hok m0 walk
/- Walks: the steps as default arguments; wk, ek: a walk that ends; wq: a walk that comes to one more thing to do. -/
theorem wk_ {c:Ctx} {gen:Nat} {k:List It} {e:Exit} {σ:St} (h:AR c gen k e σ:=by
      repeat' (first
        | (refine ⟨?_,?_⟩;focus ((repeat' (first|refine And.intro ?_ ?_|refine Or.inr ?_));all_goals kernel_rfl))
        | exact hin _|exact agf as_
        | (first|refine wp rfl ?_|refine spt rfl ?_|refine spf rfl ?_|(refine spl (fun hc=>?_) fun hc=>?_)<;>(try rw [beq_iff_eq] at hc)<;>try simp only [hc]|(refine gs (fun hb=>?_) fun hb=>?_)<;>try simp only [Bool.not_true,Bool.not_false] at hb|refine cp as_ ?_|(refine ct as_ ?_ ?_;focus ((simp only [go_sem, *]<;>rfl);done))|refine A9 b7 ?_ ?_ ?_)<;>try simp only [go_sem, *])):AR c gen k e σ:=h
theorem wq_ {c:Ctx} {gen:Nat} {k:List It} {e:Exit} {σ:St} {G:Prop} (hh:G) (h:PLift G→AR c gen k e σ:=by
      intro zz
      repeat' (first
        | (refine ⟨?_,?_⟩;focus ((repeat' (first|refine And.intro ?_ ?_|refine Or.inr ?_));all_goals kernel_rfl))
        | exact hin _|exact agf as_
        | (first|refine wp rfl ?_|refine spt rfl ?_|refine spf rfl ?_|(refine spl (fun hc=>?_) fun hc=>?_)<;>(try rw [beq_iff_eq] at hc)<;>try simp only [hc]|(refine gs (fun hb=>?_) fun hb=>?_)<;>try simp only [Bool.not_true,Bool.not_false] at hb|refine cp as_ ?_|(refine ct as_ ?_ ?_;focus ((simp only [go_sem, *]<;>rfl);done))|refine A9 b7 ?_ ?_ ?_|refine u7 ?_)<;>try simp only [go_sem, *])
      exact zz.down):AR c gen k e σ:=h ⟨hh⟩
theorem ek_ {env:Nat→Option (List V)} {f:FuncId} {fn:Func} {body:Code} {args:List V} {h:H} {v:V} {h':H} (hf:Tryz.prog.funcs[f]? = some fn) (rs:List ResultVar) (hb:fn.body=some body:=by rfl) (m0:fn.results.toList=rs:=by rfl)
    (walk:∀ (g0:G) (w0:World) (gen:Nat),Rel env g0 w0 h→(∀ id,h id≠none→id.gen<gen)→(∀ r i,h ⟨gen,r,i⟩=none)→fn.results.toList=rs→AR ⟨Tryz.prog,env,fn.ntmps,fn,g0,w0,h,v,h'⟩ gen [.code body] .normal ⟨ag6 args,h⟩:=by
      intro g0 w0 gen b7 hfr c6 m0
      repeat' (first
        | (refine ⟨?_,?_⟩;focus ((repeat' (first|refine And.intro ?_ ?_|refine Or.inr ?_));all_goals kernel_rfl))
        | exact hin _|exact agf as_
        | (first|refine wp rfl ?_|refine spt rfl ?_|refine spf rfl ?_|(refine spl (fun hc=>?_) fun hc=>?_)<;>(try rw [beq_iff_eq] at hc)<;>try simp only [hc]|(refine gs (fun hb=>?_) fun hb=>?_)<;>try simp only [Bool.not_true,Bool.not_false] at hb|refine cp as_ ?_|(refine ct as_ ?_ ?_;focus ((simp only [go_sem, *]<;>rfl);done))|refine A9 b7 ?_ ?_ ?_)<;>try simp only [go_sem, *]))
    (aj4 : (fn.name == "runtime.NumGoroutine") = false := by kernel_rfl) (hok : J9 fn.ntmps body = true := by kernel_rfl) : Ret Tryz.prog env f args h v h' := enter hf rs hb aj4 follows hok m0 walk
theorem I0 {c:Ctx} {gen:Nat} {k:List It} {e:Exit} {σ:St} (h:AR c gen k e σ:=by
      repeat' (first
        | (refine ⟨?_,?_⟩;focus ((repeat' (first|refine And.intro ?_ ?_|refine Or.inr ?_));all_goals kernel_rfl))
        | exact agb as_
        | (first|refine wp rfl ?_|refine spt rfl ?_|refine spf rfl ?_|(refine spl (fun hc=>?_) fun hc=>?_)<;>(try rw [beq_iff_eq] at hc)<;>try simp only [hc]|(refine gs (fun hb=>?_) fun hb=>?_)<;>try simp only [Bool.not_true,Bool.not_false] at hb|refine cp as_ ?_|(refine ct as_ ?_ ?_;focus ((simp only [go_sem, *]<;>rfl);done))|refine Z4 b7 hd ?_ ?_ ?_ ?_ ?_)<;>try simp only [go_sem, *])):AR c gen k e σ:=h
theorem dc9 {c:Ctx} {gen:Nat} {k:List It} {e:Exit} {σ:St} {G:Prop} (hh:G) (h:PLift G→AR c gen k e σ:=by
      intro zz
      repeat' (first
        | (refine ⟨?_,?_⟩;focus ((repeat' (first|refine And.intro ?_ ?_|refine Or.inr ?_));all_goals kernel_rfl))
        | exact agb as_
        | (first|refine wp rfl ?_|refine spt rfl ?_|refine spf rfl ?_|(refine spl (fun hc=>?_) fun hc=>?_)<;>(try rw [beq_iff_eq] at hc)<;>try simp only [hc]|(refine gs (fun hb=>?_) fun hb=>?_)<;>try simp only [Bool.not_true,Bool.not_false] at hb|refine cp as_ ?_|(refine ct as_ ?_ ?_;focus ((simp only [go_sem, *]<;>rfl);done))|refine Z4 b7 hd ?_ ?_ ?_ ?_ ?_|refine u7 ?_)<;>try simp only [go_sem, *])
      exact zz.down):AR c gen k e σ:=h ⟨hh⟩
theorem dr0 {env:Nat→Option (List V)} {f:FuncId} {fn:Func} {body:Code} {args:List V} {h:H} {v:V} {h':H} (hf:Tryz.prog.funcs[f]? = some fn) (rs:List ResultVar) (hb:fn.body=some body:=by rfl) (m0:fn.results.toList=rs:=by rfl)
    (walk:∀ (g0:G) (w0:World) (gen:Nat),Rel env g0 w0 h→(∀ id,h id≠none→id.gen<gen)→(∀ r i,h ⟨gen,r,i⟩=none)→fn.results.toList=rs→AR ⟨Tryz.prog,env,fn.ntmps,fn,g0,w0,h,v,h'⟩ gen [.code body] .normal ⟨ag6 args,h⟩:=by
      intro g0 w0 gen b7 hfr c6 m0
      repeat' (first
        | (refine ⟨?_,?_⟩;focus ((repeat' (first|refine And.intro ?_ ?_|refine Or.inr ?_));all_goals kernel_rfl))
        | exact agb as_
        | (first|refine wp rfl ?_|refine spt rfl ?_|refine spf rfl ?_|(refine spl (fun hc=>?_) fun hc=>?_)<;>(try rw [beq_iff_eq] at hc)<;>try simp only [hc]|(refine gs (fun hb=>?_) fun hb=>?_)<;>try simp only [Bool.not_true,Bool.not_false] at hb|refine cp as_ ?_|(refine ct as_ ?_ ?_;focus ((simp only [go_sem, *]<;>rfl);done))|refine Z4 b7 hd ?_ ?_ ?_ ?_ ?_)<;>try simp only [go_sem, *]))
    (aj4 : (fn.name == "runtime.NumGoroutine") = false := by kernel_rfl) (hok : J9 fn.ntmps body = true := by kernel_rfl) : Ret Tryz.prog env f args h v h' := enter hf rs hb aj4 follows hok m0 walk
theorem en_ {env:Nat→Option (List V)} {f:FuncId} {fn:Func} {body:Code} {args:List V} {h:H} {v:V} {h':H} (hf:Tryz.prog.funcs[f]? = some fn) (rs:List ResultVar)
    (walk:∀ (g:G) (w:World) (gen:Nat),Rel env g w h→(∀ id,h id≠none→id.gen<gen)→(∀ r i,h ⟨gen,r,i⟩=none)→fn.results.toList=rs→AR ⟨Tryz.prog,env,fn.ntmps,fn,g,w,h,v,h'⟩ gen [.code body] .normal ⟨ag6 args,h⟩)
    (hb : fn.body = some body := by rfl) (m0 : fn.results.toList = rs := by rfl) (aj4 : (fn.name == "runtime.NumGoroutine") = false := by kernel_rfl) (hok : J9 fn.ntmps body = true := by kernel_rfl) : Ret Tryz.prog env f args h v h' := enter hf rs hb aj4 follows hok m0 walk
@[go_sem] theorem ty1:tyi Tryz.prog 1=some { size:=1,bytes:=8,agg:=false,zero:=[.U9],fields:=[],fok:=false,kind:=0,J6:=0,c9:=0,A1:=0,M0:=false,B9:=[],ik:=none,frz:=false }:=by kernel_rfl
@[go_sem] theorem ty2:tyi Tryz.prog 2=some { size:=1,bytes:=8,agg:=false,zero:=[.int .i64 0],fields:=[],fok:=false,kind:=2,J6:=0,c9:=0,A1:=0,M0:=false,B9:=[],ik:=some .i64,frz:=false }:=by kernel_rfl
@[go_sem] theorem ty3:tyi Tryz.prog 3=some { size:=1,bytes:=8,agg:=false,zero:=[.int .i64 0],fields:=[],fok:=false,kind:=2,J6:=0,c9:=0,A1:=0,M0:=false,B9:=[],ik:=some .i64,frz:=false }:=by kernel_rfl
@[go_sem] theorem ty4:tyi Tryz.prog 4=some { size:=1,bytes:=1,agg:=false,zero:=[.bool false],fields:=[],fok:=false,kind:=1,J6:=0,c9:=0,A1:=0,M0:=false,B9:=[],ik:=none,frz:=false }:=by kernel_rfl
@[go_sem] theorem ty5:tyi Tryz.prog 5=some { size:=1,bytes:=1,agg:=false,zero:=[.int .u8 0],fields:=[],fok:=false,kind:=2,J6:=0,c9:=0,A1:=0,M0:=false,B9:=[],ik:=some .u8,frz:=false }:=by kernel_rfl
@[go_sem] theorem ds2:tyi Tryz.prog 22=some { size:=1,bytes:=24,agg:=false,zero:=[.sl .full []],fields:=[],fok:=false,kind:=4,J6:=0,c9:=1,A1:=8,M0:=false,B9:=[.int .i64 0],ik:=none,frz:=false }:=by kernel_rfl
@[go_sem] theorem ds1:tyi Tryz.prog 25=some { size:=1,bytes:=24,agg:=false,zero:=[.sl .full []],fields:=[],fok:=false,kind:=4,J6:=0,c9:=2,A1:=32,M0:=true,B9:=[.int .i64 0,.sl .full []],ik:=none,frz:=false }:=by kernel_rfl
@[go_sem] theorem dr2:tyi Tryz.prog 27=some { size:=2,bytes:=32,agg:=true,zero:=[.int .i64 0,.sl .full []],fields:=[(0,1,false),(1,1,false)],fok:=true,kind:=3,J6:=0,c9:=0,A1:=0,M0:=false,B9:=[],ik:=none,frz:=false }:=by kernel_rfl
@[go_sem] theorem dq8:tyi Tryz.prog 29=some { size:=1,bytes:=8,agg:=false,zero:=[.T9],fields:=[],fok:=false,kind:=7,J6:=0,c9:=0,A1:=0,M0:=false,B9:=[],ik:=none,frz:=false }:=by kernel_rfl
@[go_sem] theorem dk3:tyi Tryz.prog 31=some { size:=1,bytes:=24,agg:=false,zero:=[.sl .full []],fields:=[],fok:=false,kind:=4,J6:=0,c9:=4,A1:=64,M0:=true,B9:=[.int .i64 0,.int .i64 0,.sl .full [],.sl .full []],ik:=none,frz:=false }:=by kernel_rfl
@[go_sem] theorem dr8:tyi Tryz.prog 32=some { size:=1,bytes:=8,agg:=false,zero:=[.int .i64 0],fields:=[],fok:=false,kind:=2,J6:=0,c9:=0,A1:=0,M0:=false,B9:=[],ik:=some .i64,frz:=false }:=by kernel_rfl
@[go_sem] theorem dj1:tyi Tryz.prog 36=some { size:=4,bytes:=64,agg:=true,zero:=[.int .i64 0,.int .i64 0,.sl .full [],.sl .full []],fields:=[(0,1,false),(1,1,false),(2,1,false),(3,1,false)],fok:=true,kind:=3,J6:=0,c9:=0,A1:=0,M0:=false,B9:=[],ik:=none,frz:=false }:=by kernel_rfl
@[go_sem] theorem dr1:tyi Tryz.prog 42=some { size:=1,bytes:=24,agg:=false,zero:=[.sl .full []],fields:=[],fok:=false,kind:=4,J6:=0,c9:=5,A1:=72,M0:=true,B9:=[.int .i64 0,.int .i64 0,.int .i64 0,.sl .full [],.sl .full []],ik:=none,frz:=false }:=by kernel_rfl
@[go_sem] theorem ds5:tyi Tryz.prog 43=some { size:=1,bytes:=24,agg:=false,zero:=[.sl .full []],fields:=[],fok:=false,kind:=4,J6:=0,c9:=5,A1:=88,M0:=true,B9:=[.int .i64 0,.int .i64 0,.sl .full [],.sl .full [],.sl .full []],ik:=none,frz:=false }:=by kernel_rfl
@[go_sem] theorem ds0:tyi Tryz.prog 45=some { size:=5,bytes:=88,agg:=true,zero:=[.int .i64 0,.int .i64 0,.sl .full [],.sl .full [],.sl .full []],fields:=[(0,1,false),(1,2,true),(3,1,false),(4,1,false)],fok:=true,kind:=3,J6:=0,c9:=0,A1:=0,M0:=false,B9:=[],ik:=none,frz:=false }:=by kernel_rfl
@[go_sem] theorem ds6:tyi Tryz.prog 65=some { size:=5,bytes:=72,agg:=true,zero:=[.int .i64 0,.int .i64 0,.int .i64 0,.sl .full [],.sl .full []],fields:=[(0,1,false),(1,1,false),(2,2,true),(4,1,false)],fok:=true,kind:=3,J6:=0,c9:=0,A1:=0,M0:=false,B9:=[],ik:=none,frz:=false }:=by kernel_rfl
@[go_sem] theorem ds7:tyi Tryz.prog 69=some { size:=2,bytes:=32,agg:=true,zero:=[.sl .full [],.int .i64 0],fields:=[(0,1,false),(1,1,false)],fok:=true,kind:=3,J6:=0,c9:=0,A1:=0,M0:=false,B9:=[],ik:=none,frz:=false }:=by kernel_rfl
@[go_sem] theorem dr5:tyi Tryz.prog 81=some { size:=6,bytes:=112,agg:=true,zero:=[.sl .full [],.int .i64 0,.int .i64 0,.sl .full [],.sl .full [],.sl .full []],fields:=[(0,1,false),(1,5,true)],fok:=true,kind:=3,J6:=0,c9:=0,A1:=0,M0:=false,B9:=[],ik:=none,frz:=false }:=by kernel_rfl
@[go_sem] theorem ds4:tyi Tryz.prog 84=some { size:=1,bytes:=8,agg:=false,zero:=[.U9],fields:=[],fok:=false,kind:=0,J6:=0,c9:=0,A1:=0,M0:=false,B9:=[],ik:=none,frz:=false }:=by kernel_rfl
@[go_sem] theorem dp7:tyi Tryz.prog 105=some { size:=1,bytes:=8,agg:=false,zero:=[.U9],fields:=[],fok:=false,kind:=0,J6:=0,c9:=0,A1:=0,M0:=false,B9:=[],ik:=none,frz:=false }:=by kernel_rfl
@[go_sem] theorem do8:tyi Tryz.prog 114=some { size:=1,bytes:=8,agg:=false,zero:=[.U9],fields:=[],fok:=false,kind:=0,J6:=0,c9:=0,A1:=0,M0:=false,B9:=[],ik:=none,frz:=false }:=by kernel_rfl
@[go_sem] theorem dq2:tyi Tryz.prog 121=some { size:=1,bytes:=24,agg:=false,zero:=[.sl .full []],fields:=[],fok:=false,kind:=4,J6:=0,c9:=3,A1:=40,M0:=true,B9:=[.int .i64 0,.sl .full [],.int .i64 0],ik:=none,frz:=false }:=by kernel_rfl
@[go_sem] theorem dq5:tyi Tryz.prog 125=some { size:=1,bytes:=1,agg:=false,zero:=[.int .u8 0],fields:=[],fok:=false,kind:=2,J6:=0,c9:=0,A1:=0,M0:=false,B9:=[],ik:=some .u8,frz:=false }:=by kernel_rfl
@[go_sem] theorem dn4:tyi Tryz.prog 157=some { size:=1,bytes:=8,agg:=false,zero:=[.T9],fields:=[],fok:=false,kind:=7,J6:=0,c9:=0,A1:=0,M0:=false,B9:=[],ik:=none,frz:=false }:=by kernel_rfl
@[go_sem] theorem dn2:tyi Tryz.prog 159=some { size:=3,bytes:=24,agg:=true,zero:=[.int .i64 0,.int .i64 0,.int .i64 0],fields:=[(0,1,false),(1,1,false),(2,1,false)],fok:=true,kind:=3,J6:=0,c9:=0,A1:=0,M0:=false,B9:=[],ik:=none,frz:=false }:=by kernel_rfl
@[go_sem] theorem dp0:tyi Tryz.prog 166=some { size:=3,bytes:=40,agg:=true,zero:=[.int .i64 0,.sl .full [],.int .i64 0],fields:=[(0,2,true),(2,1,false)],fok:=true,kind:=3,J6:=0,c9:=0,A1:=0,M0:=false,B9:=[],ik:=none,frz:=false }:=by kernel_rfl
@[go_sem] theorem dp1:tyi Tryz.prog 170=some { size:=1,bytes:=8,agg:=false,zero:=[.U9],fields:=[],fok:=false,kind:=0,J6:=0,c9:=0,A1:=0,M0:=false,B9:=[],ik:=none,frz:=false }:=by kernel_rfl
@[go_sem] theorem dp9:tyi Tryz.prog 187=some { size:=1,bytes:=8,agg:=false,zero:=[.U9],fields:=[],fok:=false,kind:=0,J6:=0,c9:=0,A1:=0,M0:=false,B9:=[],ik:=none,frz:=false }:=by kernel_rfl
@[go_sem] theorem do9:tyi Tryz.prog 189=some { size:=1,bytes:=8,agg:=false,zero:=[.U9],fields:=[],fok:=false,kind:=0,J6:=0,c9:=0,A1:=0,M0:=false,B9:=[],ik:=none,frz:=false }:=by kernel_rfl
@[go_sem] theorem dp4:tyi Tryz.prog 192=some { size:=10,bytes:=144,agg:=true,zero:=[.int .i64 0,.int .i64 0,.int .i64 0,.sl .full [],.sl .full [],.int .i64 0,.int .i64 0,.int .i64 0,.sl .full [],.sl .full []],fields:=[(0,5,true),(5,5,true)],fok:=true,kind:=3,J6:=0,c9:=0,A1:=0,M0:=false,B9:=[],ik:=none,frz:=false }:=by kernel_rfl
@[go_sem] theorem dn5:tyi Tryz.prog 194=some { size:=10,bytes:=176,agg:=true,zero:=[.int .i64 0,.int .i64 0,.sl .full [],.sl .full [],.sl .full [],.int .i64 0,.int .i64 0,.sl .full [],.sl .full [],.sl .full []],fields:=[(0,5,true),(5,5,true)],fok:=true,kind:=3,J6:=0,c9:=0,A1:=0,M0:=false,B9:=[],ik:=none,frz:=false }:=by kernel_rfl
@[go_sem] theorem do0:tyi Tryz.prog 196=some { size:=10,bytes:=176,agg:=true,zero:=[.int .i64 0,.int .i64 0,.sl .full [],.sl .full [],.sl .full [],.int .i64 0,.int .i64 0,.sl .full [],.sl .full [],.sl .full []],fields:=[(0,5,true),(5,5,true)],fok:=true,kind:=3,J6:=0,c9:=0,A1:=0,M0:=false,B9:=[],ik:=none,frz:=false }:=by kernel_rfl
@[go_sem] theorem do1:tyi Tryz.prog 198=some { size:=11,bytes:=168,agg:=true,zero:=[.bool false,.int .i64 0,.int .i64 0,.int .i64 0,.sl .full [],.sl .full [],.int .i64 0,.int .i64 0,.sl .full [],.sl .full [],.sl .full []],fields:=[(0,1,false),(1,5,true),(6,5,true)],fok:=true,kind:=3,J6:=0,c9:=0,A1:=0,M0:=false,B9:=[],ik:=none,frz:=false }:=by kernel_rfl
@[go_sem] theorem do4:tyi Tryz.prog 218=some { size:=1,bytes:=8,agg:=false,zero:=[.U9],fields:=[],fok:=false,kind:=0,J6:=0,c9:=0,A1:=0,M0:=false,B9:=[],ik:=none,frz:=false }:=by kernel_rfl
@[go_sem] theorem do2:tyi Tryz.prog 220=some { size:=9,bytes:=120,agg:=true,zero:=[.int .i64 0,.sl .full [],.int .i64 0,.int .i64 0,.sl .full [],.int .i64 0,.int .i64 0,.sl .full [],.int .i64 0],fields:=[],fok:=false,kind:=5,J6:=3,c9:=3,A1:=40,M0:=true,B9:=[.int .i64 0,.sl .full [],.int .i64 0],ik:=none,frz:=false }:=by kernel_rfl
@[go_sem] theorem dp5:tyi Tryz.prog 222=some { size:=1,bytes:=8,agg:=false,zero:=[.T9],fields:=[],fok:=false,kind:=7,J6:=0,c9:=0,A1:=0,M0:=false,B9:=[],ik:=none,frz:=false }:=by kernel_rfl
@[go_sem] theorem dp3:tyi Tryz.prog 224=some { size:=3,bytes:=24,agg:=true,zero:=[.int .i64 0,.int .i64 0,.bool false],fields:=[(0,1,false),(1,1,false),(2,1,false)],fok:=true,kind:=3,J6:=0,c9:=0,A1:=0,M0:=false,B9:=[],ik:=none,frz:=false }:=by kernel_rfl
@[go_sem] theorem dm8:tyi Tryz.prog 225=some { size:=1,bytes:=24,agg:=false,zero:=[.sl .full []],fields:=[],fok:=false,kind:=4,J6:=0,c9:=9,A1:=152,M0:=true,B9:=[.int .i64 0,.sl .full [],.sl .full [],.int .i64 0,.int .i64 0,.int .i64 0,.sl .full [],.sl .full [],.sl .full []],ik:=none,frz:=false }:=by kernel_rfl
@[go_sem] theorem dm7:tyi Tryz.prog 227=some { size:=9,bytes:=152,agg:=true,zero:=[.int .i64 0,.sl .full [],.sl .full [],.int .i64 0,.int .i64 0,.int .i64 0,.sl .full [],.sl .full [],.sl .full []],fields:=[(0,1,false),(1,1,false),(2,1,false),(3,5,true),(8,1,false)],fok:=true,kind:=3,J6:=0,c9:=0,A1:=0,M0:=false,B9:=[],ik:=none,frz:=false }:=by kernel_rfl
@[go_sem] theorem dn6:tyi Tryz.prog 232=some { size:=14,bytes:=112,agg:=true,zero:=[.int .i64 0,.int .i64 0,.int .i64 0,.int .i64 0,.int .i64 0,.int .i64 0,.int .i64 0,.int .i64 0,.int .i64 0,.int .i64 0,.int .i64 0,.int .i64 0,.int .i64 0,.int .i64 0],fields:=[],fok:=false,kind:=5,J6:=14,c9:=1,A1:=8,M0:=false,B9:=[.int .i64 0],ik:=none,frz:=false }:=by kernel_rfl
@[go_sem] theorem dq3:tyi Tryz.prog 257=some { size:=1,bytes:=24,agg:=false,zero:=[.sl .full []],fields:=[],fok:=false,kind:=4,J6:=0,c9:=1,A1:=16,M0:=false,B9:=[.E7],ik:=none,frz:=false }:=by kernel_rfl
@[go_sem] theorem dq4:tyi Tryz.prog 258=some { size:=1,bytes:=16,agg:=false,zero:=[.E7],fields:=[],fok:=false,kind:=8,J6:=0,c9:=0,A1:=0,M0:=false,B9:=[],ik:=none,frz:=false }:=by kernel_rfl
@[go_sem] theorem dm6:tyi Tryz.prog 260=some { size:=1,bytes:=8,agg:=false,zero:=[.T9],fields:=[],fok:=false,kind:=7,J6:=0,c9:=0,A1:=0,M0:=false,B9:=[],ik:=none,frz:=false }:=by kernel_rfl
@[go_sem] theorem dn9:tyi Tryz.prog 262=some { size:=2,bytes:=16,agg:=true,zero:=[.int .i64 0,.int .i64 0],fields:=[(0,1,false),(1,1,false)],fok:=true,kind:=3,J6:=0,c9:=0,A1:=0,M0:=false,B9:=[],ik:=none,frz:=false }:=by kernel_rfl
@[go_sem] theorem dn7:tyi Tryz.prog 267=some { size:=1,bytes:=8,agg:=false,zero:=[.T9],fields:=[],fok:=false,kind:=7,J6:=0,c9:=0,A1:=0,M0:=false,B9:=[],ik:=none,frz:=false }:=by kernel_rfl
@[go_sem] theorem do7:tyi Tryz.prog 269=some { size:=2,bytes:=16,agg:=true,zero:=[.int .i64 0,.T9],fields:=[(0,1,false),(1,1,false)],fok:=true,kind:=3,J6:=0,c9:=0,A1:=0,M0:=false,B9:=[],ik:=none,frz:=true }:=by kernel_rfl
@[go_sem] theorem dp6:tyi Tryz.prog 270=some { size:=1,bytes:=8,agg:=false,zero:=[.T9],fields:=[],fok:=false,kind:=7,J6:=0,c9:=0,A1:=0,M0:=false,B9:=[],ik:=none,frz:=false }:=by kernel_rfl
@[go_sem] theorem dq6:tyi Tryz.prog 272=some { size:=2,bytes:=32,agg:=true,zero:=[.E7,.E7],fields:=[(0,1,false),(1,1,false)],fok:=true,kind:=3,J6:=0,c9:=0,A1:=0,M0:=false,B9:=[],ik:=none,frz:=true }:=by kernel_rfl
@[go_sem] theorem dn3:tyi Tryz.prog 274=some { size:=0,bytes:=0,agg:=true,zero:=[],fields:=[],fok:=true,kind:=3,J6:=0,c9:=0,A1:=0,M0:=false,B9:=[],ik:=none,frz:=false }:=by kernel_rfl
@[go_sem] theorem dn8:tyi Tryz.prog 275=some { size:=1,bytes:=8,agg:=false,zero:=[.T9],fields:=[],fok:=false,kind:=7,J6:=0,c9:=0,A1:=0,M0:=false,B9:=[],ik:=none,frz:=false }:=by kernel_rfl
@[go_sem] theorem dm5:tyi Tryz.prog 277=some { size:=1,bytes:=8,agg:=false,zero:=[.T9],fields:=[],fok:=false,kind:=7,J6:=0,c9:=0,A1:=0,M0:=false,B9:=[],ik:=none,frz:=false }:=by kernel_rfl
@[go_sem] theorem dm9:tyi Tryz.prog 279=some { size:=6,bytes:=80,agg:=true,zero:=[.int .i64 0,.int .i64 0,.int .i64 0,.sl .full [],.sl .full [],.T9],fields:=[(0,5,true),(5,1,false)],fok:=true,kind:=3,J6:=0,c9:=0,A1:=0,M0:=false,B9:=[],ik:=none,frz:=true }:=by kernel_rfl
@[go_sem] theorem dq1:tyi Tryz.prog 280=some { size:=3,bytes:=48,agg:=true,zero:=[.E7,.E7,.E7],fields:=[],fok:=false,kind:=5,J6:=3,c9:=1,A1:=16,M0:=false,B9:=[.E7],ik:=none,frz:=false }:=by kernel_rfl
@[go_sem] theorem do3:tyi Tryz.prog 285=some { size:=2,bytes:=24,agg:=true,zero:=[.E7,.T9],fields:=[(0,1,false),(1,1,false)],fok:=true,kind:=3,J6:=0,c9:=0,A1:=0,M0:=false,B9:=[],ik:=none,frz:=true }:=by kernel_rfl
@[go_sem] theorem dq0:tyi Tryz.prog 286=some { size:=1,bytes:=24,agg:=false,zero:=[.sl .full []],fields:=[],fok:=false,kind:=4,J6:=0,c9:=1,A1:=8,M0:=false,B9:=[.T9],ik:=none,frz:=false }:=by kernel_rfl
end Go.Proofs.YteaijonkbbkkjaaGreatDoor
