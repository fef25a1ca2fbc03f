/-
  What the walk needs of the types of this translation. Written by program (genbase.py).
-/
import Derived.Test.YteaijonkbbkkjaaGreatDoorAbsB
import Derived.Test.YteaijonkbbkkjaaGreatDoorRows
import Derived.KernelRfl
set_option linter.unusedSimpArgs false
namespace Go.Proofs.YteaijonkbbkkjaaGreatDoor
open Go GoAbs Go.Proofs

theorem follows:Tryz.prog.follows .mixedOrders=true:=by kernel_rfl
theorem en {env:Nat→Option (List V)} {f:FuncId} {fn:Func} {body:Code} {args:List V} {h:H} {v:V} {h':H} (hf:Tryz.prog.funcs[f]? = some fn) (rs:List ResultVar) (hb:fn.body=some body) (hres:fn.results.toList=rs)
    (walk:∀ (g:G) (w:World) (gen:Nat),Rel env g w h→(∀ id,h id≠none→id.gen<gen)→(∀ r i,h ⟨gen,r,i⟩=none)→fn.results.toList=rs→AR ⟨Tryz.prog,env,fn.ntmps,fn,g,w,h,v,h'⟩ gen [.code body] .normal ⟨argTm args,h⟩)
    (hname : (fn.name == "runtime.NumGoroutine") = false := by kernel_rfl) (hok : okCode fn.ntmps body = true := by kernel_rfl) : Ret Tryz.prog env f args h v h' := enter hf rs hb hname follows hok hres walk
/- Walks: the steps as default arguments; wk, ek: a walk that ends; wq: a walk that comes to one more thing to do. -/
theorem wk_ {c:Ctx} {gen:Nat} {k:List It} {e:Exit} {σ:St} (h:AR c gen k e σ:=by
      repeat' (first
        | (refine ⟨?_,?_⟩;focus ((repeat' (first|refine And.intro ?_ ?_|refine Or.inr ?_));all_goals kernel_rfl))
        | exact hin _|exact agf (by assumption)
        | (first|refine wp rfl ?_|refine spt rfl ?_|refine spf rfl ?_|(refine spl (fun hc=>?_) fun hc=>?_)<;>(try rw [beq_iff_eq] at hc)<;>try simp only [hc]|(refine gs (fun hb=>?_) fun hb=>?_)<;>try simp only [Bool.not_true,Bool.not_false] at hb|refine cp (by assumption) ?_|(refine ct (by assumption) ?_ ?_;focus ((simp only [go_sem, *]<;>rfl);done))|refine finF hrel ?_ ?_ ?_)<;>try simp only [go_sem, *])):AR c gen k e σ:=h
theorem wq_ {c:Ctx} {gen:Nat} {k:List It} {e:Exit} {σ:St} {G:Prop} (hh:G) (h:PLift G→AR c gen k e σ:=by
      intro zz
      repeat' (first
        | (refine ⟨?_,?_⟩;focus ((repeat' (first|refine And.intro ?_ ?_|refine Or.inr ?_));all_goals kernel_rfl))
        | exact hin _|exact agf (by assumption)
        | (first|refine wp rfl ?_|refine spt rfl ?_|refine spf rfl ?_|(refine spl (fun hc=>?_) fun hc=>?_)<;>(try rw [beq_iff_eq] at hc)<;>try simp only [hc]|(refine gs (fun hb=>?_) fun hb=>?_)<;>try simp only [Bool.not_true,Bool.not_false] at hb|refine cp (by assumption) ?_|(refine ct (by assumption) ?_ ?_;focus ((simp only [go_sem, *]<;>rfl);done))|refine finF hrel ?_ ?_ ?_|refine AR_inv ?_)<;>try simp only [go_sem, *])
      exact zz.down):AR c gen k e σ:=h ⟨hh⟩
theorem ek_ {env:Nat→Option (List V)} {f:FuncId} {fn:Func} {body:Code} {args:List V} {h:H} {v:V} {h':H} (hf:Tryz.prog.funcs[f]? = some fn) (rs:List ResultVar) (hb:fn.body=some body:=by rfl) (hres:fn.results.toList=rs:=by rfl)
    (walk:∀ (g0:G) (w0:World) (gen:Nat),Rel env g0 w0 h→(∀ id,h id≠none→id.gen<gen)→(∀ r i,h ⟨gen,r,i⟩=none)→fn.results.toList=rs→AR ⟨Tryz.prog,env,fn.ntmps,fn,g0,w0,h,v,h'⟩ gen [.code body] .normal ⟨argTm args,h⟩:=by
      intro g0 w0 gen hrel hfr hfr' hres
      repeat' (first
        | (refine ⟨?_,?_⟩;focus ((repeat' (first|refine And.intro ?_ ?_|refine Or.inr ?_));all_goals kernel_rfl))
        | exact hin _|exact agf (by assumption)
        | (first|refine wp rfl ?_|refine spt rfl ?_|refine spf rfl ?_|(refine spl (fun hc=>?_) fun hc=>?_)<;>(try rw [beq_iff_eq] at hc)<;>try simp only [hc]|(refine gs (fun hb=>?_) fun hb=>?_)<;>try simp only [Bool.not_true,Bool.not_false] at hb|refine cp (by assumption) ?_|(refine ct (by assumption) ?_ ?_;focus ((simp only [go_sem, *]<;>rfl);done))|refine finF hrel ?_ ?_ ?_)<;>try simp only [go_sem, *]))
    (hname : (fn.name == "runtime.NumGoroutine") = false := by kernel_rfl) (hok : okCode fn.ntmps body = true := by kernel_rfl) : Ret Tryz.prog env f args h v h' := enter hf rs hb hname follows hok hres walk
theorem wkT_ {c:Ctx} {gen:Nat} {k:List It} {e:Exit} {σ:St} (h:AR c gen k e σ:=by
      repeat' (first
        | (refine ⟨?_,?_⟩;focus ((repeat' (first|refine And.intro ?_ ?_|refine Or.inr ?_));all_goals kernel_rfl))
        | exact agb (by assumption)
        | (first|refine wp rfl ?_|refine spt rfl ?_|refine spf rfl ?_|(refine spl (fun hc=>?_) fun hc=>?_)<;>(try rw [beq_iff_eq] at hc)<;>try simp only [hc]|(refine gs (fun hb=>?_) fun hb=>?_)<;>try simp only [Bool.not_true,Bool.not_false] at hb|refine cp (by assumption) ?_|(refine ct (by assumption) ?_ ?_;focus ((simp only [go_sem, *]<;>rfl);done))|refine finT hrel hd ?_ ?_ ?_ ?_ ?_)<;>try simp only [go_sem, *])):AR c gen k e σ:=h
theorem wqT_ {c:Ctx} {gen:Nat} {k:List It} {e:Exit} {σ:St} {G:Prop} (hh:G) (h:PLift G→AR c gen k e σ:=by
      intro zz
      repeat' (first
        | (refine ⟨?_,?_⟩;focus ((repeat' (first|refine And.intro ?_ ?_|refine Or.inr ?_));all_goals kernel_rfl))
        | exact agb (by assumption)
        | (first|refine wp rfl ?_|refine spt rfl ?_|refine spf rfl ?_|(refine spl (fun hc=>?_) fun hc=>?_)<;>(try rw [beq_iff_eq] at hc)<;>try simp only [hc]|(refine gs (fun hb=>?_) fun hb=>?_)<;>try simp only [Bool.not_true,Bool.not_false] at hb|refine cp (by assumption) ?_|(refine ct (by assumption) ?_ ?_;focus ((simp only [go_sem, *]<;>rfl);done))|refine finT hrel hd ?_ ?_ ?_ ?_ ?_|refine AR_inv ?_)<;>try simp only [go_sem, *])
      exact zz.down):AR c gen k e σ:=h ⟨hh⟩
theorem ekT_ {env:Nat→Option (List V)} {f:FuncId} {fn:Func} {body:Code} {args:List V} {h:H} {v:V} {h':H} (hf:Tryz.prog.funcs[f]? = some fn) (rs:List ResultVar) (hb:fn.body=some body:=by rfl) (hres:fn.results.toList=rs:=by rfl)
    (walk:∀ (g0:G) (w0:World) (gen:Nat),Rel env g0 w0 h→(∀ id,h id≠none→id.gen<gen)→(∀ r i,h ⟨gen,r,i⟩=none)→fn.results.toList=rs→AR ⟨Tryz.prog,env,fn.ntmps,fn,g0,w0,h,v,h'⟩ gen [.code body] .normal ⟨argTm args,h⟩:=by
      intro g0 w0 gen hrel hfr hfr' hres
      repeat' (first
        | (refine ⟨?_,?_⟩;focus ((repeat' (first|refine And.intro ?_ ?_|refine Or.inr ?_));all_goals kernel_rfl))
        | exact agb (by assumption)
        | (first|refine wp rfl ?_|refine spt rfl ?_|refine spf rfl ?_|(refine spl (fun hc=>?_) fun hc=>?_)<;>(try rw [beq_iff_eq] at hc)<;>try simp only [hc]|(refine gs (fun hb=>?_) fun hb=>?_)<;>try simp only [Bool.not_true,Bool.not_false] at hb|refine cp (by assumption) ?_|(refine ct (by assumption) ?_ ?_;focus ((simp only [go_sem, *]<;>rfl);done))|refine finT hrel hd ?_ ?_ ?_ ?_ ?_)<;>try simp only [go_sem, *]))
    (hname : (fn.name == "runtime.NumGoroutine") = false := by kernel_rfl) (hok : okCode fn.ntmps body = true := by kernel_rfl) : Ret Tryz.prog env f args h v h' := enter hf rs hb hname follows hok hres walk
theorem en_ {env:Nat→Option (List V)} {f:FuncId} {fn:Func} {body:Code} {args:List V} {h:H} {v:V} {h':H} (hf:Tryz.prog.funcs[f]? = some fn) (rs:List ResultVar)
    (walk:∀ (g:G) (w:World) (gen:Nat),Rel env g w h→(∀ id,h id≠none→id.gen<gen)→(∀ r i,h ⟨gen,r,i⟩=none)→fn.results.toList=rs→AR ⟨Tryz.prog,env,fn.ntmps,fn,g,w,h,v,h'⟩ gen [.code body] .normal ⟨argTm args,h⟩)
    (hb : fn.body = some body := by rfl) (hres : fn.results.toList = rs := by rfl) (hname : (fn.name == "runtime.NumGoroutine") = false := by kernel_rfl) (hok : okCode fn.ntmps body = true := by kernel_rfl) : Ret Tryz.prog env f args h v h' := enter hf rs hb hname follows hok hres walk
@[go_sem] theorem ty1:tyi Tryz.prog 1=some { size:=1,bytes:=8,agg:=false,zero:=[.nilf],fields:=[],fok:=false,kind:=0,alen:=0,esize:=0,ebytes:=0,eagg:=false,ezero:=[],ik:=none,frz:=false }:=by kernel_rfl
@[go_sem] theorem ty2:tyi Tryz.prog 2=some { size:=1,bytes:=8,agg:=false,zero:=[.int .i64 0],fields:=[],fok:=false,kind:=2,alen:=0,esize:=0,ebytes:=0,eagg:=false,ezero:=[],ik:=some .i64,frz:=false }:=by kernel_rfl
@[go_sem] theorem ty3:tyi Tryz.prog 3=some { size:=1,bytes:=8,agg:=false,zero:=[.int .i64 0],fields:=[],fok:=false,kind:=2,alen:=0,esize:=0,ebytes:=0,eagg:=false,ezero:=[],ik:=some .i64,frz:=false }:=by kernel_rfl
@[go_sem] theorem ty4:tyi Tryz.prog 4=some { size:=1,bytes:=1,agg:=false,zero:=[.bool false],fields:=[],fok:=false,kind:=1,alen:=0,esize:=0,ebytes:=0,eagg:=false,ezero:=[],ik:=none,frz:=false }:=by kernel_rfl
@[go_sem] theorem ty5:tyi Tryz.prog 5=some { size:=1,bytes:=1,agg:=false,zero:=[.int .u8 0],fields:=[],fok:=false,kind:=2,alen:=0,esize:=0,ebytes:=0,eagg:=false,ezero:=[],ik:=some .u8,frz:=false }:=by kernel_rfl
@[go_sem] theorem ty22:tyi Tryz.prog 22=some { size:=1,bytes:=24,agg:=false,zero:=[.sl .full []],fields:=[],fok:=false,kind:=4,alen:=0,esize:=1,ebytes:=8,eagg:=false,ezero:=[.int .i64 0],ik:=none,frz:=false }:=by kernel_rfl
@[go_sem] theorem ty25:tyi Tryz.prog 25=some { size:=1,bytes:=24,agg:=false,zero:=[.sl .full []],fields:=[],fok:=false,kind:=4,alen:=0,esize:=2,ebytes:=32,eagg:=true,ezero:=[.int .i64 0,.sl .full []],ik:=none,frz:=false }:=by kernel_rfl
@[go_sem] theorem ty27:tyi Tryz.prog 27=some { size:=2,bytes:=32,agg:=true,zero:=[.int .i64 0,.sl .full []],fields:=[(0,1,false),(1,1,false)],fok:=true,kind:=3,alen:=0,esize:=0,ebytes:=0,eagg:=false,ezero:=[],ik:=none,frz:=false }:=by kernel_rfl
@[go_sem] theorem ty29:tyi Tryz.prog 29=some { size:=1,bytes:=8,agg:=false,zero:=[.nilp],fields:=[],fok:=false,kind:=7,alen:=0,esize:=0,ebytes:=0,eagg:=false,ezero:=[],ik:=none,frz:=false }:=by kernel_rfl
@[go_sem] theorem ty31:tyi Tryz.prog 31=some { size:=1,bytes:=24,agg:=false,zero:=[.sl .full []],fields:=[],fok:=false,kind:=4,alen:=0,esize:=4,ebytes:=64,eagg:=true,ezero:=[.int .i64 0,.int .i64 0,.sl .full [],.sl .full []],ik:=none,frz:=false }:=by kernel_rfl
@[go_sem] theorem ty32:tyi Tryz.prog 32=some { size:=1,bytes:=8,agg:=false,zero:=[.int .i64 0],fields:=[],fok:=false,kind:=2,alen:=0,esize:=0,ebytes:=0,eagg:=false,ezero:=[],ik:=some .i64,frz:=false }:=by kernel_rfl
@[go_sem] theorem ty36:tyi Tryz.prog 36=some { size:=4,bytes:=64,agg:=true,zero:=[.int .i64 0,.int .i64 0,.sl .full [],.sl .full []],fields:=[(0,1,false),(1,1,false),(2,1,false),(3,1,false)],fok:=true,kind:=3,alen:=0,esize:=0,ebytes:=0,eagg:=false,ezero:=[],ik:=none,frz:=false }:=by kernel_rfl
@[go_sem] theorem ty42:tyi Tryz.prog 42=some { size:=1,bytes:=24,agg:=false,zero:=[.sl .full []],fields:=[],fok:=false,kind:=4,alen:=0,esize:=5,ebytes:=72,eagg:=true,ezero:=[.int .i64 0,.int .i64 0,.int .i64 0,.sl .full [],.sl .full []],ik:=none,frz:=false }:=by kernel_rfl
@[go_sem] theorem ty43:tyi Tryz.prog 43=some { size:=1,bytes:=24,agg:=false,zero:=[.sl .full []],fields:=[],fok:=false,kind:=4,alen:=0,esize:=5,ebytes:=88,eagg:=true,ezero:=[.int .i64 0,.int .i64 0,.sl .full [],.sl .full [],.sl .full []],ik:=none,frz:=false }:=by kernel_rfl
@[go_sem] theorem ty45:tyi Tryz.prog 45=some { size:=5,bytes:=88,agg:=true,zero:=[.int .i64 0,.int .i64 0,.sl .full [],.sl .full [],.sl .full []],fields:=[(0,1,false),(1,2,true),(3,1,false),(4,1,false)],fok:=true,kind:=3,alen:=0,esize:=0,ebytes:=0,eagg:=false,ezero:=[],ik:=none,frz:=false }:=by kernel_rfl
@[go_sem] theorem ty65:tyi Tryz.prog 65=some { size:=5,bytes:=72,agg:=true,zero:=[.int .i64 0,.int .i64 0,.int .i64 0,.sl .full [],.sl .full []],fields:=[(0,1,false),(1,1,false),(2,2,true),(4,1,false)],fok:=true,kind:=3,alen:=0,esize:=0,ebytes:=0,eagg:=false,ezero:=[],ik:=none,frz:=false }:=by kernel_rfl
@[go_sem] theorem ty69:tyi Tryz.prog 69=some { size:=2,bytes:=32,agg:=true,zero:=[.sl .full [],.int .i64 0],fields:=[(0,1,false),(1,1,false)],fok:=true,kind:=3,alen:=0,esize:=0,ebytes:=0,eagg:=false,ezero:=[],ik:=none,frz:=false }:=by kernel_rfl
@[go_sem] theorem ty81:tyi Tryz.prog 81=some { size:=6,bytes:=112,agg:=true,zero:=[.sl .full [],.int .i64 0,.int .i64 0,.sl .full [],.sl .full [],.sl .full []],fields:=[(0,1,false),(1,5,true)],fok:=true,kind:=3,alen:=0,esize:=0,ebytes:=0,eagg:=false,ezero:=[],ik:=none,frz:=false }:=by kernel_rfl
@[go_sem] theorem ty84:tyi Tryz.prog 84=some { size:=1,bytes:=8,agg:=false,zero:=[.nilf],fields:=[],fok:=false,kind:=0,alen:=0,esize:=0,ebytes:=0,eagg:=false,ezero:=[],ik:=none,frz:=false }:=by kernel_rfl
@[go_sem] theorem ty105:tyi Tryz.prog 105=some { size:=1,bytes:=8,agg:=false,zero:=[.nilf],fields:=[],fok:=false,kind:=0,alen:=0,esize:=0,ebytes:=0,eagg:=false,ezero:=[],ik:=none,frz:=false }:=by kernel_rfl
@[go_sem] theorem ty114:tyi Tryz.prog 114=some { size:=1,bytes:=8,agg:=false,zero:=[.nilf],fields:=[],fok:=false,kind:=0,alen:=0,esize:=0,ebytes:=0,eagg:=false,ezero:=[],ik:=none,frz:=false }:=by kernel_rfl
@[go_sem] theorem ty121:tyi Tryz.prog 121=some { size:=1,bytes:=24,agg:=false,zero:=[.sl .full []],fields:=[],fok:=false,kind:=4,alen:=0,esize:=3,ebytes:=40,eagg:=true,ezero:=[.int .i64 0,.sl .full [],.int .i64 0],ik:=none,frz:=false }:=by kernel_rfl
@[go_sem] theorem ty125:tyi Tryz.prog 125=some { size:=1,bytes:=1,agg:=false,zero:=[.int .u8 0],fields:=[],fok:=false,kind:=2,alen:=0,esize:=0,ebytes:=0,eagg:=false,ezero:=[],ik:=some .u8,frz:=false }:=by kernel_rfl
@[go_sem] theorem ty157:tyi Tryz.prog 157=some { size:=1,bytes:=8,agg:=false,zero:=[.nilp],fields:=[],fok:=false,kind:=7,alen:=0,esize:=0,ebytes:=0,eagg:=false,ezero:=[],ik:=none,frz:=false }:=by kernel_rfl
@[go_sem] theorem ty159:tyi Tryz.prog 159=some { size:=3,bytes:=24,agg:=true,zero:=[.int .i64 0,.int .i64 0,.int .i64 0],fields:=[(0,1,false),(1,1,false),(2,1,false)],fok:=true,kind:=3,alen:=0,esize:=0,ebytes:=0,eagg:=false,ezero:=[],ik:=none,frz:=false }:=by kernel_rfl
@[go_sem] theorem ty166:tyi Tryz.prog 166=some { size:=3,bytes:=40,agg:=true,zero:=[.int .i64 0,.sl .full [],.int .i64 0],fields:=[(0,2,true),(2,1,false)],fok:=true,kind:=3,alen:=0,esize:=0,ebytes:=0,eagg:=false,ezero:=[],ik:=none,frz:=false }:=by kernel_rfl
@[go_sem] theorem ty170:tyi Tryz.prog 170=some { size:=1,bytes:=8,agg:=false,zero:=[.nilf],fields:=[],fok:=false,kind:=0,alen:=0,esize:=0,ebytes:=0,eagg:=false,ezero:=[],ik:=none,frz:=false }:=by kernel_rfl
@[go_sem] theorem ty187:tyi Tryz.prog 187=some { size:=1,bytes:=8,agg:=false,zero:=[.nilf],fields:=[],fok:=false,kind:=0,alen:=0,esize:=0,ebytes:=0,eagg:=false,ezero:=[],ik:=none,frz:=false }:=by kernel_rfl
@[go_sem] theorem ty189:tyi Tryz.prog 189=some { size:=1,bytes:=8,agg:=false,zero:=[.nilf],fields:=[],fok:=false,kind:=0,alen:=0,esize:=0,ebytes:=0,eagg:=false,ezero:=[],ik:=none,frz:=false }:=by kernel_rfl
@[go_sem] theorem ty192:tyi Tryz.prog 192=some { size:=10,bytes:=144,agg:=true,zero:=[.int .i64 0,.int .i64 0,.int .i64 0,.sl .full [],.sl .full [],.int .i64 0,.int .i64 0,.int .i64 0,.sl .full [],.sl .full []],fields:=[(0,5,true),(5,5,true)],fok:=true,kind:=3,alen:=0,esize:=0,ebytes:=0,eagg:=false,ezero:=[],ik:=none,frz:=false }:=by kernel_rfl
@[go_sem] theorem ty194:tyi Tryz.prog 194=some { size:=10,bytes:=176,agg:=true,zero:=[.int .i64 0,.int .i64 0,.sl .full [],.sl .full [],.sl .full [],.int .i64 0,.int .i64 0,.sl .full [],.sl .full [],.sl .full []],fields:=[(0,5,true),(5,5,true)],fok:=true,kind:=3,alen:=0,esize:=0,ebytes:=0,eagg:=false,ezero:=[],ik:=none,frz:=false }:=by kernel_rfl
@[go_sem] theorem ty196:tyi Tryz.prog 196=some { size:=10,bytes:=176,agg:=true,zero:=[.int .i64 0,.int .i64 0,.sl .full [],.sl .full [],.sl .full [],.int .i64 0,.int .i64 0,.sl .full [],.sl .full [],.sl .full []],fields:=[(0,5,true),(5,5,true)],fok:=true,kind:=3,alen:=0,esize:=0,ebytes:=0,eagg:=false,ezero:=[],ik:=none,frz:=false }:=by kernel_rfl
@[go_sem] theorem ty198:tyi Tryz.prog 198=some { size:=11,bytes:=168,agg:=true,zero:=[.bool false,.int .i64 0,.int .i64 0,.int .i64 0,.sl .full [],.sl .full [],.int .i64 0,.int .i64 0,.sl .full [],.sl .full [],.sl .full []],fields:=[(0,1,false),(1,5,true),(6,5,true)],fok:=true,kind:=3,alen:=0,esize:=0,ebytes:=0,eagg:=false,ezero:=[],ik:=none,frz:=false }:=by kernel_rfl
@[go_sem] theorem ty218:tyi Tryz.prog 218=some { size:=1,bytes:=8,agg:=false,zero:=[.nilf],fields:=[],fok:=false,kind:=0,alen:=0,esize:=0,ebytes:=0,eagg:=false,ezero:=[],ik:=none,frz:=false }:=by kernel_rfl
@[go_sem] theorem ty220:tyi Tryz.prog 220=some { size:=9,bytes:=120,agg:=true,zero:=[.int .i64 0,.sl .full [],.int .i64 0,.int .i64 0,.sl .full [],.int .i64 0,.int .i64 0,.sl .full [],.int .i64 0],fields:=[],fok:=false,kind:=5,alen:=3,esize:=3,ebytes:=40,eagg:=true,ezero:=[.int .i64 0,.sl .full [],.int .i64 0],ik:=none,frz:=false }:=by kernel_rfl
@[go_sem] theorem ty232:tyi Tryz.prog 232=some { size:=14,bytes:=112,agg:=true,zero:=[.int .i64 0,.int .i64 0,.int .i64 0,.int .i64 0,.int .i64 0,.int .i64 0,.int .i64 0,.int .i64 0,.int .i64 0,.int .i64 0,.int .i64 0,.int .i64 0,.int .i64 0,.int .i64 0],fields:=[],fok:=false,kind:=5,alen:=14,esize:=1,ebytes:=8,eagg:=false,ezero:=[.int .i64 0],ik:=none,frz:=false }:=by kernel_rfl
@[go_sem] theorem ty257:tyi Tryz.prog 257=some { size:=1,bytes:=24,agg:=false,zero:=[.sl .full []],fields:=[],fok:=false,kind:=4,alen:=0,esize:=1,ebytes:=16,eagg:=false,ezero:=[.nili],ik:=none,frz:=false }:=by kernel_rfl
@[go_sem] theorem ty258:tyi Tryz.prog 258=some { size:=1,bytes:=16,agg:=false,zero:=[.nili],fields:=[],fok:=false,kind:=8,alen:=0,esize:=0,ebytes:=0,eagg:=false,ezero:=[],ik:=none,frz:=false }:=by kernel_rfl
@[go_sem] theorem ty260:tyi Tryz.prog 260=some { size:=1,bytes:=8,agg:=false,zero:=[.nilp],fields:=[],fok:=false,kind:=7,alen:=0,esize:=0,ebytes:=0,eagg:=false,ezero:=[],ik:=none,frz:=false }:=by kernel_rfl
@[go_sem] theorem ty262:tyi Tryz.prog 262=some { size:=2,bytes:=16,agg:=true,zero:=[.int .i64 0,.int .i64 0],fields:=[(0,1,false),(1,1,false)],fok:=true,kind:=3,alen:=0,esize:=0,ebytes:=0,eagg:=false,ezero:=[],ik:=none,frz:=false }:=by kernel_rfl
@[go_sem] theorem ty267:tyi Tryz.prog 267=some { size:=1,bytes:=8,agg:=false,zero:=[.nilp],fields:=[],fok:=false,kind:=7,alen:=0,esize:=0,ebytes:=0,eagg:=false,ezero:=[],ik:=none,frz:=false }:=by kernel_rfl
@[go_sem] theorem ty269:tyi Tryz.prog 269=some { size:=2,bytes:=16,agg:=true,zero:=[.int .i64 0,.nilp],fields:=[(0,1,false),(1,1,false)],fok:=true,kind:=3,alen:=0,esize:=0,ebytes:=0,eagg:=false,ezero:=[],ik:=none,frz:=true }:=by kernel_rfl
@[go_sem] theorem ty270:tyi Tryz.prog 270=some { size:=1,bytes:=8,agg:=false,zero:=[.nilp],fields:=[],fok:=false,kind:=7,alen:=0,esize:=0,ebytes:=0,eagg:=false,ezero:=[],ik:=none,frz:=false }:=by kernel_rfl
@[go_sem] theorem ty272:tyi Tryz.prog 272=some { size:=2,bytes:=32,agg:=true,zero:=[.nili,.nili],fields:=[(0,1,false),(1,1,false)],fok:=true,kind:=3,alen:=0,esize:=0,ebytes:=0,eagg:=false,ezero:=[],ik:=none,frz:=true }:=by kernel_rfl
@[go_sem] theorem ty274:tyi Tryz.prog 274=some { size:=0,bytes:=0,agg:=true,zero:=[],fields:=[],fok:=true,kind:=3,alen:=0,esize:=0,ebytes:=0,eagg:=false,ezero:=[],ik:=none,frz:=false }:=by kernel_rfl
@[go_sem] theorem ty275:tyi Tryz.prog 275=some { size:=1,bytes:=8,agg:=false,zero:=[.nilp],fields:=[],fok:=false,kind:=7,alen:=0,esize:=0,ebytes:=0,eagg:=false,ezero:=[],ik:=none,frz:=false }:=by kernel_rfl
@[go_sem] theorem ty277:tyi Tryz.prog 277=some { size:=1,bytes:=8,agg:=false,zero:=[.nilp],fields:=[],fok:=false,kind:=7,alen:=0,esize:=0,ebytes:=0,eagg:=false,ezero:=[],ik:=none,frz:=false }:=by kernel_rfl
@[go_sem] theorem ty279:tyi Tryz.prog 279=some { size:=6,bytes:=80,agg:=true,zero:=[.int .i64 0,.int .i64 0,.int .i64 0,.sl .full [],.sl .full [],.nilp],fields:=[(0,5,true),(5,1,false)],fok:=true,kind:=3,alen:=0,esize:=0,ebytes:=0,eagg:=false,ezero:=[],ik:=none,frz:=true }:=by kernel_rfl
@[go_sem] theorem ty280:tyi Tryz.prog 280=some { size:=3,bytes:=48,agg:=true,zero:=[.nili,.nili,.nili],fields:=[],fok:=false,kind:=5,alen:=3,esize:=1,ebytes:=16,eagg:=false,ezero:=[.nili],ik:=none,frz:=false }:=by kernel_rfl
@[go_sem] theorem ty285:tyi Tryz.prog 285=some { size:=2,bytes:=24,agg:=true,zero:=[.nili,.nilp],fields:=[(0,1,false),(1,1,false)],fok:=true,kind:=3,alen:=0,esize:=0,ebytes:=0,eagg:=false,ezero:=[],ik:=none,frz:=true }:=by kernel_rfl
@[go_sem] theorem ty286:tyi Tryz.prog 286=some { size:=1,bytes:=24,agg:=false,zero:=[.sl .full []],fields:=[],fok:=false,kind:=4,alen:=0,esize:=1,ebytes:=8,eagg:=false,ezero:=[.nilp],ik:=none,frz:=false }:=by kernel_rfl
end Go.Proofs.YteaijonkbbkkjaaGreatDoor
