/-
  What the walk needs of the types of this translation. Written by program (genbase.py).
-/
import Derived.Test.YtbfilinnoedfeaaGreatDoorAbsB
import Derived.Test.YtbfilinnoedfeaaGreatDoorRows
import Derived.KernelRfl
set_option linter.unusedSimpArgs false
namespace Go.Proofs.YtbfilinnoedfeaaGreatDoor
open Go GoAbs Go.Proofs

theorem follows:Tryz.prog.follows .mixedOrders=true:=by kernel_rfl
theorem en {env:Nat→Option (List V)} {f:FuncId} {fn:Func} {body:Code} {args:List V} {h:H} {v:V} {h':H} (hf:Tryz.prog.funcs[f]? = some fn) (rs:List ResultVar) (hb:fn.body=some body) (hres:fn.results.toList=rs)
    (walk:∀ (g:G) (w:World) (gen:Nat),Rel env g w h→(∀ id,h id≠none→id.gen<gen)→(∀ r i,h ⟨gen,r,i⟩=none)→fn.results.toList=rs→AR ⟨Tryz.prog,env,fn.ntmps,fn,g,w,h,v,h'⟩ gen [.code body] .normal ⟨argTm args,h⟩)
    (hname : (fn.name == "runtime.NumGoroutine") = false := by kernel_rfl) (hok : okCode fn.ntmps body = true := by kernel_rfl) : Ret Tryz.prog env f args h v h' := enter hf rs hb hname follows hok hres walk
/- Walks: the steps as default arguments; wk, ek: a walk that ends; wq: a walk that comes to one more thing to do. -/
theorem wk_ {c:Ctx} {gen:Nat} {k:List It} {e:Exit} {σ:St} (h:AR c gen k e σ:=by
      repeat' (first
        | (refine ⟨?_,?_⟩;focus ((repeat' (first|refine And.intro ?_ ?_|refine Or.inr ?_));all_goals kernel_rfl))
        | exact hin _|exact agf (by assumption)
        | (first|refine wp rfl ?_|refine spt rfl ?_|refine spf rfl ?_|(refine spl (fun hc=>?_) fun hc=>?_)<;>(try rw [beq_iff_eq] at hc)<;>try simp only [hc]|(refine gs (fun hb=>?_) fun hb=>?_)<;>try simp only [Bool.not_true,Bool.not_false] at hb|refine cp (by assumption) ?_|(refine ct (by assumption) ?_ ?_;focus ((simp only [go_sem, *]<;>rfl);done))|refine finF hrel ?_ ?_ ?_)<;>try simp only [go_sem, *])):AR c gen k e σ:=h
theorem wq_ {c:Ctx} {gen:Nat} {k:List It} {e:Exit} {σ:St} {G:Prop} (hh:G) (h:PLift G→AR c gen k e σ:=by
      intro zz
      repeat' (first
        | (refine ⟨?_,?_⟩;focus ((repeat' (first|refine And.intro ?_ ?_|refine Or.inr ?_));all_goals kernel_rfl))
        | exact hin _|exact agf (by assumption)
        | (first|refine wp rfl ?_|refine spt rfl ?_|refine spf rfl ?_|(refine spl (fun hc=>?_) fun hc=>?_)<;>(try rw [beq_iff_eq] at hc)<;>try simp only [hc]|(refine gs (fun hb=>?_) fun hb=>?_)<;>try simp only [Bool.not_true,Bool.not_false] at hb|refine cp (by assumption) ?_|(refine ct (by assumption) ?_ ?_;focus ((simp only [go_sem, *]<;>rfl);done))|refine finF hrel ?_ ?_ ?_|refine AR_inv ?_)<;>try simp only [go_sem, *])
      exact zz.down):AR c gen k e σ:=h ⟨hh⟩
theorem ek_ {env:Nat→Option (List V)} {f:FuncId} {fn:Func} {body:Code} {args:List V} {h:H} {v:V} {h':H} (hf:Tryz.prog.funcs[f]? = some fn) (rs:List ResultVar) (hb:fn.body=some body:=by rfl) (hres:fn.results.toList=rs:=by rfl)
    (walk:∀ (g0:G) (w0:World) (gen:Nat),Rel env g0 w0 h→(∀ id,h id≠none→id.gen<gen)→(∀ r i,h ⟨gen,r,i⟩=none)→fn.results.toList=rs→AR ⟨Tryz.prog,env,fn.ntmps,fn,g0,w0,h,v,h'⟩ gen [.code body] .normal ⟨argTm args,h⟩:=by
      intro g0 w0 gen hrel hfr hfr' hres
      repeat' (first
        | (refine ⟨?_,?_⟩;focus ((repeat' (first|refine And.intro ?_ ?_|refine Or.inr ?_));all_goals kernel_rfl))
        | exact hin _|exact agf (by assumption)
        | (first|refine wp rfl ?_|refine spt rfl ?_|refine spf rfl ?_|(refine spl (fun hc=>?_) fun hc=>?_)<;>(try rw [beq_iff_eq] at hc)<;>try simp only [hc]|(refine gs (fun hb=>?_) fun hb=>?_)<;>try simp only [Bool.not_true,Bool.not_false] at hb|refine cp (by assumption) ?_|(refine ct (by assumption) ?_ ?_;focus ((simp only [go_sem, *]<;>rfl);done))|refine finF hrel ?_ ?_ ?_)<;>try simp only [go_sem, *]))
    (hname : (fn.name == "runtime.NumGoroutine") = false := by kernel_rfl) (hok : okCode fn.ntmps body = true := by kernel_rfl) : Ret Tryz.prog env f args h v h' := enter hf rs hb hname follows hok hres walk
theorem wkT_ {c:Ctx} {gen:Nat} {k:List It} {e:Exit} {σ:St} (h:AR c gen k e σ:=by
      repeat' (first
        | (refine ⟨?_,?_⟩;focus ((repeat' (first|refine And.intro ?_ ?_|refine Or.inr ?_));all_goals kernel_rfl))
        | exact agb (by assumption)
        | (first|refine wp rfl ?_|refine spt rfl ?_|refine spf rfl ?_|(refine spl (fun hc=>?_) fun hc=>?_)<;>(try rw [beq_iff_eq] at hc)<;>try simp only [hc]|(refine gs (fun hb=>?_) fun hb=>?_)<;>try simp only [Bool.not_true,Bool.not_false] at hb|refine cp (by assumption) ?_|(refine ct (by assumption) ?_ ?_;focus ((simp only [go_sem, *]<;>rfl);done))|refine finT hrel hd ?_ ?_ ?_ ?_ ?_)<;>try simp only [go_sem, *])):AR c gen k e σ:=h
theorem wqT_ {c:Ctx} {gen:Nat} {k:List It} {e:Exit} {σ:St} {G:Prop} (hh:G) (h:PLift G→AR c gen k e σ:=by
      intro zz
      repeat' (first
        | (refine ⟨?_,?_⟩;focus ((repeat' (first|refine And.intro ?_ ?_|refine Or.inr ?_));all_goals kernel_rfl))
        | exact agb (by assumption)
        | (first|refine wp rfl ?_|refine spt rfl ?_|refine spf rfl ?_|(refine spl (fun hc=>?_) fun hc=>?_)<;>(try rw [beq_iff_eq] at hc)<;>try simp only [hc]|(refine gs (fun hb=>?_) fun hb=>?_)<;>try simp only [Bool.not_true,Bool.not_false] at hb|refine cp (by assumption) ?_|(refine ct (by assumption) ?_ ?_;focus ((simp only [go_sem, *]<;>rfl);done))|refine finT hrel hd ?_ ?_ ?_ ?_ ?_|refine AR_inv ?_)<;>try simp only [go_sem, *])
      exact zz.down):AR c gen k e σ:=h ⟨hh⟩
theorem ekT_ {env:Nat→Option (List V)} {f:FuncId} {fn:Func} {body:Code} {args:List V} {h:H} {v:V} {h':H} (hf:Tryz.prog.funcs[f]? = some fn) (rs:List ResultVar) (hb:fn.body=some body:=by rfl) (hres:fn.results.toList=rs:=by rfl)
    (walk:∀ (g0:G) (w0:World) (gen:Nat),Rel env g0 w0 h→(∀ id,h id≠none→id.gen<gen)→(∀ r i,h ⟨gen,r,i⟩=none)→fn.results.toList=rs→AR ⟨Tryz.prog,env,fn.ntmps,fn,g0,w0,h,v,h'⟩ gen [.code body] .normal ⟨argTm args,h⟩:=by
      intro g0 w0 gen hrel hfr hfr' hres
      repeat' (first
        | (refine ⟨?_,?_⟩;focus ((repeat' (first|refine And.intro ?_ ?_|refine Or.inr ?_));all_goals kernel_rfl))
        | exact agb (by assumption)
        | (first|refine wp rfl ?_|refine spt rfl ?_|refine spf rfl ?_|(refine spl (fun hc=>?_) fun hc=>?_)<;>(try rw [beq_iff_eq] at hc)<;>try simp only [hc]|(refine gs (fun hb=>?_) fun hb=>?_)<;>try simp only [Bool.not_true,Bool.not_false] at hb|refine cp (by assumption) ?_|(refine ct (by assumption) ?_ ?_;focus ((simp only [go_sem, *]<;>rfl);done))|refine finT hrel hd ?_ ?_ ?_ ?_ ?_)<;>try simp only [go_sem, *]))
    (hname : (fn.name == "runtime.NumGoroutine") = false := by kernel_rfl) (hok : okCode fn.ntmps body = true := by kernel_rfl) : Ret Tryz.prog env f args h v h' := enter hf rs hb hname follows hok hres walk
theorem en_ {env:Nat→Option (List V)} {f:FuncId} {fn:Func} {body:Code} {args:List V} {h:H} {v:V} {h':H} (hf:Tryz.prog.funcs[f]? = some fn) (rs:List ResultVar)
    (walk:∀ (g:G) (w:World) (gen:Nat),Rel env g w h→(∀ id,h id≠none→id.gen<gen)→(∀ r i,h ⟨gen,r,i⟩=none)→fn.results.toList=rs→AR ⟨Tryz.prog,env,fn.ntmps,fn,g,w,h,v,h'⟩ gen [.code body] .normal ⟨argTm args,h⟩)
    (hb : fn.body = some body := by rfl) (hres : fn.results.toList = rs := by rfl) (hname : (fn.name == "runtime.NumGoroutine") = false := by kernel_rfl) (hok : okCode fn.ntmps body = true := by kernel_rfl) : Ret Tryz.prog env f args h v h' := enter hf rs hb hname follows hok hres walk
@[go_sem] theorem ty1:tyi Tryz.prog 1=some { size:=1,bytes:=8,agg:=false,zero:=[.nilf],fields:=[],fok:=false,kind:=0,alen:=0,esize:=0,ebytes:=0,eagg:=false,ezero:=[],ik:=none,frz:=false }:=by kernel_rfl
@[go_sem] theorem ty2:tyi Tryz.prog 2=some { size:=1,bytes:=8,agg:=false,zero:=[.int .i64 0],fields:=[],fok:=false,kind:=2,alen:=0,esize:=0,ebytes:=0,eagg:=false,ezero:=[],ik:=some .i64,frz:=false }:=by kernel_rfl
@[go_sem] theorem ty3:tyi Tryz.prog 3=some { size:=1,bytes:=8,agg:=false,zero:=[.int .i64 0],fields:=[],fok:=false,kind:=2,alen:=0,esize:=0,ebytes:=0,eagg:=false,ezero:=[],ik:=some .i64,frz:=false }:=by kernel_rfl
@[go_sem] theorem ty4:tyi Tryz.prog 4=some { size:=1,bytes:=1,agg:=false,zero:=[.bool false],fields:=[],fok:=false,kind:=1,alen:=0,esize:=0,ebytes:=0,eagg:=false,ezero:=[],ik:=none,frz:=false }:=by kernel_rfl
@[go_sem] theorem ty22:tyi Tryz.prog 22=some { size:=1,bytes:=24,agg:=false,zero:=[.sl .full []],fields:=[],fok:=false,kind:=4,alen:=0,esize:=1,ebytes:=8,eagg:=false,ezero:=[.int .i64 0],ik:=none,frz:=false }:=by kernel_rfl
@[go_sem] theorem ty25:tyi Tryz.prog 25=some { size:=1,bytes:=8,agg:=false,zero:=[.nilp],fields:=[],fok:=false,kind:=7,alen:=0,esize:=0,ebytes:=0,eagg:=false,ezero:=[],ik:=none,frz:=false }:=by kernel_rfl
@[go_sem] theorem ty27:tyi Tryz.prog 27=some { size:=1,bytes:=24,agg:=false,zero:=[.sl .full []],fields:=[],fok:=false,kind:=4,alen:=0,esize:=2,ebytes:=32,eagg:=true,ezero:=[.int .i64 0,.sl .full []],ik:=none,frz:=false }:=by kernel_rfl
@[go_sem] theorem ty29:tyi Tryz.prog 29=some { size:=2,bytes:=32,agg:=true,zero:=[.int .i64 0,.sl .full []],fields:=[(0,1,false),(1,1,false)],fok:=true,kind:=3,alen:=0,esize:=0,ebytes:=0,eagg:=false,ezero:=[],ik:=none,frz:=false }:=by kernel_rfl
@[go_sem] theorem ty31:tyi Tryz.prog 31=some { size:=1,bytes:=24,agg:=false,zero:=[.sl .full []],fields:=[],fok:=false,kind:=4,alen:=0,esize:=5,ebytes:=72,eagg:=true,ezero:=[.int .i64 0,.int .i64 0,.int .i64 0,.sl .full [],.sl .full []],ik:=none,frz:=false }:=by kernel_rfl
@[go_sem] theorem ty32:tyi Tryz.prog 32=some { size:=1,bytes:=8,agg:=false,zero:=[.int .i64 0],fields:=[],fok:=false,kind:=2,alen:=0,esize:=0,ebytes:=0,eagg:=false,ezero:=[],ik:=some .i64,frz:=false }:=by kernel_rfl
@[go_sem] theorem ty36:tyi Tryz.prog 36=some { size:=5,bytes:=72,agg:=true,zero:=[.int .i64 0,.int .i64 0,.int .i64 0,.sl .full [],.sl .full []],fields:=[(0,1,false),(1,1,false),(2,2,true),(4,1,false)],fok:=true,kind:=3,alen:=0,esize:=0,ebytes:=0,eagg:=false,ezero:=[],ik:=none,frz:=false }:=by kernel_rfl
@[go_sem] theorem ty40:tyi Tryz.prog 40=some { size:=1,bytes:=24,agg:=false,zero:=[.sl .full []],fields:=[],fok:=false,kind:=4,alen:=0,esize:=4,ebytes:=64,eagg:=true,ezero:=[.int .i64 0,.int .i64 0,.sl .full [],.sl .full []],ik:=none,frz:=false }:=by kernel_rfl
@[go_sem] theorem ty42:tyi Tryz.prog 42=some { size:=4,bytes:=64,agg:=true,zero:=[.int .i64 0,.int .i64 0,.sl .full [],.sl .full []],fields:=[(0,1,false),(1,1,false),(2,1,false),(3,1,false)],fok:=true,kind:=3,alen:=0,esize:=0,ebytes:=0,eagg:=false,ezero:=[],ik:=none,frz:=false }:=by kernel_rfl
@[go_sem] theorem ty46:tyi Tryz.prog 46=some { size:=1,bytes:=24,agg:=false,zero:=[.sl .full []],fields:=[],fok:=false,kind:=4,alen:=0,esize:=5,ebytes:=88,eagg:=true,ezero:=[.int .i64 0,.int .i64 0,.sl .full [],.sl .full [],.sl .full []],ik:=none,frz:=false }:=by kernel_rfl
@[go_sem] theorem ty48:tyi Tryz.prog 48=some { size:=5,bytes:=88,agg:=true,zero:=[.int .i64 0,.int .i64 0,.sl .full [],.sl .full [],.sl .full []],fields:=[(0,1,false),(1,2,true),(3,1,false),(4,1,false)],fok:=true,kind:=3,alen:=0,esize:=0,ebytes:=0,eagg:=false,ezero:=[],ik:=none,frz:=false }:=by kernel_rfl
@[go_sem] theorem ty60:tyi Tryz.prog 60=some { size:=1,bytes:=24,agg:=false,zero:=[.sl .full []],fields:=[],fok:=false,kind:=4,alen:=0,esize:=1,ebytes:=24,eagg:=false,ezero:=[.sl .full []],ik:=none,frz:=false }:=by kernel_rfl
@[go_sem] theorem ty68:tyi Tryz.prog 68=some { size:=2,bytes:=32,agg:=true,zero:=[.sl .full [],.int .i64 0],fields:=[(0,1,false),(1,1,false)],fok:=true,kind:=3,alen:=0,esize:=0,ebytes:=0,eagg:=false,ezero:=[],ik:=none,frz:=false }:=by kernel_rfl
@[go_sem] theorem ty96:tyi Tryz.prog 96=some { size:=7,bytes:=104,agg:=true,zero:=[.sl .full [],.int .i64 0,.int .i64 0,.sl .full [],.sl .full [],.bool false,.int .i64 0],fields:=[(0,1,false),(1,4,true),(5,1,false),(6,1,false)],fok:=true,kind:=3,alen:=0,esize:=0,ebytes:=0,eagg:=false,ezero:=[],ik:=none,frz:=false }:=by kernel_rfl
@[go_sem] theorem ty100:tyi Tryz.prog 100=some { size:=1,bytes:=24,agg:=false,zero:=[.sl .full []],fields:=[],fok:=false,kind:=4,alen:=0,esize:=7,ebytes:=104,eagg:=true,ezero:=[.sl .full [],.int .i64 0,.int .i64 0,.sl .full [],.sl .full [],.bool false,.int .i64 0],ik:=none,frz:=false }:=by kernel_rfl
@[go_sem] theorem ty131:tyi Tryz.prog 131=some { size:=1,bytes:=8,agg:=false,zero:=[.nilf],fields:=[],fok:=false,kind:=0,alen:=0,esize:=0,ebytes:=0,eagg:=false,ezero:=[],ik:=none,frz:=false }:=by kernel_rfl
@[go_sem] theorem ty132:tyi Tryz.prog 132=some { size:=1,bytes:=8,agg:=false,zero:=[.nilp],fields:=[],fok:=false,kind:=7,alen:=0,esize:=0,ebytes:=0,eagg:=false,ezero:=[],ik:=none,frz:=false }:=by kernel_rfl
@[go_sem] theorem ty134:tyi Tryz.prog 134=some { size:=3,bytes:=24,agg:=true,zero:=[.int .i64 0,.int .i64 0,.int .i64 0],fields:=[(0,1,false),(1,1,false),(2,1,false)],fok:=true,kind:=3,alen:=0,esize:=0,ebytes:=0,eagg:=false,ezero:=[],ik:=none,frz:=false }:=by kernel_rfl
@[go_sem] theorem ty160:tyi Tryz.prog 160=some { size:=4,bytes:=64,agg:=true,zero:=[.int .i64 0,.sl .full [],.int .i64 0,.sl .full []],fields:=[(0,2,true),(2,2,true)],fok:=true,kind:=3,alen:=0,esize:=0,ebytes:=0,eagg:=false,ezero:=[],ik:=none,frz:=false }:=by kernel_rfl
@[go_sem] theorem ty169:tyi Tryz.prog 169=some { size:=1,bytes:=8,agg:=false,zero:=[.nilf],fields:=[],fok:=false,kind:=0,alen:=0,esize:=0,ebytes:=0,eagg:=false,ezero:=[],ik:=none,frz:=false }:=by kernel_rfl
@[go_sem] theorem ty176:tyi Tryz.prog 176=some { size:=10,bytes:=144,agg:=true,zero:=[.int .i64 0,.int .i64 0,.int .i64 0,.sl .full [],.sl .full [],.int .i64 0,.int .i64 0,.int .i64 0,.sl .full [],.sl .full []],fields:=[(0,5,true),(5,5,true)],fok:=true,kind:=3,alen:=0,esize:=0,ebytes:=0,eagg:=false,ezero:=[],ik:=none,frz:=false }:=by kernel_rfl
@[go_sem] theorem ty178:tyi Tryz.prog 178=some { size:=10,bytes:=176,agg:=true,zero:=[.int .i64 0,.int .i64 0,.sl .full [],.sl .full [],.sl .full [],.int .i64 0,.int .i64 0,.sl .full [],.sl .full [],.sl .full []],fields:=[(0,5,true),(5,5,true)],fok:=true,kind:=3,alen:=0,esize:=0,ebytes:=0,eagg:=false,ezero:=[],ik:=none,frz:=false }:=by kernel_rfl
@[go_sem] theorem ty180:tyi Tryz.prog 180=some { size:=10,bytes:=176,agg:=true,zero:=[.int .i64 0,.int .i64 0,.sl .full [],.sl .full [],.sl .full [],.int .i64 0,.int .i64 0,.sl .full [],.sl .full [],.sl .full []],fields:=[(0,5,true),(5,5,true)],fok:=true,kind:=3,alen:=0,esize:=0,ebytes:=0,eagg:=false,ezero:=[],ik:=none,frz:=false }:=by kernel_rfl
@[go_sem] theorem ty184:tyi Tryz.prog 184=some { size:=11,bytes:=168,agg:=true,zero:=[.bool false,.int .i64 0,.int .i64 0,.int .i64 0,.sl .full [],.sl .full [],.int .i64 0,.int .i64 0,.sl .full [],.sl .full [],.sl .full []],fields:=[(0,1,false),(1,5,true),(6,5,true)],fok:=true,kind:=3,alen:=0,esize:=0,ebytes:=0,eagg:=false,ezero:=[],ik:=none,frz:=false }:=by kernel_rfl
@[go_sem] theorem ty188:tyi Tryz.prog 188=some { size:=1,bytes:=1,agg:=false,zero:=[.int .u8 0],fields:=[],fok:=false,kind:=2,alen:=0,esize:=0,ebytes:=0,eagg:=false,ezero:=[],ik:=some .u8,frz:=false }:=by kernel_rfl
@[go_sem] theorem ty189:tyi Tryz.prog 189=some { size:=1,bytes:=24,agg:=false,zero:=[.sl .full []],fields:=[],fok:=false,kind:=4,alen:=0,esize:=1,ebytes:=16,eagg:=false,ezero:=[.nili],ik:=none,frz:=false }:=by kernel_rfl
@[go_sem] theorem ty190:tyi Tryz.prog 190=some { size:=1,bytes:=16,agg:=false,zero:=[.nili],fields:=[],fok:=false,kind:=8,alen:=0,esize:=0,ebytes:=0,eagg:=false,ezero:=[],ik:=none,frz:=false }:=by kernel_rfl
@[go_sem] theorem ty192:tyi Tryz.prog 192=some { size:=1,bytes:=8,agg:=false,zero:=[.nilp],fields:=[],fok:=false,kind:=7,alen:=0,esize:=0,ebytes:=0,eagg:=false,ezero:=[],ik:=none,frz:=false }:=by kernel_rfl
@[go_sem] theorem ty194:tyi Tryz.prog 194=some { size:=2,bytes:=16,agg:=true,zero:=[.int .i64 0,.int .i64 0],fields:=[(0,1,false),(1,1,false)],fok:=true,kind:=3,alen:=0,esize:=0,ebytes:=0,eagg:=false,ezero:=[],ik:=none,frz:=false }:=by kernel_rfl
@[go_sem] theorem ty200:tyi Tryz.prog 200=some { size:=1,bytes:=24,agg:=false,zero:=[.sl .full []],fields:=[],fok:=false,kind:=4,alen:=0,esize:=3,ebytes:=40,eagg:=true,ezero:=[.int .i64 0,.sl .full [],.int .i64 0],ik:=none,frz:=false }:=by kernel_rfl
@[go_sem] theorem ty203:tyi Tryz.prog 203=some { size:=3,bytes:=40,agg:=true,zero:=[.int .i64 0,.sl .full [],.int .i64 0],fields:=[(0,2,true),(2,1,false)],fok:=true,kind:=3,alen:=0,esize:=0,ebytes:=0,eagg:=false,ezero:=[],ik:=none,frz:=false }:=by kernel_rfl
@[go_sem] theorem ty219:tyi Tryz.prog 219=some { size:=1,bytes:=8,agg:=false,zero:=[.nilp],fields:=[],fok:=false,kind:=7,alen:=0,esize:=0,ebytes:=0,eagg:=false,ezero:=[],ik:=none,frz:=false }:=by kernel_rfl
@[go_sem] theorem ty224:tyi Tryz.prog 224=some { size:=2,bytes:=16,agg:=true,zero:=[.int .i64 0,.nilp],fields:=[(0,1,false),(1,1,false)],fok:=true,kind:=3,alen:=0,esize:=0,ebytes:=0,eagg:=false,ezero:=[],ik:=none,frz:=true }:=by kernel_rfl
@[go_sem] theorem ty225:tyi Tryz.prog 225=some { size:=1,bytes:=8,agg:=false,zero:=[.nilp],fields:=[],fok:=false,kind:=7,alen:=0,esize:=0,ebytes:=0,eagg:=false,ezero:=[],ik:=none,frz:=false }:=by kernel_rfl
@[go_sem] theorem ty227:tyi Tryz.prog 227=some { size:=2,bytes:=32,agg:=true,zero:=[.nili,.nili],fields:=[(0,1,false),(1,1,false)],fok:=true,kind:=3,alen:=0,esize:=0,ebytes:=0,eagg:=false,ezero:=[],ik:=none,frz:=true }:=by kernel_rfl
@[go_sem] theorem ty229:tyi Tryz.prog 229=some { size:=0,bytes:=0,agg:=true,zero:=[],fields:=[],fok:=true,kind:=3,alen:=0,esize:=0,ebytes:=0,eagg:=false,ezero:=[],ik:=none,frz:=false }:=by kernel_rfl
@[go_sem] theorem ty230:tyi Tryz.prog 230=some { size:=1,bytes:=8,agg:=false,zero:=[.nilp],fields:=[],fok:=false,kind:=7,alen:=0,esize:=0,ebytes:=0,eagg:=false,ezero:=[],ik:=none,frz:=false }:=by kernel_rfl
@[go_sem] theorem ty232:tyi Tryz.prog 232=some { size:=1,bytes:=8,agg:=false,zero:=[.nilp],fields:=[],fok:=false,kind:=7,alen:=0,esize:=0,ebytes:=0,eagg:=false,ezero:=[],ik:=none,frz:=false }:=by kernel_rfl
@[go_sem] theorem ty234:tyi Tryz.prog 234=some { size:=6,bytes:=80,agg:=true,zero:=[.int .i64 0,.int .i64 0,.int .i64 0,.sl .full [],.sl .full [],.nilp],fields:=[(0,5,true),(5,1,false)],fok:=true,kind:=3,alen:=0,esize:=0,ebytes:=0,eagg:=false,ezero:=[],ik:=none,frz:=true }:=by kernel_rfl
@[go_sem] theorem ty235:tyi Tryz.prog 235=some { size:=3,bytes:=48,agg:=true,zero:=[.nili,.nili,.nili],fields:=[],fok:=false,kind:=5,alen:=3,esize:=1,ebytes:=16,eagg:=false,ezero:=[.nili],ik:=none,frz:=false }:=by kernel_rfl
@[go_sem] theorem ty240:tyi Tryz.prog 240=some { size:=2,bytes:=24,agg:=true,zero:=[.nili,.nilp],fields:=[(0,1,false),(1,1,false)],fok:=true,kind:=3,alen:=0,esize:=0,ebytes:=0,eagg:=false,ezero:=[],ik:=none,frz:=true }:=by kernel_rfl
@[go_sem] theorem ty244:tyi Tryz.prog 244=some { size:=9,bytes:=120,agg:=true,zero:=[.int .i64 0,.sl .full [],.int .i64 0,.int .i64 0,.sl .full [],.int .i64 0,.int .i64 0,.sl .full [],.int .i64 0],fields:=[],fok:=false,kind:=5,alen:=3,esize:=3,ebytes:=40,eagg:=true,ezero:=[.int .i64 0,.sl .full [],.int .i64 0],ik:=none,frz:=false }:=by kernel_rfl
@[go_sem] theorem ty250:tyi Tryz.prog 250=some { size:=1,bytes:=8,agg:=false,zero:=[.nilf],fields:=[],fok:=false,kind:=0,alen:=0,esize:=0,ebytes:=0,eagg:=false,ezero:=[],ik:=none,frz:=false }:=by kernel_rfl
@[go_sem] theorem ty252:tyi Tryz.prog 252=some { size:=1,bytes:=8,agg:=false,zero:=[.nilf],fields:=[],fok:=false,kind:=0,alen:=0,esize:=0,ebytes:=0,eagg:=false,ezero:=[],ik:=none,frz:=false }:=by kernel_rfl
@[go_sem] theorem ty255:tyi Tryz.prog 255=some { size:=1,bytes:=24,agg:=false,zero:=[.sl .full []],fields:=[],fok:=false,kind:=4,alen:=0,esize:=4,ebytes:=64,eagg:=true,ezero:=[.int .i64 0,.sl .full [],.int .i64 0,.sl .full []],ik:=none,frz:=false }:=by kernel_rfl
@[go_sem] theorem ty265:tyi Tryz.prog 265=some { size:=1,bytes:=24,agg:=false,zero:=[.sl .full []],fields:=[],fok:=false,kind:=4,alen:=0,esize:=1,ebytes:=8,eagg:=false,ezero:=[.nilp],ik:=none,frz:=false }:=by kernel_rfl
@[go_sem] theorem ty276:tyi Tryz.prog 276=some { size:=4,bytes:=64,agg:=true,zero:=[.int .i64 0,.sl .full [],.int .i64 0,.sl .full []],fields:=[],fok:=false,kind:=5,alen:=2,esize:=2,ebytes:=32,eagg:=true,ezero:=[.int .i64 0,.sl .full []],ik:=none,frz:=false }:=by kernel_rfl
@[go_sem] theorem ty277:tyi Tryz.prog 277=some { size:=14,bytes:=112,agg:=true,zero:=[.int .i64 0,.int .i64 0,.int .i64 0,.int .i64 0,.int .i64 0,.int .i64 0,.int .i64 0,.int .i64 0,.int .i64 0,.int .i64 0,.int .i64 0,.int .i64 0,.int .i64 0,.int .i64 0],fields:=[],fok:=false,kind:=5,alen:=14,esize:=1,ebytes:=8,eagg:=false,ezero:=[.int .i64 0],ik:=none,frz:=false }:=by kernel_rfl
@[go_sem] theorem ty279:tyi Tryz.prog 279=some { size:=1,bytes:=8,agg:=false,zero:=[.nilf],fields:=[],fok:=false,kind:=0,alen:=0,esize:=0,ebytes:=0,eagg:=false,ezero:=[],ik:=none,frz:=false }:=by kernel_rfl
end Go.Proofs.YtbfilinnoedfeaaGreatDoor
