/-
  What the walk needs of the types of this translation. Written by program (genbase.py).
-/
import Derived.Test.YtmfhhhhnokhggaaGreatDoorAbsB
import Derived.Test.YtmfhhhhnokhggaaGreatDoorRows
import Derived.KernelRfl
set_option linter.unusedSimpArgs false
namespace Go.Proofs.YtmfhhhhnokhggaaGreatDoor
open Go GoAbs Go.Proofs
abbrev c_ := @GoAbs.Pure Tryz.prog
abbrev m_ := @GoAbs.cT0 Tryz.prog

theorem follows:Tryz.prog.follows .mixedOrders=true:=by kernel_rfl
theorem en {env:Nat->Option (List V)} {f:FuncId} {fn:Func} {body:Code} {args:List V} {h:H} {v:V} {h':H} (hf:Tryz.prog.funcs[f]? = some fn) (rs:List ResultVar) (hb:fn.body=some body) (n8:fn.results.toList=rs)
    (walk:∀ (g:G) (w:World) (gen:Nat),Rel env g w h->(∀ id,h id≠none->id.gen<gen)->(∀ r i,h ⟨gen,r,i⟩=none)->fn.results.toList=rs->AR ⟨Tryz.prog,env,fn.ntmps,fn,g,w,h,v,h'⟩ gen [.code body] .normal ⟨aj8 args,h⟩)
    (ai1 : (fn.name == "runtime.NumGoroutine") = false := by kernel_rfl) (hok : O2 fn.ntmps body = true := by kernel_rfl) : Ret Tryz.prog env f args h v h' := enter hf rs hb ai1 follows hok n8 walk
/- Walks: the steps as default arguments; wk, ek: a walk that ends; wq: a walk that comes to one more thing to do. -/
theorem i_ {c:Ctx} {gen:Nat} {k:List It} {e:Exit} {σ:St} (h:AR c gen k e σ:=by
      repeat' (first
        | (refine ⟨?_,?_⟩;focus ((repeat' (first|refine And.intro ?_ ?_|refine Or.inr ?_));all_goals kernel_rfl))
        | exact hin _|exact agf l_
        | (first|refine wp rfl ?_|refine spt rfl ?_|refine spf rfl ?_|(refine spl (fun hc=>?_) fun hc=>?_)<;>(try rw [L1] at hc)<;>try simp only [hc]|(refine gs (fun hb=>?_) fun hb=>?_)<;>try simp only [E7,M9] at hb|refine cp l_ ?_|(refine ct l_ ?_ ?_;focus ((simp only [go_sem, *]<;>rfl);done))|refine Y7 g9 ?_ ?_ ?_)<;>try simp only [go_sem, *])):AR c gen k e σ:=h
theorem x_ {c:Ctx} {gen:Nat} {k:List It} {e:Exit} {σ:St} (h:AR c gen k e σ:=by
      repeat' (first
        | (refine ⟨?_,?_⟩;focus ((repeat' (first|refine And.intro ?_ ?_|refine Or.inr ?_));all_goals kernel_rfl))
        | exact hin _|exact agf l_|exact f_|exact ⟨f_,l_⟩
        | (first|refine wp rfl ?_|refine spt rfl ?_|refine spf rfl ?_|(refine spl (fun hc=>?_) fun hc=>?_)<;>(try rw [L1] at hc)<;>try simp only [hc]|(refine gs (fun hb=>?_) fun hb=>?_)<;>try simp only [E7,M9] at hb|refine cp l_ ?_|(refine ct l_ ?_ ?_;focus ((simp only [go_sem, *]<;>rfl);done))|refine Y7 g9 ?_ ?_ ?_|refine D3 ?_)<;>try simp only [go_sem, *])):AR c gen k e σ:=h
theorem e_ {c:Ctx} {gen:Nat} {k:List It} {e:Exit} {σ:St} {G:Prop} (hh:G) (h:PLift G->AR c gen k e σ:=by
      intro zz
      repeat' (first
        | (refine ⟨?_,?_⟩;focus ((repeat' (first|refine And.intro ?_ ?_|refine Or.inr ?_));all_goals kernel_rfl))
        | exact hin _|exact agf l_
        | (first|refine wp rfl ?_|refine spt rfl ?_|refine spf rfl ?_|(refine spl (fun hc=>?_) fun hc=>?_)<;>(try rw [L1] at hc)<;>try simp only [hc]|(refine gs (fun hb=>?_) fun hb=>?_)<;>try simp only [E7,M9] at hb|refine cp l_ ?_|(refine ct l_ ?_ ?_;focus ((simp only [go_sem, *]<;>rfl);done))|refine Y7 g9 ?_ ?_ ?_|refine D3 ?_)<;>try simp only [go_sem, *])
      exact zz.down):AR c gen k e σ:=h ⟨hh⟩
theorem d_ {env:Nat->Option (List V)} {f:FuncId} {fn:Func} {body:Code} {args:List V} {h:H} {v:V} {h':H} (hf:Tryz.prog.funcs[f]? = some fn) (rs:List ResultVar) (hb:fn.body=some body:=by rfl) (n8:fn.results.toList=rs:=by rfl)
    (walk:∀ (g0:G) (w0:World) (gen:Nat),Rel env g0 w0 h->(∀ id,h id≠none->id.gen<gen)->(∀ r i,h ⟨gen,r,i⟩=none)->fn.results.toList=rs->AR ⟨Tryz.prog,env,fn.ntmps,fn,g0,w0,h,v,h'⟩ gen [.code body] .normal ⟨aj8 args,h⟩:=by
      intro g0 w0 gen g9 hfr e9 n8;exact i_)
    (ai1 : (fn.name == "runtime.NumGoroutine") = false := by kernel_rfl) (hok : O2 fn.ntmps body = true := by kernel_rfl) : Ret Tryz.prog env f args h v h' := enter hf rs hb ai1 follows hok n8 walk
theorem z_ {c:Ctx} {gen:Nat} {k:List It} {e:Exit} {σ:St} (h:AR c gen k e σ:=by
      repeat' (first
        | refine K8 ?_|refine P8 ?_|refine K7 ?_|refine C8 ?_|refine P7 ?_|refine B5 ?_|refine E4 ?_|refine B4 ?_|refine A8 (by decide) ?_|refine Y5 ?_|refine S2 ?_
        | (refine ⟨?_,?_⟩;focus ((repeat' (first|(refine And.intro ?_ ?_)|(refine Or.inr ?_)));all_goals kernel_rfl))
        | refine K3 rfl ?_|refine K1 rfl ?_|(refine M6 rfl (fun hc=>?_) (fun hc=>?_)<;>(try rw [L1] at hc)<;>(try simp only [hc]))
        | ((first|refine D2 ?_|(refine A9 (fun hb=>?_) (fun hb=>?_)<;>(try simp only [E7,M9] at hb))|refine y7 l_ ?_|refine aC5 g9 (by first|exact hin _|simp only [go_sem,L6]) (by repeat (first|exact m8.refl _|assumption|refine m8.new ?_ (l6 _ _)|refine m8.new ?_ (e9 _ _))) ?_)<;>simp only [go_sem, *]))):AR c gen k e σ:=h
theorem o_ {env:Nat->Option (List V)} {f:FuncId} {fn:Func} {body:Code} {args:List V} {h:H} {v:V} {h':H} (hf:Tryz.prog.funcs[f]? = some fn) (rs:List ResultVar) (hb:fn.body=some body:=by rfl) (n8:fn.results.toList=rs:=by rfl)
    (walk:∀ (g0:G) (w0:World) (gen:Nat),Rel env g0 w0 h->(∀ id,h id≠none->id.gen<gen)->(∀ r i,h ⟨gen,r,i⟩=none)->fn.results.toList=rs->AR ⟨Tryz.prog,env,fn.ntmps,fn,g0,w0,h,v,h'⟩ gen [.code body] .normal ⟨aj8 args,h⟩:=by
      intro g0 w0 gen g9 hfr e9 n8;exact z_)
    (ai1 : (fn.name == "runtime.NumGoroutine") = false := by kernel_rfl) (hok : O2 fn.ntmps body = true := by kernel_rfl) : Ret Tryz.prog env f args h v h' := enter hf rs hb ai1 follows hok n8 walk
theorem p_ {c:Ctx} {gen:Nat} {k:List It} {e:Exit} {σ:St} (h:AR c gen k e σ:=by
      repeat' (first
        | (refine ⟨?_,?_⟩;focus ((repeat' (first|refine And.intro ?_ ?_|refine Or.inr ?_));all_goals kernel_rfl))
        | (refine ab5 jO0 (by repeat (first|exact O3.refl _|refine O3.new ?_ (hgf _ _)|refine O3.new ?_ (e9 _ _)|refine O3.box ?_ rfl|refine O3.box ?_ (by simp only [go_sem, *]))) rfl (by simp only [go_sem, *]<;>omega) (by first|exact l6 _ _|exact e9 _ _) (by simp only [go_sem, *]) (by intro hd e;first|(cases hd;done)|(simp only [af6,ak4,ag3];repeat (first|exact trivial|refine ⟨.inr (by kernel_rfl),?_⟩|exact .inr (by kernel_rfl)))) ?_;intro v' h' id' jO jK jAg jAb jF;obtain ⟨cO,rfl⟩:=jO.val;simp only [go_sem, *])
        | (first|refine wp rfl ?_|refine spt rfl ?_|refine spf rfl ?_|(refine spl (fun hc=>?_) fun hc=>?_)<;>(try rw [L1] at hc)<;>try simp only [hc]|(refine gs (fun hb=>?_) fun hb=>?_)<;>try simp only [E7,M9] at hb|refine cp l_ ?_|refine D3 ?_)<;>try simp only [go_sem, *])
      refine ⟨?_,_,rfl,jO.aU5 (O3.box (O3.refl _) (by simp only [go_sem, *]))⟩;exact m8.new (jAg (by repeat (first|exact m8.refl _|assumption|refine m8.new ?_ (l6 _ _)|refine m8.new ?_ (e9 _ _)))) (e9 _ _)):AR c gen k e σ:=h
theorem ah3 {c:Ctx} {gen:Nat} {k:List It} {e:Exit} {σ:St} (h:AR c gen k e σ:=by
      repeat' (first
        | (refine ⟨?_,?_⟩;focus ((repeat' (first|refine And.intro ?_ ?_|refine Or.inr ?_));all_goals kernel_rfl))
        | exact agb l_
        | (first|refine wp rfl ?_|refine spt rfl ?_|refine spf rfl ?_|(refine spl (fun hc=>?_) fun hc=>?_)<;>(try rw [L1] at hc)<;>try simp only [hc]|(refine gs (fun hb=>?_) fun hb=>?_)<;>try simp only [E7,M9] at hb|refine cp l_ ?_|(refine ct l_ ?_ ?_;focus ((simp only [go_sem, *]<;>rfl);done))|(apply ct (d:=d);rotate_left;(focus ((simp only [go_sem, *]<;>rfl);done));rotate_right;(focus (assumption;done)))|refine ct (hNx _ _) (by simp only [go_sem, *]<;>rfl) ?_|refine aX7 g9 hd ?_ ?_ ?_ ?_ ?_)<;>try simp only [go_sem, *])):AR c gen k e σ:=h
theorem ep9 {c:Ctx} {gen:Nat} {k:List It} {e:Exit} {σ:St} {G:Prop} (hh:G) (h:PLift G->AR c gen k e σ:=by
      intro zz
      repeat' (first
        | (refine ⟨?_,?_⟩;focus ((repeat' (first|refine And.intro ?_ ?_|refine Or.inr ?_));all_goals kernel_rfl))
        | exact agb l_
        | (first|refine wp rfl ?_|refine spt rfl ?_|refine spf rfl ?_|(refine spl (fun hc=>?_) fun hc=>?_)<;>(try rw [L1] at hc)<;>try simp only [hc]|(refine gs (fun hb=>?_) fun hb=>?_)<;>try simp only [E7,M9] at hb|refine cp l_ ?_|(refine ct l_ ?_ ?_;focus ((simp only [go_sem, *]<;>rfl);done))|(apply ct (d:=d);rotate_left;(focus ((simp only [go_sem, *]<;>rfl);done));rotate_right;(focus (assumption;done)))|refine ct (hNx _ _) (by simp only [go_sem, *]<;>rfl) ?_|refine aX7 g9 hd ?_ ?_ ?_ ?_ ?_|refine D3 ?_)<;>try simp only [go_sem, *])
      exact zz.down):AR c gen k e σ:=h ⟨hh⟩
theorem en2 {env:Nat->Option (List V)} {f:FuncId} {fn:Func} {body:Code} {args:List V} {h:H} {v:V} {h':H} (hf:Tryz.prog.funcs[f]? = some fn) (rs:List ResultVar) (hb:fn.body=some body:=by rfl) (n8:fn.results.toList=rs:=by rfl)
    (walk:∀ (g0:G) (w0:World) (gen:Nat),Rel env g0 w0 h->(∀ id,h id≠none->id.gen<gen)->(∀ r i,h ⟨gen,r,i⟩=none)->fn.results.toList=rs->AR ⟨Tryz.prog,env,fn.ntmps,fn,g0,w0,h,v,h'⟩ gen [.code body] .normal ⟨aj8 args,h⟩:=by
      intro g0 w0 gen g9 hfr e9 n8;exact ah3)
    (ai1 : (fn.name == "runtime.NumGoroutine") = false := by kernel_rfl) (hok : O2 fn.ntmps body = true := by kernel_rfl) : Ret Tryz.prog env f args h v h' := enter hf rs hb ai1 follows hok n8 walk
theorem n_ {env:Nat->Option (List V)} {f:FuncId} {fn:Func} {body:Code} {args:List V} {h:H} {v:V} {h':H} (hf:Tryz.prog.funcs[f]? = some fn) (rs:List ResultVar) (hb:fn.body=some body:=by rfl) (n8:fn.results.toList=rs:=by rfl)
    (walk:∀ (g0:G) (w0:World) (gen:Nat),Rel env g0 w0 h->(∀ id,h id≠none->id.gen<gen)->(∀ r i,h ⟨gen,r,i⟩=none)->fn.results.toList=rs->AR ⟨Tryz.prog,env,fn.ntmps,fn,g0,w0,h,v,h'⟩ gen [.code body] .normal ⟨aj8 args,h⟩:=by
      intro g0 w0 gen g9 hfr e9 n8;have f1:=n9 hfr hd;have f2:=p6 hfr hd;exact ah3)
    (ai1 : (fn.name == "runtime.NumGoroutine") = false := by kernel_rfl) (hok : O2 fn.ntmps body = true := by kernel_rfl) : Ret Tryz.prog env f args h v h' := enter hf rs hb ai1 follows hok n8 walk
theorem g_ {env:Nat->Option (List V)} {f:FuncId} {fn:Func} {body:Code} {args:List V} {h:H} {v:V} {h':H} (hf:Tryz.prog.funcs[f]? = some fn) (rs:List ResultVar)
    (walk:∀ (g:G) (w:World) (gen:Nat),Rel env g w h->(∀ id,h id≠none->id.gen<gen)->(∀ r i,h ⟨gen,r,i⟩=none)->fn.results.toList=rs->AR ⟨Tryz.prog,env,fn.ntmps,fn,g,w,h,v,h'⟩ gen [.code body] .normal ⟨aj8 args,h⟩)
    (hb : fn.body = some body := by rfl) (n8 : fn.results.toList = rs := by rfl) (ai1 : (fn.name == "runtime.NumGoroutine") = false := by kernel_rfl) (hok : O2 fn.ntmps body = true := by kernel_rfl) : Ret Tryz.prog env f args h v h' := enter hf rs hb ai1 follows hok n8 walk
@[go_sem] theorem ty1:tyi Tryz.prog 1=some ⟨1,8,false,[.V7],[],false,0,0,0,0,false,[],none,false⟩:=by kernel_rfl
@[go_sem] theorem ty2:tyi Tryz.prog 2=some ⟨1,8,false,[.int .i64 0],[],false,2,0,0,0,false,[],some .i64,false⟩:=by kernel_rfl
@[go_sem] theorem ty3:tyi Tryz.prog 3=some ⟨1,8,false,[.int .i64 0],[],false,2,0,0,0,false,[],some .i64,false⟩:=by kernel_rfl
@[go_sem] theorem ty4:tyi Tryz.prog 4=some ⟨1,1,false,[.bool false],[],false,1,0,0,0,false,[],none,false⟩:=by kernel_rfl
@[go_sem] theorem ty5:tyi Tryz.prog 5=some ⟨1,1,false,[.int .u8 0],[],false,2,0,0,0,false,[],some .u8,false⟩:=by kernel_rfl
@[go_sem] theorem eo1:tyi Tryz.prog 22=some ⟨1,24,false,[.sl .full []],[],false,4,0,1,8,false,[.int .i64 0],none,false⟩:=by kernel_rfl
@[go_sem] theorem eo2:tyi Tryz.prog 25=some ⟨1,8,false,[.U3],[],false,7,0,0,0,false,[],none,false⟩:=by kernel_rfl
@[go_sem] theorem eo3:tyi Tryz.prog 27=some ⟨1,24,false,[.sl .full []],[],false,4,0,2,32,true,[.int .i64 0,.sl .full []],none,false⟩:=by kernel_rfl
@[go_sem] theorem eo4:tyi Tryz.prog 29=some ⟨2,32,true,[.int .i64 0,.sl .full []],[(0,1,false),(1,1,false)],true,3,0,0,0,false,[],none,false⟩:=by kernel_rfl
@[go_sem] theorem eo5:tyi Tryz.prog 30=some ⟨1,24,false,[.sl .full []],[],false,4,0,5,72,true,[.int .i64 0,.int .i64 0,.int .i64 0,.sl .full [],.sl .full []],none,false⟩:=by kernel_rfl
@[go_sem] theorem ei4:tyi Tryz.prog 31=some ⟨1,24,false,[.sl .full []],[],false,4,0,5,88,true,[.int .i64 0,.int .i64 0,.sl .full [],.sl .full [],.sl .full []],none,false⟩:=by kernel_rfl
@[go_sem] theorem eo6:tyi Tryz.prog 32=some ⟨1,24,false,[.sl .full []],[],false,4,0,7,120,true,[.int .i64 0,.int .i64 0,.int .i64 0,.sl .full [],.sl .full [],.sl .full [],.sl .full []],none,false⟩:=by kernel_rfl
@[go_sem] theorem eo7:tyi Tryz.prog 34=some ⟨7,120,true,[.int .i64 0,.int .i64 0,.int .i64 0,.sl .full [],.sl .full [],.sl .full [],.sl .full []],[(0,1,false),(1,1,false),(2,2,true),(4,1,false),(5,1,false),(6,1,false)],true,3,0,0,0,false,[],none,false⟩:=by kernel_rfl
@[go_sem] theorem eo8:tyi Tryz.prog 36=some ⟨5,88,true,[.int .i64 0,.int .i64 0,.sl .full [],.sl .full [],.sl .full []],[(0,1,false),(1,2,true),(3,1,false),(4,1,false)],true,3,0,0,0,false,[],none,false⟩:=by kernel_rfl
@[go_sem] theorem eo9:tyi Tryz.prog 38=some ⟨6,112,true,[.int .i64 0,.int .i64 0,.sl .full [],.sl .full [],.sl .full [],.sl .full []],[(0,5,true),(5,1,false)],true,3,0,0,0,false,[],none,false⟩:=by kernel_rfl
@[go_sem] theorem ep0:tyi Tryz.prog 42=some ⟨2,48,true,[.sl .full [],.sl .full []],[(0,1,false),(1,1,false)],true,3,0,0,0,false,[],none,false⟩:=by kernel_rfl
@[go_sem] theorem ep1:tyi Tryz.prog 43=some ⟨1,24,false,[.sl .full []],[],false,4,0,4,64,true,[.int .i64 0,.int .i64 0,.sl .full [],.sl .full []],none,false⟩:=by kernel_rfl
@[go_sem] theorem ep2:tyi Tryz.prog 44=some ⟨1,8,false,[.int .i64 0],[],false,2,0,0,0,false,[],some .i64,false⟩:=by kernel_rfl
@[go_sem] theorem ep3:tyi Tryz.prog 52=some ⟨5,72,true,[.int .i64 0,.int .i64 0,.int .i64 0,.sl .full [],.sl .full []],[(0,1,false),(1,1,false),(2,2,true),(4,1,false)],true,3,0,0,0,false,[],none,false⟩:=by kernel_rfl
@[go_sem] theorem ep4:tyi Tryz.prog 55=some ⟨4,64,true,[.int .i64 0,.int .i64 0,.sl .full [],.sl .full []],[(0,1,false),(1,1,false),(2,1,false),(3,1,false)],true,3,0,0,0,false,[],none,false⟩:=by kernel_rfl
@[go_sem] theorem ep5:tyi Tryz.prog 57=some ⟨2,32,true,[.sl .full [],.int .i64 0],[(0,1,false),(1,1,false)],true,3,0,0,0,false,[],none,false⟩:=by kernel_rfl
@[go_sem] theorem ep6:tyi Tryz.prog 64=some ⟨6,112,true,[.sl .full [],.int .i64 0,.int .i64 0,.sl .full [],.sl .full [],.sl .full []],[(0,1,false),(1,5,true)],true,3,0,0,0,false,[],none,false⟩:=by kernel_rfl
@[go_sem] theorem ep7:tyi Tryz.prog 68=some ⟨1,8,false,[.V7],[],false,0,0,0,0,false,[],none,false⟩:=by kernel_rfl
@[go_sem] theorem ep8:tyi Tryz.prog 99=some ⟨3,72,true,[.sl .full [],.sl .full [],.sl .full []],[(0,1,false),(1,1,false),(2,1,false)],true,3,0,0,0,false,[],none,false⟩:=by kernel_rfl
@[go_sem] theorem ej9:tyi Tryz.prog 108=some ⟨1,8,false,[.V7],[],false,0,0,0,0,false,[],none,false⟩:=by kernel_rfl
@[go_sem] theorem ek0:tyi Tryz.prog 139=some ⟨1,24,false,[.sl .full []],[],false,4,0,3,40,true,[.int .i64 0,.sl .full [],.int .i64 0],none,false⟩:=by kernel_rfl
@[go_sem] theorem ek1:tyi Tryz.prog 144=some ⟨1,1,false,[.int .u8 0],[],false,2,0,0,0,false,[],some .u8,false⟩:=by kernel_rfl
@[go_sem] theorem ek2:tyi Tryz.prog 150=some ⟨1,8,false,[.V7],[],false,0,0,0,0,false,[],none,false⟩:=by kernel_rfl
@[go_sem] theorem ek3:tyi Tryz.prog 163=some ⟨1,8,false,[.U3],[],false,7,0,0,0,false,[],none,false⟩:=by kernel_rfl
@[go_sem] theorem ek4:tyi Tryz.prog 165=some ⟨3,24,true,[.int .i64 0,.int .i64 0,.int .i64 0],[(0,1,false),(1,1,false),(2,1,false)],true,3,0,0,0,false,[],none,false⟩:=by kernel_rfl
@[go_sem] theorem ek5:tyi Tryz.prog 178=some ⟨5,32,true,[.int .i64 0,.int .i64 0,.int .i64 0,.bool false,.bool false],[(0,1,false),(1,1,false),(2,1,false),(3,1,false),(4,1,false)],true,3,0,0,0,false,[],none,false⟩:=by kernel_rfl
@[go_sem] theorem ek6:tyi Tryz.prog 188=some ⟨3,40,true,[.int .i64 0,.sl .full [],.int .i64 0],[(0,2,true),(2,1,false)],true,3,0,0,0,false,[],none,false⟩:=by kernel_rfl
@[go_sem] theorem ek7:tyi Tryz.prog 193=some ⟨1,8,false,[.V7],[],false,0,0,0,0,false,[],none,false⟩:=by kernel_rfl
@[go_sem] theorem ek8:tyi Tryz.prog 204=some ⟨1,8,false,[.V7],[],false,0,0,0,0,false,[],none,false⟩:=by kernel_rfl
@[go_sem] theorem ek9:tyi Tryz.prog 206=some ⟨1,8,false,[.V7],[],false,0,0,0,0,false,[],none,false⟩:=by kernel_rfl
@[go_sem] theorem el0:tyi Tryz.prog 210=some ⟨10,144,true,[.int .i64 0,.int .i64 0,.int .i64 0,.sl .full [],.sl .full [],.int .i64 0,.int .i64 0,.int .i64 0,.sl .full [],.sl .full []],[(0,5,true),(5,5,true)],true,3,0,0,0,false,[],none,false⟩:=by kernel_rfl
@[go_sem] theorem el1:tyi Tryz.prog 212=some ⟨10,176,true,[.int .i64 0,.int .i64 0,.sl .full [],.sl .full [],.sl .full [],.int .i64 0,.int .i64 0,.sl .full [],.sl .full [],.sl .full []],[(0,5,true),(5,5,true)],true,3,0,0,0,false,[],none,false⟩:=by kernel_rfl
@[go_sem] theorem el2:tyi Tryz.prog 214=some ⟨10,176,true,[.int .i64 0,.int .i64 0,.sl .full [],.sl .full [],.sl .full [],.int .i64 0,.int .i64 0,.sl .full [],.sl .full [],.sl .full []],[(0,5,true),(5,5,true)],true,3,0,0,0,false,[],none,false⟩:=by kernel_rfl
@[go_sem] theorem el3:tyi Tryz.prog 218=some ⟨11,168,true,[.bool false,.int .i64 0,.int .i64 0,.int .i64 0,.sl .full [],.sl .full [],.int .i64 0,.int .i64 0,.sl .full [],.sl .full [],.sl .full []],[(0,1,false),(1,5,true),(6,5,true)],true,3,0,0,0,false,[],none,false⟩:=by kernel_rfl
@[go_sem] theorem el4:tyi Tryz.prog 249=some ⟨1,8,false,[.V7],[],false,0,0,0,0,false,[],none,false⟩:=by kernel_rfl
@[go_sem] theorem el5:tyi Tryz.prog 257=some ⟨9,120,true,[.int .i64 0,.sl .full [],.int .i64 0,.int .i64 0,.sl .full [],.int .i64 0,.int .i64 0,.sl .full [],.int .i64 0],[],false,5,3,3,40,true,[.int .i64 0,.sl .full [],.int .i64 0],none,false⟩:=by kernel_rfl
@[go_sem] theorem el6:tyi Tryz.prog 259=some ⟨14,112,true,[.int .i64 0,.int .i64 0,.int .i64 0,.int .i64 0,.int .i64 0,.int .i64 0,.int .i64 0,.int .i64 0,.int .i64 0,.int .i64 0,.int .i64 0,.int .i64 0,.int .i64 0,.int .i64 0],[],false,5,14,1,8,false,[.int .i64 0],none,false⟩:=by kernel_rfl
@[go_sem] theorem el7:tyi Tryz.prog 288=some ⟨1,24,false,[.sl .full []],[],false,4,0,1,16,false,[.L3],none,false⟩:=by kernel_rfl
@[go_sem] theorem el8:tyi Tryz.prog 290=some ⟨1,16,false,[.L3],[],false,8,0,0,0,false,[],none,false⟩:=by kernel_rfl
@[go_sem] theorem el9:tyi Tryz.prog 292=some ⟨1,8,false,[.U3],[],false,7,0,0,0,false,[],none,false⟩:=by kernel_rfl
@[go_sem] theorem em0:tyi Tryz.prog 294=some ⟨2,16,true,[.int .i64 0,.int .i64 0],[(0,1,false),(1,1,false)],true,3,0,0,0,false,[],none,false⟩:=by kernel_rfl
@[go_sem] theorem em1:tyi Tryz.prog 300=some ⟨1,8,false,[.U3],[],false,7,0,0,0,false,[],none,false⟩:=by kernel_rfl
@[go_sem] theorem em2:tyi Tryz.prog 302=some ⟨2,16,true,[.int .i64 0,.U3],[(0,1,false),(1,1,false)],true,3,0,0,0,false,[],none,true⟩:=by kernel_rfl
@[go_sem] theorem em3:tyi Tryz.prog 303=some ⟨1,8,false,[.U3],[],false,7,0,0,0,false,[],none,false⟩:=by kernel_rfl
@[go_sem] theorem em4:tyi Tryz.prog 305=some ⟨2,32,true,[.L3,.L3],[(0,1,false),(1,1,false)],true,3,0,0,0,false,[],none,true⟩:=by kernel_rfl
@[go_sem] theorem em5:tyi Tryz.prog 307=some ⟨0,0,true,[],[],true,3,0,0,0,false,[],none,false⟩:=by kernel_rfl
@[go_sem] theorem em6:tyi Tryz.prog 308=some ⟨1,8,false,[.U3],[],false,7,0,0,0,false,[],none,false⟩:=by kernel_rfl
@[go_sem] theorem em7:tyi Tryz.prog 310=some ⟨1,8,false,[.U3],[],false,7,0,0,0,false,[],none,false⟩:=by kernel_rfl
@[go_sem] theorem em8:tyi Tryz.prog 312=some ⟨6,80,true,[.int .i64 0,.int .i64 0,.int .i64 0,.sl .full [],.sl .full [],.U3],[(0,5,true),(5,1,false)],true,3,0,0,0,false,[],none,true⟩:=by kernel_rfl
@[go_sem] theorem em9:tyi Tryz.prog 313=some ⟨3,48,true,[.L3,.L3,.L3],[],false,5,3,1,16,false,[.L3],none,false⟩:=by kernel_rfl
@[go_sem] theorem en0:tyi Tryz.prog 318=some ⟨2,24,true,[.L3,.U3],[(0,1,false),(1,1,false)],true,3,0,0,0,false,[],none,true⟩:=by kernel_rfl
@[go_sem] theorem en1:tyi Tryz.prog 319=some ⟨1,24,false,[.sl .full []],[],false,4,0,1,8,false,[.U3],none,false⟩:=by kernel_rfl
@[go_sem] theorem ej7:cr1 Tryz.prog 221=true:=by kernel_rfl
end Go.Proofs.YtmfhhhhnokhggaaGreatDoor
