/-
 Walks: several parts in one text.
-/
import Derived.Test.YtmnplkmphgkooaaGreatDoorTz
import Derived.Test.YtmnplkmphgkooaaGreatDoorMb
import Derived.Test.YtmnplkmphgkooaaGreatDoorMa
import Derived.Test.YtmnplkmphgkooaaGreatDoorAbsC
import Derived.Test.YtmnplkmphgkooaaGreatDoorMn
set_option linter.unusedSimpArgs false
set_option linter.unusedVariables false
set_option maxRecDepth 20000
set_option maxHeartbeats 4000000
namespace Go.Proofs.YtmnplkmphgkooaaGreatDoor
open Go GoAbs Go.Proofs
theorem hset_id {h:H} {d:GoAbs.Id} {o:GoAbs.Obj} (hd:h d=some o):hset h d o=h:=by
 funext j
 by_cases e:j=d
 ·subst e;rw [hset_same,hd]
 ·rw [hset_other e]
theorem c_PutFormula1 (s:Tm) (hs:TmW s) (A d:GoAbs.Id) (cs:List V) (t:Tm) (ht:TmW t) (b:Int) (u:Unit) :
  TurnsE Tryz.prog env 193 (.agg t.cells::.int .i64 b::[.ptr A 0]) [(A,.box s.cells)] d (.box cs) (.agg (tmSp s 0 t b).cells) (.box cs):=by
 intro h he hd
 simp only [List.mem_cons,List.not_mem_nil,or_false,forall_eq] at he
 rw [hset_id hd]
 have hc:=c_sput s hs 0 t ht b
 have hin:∀ S,InV S (V.agg (tmSp s 0 t b).cells):=fun S=>by simp [InV,InL_Tm]
 generalize tmSp s 0 t b=x at *
 clear hd
 refine en_ Tryz.func193 [.cell 5 32] fun g0 w0 gen hrel hfr hfr' hres=>?_
 have f1:=fresh_ne hfr he
 have f2:=fresh_ne' hfr he
 exact wk_
theorem c_PutFormula (f:Fm) (hf:FmW f) (s:Tm) (hs:TmW s):Pure Tryz.prog env 168 [.agg f.cells,.agg s.cells] (.agg (f.sp s).cells):=by
 intro h
 unfold Fm.sp
 refine en_ Tryz.func168 [.cell 4 36] fun g0 w0 gen hrel hfr hfr' hres=>?_
 have nA:(⟨gen,0,1⟩:GoAbs.Id)≠⟨gen,0,0⟩:=by simp
 have hc:=c_sEach (fun _:Unit=>f.cells) (fun t b=>tmSp s 0 t b) (fun _ _ u=>u) 193 [.ptr ⟨gen,0,1⟩ 0] rfl (fun _ _=>InL_Fm f) ⟨gen,0,1⟩ ⟨gen,0,0⟩ (.box s.cells) nA
  (fun t ht b u=>c_PutFormula1 s hs _ _ _ t ht b u) f hf 0 ()
 clear nA
 generalize f.ev (fun t b=>tmSp s 0 t b) 0=g at hc ⊢
 repeat' (first
  |exact hin _|exact agf (by assumption)
  | (first|refine wp rfl ?_|(refine Call1_turnE (hc) ?_ ?_ ?_;(focus ((simp only [go_sem, *]<;>(repeat (first|assumption|rfl|refine And.intro ?_ ?_)));done));(focus ((simp only [go_sem, *]<;>first|rfl|assumption);done)))|refine finF hrel ?_ ?_ ?_)<;>try simp only [go_sem, *])
theorem c_Grown1 (m:Int) (A d:GoAbs.Id) (nA:A≠d) (t:Tm) (ht:TmW t) (b n:Int) :
  TurnsE Tryz.prog env 191 (.agg t.cells::.int .i64 b::[.ptr d 0,.ptr A 0]) [(A,.box [.int .i64 m])] d (.box [.int .i64 n]) (.agg t.cells) (.box [.int .i64 (grownG m t b n)]):=by
 intro h he hd
 simp only [List.mem_cons,List.not_mem_nil,or_false,forall_eq] at he
 have n3:(A=d)=False:=by simpa using nA
 have hc:=c_uses t ht b
 have hw:IntKind.i64.wrap (m * t.us b)=mulW m (t.us b):=rfl
 have hw1:IntKind.i64.wrap (n+mulW m (t.us b))=addW n (mulW m (t.us b)):=rfl
 unfold grownG
 generalize t.us b=u at *
 generalize mulW m u=p at *
 generalize addW n p=q at *
 clear nA
 refine en_ Tryz.func191 [.cell 6 32] fun g0 w0 gen hrel hfr hfr' hres=>?_
 have f1:=fresh_ne hfr hd
 have f2:=fresh_ne' hfr hd
 have f3:=fresh_ne hfr he
 have f4:=fresh_ne' hfr he
 exact wkT_
theorem c_Grown (f:Fm) (hf:FmW f) (s:Tm) (hs:TmW s):Pure Tryz.prog env 166 [.agg f.cells,.agg s.cells] (.int .i64 (f.grown s)):=by
 intro h
 unfold Fm.grown
 have h1:=c_Size f hf
 have h2:=c_Nodes s hs
 have hw:IntKind.i64.wrap (s.szW - 1)=subW s.szW 1:=rfl
 generalize s.szW=z at *
 generalize subW z 1=m at *
 generalize f.szW=n0 at *
 refine en_ Tryz.func166 [.tmp 4] fun g0 w0 gen hrel hfr hfr' hres=>?_
 have nA:(⟨gen,1,6⟩:GoAbs.Id)≠⟨gen,1,5⟩:=by simp
 have hc:=c_sEach (fun n:Int=>[V.int .i64 n]) (fun t _=>t) (grownG m) 191 [.ptr ⟨gen,1,5⟩ 0,.ptr ⟨gen,1,6⟩ 0] rfl (fun _ _=>by simp [InL,InV]) ⟨gen,1,6⟩ ⟨gen,1,5⟩ (.box [.int .i64 m]) nA
  (fun t ht b n=>c_Grown1 m _ _ nA t ht b n) f hf 0 n0
 clear nA
 generalize f.ev (fun t _=>t) 0=g at hc ⊢
 generalize f.es (grownG m) 0 n0=r at hc ⊢
 repeat' (first
  |(refine ⟨?_,?_⟩;focus ((repeat' (first|refine ⟨?_,?_⟩|refine .inr ?_));all_goals kernel_rfl))
  |exact hin _|exact agf (by assumption)
  | (first|refine wp rfl ?_|refine cp h1 ?_|refine cp h2 ?_|(refine Call1_turnE (hc) ?_ ?_ ?_;(focus ((simp only [go_sem, *]<;>(repeat (first|assumption|rfl|refine And.intro ?_ ?_)));done));(focus ((simp only [go_sem, *]<;>first|rfl|assumption);done)))|refine finF hrel ?_ ?_ ?_)<;>try simp only [go_sem, *])
theorem c_FarFormula1 (A d:GoAbs.Id) (oA:GoAbs.Obj) (nA:A≠d) (t:Tm) (ht:TmW t) (b:Int) (s:Bool) :
  TurnsE Tryz.prog env 120 (.agg t.cells::.int .i64 b::[.ptr d 0]) [(A,oA)] d (.box [.bool s]) (.agg t.cells) (.box [.bool (farG t b s)]):=by
 intro h he hd
 clear he nA
 have hc:=c_Far t ht
 unfold farG
 generalize (!t.least 268435456)=u at *
 cases s
 all_goals
  simp only [Bool.false_or,Bool.true_or]
  refine en_ Tryz.func120 [.cell 5 32] fun g0 w0 gen hrel hfr hfr' hres=>?_
  have f1:=fresh_ne hfr hd
  have f2:=fresh_ne' hfr hd
  exact wkT_
theorem c_FarFormula (f:Fm) (hf:FmW f):Pure Tryz.prog env 75 [.agg f.cells] (.bool f.far):=by
 intro h
 unfold Fm.far
 refine en_ Tryz.func75 [.tmp 2] fun g0 w0 gen hrel hfr hfr' hres=>?_
 have nA:(⟨gen,0,0⟩:GoAbs.Id)≠⟨gen,1,0⟩:=by simp
 have hc:=c_sEach (fun n:Bool=>[V.bool n]) (fun t _=>t) farG 120 [.ptr ⟨gen,1,0⟩ 0] rfl (fun _ _=>by simp [InL,InV]) ⟨gen,0,0⟩ ⟨gen,1,0⟩ (.box f.cells) nA
  (fun t ht b n=>c_FarFormula1 _ _ _ nA t ht b n) f hf 0 false
 clear nA
 generalize f.ev (fun t _=>t) 0=g at hc ⊢
 generalize f.es farG 0 false=r at hc ⊢
 repeat' (first
  |exact hin _|exact agf (by assumption)
  | (first|refine wp rfl ?_|(refine Call1_turnE (hc) ?_ ?_ ?_;(focus ((simp only [go_sem, *]<;>(repeat (first|assumption|rfl|refine And.intro ?_ ?_)));done));(focus ((simp only [go_sem, *]<;>first|rfl|assumption);done)))|refine finF hrel ?_ ?_ ?_)<;>try simp only [go_sem, *])
theorem zeroF_W':FmW zeroF:=.mk _ _ _ _ tZero_W (by simp) (by simp) (by simp) (by simp)
theorem fsp_W {s:Tm} (hs:TmW s):∀ (f:Fm) (d:Int),FmW f→FmW (f.ev (fun t b=>tmSp s 0 t b) d):=by
 intro f
 induction f using Fm.ind with|h f ih=>?_
 intro d hf
 rw [Fm.ev_eq]
 refine .mk _ _ _ _ hf.ty (by rw [List.length_map];exact hf.tlen) ?_ (by rw [List.length_map];exact hf.len) ?_
 ·intro x hx
  obtain ⟨y,hy,rfl⟩:=List.mem_map.1 hx
  exact sp_W hs _ _ (hf.term hy)
 ·intro x hx
  obtain ⟨y,hy,rfl⟩:=List.mem_map.1 hx
  exact ih y hy _ (hf.arg hy)
end Go.Proofs.YtmnplkmphgkooaaGreatDoor
