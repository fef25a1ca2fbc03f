/-
 Walks: several parts in one text.
-/
import Derived.Test.YtmnplkmphgkooaaGreatDoorOp
import Derived.Test.YtmnplkmphgkooaaGreatDoorMu
import Derived.Test.YtmnplkmphgkooaaGreatDoorAbsDc
import Derived.Test.YtmnplkmphgkooaaGreatDoorTn
import Derived.Test.YtmnplkmphgkooaaGreatDoorMf
import Derived.Shelf.Abstract
import Derived.OwnWalkIn
import Derived.TacticsInMore
import Derived.LoopNIn
import Derived.LoopIn
set_option linter.unusedSimpArgs false
set_option linter.unusedVariables false
set_option maxRecDepth 20000
set_option maxHeartbeats 4000000
namespace Go.Proofs.YtmnplkmphgkooaaGreatDoor
open Go GoAbs Go.Proofs
theorem c_vneg (n:Int):Pure Tryz.prog env 169 [.int .i64 n] (.bool (decide (n<0))):=by
 intro h
 refine en_ Tryz.func169 [.tmp 2] fun g0 w0 gen hrel hfr hfr' hres=>?_
 repeat' (first
  |exact hin _|exact agf (by assumption)
  | (first|refine wp rfl ?_|refine finF hrel ?_ ?_ ?_)<;>try simp only [go_sem, *])
theorem c_indexFunc (l:List Nat) (hlen:l.length≤5000):Pure Tryz.prog env 195 [.sl .any (ints (l.map fun (n:Nat)=>(n:Int))),.fn (.func 169) [] []] (.int .i64 (-1)):=by
 intro h
 have hln:=ints_nat_len l
 have hget:=fun i x=>ints_at (l:=l) (i:=i) (x:=x)
 generalize ints (l.map fun (n:Nat)=>(n:Int))=L at *
 refine en_ Tryz.func195 [.tmp 4] fun g0 w0 gen hrel hfr hfr' hres=>?_
 repeat' (first
  |exact hin _|exact agf (by assumption)
  | (first|refine wp rfl ?_|refine spt rfl ?_|refine spf rfl ?_|(refine spl (fun hc=>?_) fun hc=>?_)<;>(try rw [beq_iff_eq] at hc)<;>try simp only [hc]|refine finF hrel ?_ ?_ ?_)<;>try simp only [go_sem, *])
 refine ar_ [0,1] [] (fun i σ=>Agree h σ.h∧True) (l).length ?_ ?_ ?_
 ·simp only [go_sem, *]
  exact ag_
 ·
  intro i σ gr0 hgl_gr0 hgn hlt jI jN jS ⟨jA,_⟩
  obtain ⟨jT,jB⟩:=jS
  simp only [go_sem] at jT jB
  obtain ⟨hgf,hgf0,eg_gen_gr0,eh_gen_gr0⟩:=rnd hgn hgl_gr0 jA
  obtain ⟨x,hx,hxm,hm⟩:=rnx hlt
  clear hgn
  have hg:=hget i x hx
  have hc:=c_vneg (x:Int)
  rw [show decide ((x:Int)<0)=false by simp] at hc
  clear hget
  repeat' (first
   |exact hin _|exact agf (by assumption)
   | (first|refine wp rfl ?_|refine spt rfl ?_|refine spf rfl ?_|(refine spl (fun hc=>?_) fun hc=>?_)<;>(try rw [beq_iff_eq] at hc)<;>try simp only [hc]|refine AR_inv ?_|refine cp hc ?_|refine finF hrel ?_ ?_ ?_)<;>try simp only [go_sem, *])
 ·
  intro σ ga0 hgl_ga0 hgn jS ⟨jA,_⟩
  obtain ⟨jT,jB⟩:=jS
  simp only [go_sem] at jT jB
  obtain ⟨hgf,hgf0,eg_gen_ga0,eh_gen_ga0⟩:=rnd hgn hgl_ga0 jA
  clear hgn
  clear hget
  repeat' (first
   |exact hin _|exact agf (by assumption)
   | (first|refine wp rfl ?_|refine spt rfl ?_|refine spf rfl ?_|(refine spl (fun hc=>?_) fun hc=>?_)<;>(try rw [beq_iff_eq] at hc)<;>try simp only [hc]|refine finF hrel ?_ ?_ ?_)<;>try simp only [go_sem, *])
theorem c_containsF (l:List Nat) (hlen:l.length≤5000):Pure Tryz.prog env 170 [.sl .any (ints (l.map fun (n:Nat)=>(n:Int))),.fn (.func 169) [] []] (.bool false):=by
 intro h
 have h1:=c_indexFunc l hlen
 have d1:decide ((-1:Int)≥0)=false:=rfl
 have hwL:weakLL (ints (l.map fun (n:Nat)=>(n:Int)))=ints (l.map fun (n:Nat)=>(n:Int)):=weakLL_ints _
 generalize ints (l.map fun (n:Nat)=>(n:Int))=L at *
 refine en_ Tryz.func170 [.tmp 4] fun g0 w0 gen hrel hfr hfr' hres=>?_
 repeat' (first
  |exact hin _|exact agf (by assumption)
  | (first|refine wp rfl ?_|refine cp h1 ?_|refine finF hrel ?_ ?_ ?_)<;>try simp only [go_sem, *])
theorem sum_take2:∀ {l:List Nat} {i n:Nat},l[i]? = some n→(l.take (i+1)).sum=(l.take i).sum+n
 | [],i,n,h=>by simp at h
 | y::l,0,n,h=>by simp at h;subst h;simp
 | y::l,i+1,n,h=>by
  have:=sum_take2 (l:=l) (i:=i) (n:=n) (by simpa using h)
  rw [List.take_succ_cons,List.take_succ_cons,List.sum_cons,List.sum_cons,this];omega
theorem c_pNodes {a:Ty} {v:PVl} {t:Tm} (hv:IsVl a v t):tmSz t≤4096→tySz a≤1000→Pure Tryz.prog env 129 [.agg v.cells] (.tup [.int .i64 (tySz a),.bool true]):=by
 induction hv with
 | num n =>
  intro hz ha h
  rw [tySz_nat]
  have d1:decide ((n:Int)≥0)=true:=by simp
  clear hz ha
  rw [PVl.mk_cells]
  have dt:decide True=true:=rfl
  have z0:(((0:Nat):Int)==0)=true:=rfl
  have z2:(((2:Nat):Int)==2)=true:=rfl
  refine en_ Tryz.func129 [.tmp 2,.tmp 3] fun g0 w0 gen hrel hfr hfr' hres=>?_
  repeat' (first
   |exact hin _|exact agf (by assumption)
   | (first|refine wp rfl ?_|refine spt rfl ?_|refine spf rfl ?_|(refine spl (fun hc=>?_) fun hc=>?_)<;>(try rw [beq_iff_eq] at hc)<;>try simp only [hc]|(refine gs (fun hb=>?_) fun hb=>?_)<;>try simp only [Bool.not_true,Bool.not_false] at hb|refine finF hrel ?_ ?_ ?_)<;>try simp only [go_sem, *])
  refine ar_ [2,3,82] [] (fun i σ=>Agree h σ.h∧σ.tm 5=.bool true∧σ.tm 6=.int .i64 1) (([]:List PVl)).length ?_ ?_ ?_
  ·simp only [go_sem, *]
   exact ag_
  ·
   intro i σ gr0 hgl_gr0 hgn hlt jI jN jS ⟨jA,j5,j6⟩
   obtain ⟨jT,jB⟩:=jS
   simp only [go_sem] at jT jB
   obtain ⟨hgf,hgf0,eg_gen_gr0,eh_gen_gr0⟩:=rnd hgn hgl_gr0 jA
   obtain ⟨x,hx,hxm,hm⟩:=rnx hlt
   clear hgn
   simp at hx
  ·
   intro σ ga0 hgl_ga0 hgn jS ⟨jA,j5,j6⟩
   obtain ⟨jT,jB⟩:=jS
   simp only [go_sem] at jT jB
   obtain ⟨hgf,hgf0,eg_gen_ga0,eh_gen_ga0⟩:=rnd hgn hgl_ga0 jA
   clear hgn
   repeat' (first
    |exact hin _|exact agf (by assumption)
    | (first|refine wp rfl ?_|refine spt rfl ?_|refine spf rfl ?_|(refine spl (fun hc=>?_) fun hc=>?_)<;>(try rw [beq_iff_eq] at hc)<;>try simp only [hc]|(refine gs (fun hb=>?_) fun hb=>?_)<;>try simp only [Bool.not_true,Bool.not_false] at hb|refine finF hrel ?_ ?_ ?_)<;>try simp only [go_sem, *])
   rfl
 | list l =>
  intro hz ha h
  rw [tySz_list]
  rw [listT_sz] at hz
  obtain ⟨_,hlen⟩:=IsVl.mem hz
  have h1:=c_containsF l (by omega)
  have hwL:weakLL (ints (l.map fun (n:Nat)=>(n:Int)))=ints (l.map fun (n:Nat)=>(n:Int)):=weakLL_ints _
  clear hz ha
  rw [PVl.mk_cells]
  generalize ints (l.map fun (n:Nat)=>(n:Int))=L at *
  have dt:decide True=true:=rfl
  have z0:(((0:Nat):Int)==0)=true:=rfl
  have z2:(((2:Nat):Int)==2)=true:=rfl
  refine en_ Tryz.func129 [.tmp 2,.tmp 3] fun g0 w0 gen hrel hfr hfr' hres=>?_
  repeat' (first
   |exact hin _|exact agf (by assumption)
   | (first|refine wp rfl ?_|refine spt rfl ?_|refine spf rfl ?_|(refine spl (fun hc=>?_) fun hc=>?_)<;>(try rw [beq_iff_eq] at hc)<;>try simp only [hc]|(refine gs (fun hb=>?_) fun hb=>?_)<;>try simp only [Bool.not_true,Bool.not_false] at hb|refine cp h1 ?_|refine finF hrel ?_ ?_ ?_)<;>try simp only [go_sem, *])
  refine ar_ [2,3,82] [] (fun i σ=>Agree h σ.h∧σ.tm 5=.bool true∧σ.tm 6=.int .i64 1) (([]:List PVl)).length ?_ ?_ ?_
  ·simp only [go_sem, *]
   exact ag_
  ·
   intro i σ gr0 hgl_gr0 hgn hlt jI jN jS ⟨jA,j5,j6⟩
   obtain ⟨jT,jB⟩:=jS
   simp only [go_sem] at jT jB
   obtain ⟨hgf,hgf0,eg_gen_gr0,eh_gen_gr0⟩:=rnd hgn hgl_gr0 jA
   obtain ⟨x,hx,hxm,hm⟩:=rnx hlt
   clear hgn
   simp at hx
  ·
   intro σ ga0 hgl_ga0 hgn jS ⟨jA,j5,j6⟩
   obtain ⟨jT,jB⟩:=jS
   simp only [go_sem] at jT jB
   obtain ⟨hgf,hgf0,eg_gen_ga0,eh_gen_ga0⟩:=rnd hgn hgl_ga0 jA
   clear hgn
   repeat' (first
    |exact hin _|exact agf (by assumption)
    | (first|refine wp rfl ?_|refine spt rfl ?_|refine spf rfl ?_|(refine spl (fun hc=>?_) fun hc=>?_)<;>(try rw [beq_iff_eq] at hc)<;>try simp only [hc]|(refine gs (fun hb=>?_) fun hb=>?_)<;>try simp only [Bool.not_true,Bool.not_false] at hb|refine finF hrel ?_ ?_ ?_)<;>try simp only [go_sem, *])
   rfl
 | unit =>
  intro hz ha h
  rw [tySz_unit]
  clear hz ha
  rw [PVl.mk_cells]
  have dt:decide True=true:=rfl
  have z0:(((0:Nat):Int)==0)=true:=rfl
  have z2:(((2:Nat):Int)==2)=true:=rfl
  refine en_ Tryz.func129 [.tmp 2,.tmp 3] fun g0 w0 gen hrel hfr hfr' hres=>?_
  repeat' (first
   |exact hin _|exact agf (by assumption)
   | (first|refine wp rfl ?_|refine spt rfl ?_|refine spf rfl ?_|(refine spl (fun hc=>?_) fun hc=>?_)<;>(try rw [beq_iff_eq] at hc)<;>try simp only [hc]|(refine gs (fun hb=>?_) fun hb=>?_)<;>try simp only [Bool.not_true,Bool.not_false] at hb|refine finF hrel ?_ ?_ ?_)<;>try simp only [go_sem, *])
  refine ar_ [2,3,82] [] (fun i σ=>Agree h σ.h∧σ.tm 5=.bool true∧σ.tm 6=.int .i64 1) (([]:List PVl)).length ?_ ?_ ?_
  ·simp only [go_sem, *]
   exact ag_
  ·
   intro i σ gr0 hgl_gr0 hgn hlt jI jN jS ⟨jA,j5,j6⟩
   obtain ⟨jT,jB⟩:=jS
   simp only [go_sem] at jT jB
   obtain ⟨hgf,hgf0,eg_gen_gr0,eh_gen_gr0⟩:=rnd hgn hgl_gr0 jA
   obtain ⟨x,hx,hxm,hm⟩:=rnx hlt
   clear hgn
   simp at hx
  ·
   intro σ ga0 hgl_ga0 hgn jS ⟨jA,j5,j6⟩
   obtain ⟨jT,jB⟩:=jS
   simp only [go_sem] at jT jB
   obtain ⟨hgf,hgf0,eg_gen_ga0,eh_gen_ga0⟩:=rnd hgn hgl_ga0 jA
   clear hgn
   repeat' (first
    |exact hin _|exact agf (by assumption)
    | (first|refine wp rfl ?_|refine spt rfl ?_|refine spf rfl ?_|(refine spl (fun hc=>?_) fun hc=>?_)<;>(try rw [beq_iff_eq] at hc)<;>try simp only [hc]|(refine gs (fun hb=>?_) fun hb=>?_)<;>try simp only [Bool.not_true,Bool.not_false] at hb|refine finF hrel ?_ ?_ ?_)<;>try simp only [go_sem, *])
   rfl
 | @pair a b x y s t _ _ ih1 ih2 =>
  intro hz ha h
  rw [tmSz_2] at hz
  rw [tySz_pair] at ha ⊢
  have hc:∀ (i:Nat) (z:PVl),[x,y][i]? = some z→∃ n:Nat,[tySz a,tySz b][i]? = some n∧Pure Tryz.prog env 129 [.agg z.cells] (.tup [.int .i64 n,.bool true]):=by
   intro i z hz'
   match i with
   | 0=>simp at hz';subst hz';exact ⟨_,rfl,ih1 (by omega) (by omega)⟩
   | 1=>simp at hz';subst hz';exact ⟨_,rfl,ih2 (by omega) (by omega)⟩
   | i+2=>simp at hz'
  have hsum:∀ i,([tySz a,tySz b].take i).sum≤1000:=by
   intro i
   match i with
   | 0=>simp
   | 1=>simp;omega
   | i+2=>simp;omega
  have hend:1+([tySz a,tySz b].take 2).sum=tySz a+tySz b+1:=by simp;omega
  clear ih1 ih2 hz ha
  generalize tySz a+tySz b+1=R at *
  generalize [tySz a,tySz b]=ns at *
  have h2:[x,y].length=2:=rfl
  rw [PVl.mk_cells]
  generalize [x,y]=xs at *
  have dt:decide True=true:=rfl
  have z0:(((0:Nat):Int)==0)=true:=rfl
  have z2:(((2:Nat):Int)==2)=true:=rfl
  refine en_ Tryz.func129 [.tmp 2,.tmp 3] fun g0 w0 gen hrel hfr hfr' hres=>?_
  repeat' (first
   |exact hin _|exact agf (by assumption)
   | (first|refine wp rfl ?_|refine spt rfl ?_|refine spf rfl ?_|(refine spl (fun hc=>?_) fun hc=>?_)<;>(try rw [beq_iff_eq] at hc)<;>try simp only [hc]|(refine gs (fun hb=>?_) fun hb=>?_)<;>try simp only [Bool.not_true,Bool.not_false] at hb|refine finF hrel ?_ ?_ ?_)<;>try simp only [go_sem, *])
  refine ar_ [2,3,82] [] (fun i σ=>Agree h σ.h∧σ.tm 5=.bool true∧σ.tm 6=.int .i64 ((1+(ns.take i).sum:Nat):Int)) (xs).length ?_ ?_ ?_
  ·simp only [go_sem, *]
   exact ⟨ag_,rfl⟩
  ·
   intro i σ gr0 hgl_gr0 hgn hlt jI jN jS ⟨jA,j5,j6⟩
   obtain ⟨jT,jB⟩:=jS
   simp only [go_sem] at jT jB
   obtain ⟨hgf,hgf0,eg_gen_gr0,eh_gen_gr0⟩:=rnd hgn hgl_gr0 jA
   obtain ⟨x,hx,hxm,hm⟩:=rnx hlt
   clear hgn
   obtain ⟨n,hn,h1⟩:=hc i x hx
   have hs:=sum_take2 hn
   have hb:=hsum (i+1)
   have hw1:IntKind.i64.wrap (((1+(ns.take i).sum:Nat):Int)+(n:Int))=((1+(ns.take (i+1)).sum:Nat):Int):=wrap_eq (by omega) (by omega) (by omega)
   clear hc hsum hb hs hn hend
   generalize 1+(ns.take (i+1)).sum=s2 at *
   generalize 1+(ns.take i).sum=s1 at *
   repeat' (first
    |exact hin _|exact agf (by assumption)
    | (first|refine wp rfl ?_|refine spt rfl ?_|refine spf rfl ?_|(refine spl (fun hc=>?_) fun hc=>?_)<;>(try rw [beq_iff_eq] at hc)<;>try simp only [hc]|(refine gs (fun hb=>?_) fun hb=>?_)<;>try simp only [Bool.not_true,Bool.not_false] at hb|refine AR_inv ?_|refine cp h1 ?_|refine finF hrel ?_ ?_ ?_)<;>try simp only [go_sem, *])
   exact ag_
  ·
   intro σ ga0 hgl_ga0 hgn jS ⟨jA,j5,j6⟩
   obtain ⟨jT,jB⟩:=jS
   simp only [go_sem] at jT jB
   obtain ⟨hgf,hgf0,eg_gen_ga0,eh_gen_ga0⟩:=rnd hgn hgl_ga0 jA
   clear hgn
   rw [h2,hend] at j6
   clear hc hsum hend
   repeat' (first
    |exact hin _|exact agf (by assumption)
    | (first|refine wp rfl ?_|refine spt rfl ?_|refine spf rfl ?_|(refine spl (fun hc=>?_) fun hc=>?_)<;>(try rw [beq_iff_eq] at hc)<;>try simp only [hc]|(refine gs (fun hb=>?_) fun hb=>?_)<;>try simp only [Bool.not_true,Bool.not_false] at hb|refine finF hrel ?_ ?_ ?_)<;>try simp only [go_sem, *])
theorem c_pCheck {a:Ty} {v:PVl} {t:Tm} (hv:IsVl a v t) (hz:tmSz t≤4096) (ha:TyG a):Pure Tryz.prog env 80 [.agg v.cells] (.int .i64 0):=by
 intro h
 have h1:=c_pNodes hv hz (by have:=ha.2;omega)
 have d1:decide ((tySz a:Int)>64)=false:=by have:=ha.2;simp;omega
 clear hz ha hv
 refine en_ Tryz.func80 [.tmp 2] fun g0 w0 gen hrel hfr hfr' hres=>?_
 repeat' (first
  |exact hin _|exact agf (by assumption)
  | (first|refine wp rfl ?_|refine spt rfl ?_|refine spf rfl ?_|(refine spl (fun hc=>?_) fun hc=>?_)<;>(try rw [beq_iff_eq] at hc)<;>try simp only [hc]|refine cp h1 ?_|refine finF hrel ?_ ?_ ?_)<;>try simp only [go_sem, *])
theorem c_vSize (n:Nat) (hn:n≤4096):Pure Tryz.prog env 130 [.int .i64 n] (.int .i64 (n+1:Nat)):=by
 intro h
 have d1:((4096:Int)<(n:Int))=False:=by simp;omega
 have d3:IntKind.i64.wrap ((n:Int)+1)=((n+1:Nat):Int):=wrap_eq (by omega) (by omega) (by omega)
 clear hn
 refine en_ Tryz.func130 [.tmp 2] fun g0 w0 gen hrel hfr hfr' hres=>?_
 repeat' (first
  |exact hin _|exact agf (by assumption)
  | (first|refine wp rfl ?_|refine finF hrel ?_ ?_ ?_)<;>try simp only [go_sem, *])
theorem c_pLength {a:Ty} {v:PVl} {t:Tm} (hv:IsVl a v t):tmSz t≤4096→Pure Tryz.prog env 81 [.agg v.cells] (.int .i64 (tmSz t)):=by
 induction hv with
 | num n =>
  intro hz h
  rw [tmSz_num] at hz ⊢
  have h1:=c_vSize n (by omega)
  clear hz
  rw [PVl.mk_cells]
  generalize n+1=n1 at *
  refine en_ Tryz.func81 [.tmp 2] fun g0 w0 gen hrel hfr hfr' hres=>?_
  repeat' (first
   |exact hin _|exact agf (by assumption)
   | (first|refine wp rfl ?_|refine spt rfl ?_|refine spf rfl ?_|(refine spl (fun hc=>?_) fun hc=>?_)<;>(try rw [beq_iff_eq] at hc)<;>try simp only [hc]|refine cp h1 ?_|refine finF hrel ?_ ?_ ?_)<;>try simp only [go_sem, *])
  refine ar_ [2,34] [] (fun i σ=>Agree h σ.h∧σ.tm 3=.int .i64 n1) (([]:List PVl)).length ?_ ?_ ?_
  ·simp only [go_sem, *]
   exact ag_
  ·
   intro i σ gr1 hgl_gr1 hgn hlt jI jN jS ⟨jA,j3⟩
   obtain ⟨jT,jB⟩:=jS
   simp only [go_sem] at jT jB
   obtain ⟨hgf,hgf0,eg_gen_gr1,eh_gen_gr1⟩:=rnd hgn hgl_gr1 jA
   obtain ⟨x,hx,hxm,hm⟩:=rnx hlt
   clear hgn
   simp at hx
  ·
   intro σ ga1 hgl_ga1 hgn jS ⟨jA,j3⟩
   obtain ⟨jT,jB⟩:=jS
   simp only [go_sem] at jT jB
   obtain ⟨hgf,hgf0,eg_gen_ga1,eh_gen_ga1⟩:=rnd hgn hgl_ga1 jA
   clear hgn
   repeat' (first
    |exact hin _|exact agf (by assumption)
    | (first|refine wp rfl ?_|refine spt rfl ?_|refine spf rfl ?_|(refine spl (fun hc=>?_) fun hc=>?_)<;>(try rw [beq_iff_eq] at hc)<;>try simp only [hc]|refine finF hrel ?_ ?_ ?_)<;>try simp only [go_sem, *])
 | list l =>
  intro hz h
  rw [listT_sz] at hz ⊢
  obtain ⟨hmem,hlen⟩:=IsVl.mem hz
  have hln:=ints_nat_len l
  have hget:=fun i x=>ints_at (l:=l) (i:=i) (x:=x)
  rw [PVl.mk_cells]
  generalize ints (l.map fun (n:Nat)=>(n:Int))=L at *
  refine en_ Tryz.func81 [.tmp 2] fun g0 w0 gen hrel hfr hfr' hres=>?_
  repeat' (first
   |exact hin _|exact agf (by assumption)
   | (first|refine wp rfl ?_|refine spt rfl ?_|refine spf rfl ?_|(refine spl (fun hc=>?_) fun hc=>?_)<;>(try rw [beq_iff_eq] at hc)<;>try simp only [hc]|refine finF hrel ?_ ?_ ?_)<;>try simp only [go_sem, *])
  refine ar_ [1,18] [⟨gen,0,0⟩] (fun i σ=>Agree h σ.h∧σ.tm 3=.int .i64 (lsz (l.take i):Nat)) (l).length ?_ ?_ ?_
  ·simp only [go_sem, *]
   exact ⟨ag_,rfl⟩
  ·
   intro i σ gr0 hgl_gr0 hgn hlt jI jN jS ⟨jA,j3⟩
   obtain ⟨jT,jB⟩:=jS
   simp only [go_sem] at jT jB
   obtain ⟨hgf,hgf0,eg_gen_gr0,eh_gen_gr0⟩:=rnd hgn hgl_gr0 jA
   obtain ⟨x,hx,hxm,hm⟩:=rnx hlt
   clear hgn
   have hg:=hget i x hx
   have hxb:=hmem x hxm
   have hs:=lsz_take hx
   have hle:=lsz_take_le l (i+1)
   have h1:=c_vSize x (by omega)
   have d3:IntKind.i64.wrap (1+((x+1:Nat):Int))=((x+2:Nat):Int):=wrap_eq (by omega) (by omega) (by omega)
   have d4:IntKind.i64.wrap (((lsz (l.take i):Nat):Int)+((x+2:Nat):Int))=((lsz (l.take (i+1)):Nat):Int):=wrap_eq (by omega) (by omega) (by omega)
   have d5:decide (((lsz (l.take (i+1)):Nat):Int)>4096)=false:=by simp;omega
   clear hget hz hmem hs hle hxb
   generalize lsz (l.take (i+1))=s2 at *
   generalize lsz (l.take i)=s1 at *
   generalize x+1=x1 at *
   generalize x+2=x2 at *
   repeat' (first
    |exact hin _|exact agf (by assumption)
    | (first|refine wp rfl ?_|refine spt rfl ?_|refine spf rfl ?_|(refine spl (fun hc=>?_) fun hc=>?_)<;>(try rw [beq_iff_eq] at hc)<;>try simp only [hc]|refine AR_inv ?_|refine cp h1 ?_|refine finF hrel ?_ ?_ ?_)<;>try simp only [go_sem, *])
  ·
   intro σ ga0 hgl_ga0 hgn jS ⟨jA,j3⟩
   obtain ⟨jT,jB⟩:=jS
   simp only [go_sem] at jT jB
   obtain ⟨hgf,hgf0,eg_gen_ga0,eh_gen_ga0⟩:=rnd hgn hgl_ga0 jA
   clear hgn
   rw [List.take_length] at j3
   clear hget hz hmem
   repeat' (first
    |exact hin _|exact agf (by assumption)
    | (first|refine wp rfl ?_|refine spt rfl ?_|refine spf rfl ?_|(refine spl (fun hc=>?_) fun hc=>?_)<;>(try rw [beq_iff_eq] at hc)<;>try simp only [hc]|refine finF hrel ?_ ?_ ?_)<;>try simp only [go_sem, *])
   refine ar_ [2,34] [] (fun i σ=>Agree h σ.h∧σ.tm 3=.int .i64 (lsz l:Nat)) (([]:List PVl)).length ?_ ?_ ?_
   ·simp only [go_sem, *]
   ·
    intro i σ gr1 hgl_gr1 hgn hlt jI jN jS ⟨jA,j3'⟩
    obtain ⟨jT,jB⟩:=jS
    simp only [go_sem] at jT jB
    have hgf:=fresh_of hgn
    have hgf0:=fun r i=>agree_fresh jA (hgf r i)
    have eg_gen_gr1:=gen_lt (show gen<gr1 by omega)
    have eh_gen_gr1:=gen_lt' (show gen<gr1 by omega)
    have eg_ga0_gr1:=gen_lt (show ga0<gr1 by omega)
    have eh_ga0_gr1:=gen_lt' (show ga0<gr1 by omega)
    obtain ⟨x,hx,hxm,hm⟩:=rnx hlt
    clear hgn
    simp at hx
   ·
    intro σ ga1 hgl_ga1 hgn jS ⟨jA,j3'⟩
    obtain ⟨jT,jB⟩:=jS
    simp only [go_sem] at jT jB
    have hgf:=fresh_of hgn
    have hgf0:=fun r i=>agree_fresh jA (hgf r i)
    have eg_gen_ga1:=gen_lt (show gen<ga1 by omega)
    have eh_gen_ga1:=gen_lt' (show gen<ga1 by omega)
    have eg_ga0_ga1:=gen_lt (show ga0<ga1 by omega)
    have eh_ga0_ga1:=gen_lt' (show ga0<ga1 by omega)
    clear hgn
    repeat' (first
     |exact hin _|exact agf (by assumption)
     | (first|refine wp rfl ?_|refine spt rfl ?_|refine spf rfl ?_|(refine spl (fun hc=>?_) fun hc=>?_)<;>(try rw [beq_iff_eq] at hc)<;>try simp only [hc]|refine finF hrel ?_ ?_ ?_)<;>try simp only [go_sem, *])
 | unit =>
  intro hz h
  clear hz
  rw [PVl.mk_cells,tmSz_0]
  refine en_ Tryz.func81 [.tmp 2] fun g0 w0 gen hrel hfr hfr' hres=>?_
  repeat' (first
   |exact hin _|exact agf (by assumption)
   | (first|refine wp rfl ?_|refine spt rfl ?_|refine spf rfl ?_|(refine spl (fun hc=>?_) fun hc=>?_)<;>(try rw [beq_iff_eq] at hc)<;>try simp only [hc]|refine finF hrel ?_ ?_ ?_)<;>try simp only [go_sem, *])
  refine ar_ [2,34] [] (fun i σ=>Agree h σ.h∧σ.tm 3=.int .i64 1) (([]:List PVl)).length ?_ ?_ ?_
  ·simp only [go_sem, *]
   exact ag_
  ·
   intro i σ gr1 hgl_gr1 hgn hlt jI jN jS ⟨jA,j3⟩
   obtain ⟨jT,jB⟩:=jS
   simp only [go_sem] at jT jB
   obtain ⟨hgf,hgf0,eg_gen_gr1,eh_gen_gr1⟩:=rnd hgn hgl_gr1 jA
   obtain ⟨x,hx,hxm,hm⟩:=rnx hlt
   clear hgn
   simp at hx
  ·
   intro σ ga1 hgl_ga1 hgn jS ⟨jA,j3⟩
   obtain ⟨jT,jB⟩:=jS
   simp only [go_sem] at jT jB
   obtain ⟨hgf,hgf0,eg_gen_ga1,eh_gen_ga1⟩:=rnd hgn hgl_ga1 jA
   clear hgn
   repeat' (first
    |exact hin _|exact agf (by assumption)
    | (first|refine wp rfl ?_|refine spt rfl ?_|refine spf rfl ?_|(refine spl (fun hc=>?_) fun hc=>?_)<;>(try rw [beq_iff_eq] at hc)<;>try simp only [hc]|refine finF hrel ?_ ?_ ?_)<;>try simp only [go_sem, *])
   rfl
 | @pair a b x y s t _ _ ih1 ih2 =>
  intro hz h
  rw [tmSz_2] at hz ⊢
  have hc:∀ (i:Nat) (z:PVl),[x,y][i]? = some z→∃ n:Nat,[tmSz s,tmSz t][i]? = some n∧Pure Tryz.prog env 81 [.agg z.cells] (.int .i64 n):=by
   intro i z hz'
   match i with
   | 0=>simp at hz';subst hz';exact ⟨_,rfl,ih1 (by omega)⟩
   | 1=>simp at hz';subst hz';exact ⟨_,rfl,ih2 (by omega)⟩
   | i+2=>simp at hz'
  have hsum:∀ i,([tmSz s,tmSz t].take i).sum≤10000:=by
   intro i
   match i with
   | 0=>simp
   | 1=>simp;omega
   | i+2=>simp;omega
  have hend:1+([tmSz s,tmSz t].take 2).sum=tmSz s+tmSz t+1:=by simp;omega
  clear ih1 ih2 hz
  generalize tmSz s+tmSz t+1=R at *
  generalize [tmSz s,tmSz t]=ns at *
  have h2:[x,y].length=2:=rfl
  rw [PVl.mk_cells]
  generalize [x,y]=xs at *
  refine en_ Tryz.func81 [.tmp 2] fun g0 w0 gen hrel hfr hfr' hres=>?_
  repeat' (first
   |exact hin _|exact agf (by assumption)
   | (first|refine wp rfl ?_|refine spt rfl ?_|refine spf rfl ?_|(refine spl (fun hc=>?_) fun hc=>?_)<;>(try rw [beq_iff_eq] at hc)<;>try simp only [hc]|refine finF hrel ?_ ?_ ?_)<;>try simp only [go_sem, *])
  refine ar_ [2,34] [] (fun i σ=>Agree h σ.h∧σ.tm 3=.int .i64 ((1+(ns.take i).sum:Nat):Int)) (xs).length ?_ ?_ ?_
  ·simp only [go_sem, *]
   exact ⟨ag_,rfl⟩
  ·
   intro i σ gr1 hgl_gr1 hgn hlt jI jN jS ⟨jA,j3⟩
   obtain ⟨jT,jB⟩:=jS
   simp only [go_sem] at jT jB
   obtain ⟨hgf,hgf0,eg_gen_gr1,eh_gen_gr1⟩:=rnd hgn hgl_gr1 jA
   obtain ⟨x,hx,hxm,hm⟩:=rnx hlt
   clear hgn
   obtain ⟨n,hn,h1⟩:=hc i x hx
   have hs:=sum_take2 hn
   have hb:=hsum (i+1)
   have hw1:IntKind.i64.wrap (((1+(ns.take i).sum:Nat):Int)+(n:Int))=((1+(ns.take (i+1)).sum:Nat):Int):=wrap_eq (by omega) (by omega) (by omega)
   clear hc hsum hb hs hn hend
   generalize 1+(ns.take (i+1)).sum=s2 at *
   generalize 1+(ns.take i).sum=s1 at *
   repeat' (first
    |exact hin _|exact agf (by assumption)
    | (first|refine wp rfl ?_|refine spt rfl ?_|refine spf rfl ?_|(refine spl (fun hc=>?_) fun hc=>?_)<;>(try rw [beq_iff_eq] at hc)<;>try simp only [hc]|refine AR_inv ?_|refine cp h1 ?_|refine finF hrel ?_ ?_ ?_)<;>try simp only [go_sem, *])
   exact ag_
  ·
   intro σ ga1 hgl_ga1 hgn jS ⟨jA,j3⟩
   obtain ⟨jT,jB⟩:=jS
   simp only [go_sem] at jT jB
   obtain ⟨hgf,hgf0,eg_gen_ga1,eh_gen_ga1⟩:=rnd hgn hgl_ga1 jA
   clear hgn
   rw [h2,hend] at j3
   clear hc hsum hend
   repeat' (first
    |exact hin _|exact agf (by assumption)
    | (first|refine wp rfl ?_|refine spt rfl ?_|refine spf rfl ?_|(refine spl (fun hc=>?_) fun hc=>?_)<;>(try rw [beq_iff_eq] at hc)<;>try simp only [hc]|refine finF hrel ?_ ?_ ?_)<;>try simp only [go_sem, *])
theorem c_vtypeOf {a:Ty} {v:PVl} {t:Tm} (hv:IsVl a v t):Pure Tryz.prog env 83 [.agg v.cells] (.agg a.cells):=by
 induction hv with
 | num n =>
  intro h
  have hc:=c_tNat
  rw [PVl.mk_cells,nat_cells]
  rw [nat_cells] at hc
  exact ek_ Tryz.func83 [.cell 2 29]
 | list l =>
  intro h
  have hc:=c_tList
  rw [PVl.mk_cells,list_cells]
  rw [list_cells] at hc
  generalize l.map (fun (n:Nat)=>(n:Int))=l
  have h5:∀ S,InLL S (ints l):=fun S=>by simp only [go_sem, *]
  exact ek_ Tryz.func83 [.cell 2 29]
 | unit =>
  intro h
  rw [PVl.mk_cells,unit_cells]
  exact ek_ Tryz.func83 [.cell 2 29]
 | @pair a b x y s t h1 h2 i1 i2 =>
  intro h
  rw [PVl.mk_cells,pair_cells]
  clear h1 h2
  simp only [List.map_cons,List.map_nil]
  exact ek_ Tryz.func83 [.cell 2 29]
theorem c_vTypeOf {a:Ty} {v:PVl} {t:Tm} (hv:IsVl a v t) (hz:tmSz t≤4096) (ha:TyG a):Pure Tryz.prog env 38 [.agg v.cells] (.tup [.agg a.cells,.int .i64 0]):=by
 intro h
 have h1:=c_pCheck hv hz ha
 have h2:=c_vtypeOf hv
 have n0:((0:Int) != 0)=false:=rfl
 clear hz ha hv
 exact ek_ Tryz.func38 [.cell 2 29,.tmp 3]
end Go.Proofs.YtmnplkmphgkooaaGreatDoor
