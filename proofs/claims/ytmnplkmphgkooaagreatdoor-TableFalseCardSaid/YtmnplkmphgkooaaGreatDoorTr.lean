/-
 Walks: several parts in one text.
-/
import Derived.Test.YtmnplkmphgkooaaGreatDoorMa
import Derived.Test.YtmnplkmphgkooaaGreatDoorAbsDb
import Derived.Test.YtmnplkmphgkooaaGreatDoorAbsDc
import Derived.Test.YtmnplkmphgkooaaGreatDoorTy
import Derived.Test.YtmnplkmphgkooaaGreatDoorOm
import Derived.Test.YtmnplkmphgkooaaGreatDoorAbsDd
import Derived.Shelf.Abstract
import Derived.OwnWalkIn
import Derived.TacticsInMore
import Derived.LoopNIn
import Derived.LoopIn
set_option linter.unusedSimpArgs false
set_option linter.unusedVariables false
set_option maxRecDepth 100000
set_option maxHeartbeats 4000000
set_option maxRecDepth 20000
namespace Go.Proofs.YtmnplkmphgkooaaGreatDoor
open Go GoAbs Go.Proofs
open Go.RowKit Go.Shelf
theorem backI_go (l pb po b off len cap:Nat) (elm:Nat→Value) (hreach:len * 8≤140737488351232) (K:Nat→World→Prop) (Kx:World→Prop)
  (hr:∀ i W,i≤len→K i W→W.cell? ⟨pb,po,none⟩=some (.slice (some ⟨b,off,none⟩) len cap)∧∀ j,j<len→W.cell? ⟨b,off+j,none⟩=some (elm j))
  (hY:∀ (i:Nat) W,i<len→K (i+1) W→YieldAt Fence.wide (0 - 1) Tryz.prog l #[.int .i64 (i:Int),elm i] W fun e W'=>(e=.returned (.bool true)∧K i W')∨(e=.returned (.bool false)∧Kx W'))
  (W:World) (h0:K len W) :
  CallsIn Fence.wide 0 Tryz.prog 153 #[.func (.yield l) #[] #[],.pointer (some ⟨pb,po,none⟩)] W fun e W'=>(∃ v,e=.returned v)∧(K 0 W'∨Kx W'):=by
 refine callsIn_of_wp Tryz.func153 rfl trivial ?_ rfl
 simp only [Tryz.ntmps153,List.size_toArray,List.length_cons,List.length_nil,Nat.reduceAdd,Nat.reduceSub,Array.replicate_succ,Array.replicate_zero,List.push_toArray,List.append_toArray,List.nil_append,List.cons_append]
 obtain ⟨hBs,hc⟩:=hr _ _ (Nat.le_refl _) h0
 gi_wp2
 gi_loopw [3] (fun i wr=>∃ k:Nat,k≤len∧i=.int .i64 ((k:Int) - 1)∧K k wr) (fun i _=>(intOf i+1).toNat)
 case atStart=>exact ⟨len,Nat.le_refl _,rfl,h0⟩
 case round =>
  obtain ⟨k,hk,rfl,hJs⟩:=hrel
  obtain ⟨hBs',hc'⟩:=hr _ _ hk hJs
  rcases k with _|k
  ·gi_wp2
   go_end0
   exact ⟨⟨_,rfl⟩,.inl hJs⟩
  ·have hcx:=hc' k (by omega)
   obtain ⟨fn,tmps,assign,body,hy,hR⟩:=hY k wr (by omega) hJs
   rw [show (((k+1:Nat):Int) - 1)=(k:Int) by omega]
   gi_wp2
   refine ⟨rfl,hR.mono ?_⟩
   rintro e W3 (⟨rfl,hJ3⟩|⟨rfl,hJx3⟩)
   ·gi_wp2
    go_roundw
    case rel=>exact ⟨k,by omega,rfl,hJ3⟩
    case measure=>simp [intOf]
   ·gi_wp2
    refine bodyPost_ret (results_none rfl _ _ _) rfl ?_
    exact ⟨⟨_,rfl⟩,.inr hJx3⟩
theorem backI_nil (l pb po:Nat) (a:Option Addr) (cap:Nat) (W:World) (Q:World→Prop) (hBs:W.cell? ⟨pb,po,none⟩=some (.slice a 0 cap)) (h0:Q W) :
  CallsIn Fence.wide 0 Tryz.prog 153 #[.func (.yield l) #[] #[],.pointer (some ⟨pb,po,none⟩)] W fun e W'=>(∃ v,e=.returned v)∧Q W':=by
 refine callsIn_of_wp Tryz.func153 rfl trivial ?_ rfl
 simp only [Tryz.ntmps153,List.size_toArray,List.length_cons,List.length_nil,Nat.reduceAdd,Nat.reduceSub,Array.replicate_succ,Array.replicate_zero,List.push_toArray,List.append_toArray,List.nil_append,List.cons_append]
 gi_wp2
 gi_loopw [3] (fun i wr=>i=.int .i64 (-1)∧Q wr) (fun _ _=>0)
 case atStart=>exact ⟨rfl,h0⟩
 case round =>
  obtain ⟨rfl,hJs⟩:=hrel
  gi_wp2
  go_end0
  exact ⟨⟨_,rfl⟩,hJs⟩
theorem backI_ok:BackOk Tryz.prog 153 where
 call:=⟨_,Tryz.func153,rfl,by kernel_rfl⟩
 go:=fun l pb po a len cap elm K Kx hreach ha hr hY W h0=>by
  by_cases hl:len=0
  ·subst hl
   exact (backI_nil l pb po a cap W (K 0) (hr 0 W (Nat.le_refl _) h0).1 h0).mono fun e w' h=>⟨h.1,.inl h.2⟩
  ·obtain ⟨b,off,rfl⟩:=ha hl
   exact backI_go l pb po b off len cap elm hreach K Kx (fun i W hi hK=>⟨(hr i W hi hK).1,fun j hj=>(hr i W hi hK).2 b off rfl j hj⟩) hY W h0
theorem c_backwardI {c:Cap} {es:List (List V)}:Pure Tryz.prog env 107 [.sl c es] (.fn (.func 153) [] [.el [.sl .any es] 0]):=by
 refine pure_boxFn (ty:=22) ⟨_,Tryz.func107,rfl,by kernel_rfl⟩ fun a len cap w=>callsIn_wide.1 (?_:CallsIn Fence.wide 0 _ _ _ _ _)
 refine callsIn_of_wp (n:=0) Tryz.func107 rfl trivial ?_ rfl
 simp only [Tryz.ntmps107,List.size_toArray,List.length_cons,List.length_nil,Nat.reduceAdd,Nat.reduceSub,Array.replicate_succ,Array.replicate_zero,List.push_toArray,List.append_toArray,List.nil_append,List.cons_append]
 gi_wp2
 go_ret
 exact ⟨rfl,rfl⟩
theorem c_pTermL (l:List Nat) (hz:lsz l≤4096):Pure Tryz.prog env 82 [.agg (PVl.mk 2 0 (l.map fun (n:Nat)=>(n:Int)) []).cells] (.agg (listT l).cells):=by
 intro h
 obtain ⟨hmem,hlen⟩:=IsVl.mem hz
 have hOf:=c_tOf 7 []
 simp only [List.map_nil] at hOf
 have hnum:∀ x∈l,Pure Tryz.prog env 132 [.int .i64 x] (.agg (numT x).cells):=fun x hx=>c_valnumber x (by have:=hmem x hx;omega)
 have hcons:∀ x t,Pure Tryz.prog env 131 [.int .i64 8,.sl .any [(numT x).cells,t]] (.agg (tm0 8 [numT x]).cells)→True:=fun _ _ _=>trivial
 have hcn:∀ x (t:Tm),Pure Tryz.prog env 131 [.int .i64 8,.sl .any [(numT x).cells,t.cells]] (.agg (tm0 8 [numT x,t]).cells):=by
  intro x t
  have:=c_tOf 8 [numT x,t]
  simpa only [List.map_cons,List.map_nil] using this
 clear hcons
 have hwL:weakLL (ints (l.map fun (n:Nat)=>(n:Int)))=ints (l.map fun (n:Nat)=>(n:Int)):=weakLL_ints _
 have hbk:=c_backwardI (c:=.any) (es:=ints (l.map fun (n:Nat)=>(n:Int)))
 have hL:ints (l.map fun (n:Nat)=>(n:Int))=(l.map fun (n:Nat)=>V.int .i64 (n:Int)).map fun v=>[v]:=by simp [ints,List.map_map,Function.comp_def]
 have hnil:listT (l.drop l.length)=tm0 7 []:=by rw [List.drop_length];rfl
 rw [PVl.mk_cells]
 rw [hL] at hbk hwL ⊢
 have hvl:(l.map fun (n:Nat)=>V.int .i64 (n:Int)).length=l.length:=by simp
 have hvg:∀ (i:Nat) (v:V),(l.map fun (n:Nat)=>V.int .i64 (n:Int))[i]? = some v→∃ x:Nat,l[i]? = some x∧v=V.int .i64 (x:Int):=by
  intro i v hv
  rw [List.getElem?_map] at hv
  cases hx:l[i]? with
  | none=>rw [hx] at hv;cases hv
  | some x=>rw [hx] at hv;cases hv;exact ⟨x,rfl,rfl⟩
 clear hL hz
 generalize (l.map fun (n:Nat)=>V.int .i64 (n:Int))=vs at *
 refine ret_of_walkX Tryz.func82 rfl (by kernel_rfl) fun g0 w0 gen hrel hfr=>?_
 have hfr':∀ r i,h ⟨gen,r,i⟩=none:=fresh_of hfr
 have hres:Tryz.f82.results.toList=[.cell 2 32]:=rfl
 have hl0:∀ b,w0.heap.size≤b→g0.lim b=0:=hrel.limnew
 have okF:=xF_ok ⟨Tryz.prog,env,Tryz.f82.ntmps,Tryz.f82,g0,w0,h,.agg (listT l).cells,h⟩
 repeat' (first
  |(refine ⟨?_,?_⟩;focus ((repeat' (first|refine ⟨?_,?_⟩|refine .inr ?_));all_goals kernel_rfl))
  |exact agf (by assumption)
  | (first|refine ARX_seq ?_|refine ARX_region okF follows (by kernel_rfl) ?_|refine ARX_condP ?_|refine ARX_block ?_|refine ARX_exit ?_|refine ARX_skip ?_|refine ARX_ret ?_|refine ARX_block_end ?_|refine ARX_block_pass (by decide) ?_|refine ARX_block_hit ?_|refine ARX_code_exit ?_|refine spt rfl ?_|refine spf rfl ?_|refine cp hOf ?_|refine cp hbk ?_)<;>try simp only [go_sem, *])
 refine ARX_back (vs:=vs) backI_ok (by simp only [go_sem, *]) (by omega) (of_decide_eq_true (by kernel_rfl)) (of_decide_eq_true (by kernel_rfl))
  (fun i hi=>Agree h hi∧hi ⟨gen,0,1⟩=some (.box [.int .i64 0,.int .i64 0,.int .i64 0,.sl .full [],.sl .full []])∧hi ⟨gen,3,1⟩=some (.box (listT (l.drop i)).cells))
  (fun _ _=>False) ?_ ?_ ?_ (fun _ _ _ h=>h.elim)
 ·rw [hvl,hnil]
  simp only [go_sem, *]
  exact ag_
 ·intro xa xb gr i v hi oka okb hgr hlt hv ⟨jA,jb1,jb2⟩ mid fin _
  obtain ⟨x,hx,rfl⟩:=hvg i v hv
  have hn:=hnum x (List.mem_of_getElem? hx)
  have hc:=hcn x (listT (l.drop (i+1)))
  have hd:=listT_drop hx
  clear hnum hcn hvg hv
  refine ARX_region oka follows (by kernel_rfl) ?_
  simp only [go_sem, *]
  refine mid _ _ ?_
  clear mid
  repeat' (first
   |(refine ⟨?_,?_⟩;focus ((repeat' (first|refine ⟨?_,?_⟩|refine .inr ?_));all_goals kernel_rfl))
   |exact agf (by assumption)
   | (first|refine ARX_seq ?_|refine ARX_region okb follows (by kernel_rfl) ?_|refine ARX_condP ?_|refine ARX_block ?_|refine ARX_exit ?_|refine ARX_skip ?_|refine ARX_ret ?_|refine ARX_block_end ?_|refine ARX_block_pass (by decide) ?_|refine ARX_block_hit ?_|refine ARX_code_exit ?_|refine spt rfl ?_|refine spf rfl ?_|refine cp hn ?_|refine cp hc ?_)<;>try simp only [go_sem, *])
  exact fin _ _ ⟨by repeat (first|exact jA|refine Agree.new ?_ (hfr' _ _)),by simp only [go_sem, *],by simp only [go_sem, *]⟩
 ·rintro D h' ⟨jA,jb1,jb2⟩
  rw [List.drop_zero] at jb2
  have okD:=xD_ok ⟨Tryz.prog,env,Tryz.f82.ntmps,Tryz.f82,g0,w0,h,.agg (listT l).cells,h⟩ D
  clear hnum hcn hvg
  repeat' (first
   |(refine ⟨?_,?_⟩;focus ((repeat' (first|refine ⟨?_,?_⟩|refine .inr ?_));all_goals kernel_rfl))
   |exact agf (by assumption)
   | (first|refine ARX_seq ?_|refine ARX_region okD follows (by kernel_rfl) ?_|refine ARX_condP ?_|refine ARX_block ?_|refine ARX_exit ?_|refine ARX_skip ?_|refine ARX_ret ?_|refine ARX_block_end ?_|refine ARX_block_pass (by decide) ?_|refine ARX_block_hit ?_|refine ARX_code_exit ?_|refine spt rfl ?_|refine spf rfl ?_|refine ARX_doneD follows hl0 ?_|refine finF hrel ?_ ?_ ?_|refine ARX_out ?_)<;>try simp only [go_sem, *])
theorem c_pTerm {a:Ty} {v:PVl} {t:Tm} (hv:IsVl a v t):tmSz t≤4096→Pure Tryz.prog env 82 [.agg v.cells] (.agg t.cells):=by
 induction hv with
 | num n =>
  intro hz h
  rw [tmSz_num] at hz
  have h1:=c_valnumber n (by omega)
  clear hz
  rw [PVl.mk_cells]
  generalize numT n=t at *
  refine ret_of_walkX Tryz.func82 rfl (by kernel_rfl) fun g0 w0 gen hrel hfr=>?_
  have hfr':∀ r i,h ⟨gen,r,i⟩=none:=fresh_of hfr
  have hres:Tryz.f82.results.toList=[.cell 2 32]:=rfl
  have okF:=xF_ok ⟨Tryz.prog,env,Tryz.f82.ntmps,Tryz.f82,g0,w0,h,.agg t.cells,h⟩
  repeat' (first
   |(refine ⟨?_,?_⟩;focus ((repeat' (first|refine ⟨?_,?_⟩|refine .inr ?_));all_goals kernel_rfl))
   |exact agf (by assumption)
   | (first|refine ARX_seq ?_|refine ARX_region okF follows (by kernel_rfl) ?_|refine ARX_condP ?_|refine ARX_block ?_|refine ARX_exit ?_|refine ARX_skip ?_|refine ARX_ret ?_|refine ARX_block_end ?_|refine ARX_block_pass (by decide) ?_|refine ARX_block_hit ?_|refine ARX_code_exit ?_|refine spt rfl ?_|refine spf rfl ?_|refine cp h1 ?_|refine ARX_doneF follows ?_|refine finF hrel ?_ ?_ ?_|refine ARX_out ?_)<;>try simp only [go_sem, *])
 | list l=>intro hz;rw [listT_sz] at hz;exact c_pTermL l hz
 | unit =>
  intro hz h
  have h1:=c_tOf 13 []
  simp only [List.map_nil] at h1
  clear hz
  rw [PVl.mk_cells]
  refine ret_of_walkX Tryz.func82 rfl (by kernel_rfl) fun g0 w0 gen hrel hfr=>?_
  have hfr':∀ r i,h ⟨gen,r,i⟩=none:=fresh_of hfr
  have hres:Tryz.f82.results.toList=[.cell 2 32]:=rfl
  have okF:=xF_ok ⟨Tryz.prog,env,Tryz.f82.ntmps,Tryz.f82,g0,w0,h,.agg (tm0 13 []).cells,h⟩
  repeat' (first
   |(refine ⟨?_,?_⟩;focus ((repeat' (first|refine ⟨?_,?_⟩|refine .inr ?_));all_goals kernel_rfl))
   |exact agf (by assumption)
   | (first|refine ARX_seq ?_|refine ARX_region okF follows (by kernel_rfl) ?_|refine ARX_condP ?_|refine ARX_block ?_|refine ARX_exit ?_|refine ARX_skip ?_|refine ARX_ret ?_|refine ARX_block_end ?_|refine ARX_block_pass (by decide) ?_|refine ARX_block_hit ?_|refine ARX_code_exit ?_|refine spt rfl ?_|refine spf rfl ?_|refine cp h1 ?_|refine ARX_doneF follows ?_|refine finF hrel ?_ ?_ ?_|refine ARX_out ?_)<;>try simp only [go_sem, *])
 | @pair a b x y s t _ _ ih1 ih2 =>
  intro hz h
  rw [tmSz_2] at hz
  have h1:Pure Tryz.prog env 82 [.agg x.cells] (.agg s.cells):=ih1 (by omega)
  have h2:Pure Tryz.prog env 82 [.agg y.cells] (.agg t.cells):=ih2 (by omega)
  have h3:=c_tOf 10 [s,t]
  simp only [List.map_cons,List.map_nil] at h3
  clear ih1 ih2 hz
  rw [PVl.mk_cells]
  simp only [List.map_cons,List.map_nil]
  refine ret_of_walkX Tryz.func82 rfl (by kernel_rfl) fun g0 w0 gen hrel hfr=>?_
  have hfr':∀ r i,h ⟨gen,r,i⟩=none:=fresh_of hfr
  have hres:Tryz.f82.results.toList=[.cell 2 32]:=rfl
  have okF:=xF_ok ⟨Tryz.prog,env,Tryz.f82.ntmps,Tryz.f82,g0,w0,h,.agg (tm0 10 [s,t]).cells,h⟩
  repeat' (first
   |(refine ⟨?_,?_⟩;focus ((repeat' (first|refine ⟨?_,?_⟩|refine .inr ?_));all_goals kernel_rfl))
   |exact agf (by assumption)
   | (first|refine ARX_seq ?_|refine ARX_region okF follows (by kernel_rfl) ?_|refine ARX_condP ?_|refine ARX_block ?_|refine ARX_exit ?_|refine ARX_skip ?_|refine ARX_ret ?_|refine ARX_block_end ?_|refine ARX_block_pass (by decide) ?_|refine ARX_block_hit ?_|refine ARX_code_exit ?_|refine spt rfl ?_|refine spf rfl ?_|refine cp h1 ?_|refine cp h2 ?_|refine cp h3 ?_|refine ARX_doneF follows ?_|refine finF hrel ?_ ?_ ?_|refine ARX_out ?_)<;>try simp only [go_sem, *])
theorem c_proValue {a:Ty} {v:PVl} {t:Tm} (hv:IsVl a v t) (hz:tmSz t≤4096) (ha:TyG a):Pure Tryz.prog env 37 [.agg v.cells] (.tup [.agg t.cells,.int .i64 0]):=by
 intro h
 have h1:=c_pCheck hv hz ha
 have h2:=c_pLength hv hz
 have h3:=c_pTerm hv hz
 have d1:decide ((tmSz t:Int)>4096)=false:=by simp;omega
 clear hz ha hv
 generalize tmSz t=n at *
 exact ek_ Tryz.func37 [.cell 2 32,.tmp 3]
end Go.Proofs.YtmnplkmphgkooaaGreatDoor
