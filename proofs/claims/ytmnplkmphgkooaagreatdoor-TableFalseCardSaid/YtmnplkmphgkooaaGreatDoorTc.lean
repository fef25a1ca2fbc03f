/-
 Walks: several parts in one text.
-/
import Derived.Test.YtmnplkmphgkooaaGreatDoorTa
import Derived.Test.YtmnplkmphgkooaaGreatDoorAbsDd
import Derived.Test.YtmnplkmphgkooaaGreatDoorMb
set_option linter.unusedSimpArgs false
set_option linter.unusedVariables false
set_option maxRecDepth 20000
set_option maxHeartbeats 4000000
namespace Go.Proofs.YtmnplkmphgkooaaGreatDoor
open Go GoAbs Go.Proofs
def growL (P N:List Tm) (f:Tm→Tm) (i:Nat):List Tm:=P++(N.take i).map f
theorem growL_succ {P N:List Tm} {f:Tm→Tm} {i:Nat} {x:Tm} (h:N[i]? = some x):growL P N f (i+1)=growL P N f i++[f x]:=by
 simp only [growL,List.take_add_one,h];simp
theorem growL_zero {P N:List Tm} {f:Tm→Tm}:growL P N f 0=P:=by simp [growL]
theorem growL_full {P N:List Tm} {f:Tm→Tm}:growL P N f N.length=P++N.map f:=by simp [growL]
theorem growL_len {P N:List Tm} {f:Tm→Tm} {i:Nat}:(growL P N f i).length≤P.length+N.length:=by simp [growL];omega
theorem growL_map {P N:List Tm} {f:Tm→Tm} {i:Nat} {x:Tm} (h:N[i]? = some x):(growL P N f i).map Tm.cells++[(f x).cells]=(growL P N f (i+1)).map Tm.cells:=by
 rw [growL_succ h];simp
theorem growL_tok {P N:List Tm} {f:Tm→Tm} {i:Nat} {x:Tm} (h:N[i]? = some x):(growL P N f i).length+1=(growL P N f (i+1)).length:=by
 rw [growL_succ h];simp
def growF (P N:List Tm) (g:Tm→List Tm) (i:Nat):List Tm:=P++(N.take i).flatMap g
theorem growF_succ {P N:List Tm} {g:Tm→List Tm} {i:Nat} {x:Tm} (h:N[i]? = some x):growF P N g (i+1)=growF P N g i++g x:=by
 simp only [growF,List.take_add_one,h];simp
theorem growF_zero {P N:List Tm} {g:Tm→List Tm}:growF P N g 0=P:=by simp [growF]
theorem growF_full {P N:List Tm} {g:Tm→List Tm}:growF P N g N.length=P++N.flatMap g:=by simp [growF]
theorem growF_len {P N:List Tm} {g:Tm→List Tm} {c:Nat} (hc:∀ x,(g x).length≤c):∀ {i:Nat},(growF P N g i).length≤P.length+i * c
 | 0=>by simp [growF]
 | i+1=>by
  have ih:=@growF_len P N g c hc i
  rcases Nat.lt_or_ge i N.length with h|h
  ·rw [growF_succ (List.getElem?_eq_getElem h),List.length_append,Nat.add_mul]
   have:=hc N[i]
   omega
  ·have e:growF P N g (i+1)=growF P N g i:=by simp only [growF,List.take_of_length_le h,List.take_of_length_le (show N.length≤i+1 by omega)]
   rw [e,Nat.add_mul];omega
theorem c_conOfNat (m:Nat) (hm:m≤16):Pure Tryz.prog env 92 [.agg tNat.cells,.int .i64 m] (.sl .any (((numsT m).take 64).map Tm.cells)):=by
 intro h
 have h1:=c_conNumbers m hm
 have h2:=c_conFirst (numsT m) (by rw [numsT_len];omega)
 have hk:tNat.kind=1:=rfl
 generalize tNat=t at *
 generalize numsT m=N at *
 exact ek_ Tryz.func92 [.tmp 4]
theorem c_conOfUnit (m:Nat):Pure Tryz.prog env 92 [.agg tUnit.cells,.int .i64 m] (.sl .any ([tm0 13 []].map Tm.cells)):=by
 intro h
 have h2:=c_conFirst [tm0 13 []] (by simp)
 have e2:[tm0 13 []].take 64=[tm0 13 []]:=rfl
 rw [e2] at h2
 simp only [List.map_cons,List.map_nil] at h2
 have hk:tUnit.kind=5:=rfl
 have hcell:[.int .i64 13,.int .i64 0,.int .i64 0,.sl .any [],.sl .any []]=(tm0 13 []).cells:=by rw [tm0,Tm.mk_cells];rfl
 simp only [List.map_cons,List.map_nil]
 generalize tUnit=t at *
 generalize tm0 13 []=u at *
 refine en_ Tryz.func92 [.tmp 4] fun g0 w0 gen hrel hfr hfr' hres=>?_
 repeat' (first
  |refine AR_seq ?_|refine AR_skip ?_|refine AR_block ?_|refine AR_block_end ?_|refine AR_exit ?_|refine AR_code_exit ?_|refine AR_inv_exit ?_|refine AR_block_hit ?_
  |refine AR_block_pass (by decide) ?_|refine AR_ret ?_|refine AR_fall ?_
  |(refine ⟨?_,?_⟩;focus ((repeat' (first|refine ⟨?_,?_⟩|refine .inr ?_));all_goals kernel_rfl))
  |refine AR_cond_t rfl ?_|refine AR_cond_f rfl ?_|(refine AR_cond rfl (fun hc=>?_) (fun hc=>?_)<;>(try rw [beq_iff_eq] at hc)<;>(try simp only [hc]))
  | ((first|refine AR_regionN ?_|(refine guarded_split (fun hb=>?_) (fun hb=>?_)<;>(try simp only [Bool.not_true,Bool.not_false] at hb))|refine AR_fin hrel (by first|exact hin _|simp only [go_sem,and_self]) ag_ ?_)<;>simp only [go_sem, *]))
 refine AR_tok ⟨gen,1,0⟩ ⟨gen,99,0⟩ 5 (by simp only [go_sem, *]) (by simp only [go_sem, *]) ?_
 refine AR_growB (p:=4) ⟨gen,1,0⟩ ⟨gen,99,0⟩ ⟨gen,98,0⟩ [] u.cells (by simp) (by simp) (Tm.cells_len _) (Tm.cells_one _) (by kernel_rfl) rfl ⟨by kernel_rfl,by kernel_rfl,by kernel_rfl,by kernel_rfl,by kernel_rfl,by kernel_rfl,by kernel_rfl,by kernel_rfl,by kernel_rfl,by kernel_rfl⟩ (ts:=24) (ty:=27) (tn:=26) (tv:=25) (tb:=5) (d5:=28) (d6:=29)
  ⟨⟨_,rfl,rfl,rfl,rfl⟩,⟨_,rfl,rfl,rfl,rfl⟩,⟨_,rfl,rfl,rfl,rfl⟩,⟨_,rfl,rfl,rfl,rfl⟩,ty30,ty32,rfl,rfl,by decide,rfl,rfl,of_decide_eq_true (by kernel_rfl),of_decide_eq_true (by kernel_rfl),by decide,by decide⟩ (by decide) rfl (by decide) ?_
 simp only [go_sem, *]
 repeat' (first
  |(refine ⟨?_,?_⟩;focus ((repeat' (first|refine ⟨?_,?_⟩|refine .inr ?_));all_goals kernel_rfl))
  | (first|fail)<;>try simp only [go_sem, *])
 unfold grownB
 simp only [go_sem, *]
 exact wk_
theorem c_conOfList (m:Nat) (hm:m≤16):Pure Tryz.prog env 92 [.agg tList.cells,.int .i64 m] (.sl .any (((listsT m).take 64).map Tm.cells)):=by
 intro h
 have h1:=c_conNumbers m hm
 have hll:(listsT m).length≤1000:=by
  rw [listsT,List.cons_append,List.length_cons,List.length_append,List.length_map,List.length_flatMap]
  have e:((numsT m).map fun a=>((numsT m).map fun b=>consT a (consT b nilT)).length)=(numsT m).map fun _=>m+1:=by
   apply List.map_congr_left;intro a _;rw [List.length_map,numsT_len]
  rw [e,List.map_const',List.sum_replicate_nat,numsT_len]
  have:(m+1) * (m+1)≤17 * 17:=Nat.mul_le_mul (by omega) (by omega)
  omega
 have h2:=c_conFirst (listsT m) (by omega)
 have hL:listsT m=growF ([nilT]++(numsT m).map fun a=>consT a nilT) (numsT m) (fun a=>(numsT m).map fun b=>consT a (consT b nilT)) (numsT m).length:=by rw [growF_full,listsT];rfl
 have hNl:(numsT m).length=m+1:=numsT_len
 have hk:tList.kind=2:=rfl
 have hcell:[.int .i64 7,.int .i64 0,.int .i64 0,.sl .any [],.sl .any []]=nilT.cells:=by rw [nilT,tm0,Tm.mk_cells];rfl
 rw [hL] at h2
 obtain ⟨L,hLe⟩:∃ L,L=(listsT m).take 64:=⟨_,rfl⟩
 rw [hL] at hLe
 rw [← hLe] at h2
 rw [hL,← hLe]
 clear hL hll hLe
 have hgl:∀ i,i≤(numsT m).length→(growF ([nilT]++(numsT m).map fun a=>consT a nilT) (numsT m) (fun a=>(numsT m).map fun b=>consT a (consT b nilT)) i).length≤1000:=by
  intro i hi
  have h9:=growF_len (P:=[nilT]++(numsT m).map fun a=>consT a nilT) (N:=numsT m) (g:=fun a=>(numsT m).map fun b=>consT a (consT b nilT)) (c:=17) (by intro x;rw [List.length_map,numsT_len];omega) (i:=i)
  simp only [List.length_append,List.length_map,List.length_cons,List.length_nil,hNl] at h9
  omega
 have hcN:∀ x:Tm,Pure Tryz.prog env 146 [.agg x.cells,.agg nilT.cells] (.agg (consT x nilT).cells):=fun x=>c_conCons x nilT
 have hcC:∀ x y:Tm,Pure Tryz.prog env 146 [.agg x.cells,.agg (consT y nilT).cells] (.agg (consT x (consT y nilT)).cells):=fun x y=>c_conCons x (consT y nilT)
 generalize tList=t at *
 generalize nilT=e0 at *
 generalize numsT m=N at *
 refine en_ Tryz.func92 [.tmp 4] fun g0 w0 gen hrel hfr hfr' hres=>?_
 repeat' (first
  |refine AR_seq ?_|refine AR_skip ?_|refine AR_block ?_|refine AR_block_end ?_|refine AR_exit ?_|refine AR_code_exit ?_|refine AR_inv_exit ?_|refine AR_block_hit ?_
  |refine AR_block_pass (by decide) ?_|refine AR_ret ?_|refine AR_fall ?_
  |(refine ⟨?_,?_⟩;focus ((repeat' (first|refine ⟨?_,?_⟩|refine .inr ?_));all_goals kernel_rfl))
  |refine AR_cond_t rfl ?_|refine AR_cond_f rfl ?_|(refine AR_cond rfl (fun hc=>?_) (fun hc=>?_)<;>(try rw [beq_iff_eq] at hc)<;>(try simp only [hc]))
  | ((first|refine AR_regionN ?_|(refine guarded_split (fun hb=>?_) (fun hb=>?_)<;>(try simp only [Bool.not_true,Bool.not_false] at hb))|refine Call1_pure (h1) ?_|refine AR_fin hrel (by first|exact hin _|simp only [go_sem,and_self]) ag_ ?_)<;>simp only [go_sem, *]))
 refine AR_weakBox ⟨gen,7,1⟩ (by simp only [go_sem, *];rfl) ?_
 simp only [go_sem, *]
 refine AR_tok ⟨gen,1,0⟩ ⟨gen,99,0⟩ 5 (by simp only [go_sem, *]) (by simp only [go_sem, *]) ?_
 refine AR_growB (p:=4) ⟨gen,1,0⟩ ⟨gen,99,0⟩ ⟨gen,98,0⟩ [] e0.cells (by simp) (by simp) (Tm.cells_len _) (Tm.cells_one _) (by kernel_rfl) rfl ⟨by kernel_rfl,by kernel_rfl,by kernel_rfl,by kernel_rfl,by kernel_rfl,by kernel_rfl,by kernel_rfl,by kernel_rfl,by kernel_rfl,by kernel_rfl⟩ (ts:=37) (ty:=40) (tn:=39) (tv:=38) (tb:=5) (d5:=41) (d6:=42)
  ⟨⟨_,rfl,rfl,rfl,rfl⟩,⟨_,rfl,rfl,rfl,rfl⟩,⟨_,rfl,rfl,rfl,rfl⟩,⟨_,rfl,rfl,rfl,rfl⟩,ty30,ty32,rfl,rfl,by decide,rfl,rfl,of_decide_eq_true (by kernel_rfl),of_decide_eq_true (by kernel_rfl),by decide,by decide⟩ (by decide) rfl (by decide) ?_
 simp only [go_sem, *]
 repeat' (first
  |(refine ⟨?_,?_⟩;focus ((repeat' (first|refine ⟨?_,?_⟩|refine .inr ?_));all_goals kernel_rfl))
  | (first|fail)<;>try simp only [go_sem, *])
 unfold grownB
 simp only [go_sem, *]
 repeat' (first
  |refine AR_seq ?_|refine AR_skip ?_|refine AR_block ?_|refine AR_block_end ?_|refine AR_exit ?_|refine AR_code_exit ?_|refine AR_inv_exit ?_|refine AR_block_hit ?_
  |refine AR_block_pass (by decide) ?_|refine AR_ret ?_|refine AR_fall ?_
  |(refine ⟨?_,?_⟩;focus ((repeat' (first|refine ⟨?_,?_⟩|refine .inr ?_));all_goals kernel_rfl))
  |refine AR_cond_t rfl ?_|refine AR_cond_f rfl ?_|(refine AR_cond rfl (fun hc=>?_) (fun hc=>?_)<;>(try rw [beq_iff_eq] at hc)<;>(try simp only [hc]))
  | ((first|refine AR_regionN ?_|(refine guarded_split (fun hb=>?_) (fun hb=>?_)<;>(try simp only [Bool.not_true,Bool.not_false] at hb))|refine Call1_pure (h1) ?_|refine AR_fin hrel (by first|exact hin _|simp only [go_sem,and_self]) ag_ ?_)<;>simp only [go_sem, *]))
 clear hcell
 have hkeep:=hgl
 have hNl2:N.length≤17:=by omega
 refine ar_ [1,2,4,5,6,7,23,44] [⟨gen,0,0⟩,⟨gen,7,1⟩] (fun i σ=>Agree h σ.h∧σ.h ⟨gen,1,0⟩=some (.box [.sl (.own ⟨gen,99,0⟩) ((growL [e0] N (fun a=>consT a e0) i).map Tm.cells)])∧σ.h ⟨gen,99,0⟩=some (.tok (growL [e0] N (fun a=>consT a e0) i).length 5)) (N).length ?_ ?_ ?_
 ·simp only [growL_zero,List.map_cons,List.map_nil,List.length_cons,List.length_nil,go_sem, *]
  all_goals first|exact ag_|exact ⟨ag_,rfl,rfl⟩
 ·
  intro i σ gr0 hgl_gr0 hgn hlt jI jN jS ⟨jA,jb,jt⟩
  obtain ⟨jT,jB⟩:=jS
  simp only [go_sem] at jT jB
  obtain ⟨hgf,hgf0,eg_gen_gr0,eh_gen_gr0⟩:=rnd hgn hgl_gr0 jA
  obtain ⟨x,hx,hxm,hm⟩:=rnx hlt
  clear hgn
  have hc:=hcN x
  have hq:=growL_map (P:=[e0]) (f:=fun a=>consT a e0) hx
  have hq2:=growL_tok (P:=[e0]) (f:=fun a=>consT a e0) hx
  have hb9:=growL_len (P:=[e0]) (N:=N) (f:=fun a=>consT a e0) (i:=i)
  simp only [List.length_cons,List.length_nil] at hq hq2 hb9
  clear hcN hcC hgl hkeep h1 h2
  repeat' (first
   |refine AR_seq ?_|refine AR_skip ?_|refine AR_block ?_|refine AR_block_end ?_|refine AR_exit ?_|refine AR_code_exit ?_|refine AR_inv_exit ?_|refine AR_block_hit ?_
   |refine AR_block_pass (by decide) ?_|refine AR_ret ?_|refine AR_fall ?_
   |(refine ⟨?_,?_⟩;focus ((repeat' (first|refine ⟨?_,?_⟩|refine .inr ?_));all_goals kernel_rfl))
   |refine AR_cond_t rfl ?_|refine AR_cond_f rfl ?_|(refine AR_cond rfl (fun hc=>?_) (fun hc=>?_)<;>(try rw [beq_iff_eq] at hc)<;>(try simp only [hc]))
   | ((first|refine AR_regionN ?_|(refine guarded_split (fun hb=>?_) (fun hb=>?_)<;>(try simp only [Bool.not_true,Bool.not_false] at hb))|refine AR_fin hrel (by first|exact hin _|simp only [go_sem,and_self]) ag_ ?_)<;>simp only [go_sem, *]))
  refine AR_growB (p:=7) ⟨gen,1,0⟩ ⟨gen,99,0⟩ ⟨gr0,98,0⟩ ((growL [e0] N (fun a=>consT a e0) i).map Tm.cells) (consT x e0).cells (h5T _) (by first|omega|simp only [List.length_map];omega) (Tm.cells_len _) (Tm.cells_one _) (by kernel_rfl) rfl ⟨by kernel_rfl,by kernel_rfl,by kernel_rfl,by kernel_rfl,by kernel_rfl,by kernel_rfl,by kernel_rfl,by kernel_rfl,by kernel_rfl,by kernel_rfl⟩ (ts:=50) (ty:=56) (tn:=55) (tv:=54) (tb:=5) (d5:=57) (d6:=58)
   ⟨⟨_,rfl,rfl,rfl,rfl⟩,⟨_,rfl,rfl,rfl,rfl⟩,⟨_,rfl,rfl,rfl,rfl⟩,⟨_,rfl,rfl,rfl,rfl⟩,ty30,ty32,rfl,rfl,by decide,rfl,rfl,of_decide_eq_true (by kernel_rfl),of_decide_eq_true (by kernel_rfl),by decide,by decide⟩ (by decide) rfl (by decide) ?_
  simp only [go_sem, *]
  repeat' (first
   |(refine ⟨?_,?_⟩;focus ((repeat' (first|refine ⟨?_,?_⟩|refine .inr ?_));all_goals kernel_rfl))
   | (first|fail|refine cp hc ?_)<;>try simp only [go_sem, *])
  unfold grownB
  simp only [go_sem, *]
  first|refine wq_ ?_|exact wk_
  all_goals first|exact ag_|exact ⟨ag_,rfl,rfl⟩
 intro σ ga0 hgl_ga0 hgn jS ⟨jA,jb,jt⟩
 obtain ⟨jT,jB⟩:=jS
 simp only [go_sem] at jT jB
 obtain ⟨hgf,hgf0,eg_gen_ga0,eh_gen_ga0⟩:=rnd hgn hgl_ga0 jA
 clear hgn
 rw [growL_full] at jb jt
 obtain ⟨P1,hP1⟩:∃ P1:List Tm,P1=[e0]++List.map (fun a=>consT a e0) N:=⟨_,rfl⟩
 rw [← hP1] at jb jt h2
 simp only [← hP1] at hgl
 clear hP1 hkeep
 repeat' (first
  |refine AR_seq ?_|refine AR_skip ?_|refine AR_block ?_|refine AR_block_end ?_|refine AR_exit ?_|refine AR_code_exit ?_|refine AR_inv_exit ?_|refine AR_block_hit ?_
  |refine AR_block_pass (by decide) ?_|refine AR_ret ?_|refine AR_fall ?_
  |(refine ⟨?_,?_⟩;focus ((repeat' (first|refine ⟨?_,?_⟩|refine .inr ?_));all_goals kernel_rfl))
  |refine AR_cond_t rfl ?_|refine AR_cond_f rfl ?_|(refine AR_cond rfl (fun hc=>?_) (fun hc=>?_)<;>(try rw [beq_iff_eq] at hc)<;>(try simp only [hc]))
  | ((first|refine AR_regionN ?_|(refine guarded_split (fun hb=>?_) (fun hb=>?_)<;>(try simp only [Bool.not_true,Bool.not_false] at hb))|refine Call1_pure (h1) ?_|refine AR_fin hrel (by first|exact hin _|simp only [go_sem,and_self]) ag_ ?_)<;>simp only [go_sem, *]))
 refine ar_ [1,2,4,5,6,7,23,61] [⟨gen,0,0⟩,⟨gen,7,1⟩] (fun i σ=>Agree h σ.h∧σ.h ⟨gen,1,0⟩=some (.box [.sl (.own ⟨gen,99,0⟩) ((growF P1 N (fun a=>N.map fun b=>consT a (consT b e0)) i).map Tm.cells)])∧σ.h ⟨gen,99,0⟩=some (.tok (growF P1 N (fun a=>N.map fun b=>consT a (consT b e0)) i).length 5)) (N).length ?_ ?_ ?_
 ·simp only [growF_zero,go_sem, *]
  all_goals first|exact ag_|exact ⟨ag_,jb,jt⟩
 ·clear jb jt
  intro i σ gr1 hgl_gr1 hgn hlt jI jN jS ⟨jA,jb,jt⟩
  obtain ⟨jT,jB⟩:=jS
  simp only [go_sem] at jT jB
  have hgf:=fresh_of hgn
  have hgf0:=fun r i=>agree_fresh jA (hgf r i)
  have eg_gen_gr1:=gen_lt (show gen<gr1 by omega)
  have eh_gen_gr1:=gen_lt' (show gen<gr1 by omega)
  have eg_ga0_gr1:=gen_lt (show ga0<gr1 by omega)
  have eh_ga0_gr1:=gen_lt' (show ga0<gr1 by omega)
  obtain ⟨x,hx,hxm,hm⟩:=rnx hlt
  clear hgn
  have hfs:=growF_succ (P:=P1) (g:=fun a=>N.map fun b=>consT a (consT b e0)) hx
  have hgi:=hgl i (by omega)
  try simp only at hfs
  rw [hfs]
  clear hfs hgl h2
  generalize growF P1 N (fun a=>N.map fun b=>consT a (consT b e0)) i=Q at *
  repeat' (first
   |refine AR_seq ?_|refine AR_skip ?_|refine AR_block ?_|refine AR_block_end ?_|refine AR_exit ?_|refine AR_code_exit ?_|refine AR_inv_exit ?_|refine AR_block_hit ?_
   |refine AR_block_pass (by decide) ?_|refine AR_ret ?_|refine AR_fall ?_
   |(refine ⟨?_,?_⟩;focus ((repeat' (first|refine ⟨?_,?_⟩|refine .inr ?_));all_goals kernel_rfl))
   |refine AR_cond_t rfl ?_|refine AR_cond_f rfl ?_|(refine AR_cond rfl (fun hc=>?_) (fun hc=>?_)<;>(try rw [beq_iff_eq] at hc)<;>(try simp only [hc]))
   | ((first|refine AR_regionN ?_|(refine guarded_split (fun hb=>?_) (fun hb=>?_)<;>(try simp only [Bool.not_true,Bool.not_false] at hb))|refine Call1_pure (h1) ?_|refine AR_fin hrel (by first|exact hin _|simp only [go_sem,and_self]) ag_ ?_)<;>simp only [go_sem, *]))
  generalize x=xo at *
  refine ar_ [1,2,4,5,6,7,11,23,61,62,63,68] [⟨gen,0,0⟩,⟨gen,7,1⟩,⟨gr1,17,2⟩] (fun i σ=>Agree h σ.h∧σ.h ⟨gen,1,0⟩=some (.box [.sl (.own ⟨gen,99,0⟩) ((growL Q N (fun b=>consT xo (consT b e0)) i).map Tm.cells)])∧σ.h ⟨gen,99,0⟩=some (.tok (growL Q N (fun b=>consT xo (consT b e0)) i).length 5)) (N).length ?_ ?_ ?_
  ·simp only [growL_zero,go_sem, *]
   all_goals first|exact ag_|exact ⟨ag_,jb,jt⟩
  ·clear jb jt hx
   intro i σ gr2 hgl_gr2 hgn hlt jI jN jS ⟨jA,jb,jt⟩
   obtain ⟨jT,jB⟩:=jS
   simp only [go_sem] at jT jB
   have hgf:=fresh_of hgn
   have hgf0:=fun r i=>agree_fresh jA (hgf r i)
   have eg_gen_gr2:=gen_lt (show gen<gr2 by omega)
   have eh_gen_gr2:=gen_lt' (show gen<gr2 by omega)
   have eg_ga0_gr2:=gen_lt (show ga0<gr2 by omega)
   have eh_ga0_gr2:=gen_lt' (show ga0<gr2 by omega)
   have eg_gr1_gr2:=gen_lt (show gr1<gr2 by omega)
   have eh_gr1_gr2:=gen_lt' (show gr1<gr2 by omega)
   obtain ⟨x,hx,hxm,hm⟩:=rnx hlt
   clear hgn
   have hc:=hcN x
   have hc2:=hcC xo x
   have hq:=growL_map (P:=Q) (f:=fun b=>consT xo (consT b e0)) hx
   have hq2:=growL_tok (P:=Q) (f:=fun b=>consT xo (consT b e0)) hx
   have hb9:=growL_len (P:=Q) (N:=N) (f:=fun b=>consT xo (consT b e0)) (i:=i)
   try simp only at hq hq2 hb9
   clear hcN hcC h1
   repeat' (first
    |refine AR_seq ?_|refine AR_skip ?_|refine AR_block ?_|refine AR_block_end ?_|refine AR_exit ?_|refine AR_code_exit ?_|refine AR_inv_exit ?_|refine AR_block_hit ?_
    |refine AR_block_pass (by decide) ?_|refine AR_ret ?_|refine AR_fall ?_
    |(refine ⟨?_,?_⟩;focus ((repeat' (first|refine ⟨?_,?_⟩|refine .inr ?_));all_goals kernel_rfl))
    |refine AR_cond_t rfl ?_|refine AR_cond_f rfl ?_|(refine AR_cond rfl (fun hc=>?_) (fun hc=>?_)<;>(try rw [beq_iff_eq] at hc)<;>(try simp only [hc]))
    | ((first|refine AR_regionN ?_|(refine guarded_split (fun hb=>?_) (fun hb=>?_)<;>(try simp only [Bool.not_true,Bool.not_false] at hb))|refine AR_fin hrel (by first|exact hin _|simp only [go_sem,and_self]) ag_ ?_)<;>simp only [go_sem, *]))
   refine AR_growB (p:=10) ⟨gen,1,0⟩ ⟨gen,99,0⟩ ⟨gr2,98,0⟩ ((growL Q N (fun b=>consT xo (consT b e0)) i).map Tm.cells) (consT xo (consT x e0)).cells (h5T _) (by first|omega|simp only [List.length_map];omega) (Tm.cells_len _) (Tm.cells_one _) (by kernel_rfl) rfl ⟨by kernel_rfl,by kernel_rfl,by kernel_rfl,by kernel_rfl,by kernel_rfl,by kernel_rfl,by kernel_rfl,by kernel_rfl,by kernel_rfl,by kernel_rfl⟩ (ts:=74) (ty:=83) (tn:=82) (tv:=81) (tb:=5) (d5:=84) (d6:=85)
    ⟨⟨_,rfl,rfl,rfl,rfl⟩,⟨_,rfl,rfl,rfl,rfl⟩,⟨_,rfl,rfl,rfl,rfl⟩,⟨_,rfl,rfl,rfl,rfl⟩,ty30,ty32,rfl,rfl,by decide,rfl,rfl,of_decide_eq_true (by kernel_rfl),of_decide_eq_true (by kernel_rfl),by decide,by decide⟩ (by decide) rfl (by decide) ?_
   simp only [go_sem, *]
   repeat' (first
    |(refine ⟨?_,?_⟩;focus ((repeat' (first|refine ⟨?_,?_⟩|refine .inr ?_));all_goals kernel_rfl))
    | (first|fail|refine cp hc ?_|refine cp hc2 ?_)<;>try simp only [go_sem, *])
   unfold grownB
   simp only [go_sem, *]
   first|refine wq_ ?_|exact wk_
   all_goals first|exact ag_|exact ⟨ag_,rfl,rfl⟩
  clear jb jt
  intro σ ga2 hgl_ga2 hgn jS ⟨jA,jb,jt⟩
  obtain ⟨jT,jB⟩:=jS
  simp only [go_sem] at jT jB
  have hgf:=fresh_of hgn
  have hgf0:=fun r i=>agree_fresh jA (hgf r i)
  have eg_gen_ga2:=gen_lt (show gen<ga2 by omega)
  have eh_gen_ga2:=gen_lt' (show gen<ga2 by omega)
  have eg_ga0_ga2:=gen_lt (show ga0<ga2 by omega)
  have eh_ga0_ga2:=gen_lt' (show ga0<ga2 by omega)
  have eg_gr1_ga2:=gen_lt (show gr1<ga2 by omega)
  have eh_gr1_ga2:=gen_lt' (show gr1<ga2 by omega)
  clear hgn
  rw [growL_full] at jb jt
  repeat' (first
   |(refine ⟨?_,?_⟩;focus ((repeat' (first|refine ⟨?_,?_⟩|refine .inr ?_));all_goals kernel_rfl))
   |exact hin _|exact agf (by assumption)
   | (first|refine wp rfl ?_|refine spt rfl ?_|refine spf rfl ?_|(refine spl (fun hc=>?_) fun hc=>?_)<;>(try rw [beq_iff_eq] at hc)<;>try simp only [hc]|refine AR_inv ?_|refine finF hrel ?_ ?_ ?_)<;>try simp only [go_sem, *])
  all_goals first|exact ag_|exact ⟨ag_,jb,jt⟩
 clear jb jt
 intro σ ga1 hgl_ga1 hgn jS ⟨jA,jb,jt⟩
 obtain ⟨jT,jB⟩:=jS
 simp only [go_sem] at jT jB
 have hgf:=fresh_of hgn
 have hgf0:=fun r i=>agree_fresh jA (hgf r i)
 have eg_gen_ga1:=gen_lt (show gen<ga1 by omega)
 have eh_gen_ga1:=gen_lt' (show gen<ga1 by omega)
 have eg_ga0_ga1:=gen_lt (show ga0<ga1 by omega)
 have eh_ga0_ga1:=gen_lt' (show ga0<ga1 by omega)
 clear hgn
 rw [hNl] at h2
 rw [hNl] at jb jt
 exact wk_
theorem c_conOfPair (m:Nat) {a b:Ty} {A Bl:List Tm} (hA:Pure Tryz.prog env 92 [.agg a.cells,.int .i64 m] (.sl .any (A.map Tm.cells))) (hB:Pure Tryz.prog env 92 [.agg b.cells,.int .i64 m] (.sl .any (Bl.map Tm.cells)))
  (la:A.length≤64) (lb:Bl.length≤64):Pure Tryz.prog env 92 [.agg (tPair a b).cells,.int .i64 m] (.sl .any (((pairUp Bl [] A).take 64).map Tm.cells)):=by
 intro h
 have h2:∀ l:List Tm,l.length≤1000→Pure Tryz.prog env 148 [.sl .any (l.map Tm.cells)] (.sl .any ((l.take 64).map Tm.cells)):=fun l hl=>c_conFirst l (by omega)
 have hk:(tPair a b).kind=3:=rfl
 have ha:(tPair a b).args=[a,b]:=rfl
 obtain ⟨R,hR⟩:∃ R,pairUp Bl [] A=R:=⟨_,rfl⟩
 rw [hR]
 have hcell:∀ x y:Tm,[.int .i64 10,.int .i64 0,.int .i64 0,.sl .any [],.sl .any [x.cells,y.cells]]=(tm0 10 [x,y]).cells:=by intro x y;rw [tm0,Tm.mk_cells];rfl
 generalize tPair a b=t at *
 refine en_ Tryz.func92 [.tmp 4] fun g0 w0 gen hrel hfr hfr' hres=>?_
 repeat' (first
  |refine AR_seq ?_|refine AR_skip ?_|refine AR_block ?_|refine AR_block_end ?_|refine AR_exit ?_|refine AR_code_exit ?_|refine AR_inv_exit ?_|refine AR_block_hit ?_
  |refine AR_block_pass (by decide) ?_|refine AR_ret ?_|refine AR_fall ?_
  |(refine ⟨?_,?_⟩;focus ((repeat' (first|refine ⟨?_,?_⟩|refine .inr ?_));all_goals kernel_rfl))
  |refine AR_cond_t rfl ?_|refine AR_cond_f rfl ?_|(refine AR_cond rfl (fun hc=>?_) (fun hc=>?_)<;>(try rw [beq_iff_eq] at hc)<;>(try simp only [hc]))
  | ((first|refine AR_regionN ?_|(refine guarded_split (fun hb=>?_) (fun hb=>?_)<;>(try simp only [Bool.not_true,Bool.not_false] at hb))|refine Call1_pure (hA) ?_|refine Call1_pure (hB) ?_|refine AR_fin hrel (by first|exact hin _|simp only [go_sem,and_self]) ag_ ?_)<;>simp only [go_sem, *]))
 refine AR_tok ⟨gen,1,0⟩ ⟨gen,99,0⟩ 5 (by simp only [go_sem, *]) (by simp only [go_sem, *]) ?_
 refine ar_ [1,2,4,5,14,23,101] [⟨gen,0,0⟩] (fun i σ=>Agree h σ.h∧∃ out:List Tm,σ.h ⟨gen,1,0⟩=some (.box [.sl (.own ⟨gen,99,0⟩) (out.map Tm.cells)])∧σ.h ⟨gen,99,0⟩=some (.tok out.length 5)∧pairUp Bl out (A.drop i)=R∧out.length≤63) (A).length ?_ ?_ ?_
 ·simp only [go_sem, *]
  exact ⟨ag_,[],rfl,rfl,hR,by simp⟩
 ·clear hR hA hB
  intro i σ gr3 hgl_gr3 hgn hlt jI jN jS ⟨jA,out,jb,jt,jp,jl⟩
  obtain ⟨jT,jB⟩:=jS
  simp only [go_sem] at jT jB
  obtain ⟨hgf,hgf0,eg_gen_gr3,eh_gen_gr3⟩:=rnd hgn hgl_gr3 jA
  obtain ⟨x,hx,hxm,hm⟩:=rnx hlt
  clear hgn
  rw [drop_get hx,pairUp] at jp
  repeat' (first
   |refine AR_seq ?_|refine AR_skip ?_|refine AR_block ?_|refine AR_block_end ?_|refine AR_exit ?_|refine AR_code_exit ?_|refine AR_inv_exit ?_|refine AR_block_hit ?_
   |refine AR_block_pass (by decide) ?_|refine AR_ret ?_|refine AR_fall ?_
   |(refine ⟨?_,?_⟩;focus ((repeat' (first|refine ⟨?_,?_⟩|refine .inr ?_));all_goals kernel_rfl))
   |refine AR_cond_t rfl ?_|refine AR_cond_f rfl ?_|(refine AR_cond rfl (fun hc=>?_) (fun hc=>?_)<;>(try rw [beq_iff_eq] at hc)<;>(try simp only [hc]))
   | ((first|refine AR_regionN ?_|(refine guarded_split (fun hb=>?_) (fun hb=>?_)<;>(try simp only [Bool.not_true,Bool.not_false] at hb))|refine AR_fin hrel (by first|exact hin _|simp only [go_sem,and_self]) ag_ ?_)<;>simp only [go_sem, *]))
  clear hx
  generalize x=xo at *
  refine ar_ [1,2,4,5,14,16,23,101,102,103,107] [⟨gen,0,0⟩,⟨gr3,28,2⟩] (fun i σ=>Agree h σ.h∧σ.h ⟨gen,1,0⟩=some (.box [.sl (.own ⟨gen,99,0⟩) ((growL out Bl (fun b=>tm0 10 [xo,b]) i).map Tm.cells)])∧σ.h ⟨gen,99,0⟩=some (.tok (growL out Bl (fun b=>tm0 10 [xo,b]) i).length 5)) (Bl).length ?_ ?_ ?_
  ·simp only [growL_zero,go_sem, *]
   all_goals first|exact ag_|exact ⟨ag_,jb,jt⟩
  ·clear jb jt jp
   intro i σ gr4 hgl_gr4 hgn hlt jI jN jS ⟨jA,jb,jt⟩
   obtain ⟨jT,jB⟩:=jS
   simp only [go_sem] at jT jB
   have hgf:=fresh_of hgn
   have hgf0:=fun r i=>agree_fresh jA (hgf r i)
   have eg_gen_gr4:=gen_lt (show gen<gr4 by omega)
   have eh_gen_gr4:=gen_lt' (show gen<gr4 by omega)
   have eg_gr3_gr4:=gen_lt (show gr3<gr4 by omega)
   have eh_gr3_gr4:=gen_lt' (show gr3<gr4 by omega)
   obtain ⟨x,hx,hxm,hm⟩:=rnx hlt
   clear hgn
   have hc:=hcell xo x
   have hq:=growL_map (P:=out) (f:=fun b=>tm0 10 [xo,b]) hx
   have hq2:=growL_tok (P:=out) (f:=fun b=>tm0 10 [xo,b]) hx
   have hb9:=growL_len (P:=out) (N:=Bl) (f:=fun b=>tm0 10 [xo,b]) (i:=i)
   try simp only at hq hq2 hb9
   clear hcell h2
   repeat' (first
    |refine AR_seq ?_|refine AR_skip ?_|refine AR_block ?_|refine AR_block_end ?_|refine AR_exit ?_|refine AR_code_exit ?_|refine AR_inv_exit ?_|refine AR_block_hit ?_
    |refine AR_block_pass (by decide) ?_|refine AR_ret ?_|refine AR_fall ?_
    |(refine ⟨?_,?_⟩;focus ((repeat' (first|refine ⟨?_,?_⟩|refine .inr ?_));all_goals kernel_rfl))
    |refine AR_cond_t rfl ?_|refine AR_cond_f rfl ?_|(refine AR_cond rfl (fun hc=>?_) (fun hc=>?_)<;>(try rw [beq_iff_eq] at hc)<;>(try simp only [hc]))
    | ((first|refine AR_regionN ?_|(refine guarded_split (fun hb=>?_) (fun hb=>?_)<;>(try simp only [Bool.not_true,Bool.not_false] at hb))|refine AR_fin hrel (by first|exact hin _|simp only [go_sem,and_self]) ag_ ?_)<;>simp only [go_sem, *]))
   refine AR_growB (p:=7) ⟨gen,1,0⟩ ⟨gen,99,0⟩ ⟨gr4,98,0⟩ ((growL out Bl (fun b=>tm0 10 [xo,b]) i).map Tm.cells) (tm0 10 [xo,x]).cells (h5T _) (by first|omega|simp only [List.length_map];omega) (Tm.cells_len _) (Tm.cells_one _) (by kernel_rfl) rfl ⟨by kernel_rfl,by kernel_rfl,by kernel_rfl,by kernel_rfl,by kernel_rfl,by kernel_rfl,by kernel_rfl,by kernel_rfl,by kernel_rfl,by kernel_rfl⟩ (ts:=113) (ty:=119) (tn:=118) (tv:=117) (tb:=5) (d5:=120) (d6:=121)
    ⟨⟨_,rfl,rfl,rfl,rfl⟩,⟨_,rfl,rfl,rfl,rfl⟩,⟨_,rfl,rfl,rfl,rfl⟩,⟨_,rfl,rfl,rfl,rfl⟩,ty30,ty32,rfl,rfl,by decide,rfl,rfl,of_decide_eq_true (by kernel_rfl),of_decide_eq_true (by kernel_rfl),by decide,by decide⟩ (by decide) rfl (by decide) ?_
   simp only [go_sem, *]
   repeat' (first
    |(refine ⟨?_,?_⟩;focus ((repeat' (first|refine ⟨?_,?_⟩|refine .inr ?_));all_goals kernel_rfl))
    | (first|fail)<;>try simp only [go_sem, *])
   unfold grownB
   simp only [go_sem, *]
   first|refine wq_ ?_|exact wk_
   all_goals first|exact ag_|exact ⟨ag_,rfl,rfl⟩
  clear jb jt
  intro σ ga4 hgl_ga4 hgn jS ⟨jA,jb,jt⟩
  obtain ⟨jT,jB⟩:=jS
  simp only [go_sem] at jT jB
  have hgf:=fresh_of hgn
  have hgf0:=fun r i=>agree_fresh jA (hgf r i)
  have eg_gen_ga4:=gen_lt (show gen<ga4 by omega)
  have eh_gen_ga4:=gen_lt' (show gen<ga4 by omega)
  have eg_gr3_ga4:=gen_lt (show gr3<ga4 by omega)
  have eh_gr3_ga4:=gen_lt' (show gr3<ga4 by omega)
  clear hgn
  rw [growL_full] at jb jt
  have hlen:(out++Bl.map fun b=>tm0 10 [xo,b]).length≤1000:=by simp;omega
  obtain ⟨o,ho⟩:∃ o,o=out++Bl.map fun b=>tm0 10 [xo,b]:=⟨_,rfl⟩
  rw [← ho] at jb jt jp hlen
  try simp only at jp
  clear ho hcell
  rcases Nat.lt_or_ge o.length 64 with hlt2|hge
  ·rw [if_neg (by omega)] at jp
   have hc1:(64≤(o.length:Int))=False:=by simp;omega
   clear h2
   refine wq_ ?_
   exact ⟨o,rfl,rfl,jp,by omega⟩
  ·rw [if_pos (by omega)] at jp
   subst jp
   have hc1:(64≤(o.length:Int))=True:=by simp;omega
   have h3:=h2 o hlen
   clear h2
   repeat' (first
    |refine AR_seq ?_|refine AR_skip ?_|refine AR_block ?_|refine AR_block_end ?_|refine AR_exit ?_|refine AR_code_exit ?_|refine AR_inv_exit ?_|refine AR_block_hit ?_
    |refine AR_block_pass (by decide) ?_|refine AR_ret ?_|refine AR_fall ?_
    |(refine ⟨?_,?_⟩;focus ((repeat' (first|refine ⟨?_,?_⟩|refine .inr ?_));all_goals kernel_rfl))
    |refine AR_cond_t rfl ?_|refine AR_cond_f rfl ?_|(refine AR_cond rfl (fun hc=>?_) (fun hc=>?_)<;>(try rw [beq_iff_eq] at hc)<;>(try simp only [hc]))
    | ((first|refine AR_regionN ?_|(refine guarded_split (fun hb=>?_) (fun hb=>?_)<;>(try simp only [Bool.not_true,Bool.not_false] at hb))|refine Call1_pure (h3) ?_|refine AR_fin hrel (by first|exact hin _|simp only [go_sem,and_self]) ag_ ?_)<;>simp only [go_sem, *]))
   all_goals simp only [go_sem, *]
 ·clear hA hB
  intro σ ga3 hgl_ga3 hgn jS ⟨jA,out,jb,jt,jp,jl⟩
  obtain ⟨jT,jB⟩:=jS
  simp only [go_sem] at jT jB
  obtain ⟨hgf,hgf0,eg_gen_ga3,eh_gen_ga3⟩:=rnd hgn hgl_ga3 jA
  clear hgn
  rw [List.drop_length,pairUp] at jp
  clear hR
  subst jp
  have h3:=h2 out (by omega)
  clear h2 hcell
  exact wk_
theorem c_conOfFun (m:Nat) {a b:Ty} {C:List Tm} (wa:TyW a) (wb:TyW b) (hC:Pure Tryz.prog env 92 [.agg b.cells,.int .i64 m] (.sl .any (C.map Tm.cells)))
  (lc:C.length≤64):Pure Tryz.prog env 92 [.agg (tFun a b).cells,.int .i64 m] (.sl .any ((((if Ty.same a b then [tmT 2 a [tmVar 0]] else [])++C.map fun c=>tmT 2 a [c]).take 64).map Tm.cells)):=by
 intro h
 have hS:=c_conSame a b wa wb
 have hLam:=c_conLam a b
 have hk:(tFun a b).kind=4:=rfl
 have ha:(tFun a b).args=[a,b]:=rfl
 have hcell:[.int .i64 1,.int .i64 0,.int .i64 0,.sl .any [],.sl .any []]=(tmVar 0).cells:=by rw [tmVar,Tm.mk_cells];rfl
 clear wa wb
 cases hs:Ty.same a b with
 | true =>
  rw [hs] at hS
  rw [if_pos rfl]
  have h2:=c_conFirst ([tmT 2 a [tmVar 0]]++C.map fun c=>tmT 2 a [c]) (by simp;omega)
  obtain ⟨R,hR⟩:∃ R,R=([tmT 2 a [tmVar 0]]++C.map fun c=>tmT 2 a [c]).take 64:=⟨_,rfl⟩
  rw [← hR] at h2 ⊢
  clear hs hR
  generalize tFun a b=t at *
  generalize tmVar 0=v0 at *
  refine en_ Tryz.func92 [.tmp 4] fun g0 w0 gen hrel hfr hfr' hres=>?_
  repeat' (first
   |refine AR_seq ?_|refine AR_skip ?_|refine AR_block ?_|refine AR_block_end ?_|refine AR_exit ?_|refine AR_code_exit ?_|refine AR_inv_exit ?_|refine AR_block_hit ?_
   |refine AR_block_pass (by decide) ?_|refine AR_ret ?_|refine AR_fall ?_
   |(refine ⟨?_,?_⟩;focus ((repeat' (first|refine ⟨?_,?_⟩|refine .inr ?_));all_goals kernel_rfl))
   |refine AR_cond_t rfl ?_|refine AR_cond_f rfl ?_|(refine AR_cond rfl (fun hc=>?_) (fun hc=>?_)<;>(try rw [beq_iff_eq] at hc)<;>(try simp only [hc]))
   | ((first|refine AR_regionN ?_|(refine guarded_split (fun hb=>?_) (fun hb=>?_)<;>(try simp only [Bool.not_true,Bool.not_false] at hb))|refine AR_fin hrel (by first|exact hin _|simp only [go_sem,and_self]) ag_ ?_)<;>simp only [go_sem, *]))
  refine AR_tok ⟨gen,1,0⟩ ⟨gen,99,0⟩ 5 (by simp only [go_sem, *]) (by simp only [go_sem, *]) ?_
  refine AR_region ?_
  simp only [go_sem, *]
  repeat' (first
   |(refine ⟨?_,?_⟩;focus ((repeat' (first|refine ⟨?_,?_⟩|refine .inr ?_));all_goals kernel_rfl))
   | (first|refine cp hS ?_)<;>try simp only [go_sem, *])
  repeat' (first
   |refine AR_seq ?_|refine AR_skip ?_|refine AR_block ?_|refine AR_block_end ?_|refine AR_exit ?_|refine AR_code_exit ?_|refine AR_inv_exit ?_|refine AR_block_hit ?_
   |refine AR_block_pass (by decide) ?_|refine AR_ret ?_|refine AR_fall ?_
   |(refine ⟨?_,?_⟩;focus ((repeat' (first|refine ⟨?_,?_⟩|refine .inr ?_));all_goals kernel_rfl))
   |refine AR_cond_t rfl ?_|refine AR_cond_f rfl ?_|(refine AR_cond rfl (fun hc=>?_) (fun hc=>?_)<;>(try rw [beq_iff_eq] at hc)<;>(try simp only [hc]))
   | ((first|refine AR_regionN ?_|(refine guarded_split (fun hb=>?_) (fun hb=>?_)<;>(try simp only [Bool.not_true,Bool.not_false] at hb))|refine AR_fin hrel (by first|exact hin _|simp only [go_sem,and_self]) ag_ ?_)<;>simp only [go_sem, *]))
  have hL0:=hLam v0 ⟨gen,1,0⟩ ⟨gen,99,0⟩ ⟨gen,0,0⟩ [] (by simp) (by simp) (by simp)
  simp only [List.nil_append,List.map_cons,List.map_nil,List.length_nil,Nat.zero_add] at hL0
  refine Call1_turn2 hL0 (by intro q hq;rw [List.mem_singleton] at hq;subst hq;simp only [go_sem, *]) (by simp only [go_sem, *]) (by simp only [go_sem, *]) ?_
  clear hL0
  simp only [happly,go_sem, *]
  repeat' (first
   |refine AR_seq ?_|refine AR_skip ?_|refine AR_block ?_|refine AR_block_end ?_|refine AR_exit ?_|refine AR_code_exit ?_|refine AR_inv_exit ?_|refine AR_block_hit ?_
   |refine AR_block_pass (by decide) ?_|refine AR_ret ?_|refine AR_fall ?_
   |(refine ⟨?_,?_⟩;focus ((repeat' (first|refine ⟨?_,?_⟩|refine .inr ?_));all_goals kernel_rfl))
   |refine AR_cond_t rfl ?_|refine AR_cond_f rfl ?_|(refine AR_cond rfl (fun hc=>?_) (fun hc=>?_)<;>(try rw [beq_iff_eq] at hc)<;>(try simp only [hc]))
   | ((first|refine AR_regionN ?_|(refine guarded_split (fun hb=>?_) (fun hb=>?_)<;>(try simp only [Bool.not_true,Bool.not_false] at hb))|refine Call1_pure (hC) ?_|refine AR_fin hrel (by first|exact hin _|simp only [go_sem,and_self]) ag_ ?_)<;>simp only [go_sem, *]))
  clear hcell
  refine ar_ [4,5,19,147] [] (fun i σ=>Agree h σ.h∧σ.h ⟨gen,1,0⟩=some (.box [.sl (.own ⟨gen,99,0⟩) ((growL [tmT 2 a [v0]] C (fun c=>tmT 2 a [c]) i).map Tm.cells)])∧σ.h ⟨gen,99,0⟩=some (.tok (growL [tmT 2 a [v0]] C (fun c=>tmT 2 a [c]) i).length 5)∧σ.h ⟨gen,0,0⟩=some (.box t.cells)) (C).length ?_ ?_ ?_
  ·simp only [growL_zero,List.map_cons,List.map_nil,List.length_cons,List.length_nil,go_sem, *]
   all_goals first|exact ag_|exact ⟨ag_,rfl,rfl⟩
  ·clear hC
   intro i σ gr5 hgl_gr5 hgn hlt jI jN jS ⟨jA,jb,jt,j00⟩
   obtain ⟨jT,jB⟩:=jS
   simp only [go_sem] at jT jB
   obtain ⟨hgf,hgf0,eg_gen_gr5,eh_gen_gr5⟩:=rnd hgn hgl_gr5 jA
   obtain ⟨x,hx,hxm,hm⟩:=rnx hlt
   clear hgn
   have hq:=growL_succ (P:=[tmT 2 a [v0]]) (f:=fun c=>tmT 2 a [c]) hx
   have hb9:=growL_len (P:=[tmT 2 a [v0]]) (N:=C) (f:=fun c=>tmT 2 a [c]) (i:=i)
   simp only [List.length_cons,List.length_nil] at hb9
   have hq3:(growL [tmT 2 a [v0]] C (fun c=>tmT 2 a [c]) (i+1)).length=(growL [tmT 2 a [v0]] C (fun c=>tmT 2 a [c]) i).length+1:=by rw [hq];simp
   have hLx:=hLam x ⟨gen,1,0⟩ ⟨gen,99,0⟩ ⟨gen,0,0⟩ (growL [tmT 2 a [v0]] C (fun c=>tmT 2 a [c]) i) (by omega) (by simp) (by simp)
   rw [← hq,← hq3] at hLx
   clear h2 hLam hq3 hq
   repeat' (first
    |refine AR_seq ?_|refine AR_skip ?_|refine AR_block ?_|refine AR_block_end ?_|refine AR_exit ?_|refine AR_code_exit ?_|refine AR_inv_exit ?_|refine AR_block_hit ?_
    |refine AR_block_pass (by decide) ?_|refine AR_ret ?_|refine AR_fall ?_
    |(refine ⟨?_,?_⟩;focus ((repeat' (first|refine ⟨?_,?_⟩|refine .inr ?_));all_goals kernel_rfl))
    |refine AR_cond_t rfl ?_|refine AR_cond_f rfl ?_|(refine AR_cond rfl (fun hc=>?_) (fun hc=>?_)<;>(try rw [beq_iff_eq] at hc)<;>(try simp only [hc]))
    | ((first|refine AR_regionN ?_|(refine guarded_split (fun hb=>?_) (fun hb=>?_)<;>(try simp only [Bool.not_true,Bool.not_false] at hb))|refine AR_fin hrel (by first|exact hin _|simp only [go_sem,and_self]) ag_ ?_)<;>simp only [go_sem, *]))
   refine Call1_turn2 hLx (by intro q hq;rw [List.mem_singleton] at hq;subst hq;simp only [go_sem, *]) (by simp only [go_sem, *]) (by simp only [go_sem, *]) ?_
   simp only [happly,go_sem, *]
   first|refine wq_ ?_|exact wk_
   all_goals first|exact ag_|exact ⟨ag_,rfl,rfl⟩
  ·clear hC hLam
   intro σ ga5 hgl_ga5 hgn jS ⟨jA,jb,jt,j00⟩
   obtain ⟨jT,jB⟩:=jS
   simp only [go_sem] at jT jB
   obtain ⟨hgf,hgf0,eg_gen_ga5,eh_gen_ga5⟩:=rnd hgn hgl_ga5 jA
   clear hgn
   rw [growL_full] at jb jt
   exact wk_
 | false =>
  rw [hs] at hS
  rw [if_neg (by simp)]
  have h2:=c_conFirst ([]++C.map fun c=>tmT 2 a [c]) (by simp;omega)
  obtain ⟨R,hR⟩:∃ R,R=([]++C.map fun c=>tmT 2 a [c]).take 64:=⟨_,rfl⟩
  rw [← hR] at h2 ⊢
  clear hs hR
  generalize tFun a b=t at *
  refine en_ Tryz.func92 [.tmp 4] fun g0 w0 gen hrel hfr hfr' hres=>?_
  repeat' (first
   |refine AR_seq ?_|refine AR_skip ?_|refine AR_block ?_|refine AR_block_end ?_|refine AR_exit ?_|refine AR_code_exit ?_|refine AR_inv_exit ?_|refine AR_block_hit ?_
   |refine AR_block_pass (by decide) ?_|refine AR_ret ?_|refine AR_fall ?_
   |(refine ⟨?_,?_⟩;focus ((repeat' (first|refine ⟨?_,?_⟩|refine .inr ?_));all_goals kernel_rfl))
   |refine AR_cond_t rfl ?_|refine AR_cond_f rfl ?_|(refine AR_cond rfl (fun hc=>?_) (fun hc=>?_)<;>(try rw [beq_iff_eq] at hc)<;>(try simp only [hc]))
   | ((first|refine AR_regionN ?_|(refine guarded_split (fun hb=>?_) (fun hb=>?_)<;>(try simp only [Bool.not_true,Bool.not_false] at hb))|refine AR_fin hrel (by first|exact hin _|simp only [go_sem,and_self]) ag_ ?_)<;>simp only [go_sem, *]))
  refine AR_tok ⟨gen,1,0⟩ ⟨gen,99,0⟩ 5 (by simp only [go_sem, *]) (by simp only [go_sem, *]) ?_
  refine AR_region ?_
  simp only [go_sem, *]
  repeat' (first
   |(refine ⟨?_,?_⟩;focus ((repeat' (first|refine ⟨?_,?_⟩|refine .inr ?_));all_goals kernel_rfl))
   | (first|refine cp hS ?_)<;>try simp only [go_sem, *])
  repeat' (first
   |refine AR_seq ?_|refine AR_skip ?_|refine AR_block ?_|refine AR_block_end ?_|refine AR_exit ?_|refine AR_code_exit ?_|refine AR_inv_exit ?_|refine AR_block_hit ?_
   |refine AR_block_pass (by decide) ?_|refine AR_ret ?_|refine AR_fall ?_
   |(refine ⟨?_,?_⟩;focus ((repeat' (first|refine ⟨?_,?_⟩|refine .inr ?_));all_goals kernel_rfl))
   |refine AR_cond_t rfl ?_|refine AR_cond_f rfl ?_|(refine AR_cond rfl (fun hc=>?_) (fun hc=>?_)<;>(try rw [beq_iff_eq] at hc)<;>(try simp only [hc]))
   | ((first|refine AR_regionN ?_|(refine guarded_split (fun hb=>?_) (fun hb=>?_)<;>(try simp only [Bool.not_true,Bool.not_false] at hb))|refine Call1_pure (hC) ?_|refine AR_fin hrel (by first|exact hin _|simp only [go_sem,and_self]) ag_ ?_)<;>simp only [go_sem, *]))
  clear hcell
  refine ar_ [4,5,19,147] [] (fun i σ=>Agree h σ.h∧σ.h ⟨gen,1,0⟩=some (.box [.sl (.own ⟨gen,99,0⟩) ((growL [] C (fun c=>tmT 2 a [c]) i).map Tm.cells)])∧σ.h ⟨gen,99,0⟩=some (.tok (growL [] C (fun c=>tmT 2 a [c]) i).length 5)∧σ.h ⟨gen,0,0⟩=some (.box t.cells)) (C).length ?_ ?_ ?_
  ·simp only [growL_zero,List.map_cons,List.map_nil,List.length_cons,List.length_nil,go_sem, *]
   all_goals first|exact ag_|exact ⟨ag_,rfl,rfl⟩
  ·clear hC
   intro i σ gr5 hgl_gr5 hgn hlt jI jN jS ⟨jA,jb,jt,j00⟩
   obtain ⟨jT,jB⟩:=jS
   simp only [go_sem] at jT jB
   obtain ⟨hgf,hgf0,eg_gen_gr5,eh_gen_gr5⟩:=rnd hgn hgl_gr5 jA
   obtain ⟨x,hx,hxm,hm⟩:=rnx hlt
   clear hgn
   have hq:=growL_succ (P:=[]) (f:=fun c=>tmT 2 a [c]) hx
   have hb9:=growL_len (P:=[]) (N:=C) (f:=fun c=>tmT 2 a [c]) (i:=i)
   simp only [List.length_cons,List.length_nil] at hb9
   have hq3:(growL [] C (fun c=>tmT 2 a [c]) (i+1)).length=(growL [] C (fun c=>tmT 2 a [c]) i).length+1:=by rw [hq];simp
   have hLx:=hLam x ⟨gen,1,0⟩ ⟨gen,99,0⟩ ⟨gen,0,0⟩ (growL [] C (fun c=>tmT 2 a [c]) i) (by omega) (by simp) (by simp)
   rw [← hq,← hq3] at hLx
   clear h2 hLam hq3 hq
   repeat' (first
    |refine AR_seq ?_|refine AR_skip ?_|refine AR_block ?_|refine AR_block_end ?_|refine AR_exit ?_|refine AR_code_exit ?_|refine AR_inv_exit ?_|refine AR_block_hit ?_
    |refine AR_block_pass (by decide) ?_|refine AR_ret ?_|refine AR_fall ?_
    |(refine ⟨?_,?_⟩;focus ((repeat' (first|refine ⟨?_,?_⟩|refine .inr ?_));all_goals kernel_rfl))
    |refine AR_cond_t rfl ?_|refine AR_cond_f rfl ?_|(refine AR_cond rfl (fun hc=>?_) (fun hc=>?_)<;>(try rw [beq_iff_eq] at hc)<;>(try simp only [hc]))
    | ((first|refine AR_regionN ?_|(refine guarded_split (fun hb=>?_) (fun hb=>?_)<;>(try simp only [Bool.not_true,Bool.not_false] at hb))|refine AR_fin hrel (by first|exact hin _|simp only [go_sem,and_self]) ag_ ?_)<;>simp only [go_sem, *]))
   refine Call1_turn2 hLx (by intro q hq;rw [List.mem_singleton] at hq;subst hq;simp only [go_sem, *]) (by simp only [go_sem, *]) (by simp only [go_sem, *]) ?_
   simp only [happly,go_sem, *]
   first|refine wq_ ?_|exact wk_
   all_goals first|exact ag_|exact ⟨ag_,rfl,rfl⟩
  ·clear hC hLam
   intro σ ga5 hgl_ga5 hgn jS ⟨jA,jb,jt,j00⟩
   obtain ⟨jT,jB⟩:=jS
   simp only [go_sem] at jT jB
   obtain ⟨hgf,hgf0,eg_gen_ga5,eh_gen_ga5⟩:=rnd hgn hgl_ga5 jA
   clear hgn
   rw [growL_full] at jb jt
   exact wk_
theorem c_conOf (m:Nat) (hm:m≤16) {t:Ty} (h:TyF t):∀ {n:Nat},tyH t≤n→Pure Tryz.prog env 92 [.agg t.cells,.int .i64 m] (.sl .any ((candN n t m).map Tm.cells)):=by
 induction h with
 | nat=>intro n hn;obtain ⟨n,rfl⟩:∃ k,n=k+1:=⟨n - 1,by have:=@tyH_pos tNat;omega⟩;rw [candN_nat];exact c_conOfNat m hm
 | list=>intro n hn;obtain ⟨n,rfl⟩:∃ k,n=k+1:=⟨n - 1,by have:=@tyH_pos tList;omega⟩;rw [candN_list];exact c_conOfList m hm
 | unit=>intro n hn;obtain ⟨n,rfl⟩:∃ k,n=k+1:=⟨n - 1,by have:=@tyH_pos tUnit;omega⟩;rw [candN_unit];exact c_conOfUnit m
 | @pair a b ha hb h1 h2 =>
  intro n hn
  obtain ⟨n,rfl⟩:∃ k,n=k+1:=⟨n - 1,by have:=@tyH_pos (tPair a b);omega⟩
  obtain ⟨q1,q2⟩:=tyH_two (k:=3) (a:=a) (b:=b) hn
  rw [candN_pair]
  exact c_conOfPair m (h1 q1) (h2 q2) candN_len candN_len
 | @func a b ha hb h1 h2 =>
  intro n hn
  obtain ⟨n,rfl⟩:∃ k,n=k+1:=⟨n - 1,by have:=@tyH_pos (tFun a b);omega⟩
  obtain ⟨q1,q2⟩:=tyH_two (k:=4) (a:=a) (b:=b) hn
  rw [candN_fun]
  exact c_conOfFun m ha.W hb.W (h2 q2) candN_len
theorem c_conCandOf (m:Nat) (hm:m≤16) {t:Ty} {L:List Tm} (h:TyW t) (he:tyErr t=0) (h2:Pure Tryz.prog env 92 [.agg t.cells,.int .i64 m] (.sl .any (L.map Tm.cells))) :
  Pure Tryz.prog env 41 [.agg t.cells,.int .i64 m] (.tup [.sl .any (L.map Tm.cells),.int .i64 0]):=by
 intro g
 have h1:=c_typesCheck t h
 rw [he] at h1
 have hc2:decide ((m:Int)<0)=false:=by simp
 have hc3:decide ((m:Int)>16)=false:=by simp;omega
 have n0:((0:Int) != 0)=false:=rfl
 clear h he
 exact ek_ Tryz.func41 [.tmp 4,.tmp 5]
theorem c_conCandidates (m:Nat) (hm:m≤16) {t:Ty} (h:TyF t) (he:tyErr t=0) {n:Nat} (hn:tyH t≤n) :
  Pure Tryz.prog env 41 [.agg t.cells,.int .i64 m] (.tup [.sl .any ((candN n t m).map Tm.cells),.int .i64 0]):=c_conCandOf m hm h.W he (c_conOf m hm h hn)
end Go.Proofs.YtmnplkmphgkooaaGreatDoor
