/-
 Walks: several parts in one text.
-/
import Derived.Test.YtmnplkmphgkooaaGreatDoorMa
import Derived.Test.YtmnplkmphgkooaaGreatDoorAbsDd
import Derived.Test.YtmnplkmphgkooaaGreatDoorAbsC
import Derived.Test.YtmnplkmphgkooaaGreatDoorMn
import Derived.Test.YtmnplkmphgkooaaGreatDoorTy
set_option linter.unusedSimpArgs false
set_option linter.unusedVariables false
set_option maxRecDepth 20000
set_option maxHeartbeats 4000000
namespace Go.Proofs.YtmnplkmphgkooaaGreatDoor
open Go GoAbs Go.Proofs
theorem c_valReadNumber (n:Nat) (hn:n≤100000):Pure Tryz.prog env 179 [.agg (numT n).cells] (.tup [.int .i64 n,.bool true]):=by
 intro h
 refine en_ Tryz.func179 [.tmp 2,.tmp 3] fun g0 w0 gen hrel hfr hfr' hres=>?_
 refine wq_ ?_
 refine AR_loop_nat (fun i σ=>σ.tm 1=.ptr ⟨gen,0,0⟩ 0∧σ.tm 4=.int .i64 (i:Int)∧σ.h ⟨gen,0,0⟩=some (.box (numT (n - i)).cells)∧Agree h σ.h) n ?_ ?_
 ·simp only [go_sem, *]
  exact ⟨by simp,rfl,ag_⟩
 intro i σ hi ⟨j1,j2,j3,j4⟩
 rcases Nat.lt_or_ge i n with hlt|hge
 ·obtain ⟨m,hm⟩:∃ m,n - i=m+1:=⟨n - i - 1,by omega⟩
  have hm2:n - (i+1)=m:=by omega
  have hw:IntKind.i64.wrap ((i:Int)+1)=((i+1:Nat):Int):=wrap_eq (by omega) (by omega) (by omega)
  have hk:(numT (m+1)).kind=5:=rfl
  have ha:(numT (m+1)).args=[numT m]:=rfl
  rw [hm] at j3
  rw [hm2]
  generalize numT (m+1)=t at *
  refine wq_ ?_
  exact ag_
 ·obtain rfl:i=n:=by omega
  have hk:(numT (i - i)).kind=4:=by rw [Nat.sub_self];rfl
  generalize numT (i - i)=t at *
  exact wk_
theorem c_valReadL (l:List Nat) (hl:l.length≤1000) (hn:∀ n∈l,n≤4096):Pure Tryz.prog env 149 [.agg (listT l).cells] (.tup [.agg (listP l).cells,.bool true]):=by
 intro h
 have hk:(listT l).kind=7∨(listT l).kind=8:=by cases l;exact .inl rfl;exact .inr rfl
 have hv:(listP l).cells=[.int .i64 2,.int .i64 0,.sl .any (ints (l.map fun (n:Nat)=>(n:Int))),.sl .any []]:=by rw [listP,PVl.cells_eq];rfl
 rw [hv]
 generalize ht:listT l=t at *
 rcases hk with hk|hk
 all_goals
  refine en_ Tryz.func149 [.cell 2 40,.tmp 3] fun g0 w0 gen hrel hfr hfr' hres=>?_
  refine wq_ ?_
  refine AR_loop_nat (fun i σ=>σ.tm 1=.ptr ⟨gen,0,0⟩ 0∧σ.tm 2=.ptr ⟨gen,0,1⟩ 0∧σ.tm 6=.ptr ⟨gen,8,1⟩ 0∧σ.h ⟨gen,0,1⟩=some (.box [.int .i64 0,.int .i64 0,.sl .full [],.sl .full []]) ∧
   σ.h ⟨gen,0,0⟩=some (.box (listT (l.drop i)).cells)∧Agree h σ.h∧∃ X,σ.h ⟨gen,8,1⟩=some (.box [.int .i64 2,.int .i64 0,X,.sl .full []])∧OwnS h σ.h X 1 (ints ((l.take i).map fun (n:Nat)=>(n:Int)))) l.length ?_ ?_
  ·simp only [go_sem, *]
   exact ⟨ag_,.sl .full [],rfl,.inl rfl⟩
  clear ht
  intro i σ hi ⟨j1,j2,j3,j4,j5,j6,X,j7,j8⟩
  refine AR_gen (fun gn hgn=>?_)
  have hgf:=fresh_of hgn
  have hgf0:∀ r i,h ⟨gn,r,i⟩=none:=fun r i=>agree_fresh j6 (hgf r i)
  have e1:=gen_ne hgn j5
  have e2:=gen_ne' hgn j5
  clear hgn
  rcases Nat.lt_or_ge i l.length with hlt|hge
  ·obtain ⟨x,hx⟩:∃ x,l[i]? = some x:=⟨_,List.getElem?_eq_getElem hlt⟩
   have hd:l.drop i=x::l.drop (i+1):=drop_get hx
   have h1:=c_valReadNumber x (by have:=hn x (List.mem_of_getElem? hx);omega)
   rw [hd] at j5
   have hk2:(listT (x::l.drop (i+1))).kind=8:=rfl
   have ha:(listT (x::l.drop (i+1))).args=[numT x,listT (l.drop (i+1))]:=rfl
   have htk:(ints ((l.take (i+1)).map fun (n:Nat)=>(n:Int)))=ints ((l.take i).map fun (n:Nat)=>(n:Int))++[[.int .i64 (x:Int)]]:=by rw [List.take_add_one,hx];simp [ints]
   rw [htk]
   generalize listT (x::l.drop (i+1))=t' at *
   generalize numT x=u' at *
   repeat' (first
    |(refine ⟨?_,?_⟩;focus ((repeat' (first|refine ⟨?_,?_⟩|refine .inr ?_));all_goals kernel_rfl))
    |(refine okE_app_owne j8 (by repeat (first|exact Keeps.refl _|refine Keeps.new ?_ (hgf _ _)|refine Keeps.new ?_ (hfr' _ _)|refine Keeps.box ?_ rfl|refine Keeps.box ?_ (by simp only [go_sem, *]))) rfl (by simp only [go_sem, *]<;>omega) (by first|exact hgf0 _ _|exact hfr' _ _) (by simp only [go_sem, *]) (by intro hd e;simp only [logOk_cons,logOk_nil,and_true];repeat (first|exact trivial|refine ⟨.inr (by kernel_rfl),?_⟩|exact .inr (by kernel_rfl))) ?_;intro v' h' id' jO jK jAg jAb jF jI;obtain ⟨cO,rfl⟩:=jO.val;simp only [go_sem, *])
    | (first|refine wp rfl ?_|refine spt rfl ?_|refine spf rfl ?_|(refine spl (fun hc=>?_) fun hc=>?_)<;>(try rw [beq_iff_eq] at hc)<;>try simp only [hc]|(refine gs (fun hb=>?_) fun hb=>?_)<;>try simp only [Bool.not_true,Bool.not_false] at hb|refine cp h1 ?_)<;>try simp only [go_sem, *])
   have k1:h' ⟨gen,8,1⟩=some (.box [.int .i64 2,.int .i64 0,X,.sl .full []]):=by rw [jK _ (by rw [j7];rfl),j7]
   have k2:h' ⟨gen,0,0⟩=some (.box t'.cells):=by rw [jK _ (by rw [j5];rfl),j5]
   have k3:h' ⟨gen,0,1⟩=some (.box [.int .i64 0,.int .i64 0,.sl .full [],.sl .full []]):=by rw [jK _ (by rw [j4];rfl),j4]
   refine wq_ ?_
   exact ⟨Agree.new (Agree.new (jAg j6) (hfr' _ _)) (hfr' _ _),_,rfl,jO.keep (Keeps.box (Keeps.box (Keeps.refl _) (by rw [k1];rfl)) (by simp [hset,k2,isBox]))⟩
  ·obtain rfl:i=l.length:=by omega
   have hk2:(listT (l.drop l.length)).kind=7:=by rw [List.drop_length];rfl
   have e3:l.take l.length=l:=List.take_of_length_le (Nat.le_refl _)
   rw [e3] at j8
   obtain ⟨c,j8⟩:=j8.val
   subst j8
   generalize listT (l.drop l.length)=t' at *
   exact wk_
theorem c_valRead {a:Ty} {v:PVl} {t:Tm} (hv:IsVl a v t) (hz:tmSz t≤1000):Pure Tryz.prog env 149 [.agg t.cells] (.tup [.agg v.cells,.bool true]):=by
 induction hv with
 | num n =>
  have h1:=c_valReadNumber n (by rw [tmSz_num] at hz;omega)
  have hk:(numT n).kind=4∨(numT n).kind=5:=by cases n;exact .inl rfl;exact .inr rfl
  intro h
  have hv:(PVl.mk 1 n [] []).cells=[.int .i64 1,.int .i64 n,.sl .any [],.sl .any []]:=by rw [PVl.cells_eq];rfl
  rw [hv]
  clear hz
  generalize numT n=t at *
  rcases hk with hk|hk
  all_goals
   exact ek_ Tryz.func149 [.cell 2 40,.tmp 3]
 | list l =>
  rw [listT_sz] at hz
  have hl:l.length≤1000:=by have:=lsz_len l;omega
  exact c_valReadL l hl (fun n hn=>by have:=lsz_mem hn;omega)
 | unit =>
  intro h
  have hk:(tm0 13 []).kind=13:=rfl
  have hv:(PVl.mk 4 0 [] []).cells=[.int .i64 4,.int .i64 0,.sl .any [],.sl .any []]:=by rw [PVl.cells_eq];rfl
  rw [hv]
  clear hz
  generalize tm0 13 []=t at *
  exact ek_ Tryz.func149 [.cell 2 40,.tmp 3]
 | @pair a b v w s t h1 h2 i1 i2 =>
  rw [tmSz_2] at hz
  have k1:=i1 (by omega)
  have k2:=i2 (by omega)
  clear h1 h2 i1 i2 hz
  intro h
  have hk:(tm0 10 [s,t]).kind=10:=rfl
  have ha:(tm0 10 [s,t]).args=[s,t]:=rfl
  have hv:(PVl.mk 3 0 [] [v,w]).cells=[.int .i64 3,.int .i64 0,.sl .any [],.sl .any [v.cells,w.cells]]:=by rw [PVl.cells_eq];rfl
  rw [hv]
  generalize tm0 10 [s,t]=t at *
  exact ek_ Tryz.func149 [.cell 2 40,.tmp 3]
theorem c_valReadT {a:Ty} {v:PVl} {t:Tm} (hv:IsVl a v t) (hz:tmSz t≤1000) (ht:TmW t) (he:tmErr t=0) (ha:tySz a≤64):Pure Tryz.prog env 93 [.agg t.cells] (.tup [.agg v.cells,.int .i64 0]):=by
 have h1:=c_termsCheck t ht
 rw [he] at h1
 have h2:=c_valRead hv hz
 have h3:=c_pNodes hv (by omega) (by omega)
 have hc:decide ((tySz a:Int)>64)=false:=by simp;omega
 have n0:((0:Int) != 0)=false:=rfl
 clear hv hz ht he ha
 intro h
 exact ek_ Tryz.func93 [.cell 2 40,.tmp 3]
theorem prefix_take {α:Type} {a l:List α} {n:Nat} (h:a <+: l) (hn:a.length=n):l.take n=a:=by
 obtain ⟨t,rfl⟩:=h
 rw [← hn,List.take_left]
def growV (Q:List (List PVl)) (l:List PVl) (W:List PVl) (i:Nat):List (List PVl):=Q++(W.take i).map fun v=>l++[v]
theorem growV_succ {Q:List (List PVl)} {l W:List PVl} {i:Nat} {v:PVl} (h:W[i]? = some v):growV Q l W (i+1)=growV Q l W i++[l++[v]]:=by
 simp only [growV,List.take_add_one,h];simp
theorem growV_zero {Q:List (List PVl)} {l W:List PVl}:growV Q l W 0=Q:=by simp [growV]
theorem growV_full {Q:List (List PVl)} {l W:List PVl}:growV Q l W W.length=Q++W.map fun v=>l++[v]:=by simp [growV]
def growW (L:List (List PVl)) (W:List PVl) (i:Nat):List (List PVl):=(L.take i).flatMap fun l=>W.map fun v=>l++[v]
theorem growW_succ {L:List (List PVl)} {l W:List PVl} {i:Nat} (h:L[i]? = some l):growW L W (i+1)=growW L W i++W.map fun v=>l++[v]:=by
 simp only [growW,List.take_add_one,h];simp
theorem growW_pre {L:List (List PVl)} {W:List PVl} {i:Nat}:growW L W i <+: L.flatMap fun l=>W.map fun v=>l++[v]:=by
 refine ⟨(L.drop i).flatMap fun l=>W.map fun v=>l++[v],?_⟩
 rw [growW,← List.flatMap_append,List.take_append_drop]
theorem growV_pre {L:List (List PVl)} {l W:List PVl} {i j:Nat} (h:L[i]? = some l):growV (growW L W i) l W j <+: L.flatMap fun l=>W.map fun v=>l++[v]:=by
 refine List.IsPrefix.trans ⟨(W.drop j).map fun v=>l++[v],?_⟩ (growW_pre (i:=i+1))
 rw [growW_succ h,growV,List.append_assoc,← List.map_append,List.take_append_drop]
attribute [local go_sem] Option.map_none
theorem c_tabLonger {L:List (List PVl)} {W:List PVl} {C:List Tm} (hL:L.length≤64) (hW:W.length≤64) (hlen:∀ l∈L,l.length≤100) (hl:W.length=C.length)
  (hR:∀ (i:Nat) (c:Tm) (v:PVl),C[i]? = some c→W[i]? = some v→Pure Tryz.prog env 93 [.agg c.cells] (.tup [.agg v.cells,.int .i64 0])) :
  Pure Tryz.prog env 42 [.sl .any (rowsI L),.sl .any (C.map Tm.cells)] (.sl .any (rowsI (longerV L W))):=by
 intro h
 have hrl:(rowsI L).length=L.length:=rowsI_len
 refine en_ Tryz.func42 [.tmp 4] fun g0 w0 gen hrel hfr hfr' hres=>?_
 refine wq_ ?_
 refine ar_ [1,12] [] (fun i σ=>Agree h σ.h∧OwnS h σ.h (σ.tm 5) 1 (rowsI (growW L W i))∧(growW L W i).length≤63) (L).length ?_ ?_ ?_
 ·simp only [go_sem, *]
  exact ⟨ag_,.inl rfl,by simp [growW]⟩
 ·
  intro i σ gr0 hgl_gr0 hgn hlt jI jN jS ⟨jA,jo,jl⟩
  obtain ⟨jT,jB⟩:=jS
  simp only [go_sem] at jT jB
  obtain ⟨hgf,hgf0,eg_gen_gr0,eh_gen_gr0⟩:=rnd hgn hgl_gr0 jA
  obtain ⟨x,hx,hxm,hm⟩:=rnx hlt
  clear hgn
  have hxl:=hlen x hxm
  have hri:(rowsI L)[i]? = some [.sl .any (x.map PVl.cells)]:=by rw [rowsI,List.getElem?_map,hx];rfl
  have hws:=growW_succ (W:=W) hx
  have hpre:=fun j=>growV_pre (W:=W) (j:=j) hx
  obtain ⟨c0,jv⟩:=jo.val
  rw [jv] at jo
  obtain ⟨R,hRe⟩:∃ R,longerV L W=R:=⟨_,rfl⟩
  rw [hRe]
  have hRf:∀ j,(growV (growW L W i) x W j).length=64→R=growV (growW L W i) x W j:=fun j hj=>by
   rw [← hRe]
   exact prefix_take (hpre j) hj
  clear hpre hRe hx
  generalize growW L W i=Q at *
  refine wq_ ?_
  generalize x=xo at *
  refine ar_ [1,7,12,13,14,18] [] (fun i σ=>Agree h σ.h∧OwnS h σ.h (σ.tm 5) 1 (rowsI (growV Q xo W i))∧(growV Q xo W i).length≤63) (C).length ?_ ?_ ?_
  ·simp only [go_sem, *]
   rw [growV_zero]
   exact ⟨jo,jl⟩
  ·clear jo jl jv
   intro i σ gr1 hgl_gr1 hgn hlt jI jN jS ⟨jA,jo,jl⟩
   obtain ⟨jT,jB⟩:=jS
   simp only [go_sem] at jT jB
   have hgf:=fresh_of hgn
   have hgf0:=fun r i=>agree_fresh jA (hgf r i)
   have eg_gen_gr1:=gen_lt (show gen<gr1 by omega)
   have eh_gen_gr1:=gen_lt' (show gen<gr1 by omega)
   have eg_gr0_gr1:=gen_lt (show gr0<gr1 by omega)
   have eh_gr0_gr1:=gen_lt' (show gr0<gr1 by omega)
   obtain ⟨x,hx,hxm,hm⟩:=rnx hlt
   clear hgn
   obtain ⟨v,hv⟩:∃ v,W[i]? = some v:=⟨_,List.getElem?_eq_getElem (by omega)⟩
   have hr:=hR i x v hx hv
   have hgs:=growV_succ (Q:=Q) (l:=xo) hv
   obtain ⟨c0,jv⟩:=jo.val
   rw [jv] at jo
   have hq:(growV Q xo W (i+1)).length=(growV Q xo W i).length+1:=by rw [hgs];simp
   have hrl2:(rowsI (growV Q xo W i)).length=(growV Q xo W i).length:=rowsI_len
   have hal:(rowsI (growV Q xo W i)).all (fun e=>e.length==1)=true:=by simp [rowsI]
   clear hR
   have hle:(xo.length≤xo.length)=True:=by simp
   have hl0:(0≤xo.length)=True:=by simp
   have htk:(xo.map PVl.cells).take xo.length=xo.map PVl.cells:=List.take_of_length_le (by simp)
   have hb1:((xo.length+1) * 64≤140737488355328)=True:=by simp;omega
   have hb2:(xo.length≤140737488355327)=True:=by simp;omega
   repeat' (first
    |refine AR_seq ?_|refine AR_skip ?_|refine AR_block ?_|refine AR_block_end ?_|refine AR_exit ?_|refine AR_code_exit ?_|refine AR_inv_exit ?_|refine AR_block_hit ?_
    |refine AR_block_pass (by decide) ?_|refine AR_ret ?_|refine AR_fall ?_
    |(refine ⟨?_,?_⟩;focus ((repeat' (first|refine ⟨?_,?_⟩|refine .inr ?_));all_goals kernel_rfl))
    |refine AR_cond_t rfl ?_|refine AR_cond_f rfl ?_|(refine AR_cond rfl (fun hc=>?_) (fun hc=>?_)<;>(try rw [beq_iff_eq] at hc)<;>(try simp only [hc]))
    | ((first|refine AR_regionN ?_|(refine guarded_split (fun hb=>?_) (fun hb=>?_)<;>(try simp only [Bool.not_true,Bool.not_false] at hb))|refine Call1_pure (hr) ?_|refine AR_fin hrel (by first|exact hin _|simp only [go_sem,and_self]) ag_ ?_)<;>simp only [go_sem, *]))
   refine AR_region ?_
   simp only [go_sem, *,List.drop_zero]
   repeat' (first
    |(refine ⟨?_,?_⟩;focus ((repeat' (first|refine ⟨?_,?_⟩|refine .inr ?_));all_goals kernel_rfl))
    |(refine okE_app_ownd jo (by repeat (first|exact Keeps.refl _|refine Keeps.new ?_ (hgf _ _)|refine Keeps.new ?_ (hfr' _ _)|refine Keeps.box ?_ rfl|refine Keeps.box ?_ (by simp only [go_sem, *]))) rfl (by simp only [go_sem, *]<;>omega) (by first|exact hgf0 _ _|exact hfr' _ _) (by simp only [go_sem, *]) (by intro hd e;simp only [logOk_cons,logOk_nil,and_true];repeat (first|exact trivial|refine ⟨.inr (by kernel_rfl),?_⟩|exact .inr (by kernel_rfl))) ?_;intro v' h' id' jO jK jAg jAb jF;obtain ⟨cO,rfl⟩:=jO.val;simp only [go_sem, *]))
   have ea:weakLL (rowsI (growV Q xo W i)++[[V.sl (.own ⟨gr1,9,9⟩) (xo.map PVl.cells++[v.cells])]])=rowsI (growV Q xo W i++[xo++[v]]):=by
    rw [weakLL_appU,rowsI_weak,rowsI_app]
    simp only [rowsI,List.map_cons,List.map_nil,weakLL,weakL,weak,List.map_append]
    rw [weakLL_appU,weakLL_PVl]
    simp only [weakLL,weakL_PVl]
   have jO2:=jO.weakEls
   rw [ea] at jO2
   have jA2:=jAg ag_
   have hG:=hRf (i+1)
   rw [hgs] at hG
   have hGl:(rowsI (growV Q xo W i++[xo++[v]])).length=(growV Q xo W i++[xo++[v]]).length:=rowsI_len
   have hGq:(growV Q xo W i++[xo++[v]]).length=(growV Q xo W i).length+1:=by simp
   refine AR_weakEls 5 (cc:=cO) (by simp only [go_sem, *];rfl) ?_
   rw [ea]
   clear ea hgs hrl2 hal jo jv jO jK jAg jAb jF hRf hb1 hb2 htk hq
   generalize growV Q xo W i++[xo++[v]]=G at *
   rcases Nat.lt_or_ge G.length 64 with h63|h64
   ·have hc:((G.length:Int)==64)=false:=beq_eq_false_iff_ne.2 (by omega)
    have h62:(growV Q xo W i).length≤62:=by omega
    clear hG hGq
    repeat' (first
     |(refine ⟨?_,?_⟩;focus ((repeat' (first|refine ⟨?_,?_⟩|refine .inr ?_));all_goals kernel_rfl))
     | (first|refine wp rfl ?_|refine spt rfl ?_|refine spf rfl ?_|(refine spl (fun hc=>?_) fun hc=>?_)<;>(try rw [beq_iff_eq] at hc)<;>try simp only [hc]|refine AR_inv ?_)<;>try simp only [go_sem, *])
    all_goals first|exact jO2|exact ⟨jA2,jO2⟩|exact ⟨jO2,h62⟩|exact ⟨jA2,jO2,h62⟩
   ·have hG2:G.length=64:=by omega
    have hRG:=hG hG2
    subst hRG
    have hc:(((64:Nat):Int)==64)=true:=by decide
    clear hG hGq
    repeat' (first
     |(refine ⟨?_,?_⟩;focus ((repeat' (first|refine ⟨?_,?_⟩|refine .inr ?_));all_goals kernel_rfl))
     |exact hin _|exact agf (by assumption)
     | (first|refine wp rfl ?_|refine spt rfl ?_|refine spf rfl ?_|(refine spl (fun hc=>?_) fun hc=>?_)<;>(try rw [beq_iff_eq] at hc)<;>try simp only [hc]|refine finF hrel ?_ ?_ ?_)<;>try simp only [go_sem, *])
    all_goals simp only [rowsI_weak,rowsI_in,go_sem, *]
  clear jo jl
  intro σ ga1 hgl_ga1 hgn jS ⟨jA,jo,jl⟩
  obtain ⟨jT,jB⟩:=jS
  simp only [go_sem] at jT jB
  have hgf:=fresh_of hgn
  have hgf0:=fun r i=>agree_fresh jA (hgf r i)
  have eg_gen_ga1:=gen_lt (show gen<ga1 by omega)
  have eh_gen_ga1:=gen_lt' (show gen<ga1 by omega)
  have eg_gr0_ga1:=gen_lt (show gr0<ga1 by omega)
  have eh_gr0_ga1:=gen_lt' (show gr0<ga1 by omega)
  clear hgn
  rw [← hl,growV_full] at jo jl
  obtain ⟨c0,jv⟩:=jo.val
  rw [jv] at jo
  refine wq_ ?_
  simp only [List.length_append,List.length_map] at jl
  all_goals first|omega|exact ⟨jo,by omega⟩|exact ⟨jA,jo,by omega⟩
 ·
  intro σ ga0 hgl_ga0 hgn jS ⟨jA,jo,jl⟩
  obtain ⟨jT,jB⟩:=jS
  simp only [go_sem] at jT jB
  obtain ⟨hgf,hgf0,eg_gen_ga0,eh_gen_ga0⟩:=rnd hgn hgl_ga0 jA
  clear hgn
  have e9:growW L W L.length=longerV L W:=by
   have:growW L W L.length=L.flatMap fun l=>W.map fun v=>l++[v]:=by simp [growW]
   rw [longerV,← this,List.take_of_length_le (by omega)]
  rw [e9] at jo
  obtain ⟨c0,jv⟩:=jo.val
  clear hR hlen e9 jl jo
  generalize longerV L W=R at *
  repeat' (first
   |(refine ⟨?_,?_⟩;focus ((repeat' (first|refine ⟨?_,?_⟩|refine .inr ?_));all_goals kernel_rfl))
   |exact hin _|exact agf (by assumption)
   | (first|refine wp rfl ?_|refine spt rfl ?_|refine spf rfl ?_|(refine spl (fun hc=>?_) fun hc=>?_)<;>(try rw [beq_iff_eq] at hc)<;>try simp only [hc]|refine finF hrel ?_ ?_ ?_)<;>try simp only [go_sem, *])
  all_goals simp only [rowsI_weak,rowsI_in,go_sem, *]
end Go.Proofs.YtmnplkmphgkooaaGreatDoor
