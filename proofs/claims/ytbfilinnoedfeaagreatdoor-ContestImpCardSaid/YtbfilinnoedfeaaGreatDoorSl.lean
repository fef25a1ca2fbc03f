/-
 Walks: the candidates of a type (the reference).
-/
import Derived.Test.YtbfilinnoedfeaaGreatDoorTc
import Derived.Test.YtbfilinnoedfeaaGreatDoorMc
import Derived.Test.YtbfilinnoedfeaaGreatDoorTg
import Derived.Test.YtbfilinnoedfeaaGreatDoorMg
import Derived.Test.YtbfilinnoedfeaaGreatDoorAbsDd
set_option linter.unusedSimpArgs false
set_option linter.unusedVariables false
set_option maxRecDepth 20000
set_option maxHeartbeats 4000000
namespace Go.Proofs.YtbfilinnoedfeaaGreatDoor
open Go GoAbs Go.Proofs
attribute [local go_sem] Option.map_none
theorem pairUp_take {r:List Tm}:∀ {l out:List Tm},(pairUp r out l).take 64=(out++l.flatMap fun a=>r.map fun b=>tm0 10 [a,b]).take 64
 | [],out=>by rw [pairUp];simp
 | a::l,out=>by
  rw [pairUp]
  split
  ·rename_i hge
   rw [List.flatMap_cons,← List.append_assoc,List.take_append_of_le_length hge]
  ·rw [pairUp_take,List.flatMap_cons,← List.append_assoc]
theorem growL_get {P N:List Tm} {f:Tm→Tm} {i:Nat} {x:Tm} (h:N[i]? = some x):(growL P N f (i+1)).map Tm.cells=(growL P N f i).map Tm.cells++[(f x).cells]:=(growL_map h).symm
theorem c_r32Number (n:Nat) (hn:n<4096):Pure Tryz.prog env 141 [.int .i64 n] (.tup [.agg (numT n).cells,.int .i64 0]):=by
 intro h
 have h1:=c_numeral n (by omega)
 have d1:decide ((n:Int)<0)=false:=by simp
 have d2:decide ((n:Int)≥4096)=false:=by simp;omega
 refine en Tryz.func141 [.cell 2 36,.tmp 3] rfl rfl fun g0 w0 gen hrel hfr hfr' hres=>?_
 repeat' (first
  |exact hin _|exact agf (by assumption)
  | (first|refine wp rfl ?_|refine spt rfl ?_|refine spf rfl ?_|(refine spl (fun hc=>?_) fun hc=>?_)<;>(try rw [beq_iff_eq] at hc)<;>try simp only [hc]|refine cp h1 ?_|refine finF hrel ?_ ?_ ?_)<;>try simp only [go_sem, *])
theorem c_r32Var:Pure Tryz.prog env 112 [.int .i64 0] (.agg (tmVar 0).cells):=by
 intro h
 have hcell:(tmVar 0).cells=[.int .i64 1,.int .i64 0,.int .i64 0,.sl .any [],.sl .any []]:=by rw [tmVar,Tm.mk_cells];rfl
 rw [hcell]
 clear hcell
 refine en Tryz.func112 [.cell 2 36] rfl rfl fun g0 w0 gen hrel hfr hfr' hres=>?_
 repeat' (first
  |exact hin _|exact agf (by assumption)
  | (first|refine wp rfl ?_|refine finF hrel ?_ ?_ ?_)<;>try simp only [go_sem, *])
theorem c_r32Lam (t:Ty) (b:Tm):Pure Tryz.prog env 110 [.agg t.cells,.agg b.cells] (.agg (tmT 2 t [b]).cells):=by
 intro h
 have hcell:(tmT 2 t [b]).cells=[.int .i64 2,.int .i64 0,.int .i64 t.kind,.sl .any (t.args.map Ty.cells),.sl .any [b.cells]]:=by rw [tmT,Tm.mk_cells];rfl
 rw [hcell]
 clear hcell
 refine en Tryz.func110 [.cell 4 36] rfl rfl fun g0 w0 gen hrel hfr hfr' hres=>?_
 repeat' (first
  |exact hin _|exact agf (by assumption)
  | (first|refine wp rfl ?_|refine finF hrel ?_ ?_ ?_)<;>try simp only [go_sem, *])
theorem c_r32Nat (m:Nat) (hm:m≤16):Pure Tryz.prog env 100 [.agg tNat.cells,.int .i64 m] (.sl .any (((numsT m).take 64).map Tm.cells)):=by
 intro h
 have hk:tNat.kind=1:=rfl
 have e64:(numsT m).take 64=numsT m:=List.take_of_length_le (by rw [numsT_len];omega)
 rw [e64]
 have hNl:(numsT m).length=m+1:=numsT_len
 have hNg:∀ i,i≤m→(numsT m)[i]? = some (numT i):=fun i hi=>numsT_get hi
 have eN:growL [] (numsT m) (fun x=>x) (m+1)=numsT m:=by rw [← hNl,growL_full];simp
 generalize tNat=t at *
 generalize numsT m=N at *
 refine en Tryz.func100 [.tmp 4] rfl rfl fun g0 w0 gen hrel hfr hfr' hres=>?_
 repeat' (first
  |(refine ⟨?_,?_⟩;focus ((repeat' (first|refine ⟨?_,?_⟩|refine .inr ?_));all_goals kernel_rfl))
  |exact hin _|exact agf (by assumption)
  | (first|refine wp rfl ?_|refine spt rfl ?_|refine spf rfl ?_|(refine spl (fun hc=>?_) fun hc=>?_)<;>(try rw [beq_iff_eq] at hc)<;>try simp only [hc]|refine finF hrel ?_ ?_ ?_)<;>try simp only [go_sem, *])
 refine AR_loop_nat (fun i σ=>σ.tm 1=.int .i64 m∧σ.tm 6=.int .i64 i∧OwnS h σ.h (σ.tm 5) 5 ((growL [] N (fun x=>x) i).map Tm.cells)∧Agree h σ.h) (m+1) ?_ ?_
 ·simp only [growL_zero,List.map_nil,go_sem, *]
  exact ⟨rfl,.inl rfl,(by repeat (first|exact Agree.refl _|assumption|refine Agree.new ?_ (hgf0 _ _)|refine Agree.new ?_ (hfr' _ _)))⟩
 intro i σ hi ⟨j1,j2,j3,j4⟩
 refine AR_gen (fun gn hgn=>?_)
 have hgf:=fresh_of hgn
 have hgf0:∀ r i,h ⟨gn,r,i⟩=none:=fun r i=>agree_fresh j4 (hgf r i)
 clear hgn
 obtain ⟨c0,jv⟩:=j3.val
 rw [jv] at j3
 rcases Nat.lt_or_ge i (m+1) with hlt|hge
 ·have hc1:decide ((i:Int)≤(m:Int))=true:=by simp;omega
  have hw:IntKind.i64.wrap ((i:Int)+1)=((i+1:Nat):Int):=wrap_eq (by omega) (by omega) (by omega)
  have hx:=hNg i (by omega)
  have hN:=c_r32Number i (by omega)
  have hb9:=growL_len (P:=[]) (N:=N) (f:=fun x=>x) (i:=i)
  simp only [List.length_nil] at hb9
  have hb8:(growL [] N (fun x=>x) i).length≤17:=by omega
  have hg:=growL_get (P:=[]) (f:=fun x=>x) hx
  clear hNg hb9 e64 eN
  generalize numT i=u at *
  repeat' (first
   |(refine ⟨?_,?_⟩;focus ((repeat' (first|refine ⟨?_,?_⟩|refine .inr ?_));all_goals kernel_rfl))
   |(refine okE_app_own j3 (by repeat (first|exact Keeps.refl _|refine Keeps.new ?_ (hgf _ _)|refine Keeps.new ?_ (hfr' _ _)|refine Keeps.box ?_ rfl|refine Keeps.box ?_ (by simp only [go_sem, *]))) rfl (by simp only [go_sem, *]<;>omega) (by first|exact hgf0 _ _|exact hfr' _ _) (by simp only [go_sem, *]) (by intro hd;cases hd) ?_;intro v' h' log' jO jK jAg jAb jF;simp only [go_sem, *])
   | (first|refine wp rfl ?_|refine spt rfl ?_|refine spf rfl ?_|(refine spl (fun hc=>?_) fun hc=>?_)<;>(try rw [beq_iff_eq] at hc)<;>try simp only [hc]|refine cp hN ?_|refine AR_inv ?_)<;>try simp only [go_sem, *])
  exact jAg (by repeat (first|exact Agree.refl _|assumption|refine Agree.new ?_ (hgf0 _ _)|refine Agree.new ?_ (hfr' _ _)))
 ·obtain rfl:i=m+1:=by omega
  have hc1:decide (((m+1:Nat):Int)≤(m:Int))=false:=by simp;omega
  rw [eN] at jv
  have hd1:decide ((N.length:Int)>64)=false:=by simp;omega
  rw [hNl] at hd1
  clear j3 hNg eN e64
  repeat' (first
   |(refine ⟨?_,?_⟩;focus ((repeat' (first|refine ⟨?_,?_⟩|refine .inr ?_));all_goals kernel_rfl))
   |exact hin _|exact agf (by assumption)
   | (first|refine wp rfl ?_|refine spt rfl ?_|refine spf rfl ?_|(refine spl (fun hc=>?_) fun hc=>?_)<;>(try rw [beq_iff_eq] at hc)<;>try simp only [hc]|refine finF hrel ?_ ?_ ?_)<;>try simp only [go_sem, *])
theorem c_r32Unit (m:Nat):Pure Tryz.prog env 100 [.agg tUnit.cells,.int .i64 m] (.sl .any ([tm0 13 []].map Tm.cells)):=by
 intro h
 have hk:tUnit.kind=5:=rfl
 have hU:=c_r24Unit
 simp only [List.map_cons,List.map_nil]
 generalize tm0 13 []=u at *
 generalize tUnit=t at *
 have hd1:decide (((1:Nat):Int)>64)=false:=by decide
 refine en Tryz.func100 [.tmp 4] rfl rfl fun g0 w0 gen hrel hfr hfr' hres=>?_
 repeat' (first
  |(refine ⟨?_,?_⟩;focus ((repeat' (first|refine ⟨?_,?_⟩|refine .inr ?_));all_goals kernel_rfl))
  |exact hin _|exact agf (by assumption)
  | (first|refine wp rfl ?_|refine spt rfl ?_|refine spf rfl ?_|(refine spl (fun hc=>?_) fun hc=>?_)<;>(try rw [beq_iff_eq] at hc)<;>try simp only [hc]|refine cp hU ?_|refine finF hrel ?_ ?_ ?_)<;>try simp only [go_sem, *])
theorem c_r32List (m:Nat) (hm:m≤16):Pure Tryz.prog env 100 [.agg tList.cells,.int .i64 m] (.sl .any (((listsT m).take 64).map Tm.cells)):=by
 intro h
 have hk:tList.kind=2:=rfl
 have hL:listsT m=growF ([nilT]++(numsT m).map fun a=>consT a nilT) (numsT m) (fun a=>(numsT m).map fun b=>consT a (consT b nilT)) (numsT m).length:=by rw [growF_full,listsT];rfl
 have hNl:(numsT m).length=m+1:=numsT_len
 have hNg:∀ i,i≤m→(numsT m)[i]? = some (numT i):=fun i hi=>numsT_get hi
 have hgl:∀ i,i≤(numsT m).length→(growF ([nilT]++(numsT m).map fun a=>consT a nilT) (numsT m) (fun a=>(numsT m).map fun b=>consT a (consT b nilT)) i).length≤1000:=by
  intro i hi
  have h9:=growF_len (P:=[nilT]++(numsT m).map fun a=>consT a nilT) (N:=numsT m) (g:=fun a=>(numsT m).map fun b=>consT a (consT b nilT)) (c:=17) (by intro x;rw [List.length_map,numsT_len];omega) (i:=i)
  simp only [List.length_append,List.length_map,List.length_cons,List.length_nil,hNl] at h9
  omega
 have hcE:Pure Tryz.prog env 56 [.int .i64 7,.sl .any []] (.agg nilT.cells):=by have:=c_r24Node 7 [];simpa [nilT] using this
 have hcN:∀ x y:Tm,Pure Tryz.prog env 56 [.int .i64 8,.sl .any [x.cells,y.cells]] (.agg (consT x y).cells):=fun x y=>by have:=c_r24Node 8 [x,y];simpa [consT] using this
 obtain ⟨L,hLe⟩:∃ L,listsT m=L:=⟨_,rfl⟩
 rw [hLe]
 rw [hL] at hLe
 have hLl:=hgl (numsT m).length (Nat.le_refl _)
 rw [hLe] at hLl
 clear hL
 generalize tList=t at *
 generalize nilT=e0 at *
 generalize numsT m=N at *
 refine en Tryz.func100 [.tmp 4] rfl rfl fun g0 w0 gen hrel hfr hfr' hres=>?_
 repeat' (first
  |(refine ⟨?_,?_⟩;focus ((repeat' (first|refine ⟨?_,?_⟩|refine .inr ?_));all_goals kernel_rfl))
  |exact hin _|exact agf (by assumption)
  | (first|refine wp rfl ?_|refine spt rfl ?_|refine spf rfl ?_|(refine spl (fun hc=>?_) fun hc=>?_)<;>(try rw [beq_iff_eq] at hc)<;>try simp only [hc]|refine cp hcE ?_|refine finF hrel ?_ ?_ ?_)<;>try simp only [go_sem, *])
 refine AR_loop_nat (fun i σ=>σ.tm 1=.int .i64 m∧σ.tm 10=.int .i64 i∧σ.tm 9=.ptr ⟨gen,10,1⟩ 0∧σ.h ⟨gen,10,1⟩=some (.box e0.cells)∧OwnS h σ.h (σ.tm 5) 5 ((growL [e0] N (fun a=>consT a e0) i).map Tm.cells)∧Agree h σ.h) (m+1) ?_ ?_
 ·simp only [growL_zero,growF_zero,List.map_nil,List.map_cons,List.length_nil,go_sem, *]
  exact ⟨rfl,.inr ⟨_,rfl,by simp only [go_sem, *],hfr' _ _⟩,(by repeat (first|exact Agree.refl _|assumption|refine Agree.new ?_ (hgf0 _ _)|refine Agree.new ?_ (hfr' _ _)))⟩
 intro i σ hi ⟨j1,j2,jp,jb,j3,j4⟩
 refine AR_gen (fun gn hgn=>?_)
 have hgf:=fresh_of hgn
 have hgf0:∀ r i,h ⟨gn,r,i⟩=none:=fun r i=>agree_fresh j4 (hgf r i)
 have ge0:=gen_ne hgn jb
 have gf0:=gen_ne' hgn jb
 clear hgn
 rcases Nat.lt_or_ge i (m+1) with hlt|hge
 ·have hc1:decide ((i:Int)≤(m:Int))=true:=by simp;omega
  have hw:IntKind.i64.wrap ((i:Int)+1)=((i+1:Nat):Int):=wrap_eq (by omega) (by omega) (by omega)
  have hx:=hNg i (by omega)
  have hN:=c_r32Number i (by omega)
  have hb9:=growL_len (P:=[e0]) (N:=N) (f:=fun a=>consT a e0) (i:=i)
  simp only [List.length_cons,List.length_nil] at hb9
  have hb8:(growL [e0] N (fun a=>consT a e0) i).length≤18:=by omega
  have hg:=growL_get (P:=[e0]) (f:=fun a=>consT a e0) hx
  obtain ⟨c0,jv⟩:=j3.val
  rw [jv] at j3
  have hcc:=hcN (numT i) e0
  clear hNg hb9 hgl hcN hcE
  generalize numT i=u at *
  repeat' (first
   |(refine ⟨?_,?_⟩;focus ((repeat' (first|refine ⟨?_,?_⟩|refine .inr ?_));all_goals kernel_rfl))
   |(refine okE_app_own j3 (by repeat (first|exact Keeps.refl _|refine Keeps.new ?_ (hgf _ _)|refine Keeps.new ?_ (hfr' _ _)|refine Keeps.box ?_ rfl|refine Keeps.box ?_ (by simp only [go_sem, *]))) rfl (by simp only [go_sem, *]<;>omega) (by first|exact hgf0 _ _|exact hfr' _ _) (by simp only [go_sem, *]) (by intro hd;cases hd) ?_;intro v' h' log' jO jK jAg jAb jF;simp only [go_sem, *])
   | (first|refine wp rfl ?_|refine spt rfl ?_|refine spf rfl ?_|(refine spl (fun hc=>?_) fun hc=>?_)<;>(try rw [beq_iff_eq] at hc)<;>try simp only [hc]|refine cp hN ?_|refine cp hcc ?_|refine AR_inv ?_)<;>try simp only [go_sem, *])
  have k1:h' ⟨gen,10,1⟩=some (.box e0.cells):=by rw [jK _ (by simp only [go_sem, *])];simp only [go_sem, *]
  all_goals first|exact jAg (by repeat (first|exact Agree.refl _|assumption|refine Agree.new ?_ (hgf0 _ _)|refine Agree.new ?_ (hfr' _ _)))|exact ⟨k1,jAg (by repeat (first|exact Agree.refl _|assumption|refine Agree.new ?_ (hgf0 _ _)|refine Agree.new ?_ (hfr' _ _)))⟩
 ·obtain rfl:i=m+1:=by omega
  have hc1:decide (((m+1:Nat):Int)≤(m:Int))=false:=by simp;omega
  rw [← hNl,growL_full] at j3
  obtain ⟨c0,jv⟩:=j3.val
  rw [jv] at j3
  obtain ⟨P1,hP1⟩:∃ P1:List Tm,P1=[e0]++List.map (fun a=>consT a e0) N:=⟨_,rfl⟩
  rw [← hP1] at j3 jv
  try simp only [← hP1] at hgl
  try simp only [← hP1] at hLe
  clear hP1 hcE
  repeat' (first
   |(refine ⟨?_,?_⟩;focus ((repeat' (first|refine ⟨?_,?_⟩|refine .inr ?_));all_goals kernel_rfl))
   |exact hin _|exact agf (by assumption)
   | (first|refine wp rfl ?_|refine spt rfl ?_|refine spf rfl ?_|(refine spl (fun hc=>?_) fun hc=>?_)<;>(try rw [beq_iff_eq] at hc)<;>try simp only [hc]|refine finF hrel ?_ ?_ ?_)<;>try simp only [go_sem, *])
  refine AR_loop_nat (fun i σ=>σ.tm 1=.int .i64 m∧σ.tm 13=.int .i64 i∧σ.tm 9=.ptr ⟨gen,10,1⟩ 0∧σ.h ⟨gen,10,1⟩=some (.box e0.cells)∧OwnS h σ.h (σ.tm 5) 5 ((growF P1 N (fun a=>N.map fun b=>consT a (consT b e0)) i).map Tm.cells)∧Agree h σ.h) (m+1) ?_ ?_
  ·simp only [growL_zero,growF_zero,List.map_nil,List.map_cons,List.length_nil,go_sem, *]
   all_goals rfl
  intro i σ hi ⟨j1,j2,jp,jb,j3,j4⟩
  refine AR_gen (fun gn hgn=>?_)
  have hgf:=fresh_of hgn
  have hgf0:∀ r i,h ⟨gn,r,i⟩=none:=fun r i=>agree_fresh j4 (hgf r i)
  have ge0:=gen_ne hgn jb
  have gf0:=gen_ne' hgn jb
  clear hgn
  rcases Nat.lt_or_ge i (m+1) with hlt|hge
  ·have hc1:decide ((i:Int)≤(m:Int))=true:=by simp;omega
   have hw1:IntKind.i64.wrap ((i:Int)+1)=((i+1:Nat):Int):=wrap_eq (by omega) (by omega) (by omega)
   have hx:=hNg i (by omega)
   have hN1:=c_r32Number i (by omega)
   have hgi:=hgl i (by omega)
   have hfs:=growF_succ (P:=P1) (g:=fun a=>N.map fun b=>consT a (consT b e0)) hx
   generalize numT i=xo at *
   generalize growF P1 N (fun a=>N.map fun b=>consT a (consT b e0)) i=Q at *
   obtain ⟨c0,jv⟩:=j3.val
   rw [jv] at j3
   clear hgl hLe hx
   repeat' (first
    |(refine ⟨?_,?_⟩;focus ((repeat' (first|refine ⟨?_,?_⟩|refine .inr ?_));all_goals kernel_rfl))
    | (first|refine wp rfl ?_|refine spt rfl ?_|refine spf rfl ?_|(refine spl (fun hc=>?_) fun hc=>?_)<;>(try rw [beq_iff_eq] at hc)<;>try simp only [hc])<;>try simp only [go_sem, *])
   generalize hi1:i=i1 at *
   clear hi1
   refine AR_loop_nat (fun i σ=>σ.tm 1=.int .i64 m∧σ.tm 13=.int .i64 i1∧σ.tm 14=.int .i64 i∧σ.tm 9=.ptr ⟨gen,10,1⟩ 0∧σ.h ⟨gen,10,1⟩=some (.box e0.cells)∧OwnS h σ.h (σ.tm 5) 5 ((growL Q N (fun b=>consT xo (consT b e0)) i).map Tm.cells)∧Agree h σ.h) (m+1) ?_ ?_
   ·simp only [growL_zero,growF_zero,List.map_nil,List.map_cons,List.length_nil,go_sem, *]
    all_goals rfl
   intro i σ hi ⟨j1,j0,j2,jp,jb,j3,j4⟩
   refine AR_gen (fun gn hgn=>?_)
   have hgf:=fresh_of hgn
   have hgf0:∀ r i,h ⟨gn,r,i⟩=none:=fun r i=>agree_fresh j4 (hgf r i)
   have ge0:=gen_ne hgn jb
   have gf0:=gen_ne' hgn jb
   clear hgn
   rcases Nat.lt_or_ge i (m+1) with hlt|hge
   ·have hc1:decide ((i:Int)≤(m:Int))=true:=by simp;omega
    have hw:IntKind.i64.wrap ((i:Int)+1)=((i+1:Nat):Int):=wrap_eq (by omega) (by omega) (by omega)
    have hx:=hNg i (by omega)
    have hN:=c_r32Number i (by omega)
    have hb9:=growL_len (P:=Q) (N:=N) (f:=fun b=>consT xo (consT b e0)) (i:=i)
    have hb8:(growL Q N (fun b=>consT xo (consT b e0)) i).length≤1100:=by omega
    have hg:=growL_get (P:=Q) (f:=fun b=>consT xo (consT b e0)) hx
    obtain ⟨c0,jv⟩:=j3.val
    rw [jv] at j3
    have hcc:=hcN (numT i) e0
    have hcc2:=hcN xo (consT (numT i) e0)
    clear hNg hb9 hcN hfs
    generalize numT i=u at *
    repeat' (first
     |(refine ⟨?_,?_⟩;focus ((repeat' (first|refine ⟨?_,?_⟩|refine .inr ?_));all_goals kernel_rfl))
     |(refine okE_app_ownd j3 (by repeat (first|exact Keeps.refl _|refine Keeps.new ?_ (hgf _ _)|refine Keeps.new ?_ (hfr' _ _)|refine Keeps.box ?_ rfl|refine Keeps.box ?_ (by simp only [go_sem, *]))) rfl (by simp only [go_sem, *]<;>omega) (by first|exact hgf0 _ _|exact hfr' _ _) (by simp only [go_sem, *]) (by intro hd e;simp only [logOk_cons,logOk_nil,and_true];repeat (first|exact trivial|refine ⟨.inr (by kernel_rfl),?_⟩|exact .inr (by kernel_rfl))) ?_;intro v' h' id' jO jK jAg jAb jF;obtain ⟨cO,rfl⟩:=jO.val;simp only [go_sem, *])
     | (first|refine wp rfl ?_|refine spt rfl ?_|refine spf rfl ?_|(refine spl (fun hc=>?_) fun hc=>?_)<;>(try rw [beq_iff_eq] at hc)<;>try simp only [hc]|refine cp hN1 ?_|refine cp hN ?_|refine cp hcc ?_|refine cp hcc2 ?_|refine AR_inv ?_)<;>try simp only [go_sem, *])
    have k1:h' ⟨gen,10,1⟩=some (.box e0.cells):=by rw [jK _ (by simp only [go_sem, *])];simp only [go_sem, *]
    try simp only [go_sem, *]
    first|exact ⟨jO,jAg (by repeat (first|exact Agree.refl _|assumption|refine Agree.new ?_ (hgf0 _ _)|refine Agree.new ?_ (hfr' _ _)))⟩|exact jAg (by repeat (first|exact Agree.refl _|assumption|refine Agree.new ?_ (hgf0 _ _)|refine Agree.new ?_ (hfr' _ _)))
   ·obtain rfl:i=m+1:=by omega
    have hc1:decide (((m+1:Nat):Int)≤(m:Int))=false:=by simp;omega
    rw [← hNl,growL_full] at j3
    obtain ⟨c0,jv⟩:=j3.val
    rw [jv] at j3
    clear hcN hNg hN1 hfs
    repeat' (first
     |(refine ⟨?_,?_⟩;focus ((repeat' (first|refine ⟨?_,?_⟩|refine .inr ?_));all_goals kernel_rfl))
     | (first|refine wp rfl ?_|refine spt rfl ?_|refine spf rfl ?_|(refine spl (fun hc=>?_) fun hc=>?_)<;>(try rw [beq_iff_eq] at hc)<;>try simp only [hc]|refine AR_inv ?_)<;>try simp only [go_sem, *])
    all_goals first|exact j4|exact ⟨j3,j4⟩
  ·obtain rfl:i=m+1:=by omega
   have hc1:decide (((m+1:Nat):Int)≤(m:Int))=false:=by simp;omega
   rw [← hNl,hLe] at j3
   obtain ⟨c0,jv⟩:=j3.val
   clear hgl hLe hcN hNg j3
   rcases Nat.lt_or_ge 64 L.length with hlt|hge
   ·have hd1:decide ((L.length:Int)>64)=true:=by simp;omega
    have hm:(64<(L.length:Int))=True:=by simp;omega
    have hm2:(64≤L.length)=True:=by simp;omega
    have e2:(L.map Tm.cells).take 64=(L.take 64).map Tm.cells:=by rw [List.map_take]
    repeat' (first
     |(refine ⟨?_,?_⟩;focus ((repeat' (first|refine ⟨?_,?_⟩|refine .inr ?_));all_goals kernel_rfl))
     |exact hin _|exact agf (by assumption)
     | (first|refine wp rfl ?_|refine spt rfl ?_|refine spf rfl ?_|(refine spl (fun hc=>?_) fun hc=>?_)<;>(try rw [beq_iff_eq] at hc)<;>try simp only [hc]|refine finF hrel ?_ ?_ ?_)<;>try simp only [go_sem, *])
   ·have e:L.take 64=L:=List.take_of_length_le (by omega)
    have hd1:decide ((L.length:Int)>64)=false:=by simp;omega
    have hm:(64<(L.length:Int))=False:=by simp;omega
    repeat' (first
     |(refine ⟨?_,?_⟩;focus ((repeat' (first|refine ⟨?_,?_⟩|refine .inr ?_));all_goals kernel_rfl))
     |exact hin _|exact agf (by assumption)
     | (first|refine wp rfl ?_|refine spt rfl ?_|refine spf rfl ?_|(refine spl (fun hc=>?_) fun hc=>?_)<;>(try rw [beq_iff_eq] at hc)<;>try simp only [hc]|refine finF hrel ?_ ?_ ?_)<;>try simp only [go_sem, *])
theorem c_r32Pair (m:Nat) {a b:Ty} {A Bl:List Tm} (hA:Pure Tryz.prog env 100 [.agg a.cells,.int .i64 m] (.sl .any (A.map Tm.cells))) (hB:Pure Tryz.prog env 100 [.agg b.cells,.int .i64 m] (.sl .any (Bl.map Tm.cells)))
  (la:A.length≤64) (lb:Bl.length≤64):Pure Tryz.prog env 100 [.agg (tPair a b).cells,.int .i64 m] (.sl .any (((pairUp Bl [] A).take 64).map Tm.cells)):=by
 intro h
 rw [pairUp_take,List.nil_append]
 have hk:(tPair a b).kind=3:=rfl
 have ha:(tPair a b).args=[a,b]:=rfl
 have hgl:∀ i,i≤A.length→(growF [] A (fun a=>Bl.map fun b=>tm0 10 [a,b]) i).length≤5000:=by
  intro i hi
  have h9:=growF_len (P:=[]) (N:=A) (g:=fun a=>Bl.map fun b=>tm0 10 [a,b]) (c:=64) (by intro x;rw [List.length_map];exact lb) (i:=i)
  simp only [List.length_nil] at h9
  omega
 have hL:growF [] A (fun a=>Bl.map fun b=>tm0 10 [a,b]) A.length=A.flatMap fun a=>Bl.map fun b=>tm0 10 [a,b]:=by rw [growF_full];rfl
 obtain ⟨L,hLe⟩:∃ L,(A.flatMap fun a=>Bl.map fun b=>tm0 10 [a,b])=L:=⟨_,rfl⟩
 rw [hLe]
 rw [hLe] at hL
 have hLl:=hgl A.length (Nat.le_refl _)
 rw [hL] at hLl
 have hcN:∀ x y:Tm,Pure Tryz.prog env 56 [.int .i64 10,.sl .any [x.cells,y.cells]] (.agg (tm0 10 [x,y]).cells):=fun x y=>by have:=c_r24Node 10 [x,y];simpa using this
 clear hLe
 generalize tPair a b=t at *
 refine en Tryz.func100 [.tmp 4] rfl rfl fun g0 w0 gen hrel hfr hfr' hres=>?_
 repeat' (first
  |(refine ⟨?_,?_⟩;focus ((repeat' (first|refine ⟨?_,?_⟩|refine .inr ?_));all_goals kernel_rfl))
  |exact hin _|exact agf (by assumption)
  | (first|refine wp rfl ?_|refine spt rfl ?_|refine spf rfl ?_|(refine spl (fun hc=>?_) fun hc=>?_)<;>(try rw [beq_iff_eq] at hc)<;>try simp only [hc]|refine cp hA ?_|refine cp hB ?_|refine finF hrel ?_ ?_ ?_)<;>try simp only [go_sem, *])
 clear hA hB
 refine AR_loop_nat (fun i σ=>σ.tm 19=.sl .any (A.map Tm.cells)∧σ.tm 20=.sl .any (Bl.map Tm.cells)∧σ.tm 21=.int .i64 i∧OwnS h σ.h (σ.tm 5) 5 ((growF [] A (fun a=>Bl.map fun b=>tm0 10 [a,b]) i).map Tm.cells)∧Agree h σ.h) (A.length) ?_ ?_
 ·simp only [growL_zero,growF_zero,List.map_nil,List.map_cons,List.length_nil,go_sem, *]
  exact ⟨rfl,.inl rfl,(by repeat (first|exact Agree.refl _|assumption|refine Agree.new ?_ (hgf0 _ _)|refine Agree.new ?_ (hfr' _ _)))⟩
 intro i σ hi ⟨j1,j1b,j2,j3,j4⟩
 refine AR_gen (fun gn hgn=>?_)
 have hgf:=fresh_of hgn
 have hgf0:∀ r i,h ⟨gn,r,i⟩=none:=fun r i=>agree_fresh j4 (hgf r i)
 clear hgn
 rcases Nat.lt_or_ge i (A.length) with hlt|hge
 ·have hc1:decide ((i:Int)<(A.length:Int))=true:=by simp;omega
  have hw1:IntKind.i64.wrap ((i:Int)+1)=((i+1:Nat):Int):=wrap_eq (by omega) (by omega) (by omega)
  obtain ⟨xo,hxo⟩:∃ x,A[i]? = some x:=⟨_,List.getElem?_eq_getElem hlt⟩
  have hgi:=hgl i (by omega)
  have hfs:=growF_succ (P:=[]) (g:=fun a=>Bl.map fun b=>tm0 10 [a,b]) hxo
  generalize growF [] A (fun a=>Bl.map fun b=>tm0 10 [a,b]) i=Q at *
  obtain ⟨c0,jv⟩:=j3.val
  rw [jv] at j3
  clear hgl hL
  repeat' (first
   |(refine ⟨?_,?_⟩;focus ((repeat' (first|refine ⟨?_,?_⟩|refine .inr ?_));all_goals kernel_rfl))
   | (first|refine wp rfl ?_|refine spt rfl ?_|refine spf rfl ?_|(refine spl (fun hc=>?_) fun hc=>?_)<;>(try rw [beq_iff_eq] at hc)<;>try simp only [hc])<;>try simp only [go_sem, *])
  have hti:Int.toNat (i:Int)=i:=rfl
  have h0i:(0≤(i:Int))=True:=by simp
  generalize hi1:i=i1 at *
  clear hi1
  refine AR_loop_nat (fun i σ=>σ.tm 19=.sl .any (A.map Tm.cells)∧σ.tm 20=.sl .any (Bl.map Tm.cells)∧σ.tm 21=.int .i64 i1∧σ.tm 22=.int .i64 i∧OwnS h σ.h (σ.tm 5) 5 ((growL Q Bl (fun b=>tm0 10 [xo,b]) i).map Tm.cells)∧Agree h σ.h) (Bl.length) ?_ ?_
  ·simp only [growL_zero,growF_zero,List.map_nil,List.map_cons,List.length_nil,go_sem, *]
   all_goals first|rfl|exact ⟨rfl,j3,j4⟩
  intro i σ hi ⟨j1,j1b,j0,j2,j3,j4⟩
  refine AR_gen (fun gn hgn=>?_)
  have hgf:=fresh_of hgn
  have hgf0:∀ r i,h ⟨gn,r,i⟩=none:=fun r i=>agree_fresh j4 (hgf r i)
  clear hgn
  rcases Nat.lt_or_ge i (Bl.length) with hlt|hge
  ·have hc2:decide ((i:Int)<(Bl.length:Int))=true:=by simp;omega
   have hw:IntKind.i64.wrap ((i:Int)+1)=((i+1:Nat):Int):=wrap_eq (by omega) (by omega) (by omega)
   obtain ⟨x,hx⟩:∃ x,Bl[i]? = some x:=⟨_,List.getElem?_eq_getElem hlt⟩
   have hti2:Int.toNat (i:Int)=i:=rfl
   have h0i2:(0≤(i:Int))=True:=by simp
   have hb9:=growL_len (P:=Q) (N:=Bl) (f:=fun b=>tm0 10 [xo,b]) (i:=i)
   have hb8:(growL Q Bl (fun b=>tm0 10 [xo,b]) i).length≤5100:=by omega
   have hg:=growL_get (P:=Q) (f:=fun b=>tm0 10 [xo,b]) hx
   obtain ⟨c0,jv⟩:=j3.val
   rw [jv] at j3
   have hcc:=hcN xo x
   clear hb9 hcN hfs
   repeat' (first
    |(refine ⟨?_,?_⟩;focus ((repeat' (first|refine ⟨?_,?_⟩|refine .inr ?_));all_goals kernel_rfl))
    |(refine okE_app_ownd j3 (by repeat (first|exact Keeps.refl _|refine Keeps.new ?_ (hgf _ _)|refine Keeps.new ?_ (hfr' _ _)|refine Keeps.box ?_ rfl|refine Keeps.box ?_ (by simp only [go_sem, *]))) rfl (by simp only [go_sem, *]<;>omega) (by first|exact hgf0 _ _|exact hfr' _ _) (by simp only [go_sem, *]) (by intro hd e;simp only [logOk_cons,logOk_nil,and_true];repeat (first|exact trivial|refine ⟨.inr (by kernel_rfl),?_⟩|exact .inr (by kernel_rfl))) ?_;intro v' h' id' jO jK jAg jAb jF;obtain ⟨cO,rfl⟩:=jO.val;simp only [go_sem, *])
    | (first|refine wp rfl ?_|refine spt rfl ?_|refine spf rfl ?_|(refine spl (fun hc=>?_) fun hc=>?_)<;>(try rw [beq_iff_eq] at hc)<;>try simp only [hc]|refine cp hcc ?_|refine AR_inv ?_)<;>try simp only [go_sem, *])
   all_goals first|exact jAg (by repeat (first|exact Agree.refl _|assumption|refine Agree.new ?_ (hgf0 _ _)|refine Agree.new ?_ (hfr' _ _)))|exact ⟨jO,jAg (by repeat (first|exact Agree.refl _|assumption|refine Agree.new ?_ (hgf0 _ _)|refine Agree.new ?_ (hfr' _ _)))⟩
  ·obtain rfl:i=Bl.length:=by omega
   have hc2:decide ((Bl.length:Int)<(Bl.length:Int))=false:=by simp
   rw [growL_full] at j3
   obtain ⟨c0,jv⟩:=j3.val
   rw [jv] at j3
   clear hcN hfs
   repeat' (first
    |(refine ⟨?_,?_⟩;focus ((repeat' (first|refine ⟨?_,?_⟩|refine .inr ?_));all_goals kernel_rfl))
    | (first|refine wp rfl ?_|refine spt rfl ?_|refine spf rfl ?_|(refine spl (fun hc=>?_) fun hc=>?_)<;>(try rw [beq_iff_eq] at hc)<;>try simp only [hc]|refine AR_inv ?_)<;>try simp only [go_sem, *])
   all_goals first|exact j4|exact ⟨j3,j4⟩
 ·obtain rfl:i=A.length:=by omega
  have hc1:decide ((A.length:Int)<(A.length:Int))=false:=by simp
  rw [hL] at j3
  obtain ⟨c0,jv⟩:=j3.val
  clear hgl hL hcN j3
  rcases Nat.lt_or_ge 64 L.length with hlt|hge
  ·have hd1:decide ((L.length:Int)>64)=true:=by simp;omega
   have hm:(64<(L.length:Int))=True:=by simp;omega
   have hm2:(64≤L.length)=True:=by simp;omega
   have e2:(L.map Tm.cells).take 64=(L.take 64).map Tm.cells:=by rw [List.map_take]
   repeat' (first
    |(refine ⟨?_,?_⟩;focus ((repeat' (first|refine ⟨?_,?_⟩|refine .inr ?_));all_goals kernel_rfl))
    |exact hin _|exact agf (by assumption)
    | (first|refine wp rfl ?_|refine spt rfl ?_|refine spf rfl ?_|(refine spl (fun hc=>?_) fun hc=>?_)<;>(try rw [beq_iff_eq] at hc)<;>try simp only [hc]|refine finF hrel ?_ ?_ ?_)<;>try simp only [go_sem, *])
  ·have e:L.take 64=L:=List.take_of_length_le (by omega)
   have hd1:decide ((L.length:Int)>64)=false:=by simp;omega
   have hm:(64<(L.length:Int))=False:=by simp;omega
   repeat' (first
    |(refine ⟨?_,?_⟩;focus ((repeat' (first|refine ⟨?_,?_⟩|refine .inr ?_));all_goals kernel_rfl))
    |exact hin _|exact agf (by assumption)
    | (first|refine wp rfl ?_|refine spt rfl ?_|refine spf rfl ?_|(refine spl (fun hc=>?_) fun hc=>?_)<;>(try rw [beq_iff_eq] at hc)<;>try simp only [hc]|refine finF hrel ?_ ?_ ?_)<;>try simp only [go_sem, *])
theorem c_r32Fun (m:Nat) {a b:Ty} {C:List Tm} (wa:TyW a) (wb:TyW b) (hC:Pure Tryz.prog env 100 [.agg b.cells,.int .i64 m] (.sl .any (C.map Tm.cells)))
  (lc:C.length≤64):Pure Tryz.prog env 100 [.agg (tFun a b).cells,.int .i64 m] (.sl .any ((((if Ty.same a b then [tmT 2 a [tmVar 0]] else [])++C.map fun c=>tmT 2 a [c]).take 64).map Tm.cells)):=by
 intro h
 have hS:=c_refSame a wa b wb
 have hk:(tFun a b).kind=4:=rfl
 have ha:(tFun a b).args=[a,b]:=rfl
 clear wa wb
 cases hs:Ty.same a b with
 | true =>
  rw [hs] at hS
  have hL:growL [tmT 2 a [tmVar 0]] C (fun c=>tmT 2 a [c]) C.length=[tmT 2 a [tmVar 0]]++C.map fun c=>tmT 2 a [c]:=growL_full
  obtain ⟨L,hLe⟩:∃ L,([tmT 2 a [tmVar 0]]++C.map fun c=>tmT 2 a [c])=L:=⟨_,rfl⟩
  simp only [if_true,Bool.false_eq_true,if_false]
  rw [hLe]
  rw [hLe] at hL
  have hLl:L.length≤70:=by rw [← hLe];simp;omega
  have hL0:=c_r32Lam a (tmVar 0)
  have hV:=c_r32Var
  clear hLe hs
  generalize tFun a b=t at *
  generalize tmVar 0=v0 at *
  refine en Tryz.func100 [.tmp 4] rfl rfl fun g0 w0 gen hrel hfr hfr' hres=>?_
  repeat' (first
   |(refine ⟨?_,?_⟩;focus ((repeat' (first|refine ⟨?_,?_⟩|refine .inr ?_));all_goals kernel_rfl))
   |exact hin _|exact agf (by assumption)
   | (first|refine wp rfl ?_|refine spt rfl ?_|refine spf rfl ?_|(refine spl (fun hc=>?_) fun hc=>?_)<;>(try rw [beq_iff_eq] at hc)<;>try simp only [hc]|refine cp hS ?_|refine cp hC ?_|refine cp hL0 ?_|refine cp hV ?_|refine finF hrel ?_ ?_ ?_)<;>try simp only [go_sem, *])
  clear hS hC hV
  refine AR_loop_nat (fun i σ=>σ.tm 2=.ptr ⟨gen,0,0⟩ 0∧σ.h ⟨gen,0,0⟩=some (.box t.cells)∧σ.tm 23=.sl .any (C.map Tm.cells)∧σ.tm 24=.int .i64 i∧OwnS h σ.h (σ.tm 5) 5 ((growL [tmT 2 a [v0]] C (fun c=>tmT 2 a [c]) i).map Tm.cells)∧Agree h σ.h) (C.length) ?_ ?_
  ·simp only [growL_zero,growF_zero,List.map_nil,List.map_cons,List.length_nil,go_sem, *]
   exact ⟨rfl,.inr ⟨_,rfl,by simp only [go_sem, *],hfr' _ _⟩,(by repeat (first|exact Agree.refl _|assumption|refine Agree.new ?_ (hgf0 _ _)|refine Agree.new ?_ (hfr' _ _)))⟩
  intro i σ hi ⟨jp,jb,j1,j2,j3,j4⟩
  refine AR_gen (fun gn hgn=>?_)
  have hgf:=fresh_of hgn
  have hgf0:∀ r i,h ⟨gn,r,i⟩=none:=fun r i=>agree_fresh j4 (hgf r i)
  have ge0:=gen_ne hgn jb
  have gf0:=gen_ne' hgn jb
  clear hgn
  rcases Nat.lt_or_ge i (C.length) with hlt|hge
  ·have hc1:decide ((i:Int)<(C.length:Int))=true:=by simp;omega
   have hw:IntKind.i64.wrap ((i:Int)+1)=((i+1:Nat):Int):=wrap_eq (by omega) (by omega) (by omega)
   obtain ⟨x,hx⟩:∃ x,C[i]? = some x:=⟨_,List.getElem?_eq_getElem hlt⟩
   have hti:Int.toNat (i:Int)=i:=rfl
   have h0i:(0≤(i:Int))=True:=by simp
   have hb9:=growL_len (P:=[tmT 2 a [v0]]) (N:=C) (f:=fun c=>tmT 2 a [c]) (i:=i)
   simp only [List.length_cons,List.length_nil] at hb9
   have hb8:(growL [tmT 2 a [v0]] C (fun c=>tmT 2 a [c]) i).length≤70:=by omega
   have hg:=growL_get (P:=[tmT 2 a [v0]]) (f:=fun c=>tmT 2 a [c]) hx
   obtain ⟨c0,jv⟩:=j3.val
   rw [jv] at j3
   have hcc:=c_r32Lam a x
   clear hb9
   repeat' (first
    |(refine ⟨?_,?_⟩;focus ((repeat' (first|refine ⟨?_,?_⟩|refine .inr ?_));all_goals kernel_rfl))
    |(refine okE_app_ownd j3 (by repeat (first|exact Keeps.refl _|refine Keeps.new ?_ (hgf _ _)|refine Keeps.new ?_ (hfr' _ _)|refine Keeps.box ?_ rfl|refine Keeps.box ?_ (by simp only [go_sem, *]))) rfl (by simp only [go_sem, *]<;>omega) (by first|exact hgf0 _ _|exact hfr' _ _) (by simp only [go_sem, *]) (by intro hd e;simp only [logOk_cons,logOk_nil,and_true];repeat (first|exact trivial|refine ⟨.inr (by kernel_rfl),?_⟩|exact .inr (by kernel_rfl))) ?_;intro v' h' id' jO jK jAg jAb jF;obtain ⟨cO,rfl⟩:=jO.val;simp only [go_sem, *])
    | (first|refine wp rfl ?_|refine spt rfl ?_|refine spf rfl ?_|(refine spl (fun hc=>?_) fun hc=>?_)<;>(try rw [beq_iff_eq] at hc)<;>try simp only [hc]|refine cp hcc ?_|refine AR_inv ?_)<;>try simp only [go_sem, *])
   all_goals have k1:h' ⟨gen,0,0⟩=some (.box t.cells):=by rw [jK _ (by simp only [go_sem, *])]<;>simp only [go_sem, *]
   all_goals first|exact jAg (by repeat (first|exact Agree.refl _|assumption|refine Agree.new ?_ (hgf0 _ _)|refine Agree.new ?_ (hfr' _ _)))|exact ⟨k1,jAg (by repeat (first|exact Agree.refl _|assumption|refine Agree.new ?_ (hgf0 _ _)|refine Agree.new ?_ (hfr' _ _)))⟩|exact ⟨k1,jO,jAg (by repeat (first|exact Agree.refl _|assumption|refine Agree.new ?_ (hgf0 _ _)|refine Agree.new ?_ (hfr' _ _)))⟩
  ·obtain rfl:i=C.length:=by omega
   have hc1:decide ((C.length:Int)<(C.length:Int))=false:=by simp
   rw [hL] at j3
   obtain ⟨c0,jv⟩:=j3.val
   clear hL j3
   rcases Nat.lt_or_ge 64 L.length with hlt|hge
   ·have hd1:decide ((L.length:Int)>64)=true:=by simp;omega
    have hm:(64<(L.length:Int))=True:=by simp;omega
    have hm2:(64≤L.length)=True:=by simp;omega
    have e2:(L.map Tm.cells).take 64=(L.take 64).map Tm.cells:=by rw [List.map_take]
    repeat' (first
     |(refine ⟨?_,?_⟩;focus ((repeat' (first|refine ⟨?_,?_⟩|refine .inr ?_));all_goals kernel_rfl))
     |exact hin _|exact agf (by assumption)
     | (first|refine wp rfl ?_|refine spt rfl ?_|refine spf rfl ?_|(refine spl (fun hc=>?_) fun hc=>?_)<;>(try rw [beq_iff_eq] at hc)<;>try simp only [hc]|refine finF hrel ?_ ?_ ?_)<;>try simp only [go_sem, *])
   ·have e:L.take 64=L:=List.take_of_length_le (by omega)
    have hd1:decide ((L.length:Int)>64)=false:=by simp;omega
    have hm:(64<(L.length:Int))=False:=by simp;omega
    repeat' (first
     |(refine ⟨?_,?_⟩;focus ((repeat' (first|refine ⟨?_,?_⟩|refine .inr ?_));all_goals kernel_rfl))
     |exact hin _|exact agf (by assumption)
     | (first|refine wp rfl ?_|refine spt rfl ?_|refine spf rfl ?_|(refine spl (fun hc=>?_) fun hc=>?_)<;>(try rw [beq_iff_eq] at hc)<;>try simp only [hc]|refine finF hrel ?_ ?_ ?_)<;>try simp only [go_sem, *])
 | false =>
  rw [hs] at hS
  have hL:growL [] C (fun c=>tmT 2 a [c]) C.length=[]++C.map fun c=>tmT 2 a [c]:=growL_full
  obtain ⟨L,hLe⟩:∃ L,([]++C.map fun c=>tmT 2 a [c])=L:=⟨_,rfl⟩
  simp only [if_true,Bool.false_eq_true,if_false]
  rw [hLe]
  rw [hLe] at hL
  have hLl:L.length≤70:=by rw [← hLe];simp;omega
  have hL0:=c_r32Lam a (tmVar 0)
  have hV:=c_r32Var
  clear hLe hs
  generalize tFun a b=t at *
  generalize tmVar 0=v0 at *
  refine en Tryz.func100 [.tmp 4] rfl rfl fun g0 w0 gen hrel hfr hfr' hres=>?_
  repeat' (first
   |(refine ⟨?_,?_⟩;focus ((repeat' (first|refine ⟨?_,?_⟩|refine .inr ?_));all_goals kernel_rfl))
   |exact hin _|exact agf (by assumption)
   | (first|refine wp rfl ?_|refine spt rfl ?_|refine spf rfl ?_|(refine spl (fun hc=>?_) fun hc=>?_)<;>(try rw [beq_iff_eq] at hc)<;>try simp only [hc]|refine cp hS ?_|refine cp hC ?_|refine cp hL0 ?_|refine cp hV ?_|refine finF hrel ?_ ?_ ?_)<;>try simp only [go_sem, *])
  clear hS hC hV
  refine AR_loop_nat (fun i σ=>σ.tm 2=.ptr ⟨gen,0,0⟩ 0∧σ.h ⟨gen,0,0⟩=some (.box t.cells)∧σ.tm 23=.sl .any (C.map Tm.cells)∧σ.tm 24=.int .i64 i∧OwnS h σ.h (σ.tm 5) 5 ((growL [] C (fun c=>tmT 2 a [c]) i).map Tm.cells)∧Agree h σ.h) (C.length) ?_ ?_
  ·simp only [growL_zero,growF_zero,List.map_nil,List.map_cons,List.length_nil,go_sem, *]
   exact ⟨rfl,.inl rfl,(by repeat (first|exact Agree.refl _|assumption|refine Agree.new ?_ (hgf0 _ _)|refine Agree.new ?_ (hfr' _ _)))⟩
  intro i σ hi ⟨jp,jb,j1,j2,j3,j4⟩
  refine AR_gen (fun gn hgn=>?_)
  have hgf:=fresh_of hgn
  have hgf0:∀ r i,h ⟨gn,r,i⟩=none:=fun r i=>agree_fresh j4 (hgf r i)
  have ge0:=gen_ne hgn jb
  have gf0:=gen_ne' hgn jb
  clear hgn
  rcases Nat.lt_or_ge i (C.length) with hlt|hge
  ·have hc1:decide ((i:Int)<(C.length:Int))=true:=by simp;omega
   have hw:IntKind.i64.wrap ((i:Int)+1)=((i+1:Nat):Int):=wrap_eq (by omega) (by omega) (by omega)
   obtain ⟨x,hx⟩:∃ x,C[i]? = some x:=⟨_,List.getElem?_eq_getElem hlt⟩
   have hti:Int.toNat (i:Int)=i:=rfl
   have h0i:(0≤(i:Int))=True:=by simp
   have hb9:=growL_len (P:=[]) (N:=C) (f:=fun c=>tmT 2 a [c]) (i:=i)
   simp only [List.length_cons,List.length_nil] at hb9
   have hb8:(growL [] C (fun c=>tmT 2 a [c]) i).length≤70:=by omega
   have hg:=growL_get (P:=[]) (f:=fun c=>tmT 2 a [c]) hx
   obtain ⟨c0,jv⟩:=j3.val
   rw [jv] at j3
   have hcc:=c_r32Lam a x
   clear hb9
   repeat' (first
    |(refine ⟨?_,?_⟩;focus ((repeat' (first|refine ⟨?_,?_⟩|refine .inr ?_));all_goals kernel_rfl))
    |(refine okE_app_ownd j3 (by repeat (first|exact Keeps.refl _|refine Keeps.new ?_ (hgf _ _)|refine Keeps.new ?_ (hfr' _ _)|refine Keeps.box ?_ rfl|refine Keeps.box ?_ (by simp only [go_sem, *]))) rfl (by simp only [go_sem, *]<;>omega) (by first|exact hgf0 _ _|exact hfr' _ _) (by simp only [go_sem, *]) (by intro hd e;simp only [logOk_cons,logOk_nil,and_true];repeat (first|exact trivial|refine ⟨.inr (by kernel_rfl),?_⟩|exact .inr (by kernel_rfl))) ?_;intro v' h' id' jO jK jAg jAb jF;obtain ⟨cO,rfl⟩:=jO.val;simp only [go_sem, *])
    | (first|refine wp rfl ?_|refine spt rfl ?_|refine spf rfl ?_|(refine spl (fun hc=>?_) fun hc=>?_)<;>(try rw [beq_iff_eq] at hc)<;>try simp only [hc]|refine cp hcc ?_|refine AR_inv ?_)<;>try simp only [go_sem, *])
   all_goals have k1:h' ⟨gen,0,0⟩=some (.box t.cells):=by rw [jK _ (by simp only [go_sem, *])]<;>simp only [go_sem, *]
   all_goals first|exact jAg (by repeat (first|exact Agree.refl _|assumption|refine Agree.new ?_ (hgf0 _ _)|refine Agree.new ?_ (hfr' _ _)))|exact ⟨k1,jAg (by repeat (first|exact Agree.refl _|assumption|refine Agree.new ?_ (hgf0 _ _)|refine Agree.new ?_ (hfr' _ _)))⟩|exact ⟨k1,jO,jAg (by repeat (first|exact Agree.refl _|assumption|refine Agree.new ?_ (hgf0 _ _)|refine Agree.new ?_ (hfr' _ _)))⟩
  ·obtain rfl:i=C.length:=by omega
   have hc1:decide ((C.length:Int)<(C.length:Int))=false:=by simp
   rw [hL] at j3
   obtain ⟨c0,jv⟩:=j3.val
   clear hL j3
   rcases Nat.lt_or_ge 64 L.length with hlt|hge
   ·have hd1:decide ((L.length:Int)>64)=true:=by simp;omega
    have hm:(64<(L.length:Int))=True:=by simp;omega
    have hm2:(64≤L.length)=True:=by simp;omega
    have e2:(L.map Tm.cells).take 64=(L.take 64).map Tm.cells:=by rw [List.map_take]
    repeat' (first
     |(refine ⟨?_,?_⟩;focus ((repeat' (first|refine ⟨?_,?_⟩|refine .inr ?_));all_goals kernel_rfl))
     |exact hin _|exact agf (by assumption)
     | (first|refine wp rfl ?_|refine spt rfl ?_|refine spf rfl ?_|(refine spl (fun hc=>?_) fun hc=>?_)<;>(try rw [beq_iff_eq] at hc)<;>try simp only [hc]|refine finF hrel ?_ ?_ ?_)<;>try simp only [go_sem, *])
   ·have e:L.take 64=L:=List.take_of_length_le (by omega)
    have hd1:decide ((L.length:Int)>64)=false:=by simp;omega
    have hm:(64<(L.length:Int))=False:=by simp;omega
    repeat' (first
     |(refine ⟨?_,?_⟩;focus ((repeat' (first|refine ⟨?_,?_⟩|refine .inr ?_));all_goals kernel_rfl))
     |exact hin _|exact agf (by assumption)
     | (first|refine wp rfl ?_|refine spt rfl ?_|refine spf rfl ?_|(refine spl (fun hc=>?_) fun hc=>?_)<;>(try rw [beq_iff_eq] at hc)<;>try simp only [hc]|refine finF hrel ?_ ?_ ?_)<;>try simp only [go_sem, *])
theorem c_r32list (m:Nat) (hm:m≤16) {t:Ty} (h:TyF t):∀ {n:Nat},tyH t≤n→Pure Tryz.prog env 100 [.agg t.cells,.int .i64 m] (.sl .any ((candN n t m).map Tm.cells)):=by
 induction h with
 | nat=>intro n hn;obtain ⟨n,rfl⟩:∃ k,n=k+1:=⟨n - 1,by have:=@tyH_pos tNat;omega⟩;rw [candN_nat];exact c_r32Nat m hm
 | list=>intro n hn;obtain ⟨n,rfl⟩:∃ k,n=k+1:=⟨n - 1,by have:=@tyH_pos tList;omega⟩;rw [candN_list];exact c_r32List m hm
 | unit=>intro n hn;obtain ⟨n,rfl⟩:∃ k,n=k+1:=⟨n - 1,by have:=@tyH_pos tUnit;omega⟩;rw [candN_unit];exact c_r32Unit m
 | @pair a b ha hb h1 h2 =>
  intro n hn
  obtain ⟨n,rfl⟩:∃ k,n=k+1:=⟨n - 1,by have:=@tyH_pos (tPair a b);omega⟩
  obtain ⟨q1,q2⟩:=tyH_two (k:=3) (a:=a) (b:=b) hn
  rw [candN_pair]
  exact c_r32Pair m (h1 q1) (h2 q2) candN_len candN_len
 | @func a b ha hb h1 h2 =>
  intro n hn
  obtain ⟨n,rfl⟩:∃ k,n=k+1:=⟨n - 1,by have:=@tyH_pos (tFun a b);omega⟩
  obtain ⟨q1,q2⟩:=tyH_two (k:=4) (a:=a) (b:=b) hn
  rw [candN_fun]
  exact c_r32Fun m ha.W hb.W (h2 q2) candN_len
theorem c_r32Candidates (m:Nat) (hm:m≤16) {t:Ty} (h:TyF t) (he:tyErr t=0) {n:Nat} (hn:tyH t≤n) :
  Pure Tryz.prog env 51 [.agg t.cells,.int .i64 m] (.tup [.sl .any ((candN n t m).map Tm.cells),.int .i64 0]):=by
 intro g
 have h1:=c_refTyCheck t h.W
 rw [he] at h1
 have h2:=c_r32list m hm h hn
 have hc2:decide ((m:Int)<0)=false:=by simp
 have hc3:decide ((m:Int)>16)=false:=by simp;omega
 have n0:((0:Int) != 0)=false:=rfl
 generalize candN n t m=L at *
 clear h he hn
 refine en Tryz.func51 [.tmp 4,.tmp 5] rfl rfl fun g0 w0 gen hrel hfr hfr' hres=>?_
 repeat' (first
  |exact hin _|exact agf (by assumption)
  | (first|refine wp rfl ?_|refine spt rfl ?_|refine spf rfl ?_|(refine spl (fun hc=>?_) fun hc=>?_)<;>(try rw [beq_iff_eq] at hc)<;>try simp only [hc]|(refine gs (fun hb=>?_) fun hb=>?_)<;>try simp only [Bool.not_true,Bool.not_false] at hb|refine cp h1 ?_|refine cp h2 ?_|refine finF hrel ?_ ?_ ?_)<;>try simp only [go_sem, *])
end Go.Proofs.YtbfilinnoedfeaaGreatDoor
