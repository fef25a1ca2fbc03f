/-
 Walks: copies and makers of the tree package.
-/
import Derived.Test.YteaijonkbbkkjaaGreatDoorGa
import Derived.Test.YteaijonkbbkkjaaGreatDoorMc
import Derived.Test.YteaijonkbbkkjaaGreatDoorAbsC
set_option linter.unusedSimpArgs false
set_option linter.unusedVariables false
set_option maxRecDepth 20000
set_option maxHeartbeats 4000000
namespace Go.Proofs.YteaijonkbbkkjaaGreatDoor
open Go GoAbs Go.Proofs
theorem c_OwnType:∀ t:Ty,TyW t→Pure Tryz.prog env 86 [.agg t.cells] (.agg t.cells):=by
 intro t
 induction t using Ty.ind with|h t ih=>?_
 intro ht h
 have hlen:=ht.len
 have ih':∀ x∈t.args,Pure Tryz.prog env 86 [.agg x.cells] (.agg x.cells):=fun x hx=>ih x hx (ht.arg hx)
 clear ih
 refine en_ Tryz.func86 [.cell 2 27] fun g0 w0 gen hrel hfr hfr' hres=>?_
 refine wq_ ?_
 refine ar_ [2,3,10] [⟨gen,0,1⟩] (fun i σ=>Agree h σ.h∧∃ v,σ.h ⟨gen,1,3⟩=some (.box [.int .i64 t.kind,v])∧OwnS h σ.h v 2 ((t.args.take i).map Ty.cells)) (t.args).length ?_ ?_ ?_
 ·simp only [go_sem, *]
  exact ⟨ag_,_,rfl,.inl rfl⟩
 ·
  intro i σ gr0 hgl_gr0 hgn hlt jI jN jS ⟨jA,v,jb,jO0⟩
  obtain ⟨jT,jB⟩:=jS
  simp only [go_sem] at jT jB
  obtain ⟨hgf,hgf0,eg_gen_gr0,eh_gen_gr0⟩:=rnd hgn hgl_gr0 jA
  obtain ⟨x,hx,hxm,hm⟩:=rnx hlt
  clear hgn
  have hc:=ih' x hxm
  have hts:(t.args.take (i+1)).map Ty.cells=(t.args.take i).map Ty.cells++[x.cells]:=by rw [map_take_succ hx]
  clear ih'
  repeat' (first
   |(refine ⟨?_,?_⟩;focus ((repeat' (first|refine ⟨?_,?_⟩|refine .inr ?_));all_goals kernel_rfl))
   |(refine okE_app_ownd jO0 (by repeat (first|exact Keeps.refl _|refine Keeps.new ?_ (hgf _ _)|refine Keeps.new ?_ (hfr' _ _)|refine Keeps.box ?_ rfl|refine Keeps.box ?_ (by simp only [go_sem, *]))) rfl (by simp only [go_sem, *]<;>omega) (by first|exact hgf0 _ _|exact hfr' _ _) (by simp only [go_sem, *]) (by intro hd e;simp only [logOk_cons,logOk_nil,and_true];repeat (first|exact trivial|refine ⟨.inr (by kernel_rfl),?_⟩|exact .inr (by kernel_rfl))) ?_;intro v' h' id' jO jK jAg jAb jF;obtain ⟨cO,rfl⟩:=jO.val;simp only [go_sem, *])
   | (first|refine wp rfl ?_|refine spt rfl ?_|refine spf rfl ?_|(refine spl (fun hc=>?_) fun hc=>?_)<;>(try rw [beq_iff_eq] at hc)<;>try simp only [hc]|refine cp hc ?_|refine AR_inv ?_)<;>try simp only [go_sem, *])
  refine ⟨?_,_,rfl,jO.keep (Keeps.box (Keeps.refl _) (by simp only [go_sem, *]))⟩
  exact Agree.new (jAg ag_) (hfr' _ _)
 ·
  intro σ ga0 hgl_ga0 hgn jS ⟨jA,v,jb,jO0⟩
  obtain ⟨jT,jB⟩:=jS
  simp only [go_sem] at jT jB
  obtain ⟨hgf,hgf0,eg_gen_ga0,eh_gen_ga0⟩:=rnd hgn hgl_ga0 jA
  clear hgn
  rw [List.take_length] at jO0
  obtain ⟨c,rfl⟩:=jO0.val
  clear ih'
  refine wq_ ?_
  rw [Ty.cells_eq]
theorem c_Own:∀ t:Tm,TmW t→Pure Tryz.prog env 143 [.agg t.cells] (.agg t.cells):=by
 intro t
 induction t using Tm.ind with|h t ih=>?_
 intro ht h
 have hlen:=ht.len
 have ih':∀ x∈t.args,Pure Tryz.prog env 143 [.agg x.cells] (.agg x.cells):=fun x hx=>ih x hx (ht.arg hx)
 have hO:=c_OwnType t.type ht.ty
 clear ih
 refine en_ Tryz.func143 [.cell 2 65] fun g0 w0 gen hrel hfr hfr' hres=>?_
 refine wq_ ?_
 refine ar_ [2,3,15] [⟨gen,0,1⟩] (fun i σ=>Agree h σ.h∧∃ v,σ.h ⟨gen,1,8⟩=some (.box [.int .i64 t.kind,.int .i64 t.index,.int .i64 t.type.kind,.sl .any (t.type.args.map Ty.cells),v])∧OwnS h σ.h v 5 ((t.args.take i).map Tm.cells)) (t.args).length ?_ ?_ ?_
 ·simp only [go_sem, *]
  exact ⟨ag_,_,rfl,.inl rfl⟩
 ·
  intro i σ gr0 hgl_gr0 hgn hlt jI jN jS ⟨jA,v,jb,jO0⟩
  obtain ⟨jT,jB⟩:=jS
  simp only [go_sem] at jT jB
  obtain ⟨hgf,hgf0,eg_gen_gr0,eh_gen_gr0⟩:=rnd hgn hgl_gr0 jA
  obtain ⟨x,hx,hxm,hm⟩:=rnx hlt
  clear hgn
  have hc:=ih' x hxm
  have hts:(t.args.take (i+1)).map Tm.cells=(t.args.take i).map Tm.cells++[x.cells]:=by rw [map_take_succ hx]
  clear ih'
  repeat' (first
   |(refine ⟨?_,?_⟩;focus ((repeat' (first|refine ⟨?_,?_⟩|refine .inr ?_));all_goals kernel_rfl))
   |(refine okE_app_ownd jO0 (by repeat (first|exact Keeps.refl _|refine Keeps.new ?_ (hgf _ _)|refine Keeps.new ?_ (hfr' _ _)|refine Keeps.box ?_ rfl|refine Keeps.box ?_ (by simp only [go_sem, *]))) rfl (by simp only [go_sem, *]<;>omega) (by first|exact hgf0 _ _|exact hfr' _ _) (by simp only [go_sem, *]) (by intro hd e;simp only [logOk_cons,logOk_nil,and_true];repeat (first|exact trivial|refine ⟨.inr (by kernel_rfl),?_⟩|exact .inr (by kernel_rfl))) ?_;intro v' h' id' jO jK jAg jAb jF;obtain ⟨cO,rfl⟩:=jO.val;simp only [go_sem, *])
   | (first|refine wp rfl ?_|refine spt rfl ?_|refine spf rfl ?_|(refine spl (fun hc=>?_) fun hc=>?_)<;>(try rw [beq_iff_eq] at hc)<;>try simp only [hc]|refine cp hc ?_|refine AR_inv ?_)<;>try simp only [go_sem, *])
  refine ⟨?_,_,rfl,jO.keep (Keeps.box (Keeps.refl _) (by simp only [go_sem, *]))⟩
  exact Agree.new (jAg ag_) (hfr' _ _)
 ·
  intro σ ga0 hgl_ga0 hgn jS ⟨jA,v,jb,jO0⟩
  obtain ⟨jT,jB⟩:=jS
  simp only [go_sem] at jT jB
  obtain ⟨hgf,hgf0,eg_gen_ga0,eh_gen_ga0⟩:=rnd hgn hgl_ga0 jA
  clear hgn
  rw [List.take_length] at jO0
  obtain ⟨c,rfl⟩:=jO0.val
  clear ih'
  refine wq_ ?_
  rw [Tm.cells_eq]
theorem c_tOf (k:Int) (l:List Tm):Pure Tryz.prog env 166 [.int .i64 k,.sl .any (l.map Tm.cells)] (.agg (tm0 k l).cells):=by
 intro h
 refine en_ Tryz.func166 [.cell 4 65] fun g0 w0 gen hrel hfr hfr' hres=>?_
 first|refine wq_ ?_|exact wk_
 all_goals simp [tm0,Tm.mk_cells,Ty.mk_kind,Ty.mk_args]
theorem c_tVar (i:Int):Pure Tryz.prog env 188 [.int .i64 i] (.agg (tmVar i).cells):=by
 intro h
 refine en_ Tryz.func188 [.cell 2 65] fun g0 w0 gen hrel hfr hfr' hres=>?_
 first|refine wq_ ?_|exact wk_
 all_goals simp [tmVar,Tm.mk_cells,Ty.mk_kind,Ty.mk_args]
theorem c_tNat:Pure Tryz.prog env 180 [] (.agg tNat.cells):=by
 intro h
 refine en_ Tryz.func180 [.cell 0 27] fun g0 w0 gen hrel hfr hfr' hres=>?_
 refine wq_ ?_
 rfl
theorem c_tApp (f:Tm) (l:List Tm) (hl:l.length≤1000) :
  Pure Tryz.prog env 208 [.agg f.cells,.sl .any (l.map Tm.cells)] (.agg (appTm f l).cells):=by
 intro h
 have hin:∀ S,InV S (.agg (appTm f l).cells):=fun S=>by simp [InV,InL_Tm]
 generalize hv:V.agg (appTm f l).cells=v at hin ⊢
 refine en_ Tryz.func208 [.cell 4 65] fun g0 w0 gen hrel hfr hfr' hres=>?_
 refine wq_ ?_
 refine ar_ [2,4,7] [⟨gen,0,1⟩] (fun i σ=>Agree h σ.h∧∃ f':Tm,σ.h ⟨gen,0,0⟩=some (.box f'.cells)∧V.agg (appTm f' (l.drop i)).cells=v) (l).length ?_ ?_ ?_
 ·simp only [go_sem, *]
  exact ⟨ag_,f,rfl,hv⟩
 ·
  intro i σ gr0 hgl_gr0 hgn hlt jI jN jS ⟨jA,f',jf,jv⟩
  obtain ⟨jT,jB⟩:=jS
  simp only [go_sem] at jT jB
  obtain ⟨hgf,hgf0,eg_gen_gr0,eh_gen_gr0⟩:=rnd hgn hgl_gr0 jA
  obtain ⟨x,hx,hxm,hm⟩:=rnx hlt
  clear hgn
  rw [drop_get hx,appTm_cons] at jv
  have hc:=c_tOf 3 [f',x]
  simp only [List.map_cons,List.map_nil] at hc
  refine wq_ ?_
  exact ⟨ag_,_,rfl,jv⟩
 ·
  intro σ ga0 hgl_ga0 hgn jS ⟨jA,f',jf,jv⟩
  obtain ⟨jT,jB⟩:=jS
  simp only [go_sem] at jT jB
  obtain ⟨hgf,hgf0,eg_gen_ga0,eh_gen_ga0⟩:=rnd hgn hgl_ga0 jA
  clear hgn
  rw [List.drop_length,appTm_nil] at jv
  subst jv
  exact wk_
def lamT (l:List Ty) (b:Tm):Tm:=l.foldr (fun t b=>tmT 2 t [b]) b
theorem lamT_step {l:List Ty} {b:Tm} {j:Nat} {x:Ty} (h:l[j]? = some x):tmT 2 x [lamT (l.drop (j+1)) b]=lamT (l.drop j) b:=by
 rw [drop_get h];rfl
theorem c_tLam (b:Tm) (l:List Ty) (hl:l.length≤1000) :
  Pure Tryz.prog env 235 [.agg b.cells,.sl .any (l.map Ty.cells)] (.agg (lamT l b).cells):=by
 intro h
 have hw0:IntKind.i64.wrap ((l.length:Int) - 1)=(l.length:Int) - 1:=wrap_eq rfl (by omega) (by omega)
 refine en_ Tryz.func235 [.cell 4 65] fun g0 w0 gen hrel hfr hfr' hres=>?_
 refine wq_ ?_
 refine AR_loop_nat (fun i σ=>σ.tm 5=.int .i64 ((l.length:Int) - 1 - i)∧σ.tm 1=.sl .any (l.map Ty.cells)∧σ.tm 2=.ptr ⟨gen,0,0⟩ 0∧σ.tm 4=.ptr ⟨gen,0,1⟩ 0 ∧
  σ.h ⟨gen,0,0⟩=some (.box (lamT (l.drop (l.length - i)) b).cells)∧σ.h ⟨gen,0,1⟩=some (.box [.int .i64 0,.int .i64 0,.int .i64 0,.sl .full [],.sl .full []])∧Agree h σ.h∧i≤l.length) l.length ?_ ?_
 ·have e:(l.drop (l.length - 0))=[]:=by simp
  simp only [go_sem, *,e]
  exact ⟨by simp,rfl,ag_,by omega⟩
 intro i σ hi ⟨j1,j2,j3,j4,j5,j6,j7,j8⟩
 clear j8
 have hw1:IntKind.i64.wrap ((l.length:Int) - 1 - (i:Int) - 1)=(l.length:Int) - 1 - (i:Int) - 1:=wrap_eq rfl (by omega) (by omega)
 rcases Nat.lt_or_ge i l.length with hlt|hge
 ·have hd:decide ((l.length:Int) - 1 - (i:Int)≥0)=true:=by simp;omega
  have e0:l.length - (i+1)+1=l.length - i:=by omega
  obtain ⟨x,hx⟩:∃ x,l[l.length - (i+1)]? = some x:=⟨_,List.getElem?_eq_getElem (by omega)⟩
  have hst:=lamT_step (b:=b) hx
  rw [e0] at hst
  rw [← hst]
  have e2:((l.length:Int) - 1 - (i:Int)).toNat=l.length - (i+1):=by omega
  have e3:0≤(l.length:Int) - 1 - (i:Int):=by omega
  have e4:(l.length:Int) - 1 - ((i+1:Nat):Int)=(l.length:Int) - 1 - (i:Int) - 1:=by omega
  have e5:i+1≤l.length:=by omega
  clear hst
  generalize lamT (l.drop (l.length - i)) b=b' at *
  have hcell:(tmT 2 x [b']).cells=[.int .i64 2,.int .i64 0,.int .i64 x.kind,.sl .any (x.args.map Ty.cells),.sl .any [b'.cells]]:=by simp [tmT,Tm.mk_cells,Ty.mk_kind,Ty.mk_args]
  clear hi
  repeat' (first
   |(refine ⟨?_,?_⟩;focus ((repeat' (first|refine ⟨?_,?_⟩|refine .inr ?_));all_goals kernel_rfl))
   | (first|refine wp rfl ?_|refine spt rfl ?_|refine spf rfl ?_|(refine spl (fun hc=>?_) fun hc=>?_)<;>(try rw [beq_iff_eq] at hc)<;>try simp only [hc])<;>try simp only [go_sem, *])
  refine AR_weakBox ⟨gen,0,0⟩ (by simp only [go_sem, *]<;>rfl) ?_
  refine AR_inv ?_
  simp only [go_sem, *]
  exact ag_
 ·have hd:decide ((l.length:Int) - 1 - (i:Int)≥0)=false:=by simp;omega
  obtain rfl:i=l.length:=by omega
  have e6:l.drop (l.length - l.length)=l:=by simp
  rw [e6] at j5
  exact wk_
theorem c_tRec (k:Int) (t:Ty) (a b c:Tm):Pure Tryz.prog env 236 [.int .i64 k,.agg t.cells,.agg a.cells,.agg b.cells,.agg c.cells] (.agg (tmT k t [a,b,c]).cells):=by
 intro h
 refine en_ Tryz.func236 [.cell 10 65] fun g0 w0 gen hrel hfr hfr' hres=>?_
 first|refine wq_ ?_|exact wk_
 all_goals simp [tmT,Tm.mk_cells,Ty.mk_kind,Ty.mk_args]
theorem c_tEq (a b:Tm):Pure Tryz.prog env 207 [.agg a.cells,.agg b.cells] (.agg (fmEq a b).cells):=by
 intro h
 refine en_ Tryz.func207 [.cell 4 45] fun g0 w0 gen hrel hfr hfr' hres=>?_
 first|refine wq_ ?_|exact wk_
 all_goals simp [fmEq,Fm.mk_cells,Ty.mk_kind,Ty.mk_args]
theorem c_Quantifier (k:Int):Pure Tryz.prog env 189 [.int .i64 k] (.bool (decide (k≥4)&&decide (k≤7))):=by
 intro h
 refine en_ Tryz.func189 [.tmp 2] fun g0 w0 gen hrel hfr hfr' hres=>?_
 first|refine wq_ ?_|exact wk_
 all_goals simp [*]
theorem c_vRec (a b c:Tm):Pure Tryz.prog env 222 [.agg a.cells,.agg b.cells,.agg c.cells] (.agg (recN a (lamN (lamN b)) c).cells):=by
 intro h
 have h1:=c_tLam b [tNat,tNat] (by simp)
 simp only [List.map_cons,List.map_nil] at h1
 have h2:=c_tRec 6 tNat a (lamN (lamN b)) c
 have e:lamT [tNat,tNat] b=lamN (lamN b):=rfl
 rw [e] at h1
 refine en_ Tryz.func222 [.cell 6 65] fun g0 w0 gen hrel hfr hfr' hres=>?_
 have zq0:=c_tNat
 refine wq_ ?_
 rfl
theorem c_vTwo (b:Tm):Pure Tryz.prog env 221 [.agg b.cells] (.agg (lamN (lamN b)).cells):=by
 intro h
 have h1:=c_tLam b [tNat,tNat] (by simp)
 simp only [List.map_cons,List.map_nil] at h1
 have e:lamT [tNat,tNat] b=lamN (lamN b):=rfl
 rw [e] at h1
 have zq0:=c_tNat
 exact ek_ Tryz.func221 [.cell 2 65]
theorem c_vPred:Pure Tryz.prog env 223 [] (.agg predT.cells):=by
 intro h
 have h0:=c_tOf 4 []
 have h1:=c_tLam (recN (tm0 4 []) (lamN (lamN (tmVar 1))) (tmVar 0)) [tNat] (by simp)
 simp only [List.map_cons,List.map_nil] at h0 h1
 have e:lamT [tNat] (recN (tm0 4 []) (lamN (lamN (tmVar 1))) (tmVar 0))=predT:=rfl
 rw [e] at h1
 refine en_ Tryz.func223 [.cell 0 65] fun g0 w0 gen hrel hfr hfr' hres=>?_
 repeat' (first
  |exact hin _|exact agf (by assumption)
  | (first|refine wp rfl ?_|refine cp h0 ?_|refine cp (c_tVar _) ?_|refine cp (c_vRec _ _ _) ?_|refine cp c_tNat ?_|refine cp h1 ?_|refine finF hrel ?_ ?_ ?_)<;>try simp only [go_sem, *])
theorem c_vSub:Pure Tryz.prog env 209 [] (.agg subT.cells):=by
 intro h
 have h0:=c_tApp predT [tmVar 0] (by simp)
 simp only [List.map_cons,List.map_nil] at h0
 have e:appTm predT [tmVar 0]=tm0 3 [predT,tmVar 0]:=rfl
 rw [e] at h0
 refine en_ Tryz.func209 [.cell 0 65] fun g0 w0 gen hrel hfr hfr' hres=>?_
 repeat' (first
  |exact hin _|exact agf (by assumption)
  | (first|refine wp rfl ?_|refine cp c_vPred ?_|refine cp h0 ?_|refine cp (c_tVar _) ?_|refine cp (c_vRec _ _ _) ?_|refine cp (c_vTwo _) ?_|refine finF hrel ?_ ?_ ?_)<;>try simp only [go_sem, *])
 rfl
theorem c_less (s t:Tm):Pure Tryz.prog env 187 [.agg s.cells,.agg t.cells] (.agg (lessF s t).cells):=by
 intro h
 have h0:=c_tApp subT [tm0 5 [s],t] (by simp)
 have h1:=c_tOf 5 [s]
 have h2:=c_tOf 4 []
 simp only [List.map_cons,List.map_nil] at h0 h1 h2
 have e:appTm subT [tm0 5 [s],t]=tm0 3 [tm0 3 [subT,tm0 5 [s]],t]:=rfl
 rw [e] at h0
 refine en_ Tryz.func187 [.cell 4 45] fun g0 w0 gen hrel hfr hfr' hres=>?_
 repeat' (first
  |(refine ⟨?_,?_⟩;focus ((repeat' (first|refine ⟨?_,?_⟩|refine .inr ?_));all_goals kernel_rfl))
  |exact hin _|exact agf (by assumption)
  | (first|refine wp rfl ?_|refine cp c_vSub ?_|refine cp h0 ?_|refine cp h1 ?_|refine cp h2 ?_|refine cp (c_tEq _ _) ?_|refine finF hrel ?_ ?_ ?_)<;>try simp only [go_sem, *])
 rfl
theorem c_joint (all:Bool):Pure Tryz.prog env 185 [.bool all] (.tup [.int .i64 (if all then 4 else 5),.int .i64 (if all then 3 else 2)]):=by
 intro h
 cases all
 all_goals
  exact ek_ Tryz.func185 [.tmp 2,.tmp 3]
end Go.Proofs.YteaijonkbbkkjaaGreatDoor
