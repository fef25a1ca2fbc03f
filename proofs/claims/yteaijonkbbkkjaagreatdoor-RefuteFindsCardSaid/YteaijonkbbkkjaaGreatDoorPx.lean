/-
 Walks: several parts in one text.
-/
import Derived.Test.YteaijonkbbkkjaaGreatDoorMy
import Derived.Test.YteaijonkbbkkjaaGreatDoorQf
import Derived.Test.YteaijonkbbkkjaaGreatDoorAbsDd
import Derived.Test.YteaijonkbbkkjaaGreatDoorMj
import Derived.Test.YteaijonkbbkkjaaGreatDoorGa
import Derived.Test.YteaijonkbbkkjaaGreatDoorGh
import Derived.Test.YteaijonkbbkkjaaGreatDoorMa
import Derived.Test.YteaijonkbbkkjaaGreatDoorGl
set_option linter.unusedSimpArgs false
set_option linter.unusedVariables false
set_option maxRecDepth 20000
set_option maxHeartbeats 4000000
namespace Go.Proofs.YteaijonkbbkkjaaGreatDoor
open Go GoAbs Go.Proofs
theorem c_ValuesOf {t:Ty} {bd m:Nat} {L:List PVl} {fV:V} (iV:∀ S,InV S fV) (hK:Pure Tryz.prog env 33 [.agg t.cells,.int .i64 bd,.int .i64 m] (.int .i64 0)) (hF:Pure Tryz.prog env 34 [.agg t.cells,.int .i64 bd,.int .i64 m] fV)
  (hI:Iter Tryz.prog env fV (rows L)) (hO:∀ v∈L,Pure Tryz.prog env 35 [.agg v.cells] (.agg v.cells)) (hl:L.length≤65536) :
  Pure Tryz.prog env 11 [.agg t.cells,.int .i64 bd,.int .i64 m] (.tup [.sl .any (L.map PVl.cells),.int .i64 0]):=by
 intro h
 have n0:((0:Int) != 0)=false:=rfl
 refine ret_of_walkX Tryz.func11 rfl (by kernel_rfl) fun g0 w0 gen hrel hfr=>?_
 have hfr':∀ r i,h ⟨gen,r,i⟩=none:=fresh_of hfr
 have hres:Tryz.f11.results.toList=[.tmp 6,.tmp 7]:=rfl
 have hl0:∀ b,w0.heap.size≤b→g0.lim b=0:=hrel.limnew
 refine ARX_pieces ?_
 simp only [flatC_seq,flatC_region,flatC_block,flatC_ret,flatC_cond,List.append_assoc,List.cons_append,List.nil_append,List.map_cons,List.map_nil,List.append_nil]
 refine ARX_of_AR (J:=fun σ=>σ.tm 9=.ptr ⟨gen,4,0⟩ 0∧σ.tm 21=fV∧Agree h σ.h∧σ.h ⟨gen,4,0⟩=some (.box [.sl .full []])∧σ.h ⟨gen,9,9⟩=none) [_,_,_,_,_,_] (by kernel_rfl) follows ?_ ?_
 ·simp only [List.map_cons,List.map_nil,List.cons_append,List.nil_append]
  clear hI hO
  first|refine wq_ ?_|exact wk_
  all_goals first|exact ag_|exact ⟨ag_,by simp only [go_sem, *]⟩|skip
 ·rintro σ ⟨j9,j21,jA,jb,jn⟩
  clear hK hF
  refine ARX_O ?_
  refine ARX_tok ((yO_ok _).x (xT_st (bd:=0))) ⟨gen,4,0⟩ ⟨gen,9,9⟩ 4 jb jn ?_
  have na:∀ id,h id≠none→id≠⟨gen,4,0⟩∧id≠⟨gen,9,9⟩:=fun id hid=>⟨fun e=>hid (by rw [e];exact hfr' _ _),fun e=>hid (by rw [e];exact hfr' _ _)⟩
  have jA':Agree h (hset (hset σ.h ⟨gen,9,9⟩ (.tok 0 4)) ⟨gen,4,0⟩ (.box [.sl (.own ⟨gen,9,9⟩) []])):=Agree.new (Agree.new jA (hfr' _ _)) (hfr' _ _)
  have hne:(⟨gen,9,9⟩:GoAbs.Id)≠⟨gen,4,0⟩:=by simp
  have jb1:(hset (hset σ.h ⟨gen,9,9⟩ (.tok 0 4)) ⟨gen,4,0⟩ (.box [.sl (.own ⟨gen,9,9⟩) []])) ⟨gen,4,0⟩=some (.box [.sl (.own ⟨gen,9,9⟩) []]):=hset_same
  have jb2:(hset (hset σ.h ⟨gen,9,9⟩ (.tok 0 4)) ⟨gen,4,0⟩ (.box [.sl (.own ⟨gen,9,9⟩) []])) ⟨gen,9,9⟩=some (.tok 0 4):=by rw [hset_other hne,hset_same]
  generalize hset (hset σ.h ⟨gen,9,9⟩ (.tok 0 4)) ⟨gen,4,0⟩ (.box [.sl (.own ⟨gen,9,9⟩) []])=H0 at *
  clear jb jn jA
  refine ARX_block ?_
  refine ARX_iter (yO_ok _) (ps:=[22]) (vs:=rows L) (by intro p hp;simp at hp;subst hp;exact of_decide_eq_true (by kernel_rfl)) (fun v hh=>by unfold rows at hh;obtain ⟨l,_,rfl⟩:=List.mem_map.1 hh;rfl)
   (fun id=>id=⟨gen,4,0⟩∨id=⟨gen,9,9⟩) (by rintro id (rfl|rfl)<;>simp [jb1,jb2])
   (fun i X hh=>X=xT∧Agree h hh∧hh ⟨gen,4,0⟩=some (.box [.sl (.own ⟨gen,9,9⟩) ((L.take i).map PVl.cells)])∧hh ⟨gen,9,9⟩=some (.tok i 4))
   (fun _ _ _=>False)
   (by rintro i X hh ⟨rfl,_⟩;exact xT_st) (fun _ _ _ h=>h.elim)
   (by
    rintro i X h1 h2 e ⟨q0,q1,q2,q3⟩
    exact ⟨q0,fun id hid=>(e id (by simp only;rw [jA' id hid];exact hid)).trans (q1 id hid),(e _ (by simp only;rw [jb1];simp)).trans q2,(e _ (by simp only;rw [jb2];simp)).trans q3⟩)
   (fun _ _ _ _ _ h=>h.elim) hl0 ?_ (by simp only;rw [j21];exact hI) ⟨rfl,jA',jb1,jb2⟩ rfl rfl ?_ (fun _ _ _ _ _ _ h=>h.elim)
  ·
   rintro ya yb gn i vv hi X oa ob ⟨lp,f1,f2,f3⟩ d1 d2 lo1 lo2 hXS hbd1 hbd2 hgn hvv ⟨rfl,jA,kb1,kb2⟩ hnn toB fin finx
   obtain ⟨v,hv,rfl⟩:∃ v,L[i]? = some v∧vv=[V.agg v.cells]:=by
    unfold rows at hvv
    rw [List.getElem?_map] at hvv
    cases hv:L[i]? with
    | none=>rw [hv] at hvv;simp at hvv
    | some l=>rw [hv] at hvv;simp at hvv;exact ⟨l,rfl,hvv.symm⟩
   have ho:=hO v (List.mem_of_getElem? hv)
   have hil:i<L.length:=(List.getElem?_eq_some_iff.1 hv).1
   have hlen:((L.take i).map PVl.cells).length=i:=by simp;omega
   have htk:(L.take (i+1)).map PVl.cells=(L.take i).map PVl.cells++[v.cells]:=map_take_succ hv
   refine ARX_gen (fun gm hgm=>?_)
   have hgf:∀ r i,hi ⟨gm,r,i⟩=none:=fresh_of hgm
   have hgf0:=fun r i=>agree_fresh jA (hgf r i)
   have hg1:gen<gm:=hgm ⟨gen,4,0⟩ (by simp [kb1])
   have e1:=gen_lt hg1
   have e2:=gen_lt' hg1
   have xa:XOk Tryz.prog (ya.at xT):=oa.x hXS
   have xb:XOk Tryz.prog (yb.at xT):=ob.x hXS
   have v4:v.cells.length=4:=by rw [PVl.cells_eq];rfl
   have v1:v.cells.all oneV=true:=by rw [PVl.cells_eq];rfl
   have he4:∀ x∈(L.take i).map PVl.cells,x.length=4:=by
    intro x hx
    obtain ⟨y,_,rfl⟩:=List.mem_map.1 hx
    rw [PVl.cells_eq];rfl
   clear hgm hnn hvv finx hI hO
   generalize (L.take i).map PVl.cells=es at *
   simp only [updL]
   refine ARX_region xa follows (by kernel_rfl) ?_
   simp only [go_sem, *]
   refine toB _ _ gm hXS ?_
   clear toB
   refine ARX_block ?_
   refine ARX_region_grow (ts:=23) (ty:=27) (tn:=26) (tv:=25) (tb:=9) (d5:=28) (d6:=29) xb follows (by kernel_rfl) (by kernel_rfl) rfl ⟨by kernel_rfl,by kernel_rfl,by kernel_rfl,by kernel_rfl,by kernel_rfl,by kernel_rfl,by kernel_rfl,by kernel_rfl,by kernel_rfl,by kernel_rfl⟩
    ⟨⟨_,rfl,rfl,rfl,rfl⟩,⟨_,rfl,rfl,rfl,rfl⟩,⟨_,rfl,rfl,rfl,rfl⟩,⟨_,rfl,rfl,rfl,rfl⟩,ty31,ty36,rfl,rfl,by decide,rfl,rfl,of_decide_eq_true (by kernel_rfl),of_decide_eq_true (by kernel_rfl),by decide,by decide⟩ ?_
   simp only [go_sem, *]
   repeat' (first
    |(refine ⟨?_,?_⟩;focus ((repeat' (first|refine ⟨?_,?_⟩|refine .inr ?_));all_goals kernel_rfl))
    | (first|refine cp ho ?_)<;>try simp only [go_sem, *])
   refine ⟨.own ⟨gen,9,9⟩,.full,es,[.int .i64 0,.int .i64 0,.sl .full [],.sl .full []],v.cells,.sl (.own ⟨gen,9,9⟩) es,⟨gen,4,0⟩,⟨gm,99,99⟩,⟨?_,?_,?_,?_,?_,?_,he4,rfl,rfl,v4,v1,?_,?_,?_,.inr ⟨_,rfl,?_⟩⟩,fun id' hid=>?_⟩
   ·simp only [go_sem, *]
   ·simp only [go_sem, *]
   ·simp only [go_sem, *]
   ·simp only [go_sem, *]
   ·simp only [go_sem, *]
   ·simp only [go_sem, *]
   ·rw [hlen];show (i+1) * 64≤_;omega
   ·omega
   ·simp only [go_sem, *]
   ·simp only [go_sem, *]
   ·have hid':id'=⟨gen,9,9⟩:=by
     rcases hid with ⟨h1,_⟩|h1
     ·cases h1
     ·cases h1;rfl
    subst hid'
    unfold tailH
    refine ARX_block_end ?_
    refine fin _ gm _ ⟨rfl,?_,?_,?_⟩ fun id hs q=>?_
    ·exact Agree.new (Agree.new (Agree.new jA (hgf0 _ _)) (hfr' _ _)) (hfr' _ _)
    ·simp only [go_sem, *]
    ·simp only [go_sem, *]
    ·have m1:(id=⟨gen,4,0⟩)=False:=eq_false fun e=>hs (.inl e)
     have m2:(id=⟨gen,9,9⟩)=False:=eq_false fun e=>hs (.inr e)
     have m3:(id=⟨gm,6,0⟩)=False:=eq_false fun e=>q (by rw [e];exact hgf _ _)
     simp only [hset,m1,m2,m3,if_false]
  ·rintro D X' h' hD ok ⟨rfl,jA,kb1,kb2⟩ hsame
   rw [rows_len,List.take_length] at kb1
   have okD:=ok.x (xT_st (bd:=0))
   have hwl:=weakLL_PVl L
   clear hI hO
   repeat' (first
    |(refine ⟨?_,?_⟩;focus ((repeat' (first|refine ⟨?_,?_⟩|refine .inr ?_));all_goals kernel_rfl))
    |exact agf (by assumption)
    | (first|refine ARX_seq ?_|refine ARX_region okD follows (by kernel_rfl) ?_|refine ARX_condP ?_|refine ARX_block ?_|refine ARX_exit ?_|refine ARX_skip ?_|refine ARX_ret ?_|refine ARX_block_end ?_|refine spt rfl ?_|refine spf rfl ?_|refine ARX_oendM follows hl0 hD ?_|refine finF hrel ?_ ?_ ?_)<;>try simp only [go_sem, *])
theorem c_r08Universal (f:Fm) (hf:FmW f) (he:fmErr f=0) (hs:fmSz f≤1000000) :
  Pure Tryz.prog env 19 [.agg f.cells] (.tup [.sl .any (f.univ.1.map Ty.cells),.agg f.univ.2.cells,.int .i64 0]):=by
 intro h
 have hC:=c_refFmCheck f hf
 rw [he] at hC
 have hg:f.good=true:=Fm.ok_good (by rw [he];rfl)
 have n0:((0:Int) != 0)=false:=rfl
 have hO2:=c_fmCopy f.univ.2 (univ_good f hf hg).1
 have hb:=univ_len f
 clear he
 generalize hu0:f.univ=p at *
 obtain ⟨ul,uf⟩:=p
 simp only at hb hO2 ⊢
 refine en_ Tryz.func19 [.tmp 2,.cell 3 45,.tmp 4] fun g0 w0 gen hrel hfr hfr' hres=>?_
 refine wq_ ?_
 clear hC
 refine AR_loop_nat (fun i σ=>σ.tm 1=.ptr ⟨gen,0,0⟩ 0∧σ.tm 3=.ptr ⟨gen,0,2⟩ 0∧σ.h ⟨gen,0,2⟩=some (.box [.int .i64 0,.int .i64 0,.sl .full [],.sl .full [],.sl .full []])∧Agree h σ.h ∧
  ∃ (f':Fm) (l':List Ty),σ.h ⟨gen,0,0⟩=some (.box f'.cells)∧OwnS h σ.h (σ.tm 6) 2 (l'.map Ty.cells)∧FmW f'∧f'.good=true∧l'++f'.univ.1=ul∧f'.univ.2=uf∧l'.length=i) ul.length ?_ ?_
 ·simp only [go_sem, *]
  exact ⟨ag_,f,[],rfl,.inl rfl,hf,hg,by rw [hu0];rfl,by rw [hu0],rfl⟩
 clear hf hg hu0
 intro i σ hi ⟨j1,j2,j3,j4,f',l',j5,j6,j7,j8,j9,j10,j11⟩
 refine AR_gen (fun gn hgn=>?_)
 have hgf:=fresh_of hgn
 have hgf0:∀ r i,h ⟨gn,r,i⟩=none:=fun r i=>agree_fresh j4 (hgf r i)
 have e1:=gen_ne hgn j5
 have e2:=gen_ne' hgn j5
 clear hgn
 cases k:(f'.kind==4) with
 | true =>
  obtain ⟨a,ha,ga⟩:=Fm.good_q j8 (.inl (by simpa using k))
  have wa:FmW a:=j7.arg (by rw [ha];simp)
  have hO:=c_refCopy f'.type j7.ty
  rw [Fm.univ_4 k ha] at j9 j10
  have hlt:i<ul.length:=by
   have:=congrArg List.length j9
   simp at this;omega
  clear j7 j8 hO2
  have hts:((l'++[f'.type]).map Ty.cells)=l'.map Ty.cells++[f'.type.cells]:=by simp
  repeat' (first
   |(refine okE_app_owne j6 (by repeat (first|exact Keeps.refl _|refine Keeps.new ?_ (hgf _ _)|refine Keeps.new ?_ (hfr' _ _)|refine Keeps.box ?_ rfl|refine Keeps.box ?_ (by simp only [go_sem, *]))) rfl (by simp only [go_sem, *]<;>omega) (by first|exact hgf0 _ _|exact hfr' _ _) (by simp only [go_sem, *]) (by intro hd e;simp only [logOk_cons,logOk_nil,and_true];repeat (first|exact trivial|refine ⟨.inr (by kernel_rfl),?_⟩|exact .inr (by kernel_rfl))) ?_;intro v' h' id' jO jK jAg jAb jF jI;obtain ⟨cO,rfl⟩:=jO.val;simp only [go_sem, *])
   | (first|refine wp rfl ?_|refine spt rfl ?_|refine spf rfl ?_|(refine spl (fun hc=>?_) fun hc=>?_)<;>(try rw [beq_iff_eq] at hc)<;>try simp only [hc]|refine cp hO ?_|refine AR_inv ?_)<;>try simp only [go_sem, *])
  exact ⟨Agree.new (jAg ag_) (hfr' _ _),a,l'++[f'.type],rfl,by rw [hts];exact jO.keep (Keeps.box (Keeps.refl _) (by rw [jK _ (by rw [j5];rfl),j5];rfl)),wa,ga,by simpa using j9,j10,by simp;omega⟩
 | false =>
  rw [Fm.univ_n k] at j9 j10
  simp only [List.append_nil] at j9 j10
  subst j9
  subst j10
  obtain ⟨c,j6⟩:=j6.val
  clear j7 j8
  exact wk_
end Go.Proofs.YteaijonkbbkkjaaGreatDoor
