/-
 Walks: does a formula hold of values.
-/
import Derived.Test.YteaijonkbbkkjaaGreatDoorOq
import Derived.Test.YteaijonkbbkkjaaGreatDoorOr
import Derived.Test.YteaijonkbbkkjaaGreatDoorOm
import Derived.Test.YteaijonkbbkkjaaGreatDoorAbsDd
set_option linter.unusedSimpArgs false
set_option linter.unusedVariables false
set_option maxRecDepth 20000
set_option maxHeartbeats 4000000
namespace Go.Proofs.YteaijonkbbkkjaaGreatDoor
open Go GoAbs Go.Proofs
theorem c_pTermL (l:List Nat) (hz:lsz l≤4096):Pure Tryz.prog env 120 [.agg (PVl.mk 2 0 (l.map fun (n:Nat)=>(n:Int)) []).cells] (.agg (listT l).cells):=by
 intro h
 obtain ⟨hmem,hlen⟩:=IsVl.mem hz
 have hOf:=c_tOf 7 []
 simp only [List.map_nil] at hOf
 have hnum:∀ x∈l,Pure Tryz.prog env 168 [.int .i64 x] (.agg (numT x).cells):=fun x hx=>c_valnumber x (by have:=hmem x hx;omega)
 have hcons:∀ x t,Pure Tryz.prog env 166 [.int .i64 8,.sl .any [(numT x).cells,t]] (.agg (tm0 8 [numT x]).cells)→True:=fun _ _ _=>trivial
 have hcn:∀ x (t:Tm),Pure Tryz.prog env 166 [.int .i64 8,.sl .any [(numT x).cells,t.cells]] (.agg (tm0 8 [numT x,t]).cells):=by
  intro x t
  have:=c_tOf 8 [numT x,t]
  simpa only [List.map_cons,List.map_nil] using this
 clear hcons
 have hwL:weakLL (ints (l.map fun (n:Nat)=>(n:Int)))=ints (l.map fun (n:Nat)=>(n:Int)):=weakLL_ints _
 have hbk:=c_backwardI (c:=.any) (es:=ints (l.map fun (n:Nat)=>(n:Int)))
 have hL:ints (l.map fun (n:Nat)=>(n:Int))=(l.map fun (n:Nat)=>V.int .i64 (n:Int)).map fun v=>[v]:=by simp [ints,List.map_map,Function.comp_def]
 have hnil:listT (l.drop l.length)=tm0 7 []:=by rw [List.drop_length];rfl
 rw [PVl.mk_cells]
 rw [hL] at hbk hwL ⊢
 have hvl:(l.map fun (n:Nat)=>V.int .i64 (n:Int)).length=l.length:=by simp
 have hvg:∀ (i:Nat) (v:V),(l.map fun (n:Nat)=>V.int .i64 (n:Int))[i]? = some v→∃ x:Nat,l[i]? = some x∧v=V.int .i64 (x:Int):=by
  intro i v hv
  rw [List.getElem?_map] at hv
  cases hx:l[i]? with
  | none=>rw [hx] at hv;cases hv
  | some x=>rw [hx] at hv;cases hv;exact ⟨x,rfl,rfl⟩
 clear hL hz
 generalize (l.map fun (n:Nat)=>V.int .i64 (n:Int))=vs at *
 refine ret_of_walkX Tryz.func120 rfl (by kernel_rfl) fun g0 w0 gen hrel hfr=>?_
 have hfr':∀ r i,h ⟨gen,r,i⟩=none:=fresh_of hfr
 have hres:Tryz.f120.results.toList=[.cell 2 65]:=rfl
 have hl0:∀ b,w0.heap.size≤b→g0.lim b=0:=hrel.limnew
 have okF:=xF_ok ⟨Tryz.prog,env,Tryz.f120.ntmps,Tryz.f120,g0,w0,h,.agg (listT l).cells,h⟩
 repeat' (first
  |(refine ⟨?_,?_⟩;focus ((repeat' (first|refine ⟨?_,?_⟩|refine .inr ?_));all_goals kernel_rfl))
  |exact agf (by assumption)
  | (first|refine ARX_seq ?_|refine ARX_region okF follows (by kernel_rfl) ?_|refine ARX_condP ?_|refine ARX_block ?_|refine ARX_exit ?_|refine ARX_skip ?_|refine ARX_ret ?_|refine ARX_block_end ?_|refine ARX_block_pass (by decide) ?_|refine ARX_block_hit ?_|refine ARX_code_exit ?_|refine spt rfl ?_|refine spf rfl ?_|refine cp hOf ?_|refine cp hbk ?_)<;>try simp only [go_sem, *])
 refine ARX_back (vs:=vs) backI_ok (by simp only [go_sem, *]) (by omega) (of_decide_eq_true (by kernel_rfl)) (of_decide_eq_true (by kernel_rfl))
  (fun i hi=>Agree h hi∧hi ⟨gen,0,1⟩=some (.box [.int .i64 0,.int .i64 0,.int .i64 0,.sl .full [],.sl .full []])∧hi ⟨gen,3,1⟩=some (.box (listT (l.drop i)).cells))
  (fun _ _=>False) ?_ ?_ ?_ (fun _ _ _ h=>h.elim)
 ·rw [hvl,hnil]
  simp only [go_sem, *]
  exact ag_
 ·intro xa xb gr i v hi oka okb hgr hlt hv ⟨jA,jb1,jb2⟩ mid fin _
  obtain ⟨x,hx,rfl⟩:=hvg i v hv
  have hn:=hnum x (List.mem_of_getElem? hx)
  have hc:=hcn x (listT (l.drop (i+1)))
  have hd:=listT_drop hx
  clear hnum hcn hvg hv
  refine ARX_region oka follows (by kernel_rfl) ?_
  simp only [go_sem, *]
  refine mid _ _ ?_
  clear mid
  repeat' (first
   |(refine ⟨?_,?_⟩;focus ((repeat' (first|refine ⟨?_,?_⟩|refine .inr ?_));all_goals kernel_rfl))
   |exact agf (by assumption)
   | (first|refine ARX_seq ?_|refine ARX_region okb follows (by kernel_rfl) ?_|refine ARX_condP ?_|refine ARX_block ?_|refine ARX_exit ?_|refine ARX_skip ?_|refine ARX_ret ?_|refine ARX_block_end ?_|refine ARX_block_pass (by decide) ?_|refine ARX_block_hit ?_|refine ARX_code_exit ?_|refine spt rfl ?_|refine spf rfl ?_|refine cp hn ?_|refine cp hc ?_)<;>try simp only [go_sem, *])
  exact fin _ _ ⟨by repeat (first|exact jA|refine Agree.new ?_ (hfr' _ _)),by simp only [go_sem, *],by simp only [go_sem, *]⟩
 ·rintro D h' ⟨jA,jb1,jb2⟩
  rw [List.drop_zero] at jb2
  have okD:=xD_ok ⟨Tryz.prog,env,Tryz.f120.ntmps,Tryz.f120,g0,w0,h,.agg (listT l).cells,h⟩ D
  clear hnum hcn hvg
  repeat' (first
   |(refine ⟨?_,?_⟩;focus ((repeat' (first|refine ⟨?_,?_⟩|refine .inr ?_));all_goals kernel_rfl))
   |exact agf (by assumption)
   | (first|refine ARX_seq ?_|refine ARX_region okD follows (by kernel_rfl) ?_|refine ARX_condP ?_|refine ARX_block ?_|refine ARX_exit ?_|refine ARX_skip ?_|refine ARX_ret ?_|refine ARX_block_end ?_|refine ARX_block_pass (by decide) ?_|refine ARX_block_hit ?_|refine ARX_code_exit ?_|refine spt rfl ?_|refine spf rfl ?_|refine ARX_doneD follows hl0 ?_|refine finF hrel ?_ ?_ ?_|refine ARX_out ?_)<;>try simp only [go_sem, *])
theorem c_pTerm {a:Ty} {v:PVl} {t:Tm} (hv:IsVl a v t):tmSz t≤4096→Pure Tryz.prog env 120 [.agg v.cells] (.agg t.cells):=by
 induction hv with
 | num n =>
  intro hz h
  rw [tmSz_num] at hz
  have h1:=c_valnumber n (by omega)
  clear hz
  rw [PVl.mk_cells]
  generalize numT n=t at *
  refine ret_of_walkX Tryz.func120 rfl (by kernel_rfl) fun g0 w0 gen hrel hfr=>?_
  have hfr':∀ r i,h ⟨gen,r,i⟩=none:=fresh_of hfr
  have hres:Tryz.f120.results.toList=[.cell 2 65]:=rfl
  have okF:=xF_ok ⟨Tryz.prog,env,Tryz.f120.ntmps,Tryz.f120,g0,w0,h,.agg t.cells,h⟩
  repeat' (first
   |(refine ⟨?_,?_⟩;focus ((repeat' (first|refine ⟨?_,?_⟩|refine .inr ?_));all_goals kernel_rfl))
   |exact agf (by assumption)
   | (first|refine ARX_seq ?_|refine ARX_region okF follows (by kernel_rfl) ?_|refine ARX_condP ?_|refine ARX_block ?_|refine ARX_exit ?_|refine ARX_skip ?_|refine ARX_ret ?_|refine ARX_block_end ?_|refine ARX_block_pass (by decide) ?_|refine ARX_block_hit ?_|refine ARX_code_exit ?_|refine spt rfl ?_|refine spf rfl ?_|refine cp h1 ?_|refine ARX_doneF follows ?_|refine finF hrel ?_ ?_ ?_|refine ARX_out ?_)<;>try simp only [go_sem, *])
 | list l=>intro hz;rw [listT_sz] at hz;exact c_pTermL l hz
 | unit =>
  intro hz h
  have h1:=c_tOf 13 []
  simp only [List.map_nil] at h1
  clear hz
  rw [PVl.mk_cells]
  refine ret_of_walkX Tryz.func120 rfl (by kernel_rfl) fun g0 w0 gen hrel hfr=>?_
  have hfr':∀ r i,h ⟨gen,r,i⟩=none:=fresh_of hfr
  have hres:Tryz.f120.results.toList=[.cell 2 65]:=rfl
  have okF:=xF_ok ⟨Tryz.prog,env,Tryz.f120.ntmps,Tryz.f120,g0,w0,h,.agg (tm0 13 []).cells,h⟩
  repeat' (first
   |(refine ⟨?_,?_⟩;focus ((repeat' (first|refine ⟨?_,?_⟩|refine .inr ?_));all_goals kernel_rfl))
   |exact agf (by assumption)
   | (first|refine ARX_seq ?_|refine ARX_region okF follows (by kernel_rfl) ?_|refine ARX_condP ?_|refine ARX_block ?_|refine ARX_exit ?_|refine ARX_skip ?_|refine ARX_ret ?_|refine ARX_block_end ?_|refine ARX_block_pass (by decide) ?_|refine ARX_block_hit ?_|refine ARX_code_exit ?_|refine spt rfl ?_|refine spf rfl ?_|refine cp h1 ?_|refine ARX_doneF follows ?_|refine finF hrel ?_ ?_ ?_|refine ARX_out ?_)<;>try simp only [go_sem, *])
 | @pair a b x y s t _ _ ih1 ih2 =>
  intro hz h
  rw [tmSz_2] at hz
  have h1:Pure Tryz.prog env 120 [.agg x.cells] (.agg s.cells):=ih1 (by omega)
  have h2:Pure Tryz.prog env 120 [.agg y.cells] (.agg t.cells):=ih2 (by omega)
  have h3:=c_tOf 10 [s,t]
  simp only [List.map_cons,List.map_nil] at h3
  clear ih1 ih2 hz
  rw [PVl.mk_cells]
  simp only [List.map_cons,List.map_nil]
  refine ret_of_walkX Tryz.func120 rfl (by kernel_rfl) fun g0 w0 gen hrel hfr=>?_
  have hfr':∀ r i,h ⟨gen,r,i⟩=none:=fresh_of hfr
  have hres:Tryz.f120.results.toList=[.cell 2 65]:=rfl
  have okF:=xF_ok ⟨Tryz.prog,env,Tryz.f120.ntmps,Tryz.f120,g0,w0,h,.agg (tm0 10 [s,t]).cells,h⟩
  repeat' (first
   |(refine ⟨?_,?_⟩;focus ((repeat' (first|refine ⟨?_,?_⟩|refine .inr ?_));all_goals kernel_rfl))
   |exact agf (by assumption)
   | (first|refine ARX_seq ?_|refine ARX_region okF follows (by kernel_rfl) ?_|refine ARX_condP ?_|refine ARX_block ?_|refine ARX_exit ?_|refine ARX_skip ?_|refine ARX_ret ?_|refine ARX_block_end ?_|refine ARX_block_pass (by decide) ?_|refine ARX_block_hit ?_|refine ARX_code_exit ?_|refine spt rfl ?_|refine spf rfl ?_|refine cp h1 ?_|refine cp h2 ?_|refine cp h3 ?_|refine ARX_doneF follows ?_|refine finF hrel ?_ ?_ ?_|refine ARX_out ?_)<;>try simp only [go_sem, *])
theorem c_proValue {a:Ty} {v:PVl} {t:Tm} (hv:IsVl a v t) (hz:tmSz t≤4096) (ha:TyG a):Pure Tryz.prog env 73 [.agg v.cells] (.tup [.agg t.cells,.int .i64 0]):=by
 intro h
 have h1:=c_pCheck hv hz ha
 have h2:=c_pLength hv hz
 have h3:=c_pTerm hv hz
 have d1:decide ((tmSz t:Int)>4096)=false:=by simp;omega
 clear hz ha hv
 generalize tmSz t=n at *
 exact ek_ Tryz.func73 [.cell 2 65,.tmp 3]
theorem c_decHolds {g:List Ty} {l:List PVl} {ts:List Tm} (hs:IsVls g l ts) (hg:g.length≤16) {f:Fm} (hf:Dc g f) (zf:fmSz f≤4096) (lim:Nat) (hl:lim≤65536) :
  Pure Tryz.prog env 44 [.agg f.cells,.sl .any (l.map PVl.cells),.int .i64 lim] (decV (holdsR lim f ts)):=by
 intro h
 have h1:=c_fmCheck f (hf.G (u:=true)).toW
 rw [(hf.G (u:=true)).err0 zf] at h1
 obtain ⟨ll,lt⟩:=hs.len
 have h2:∀ (i:Nat) (v:PVl),l[i]? = some v→∃ t:Tm,ts[i]? = some t∧Pure Tryz.prog env 73 [.agg v.cells] (.tup [.agg t.cells,.int .i64 0]):=by
  intro i v hv
  obtain ⟨a,v',t,_,q2,q3,q4,q5,q6⟩:=hs.at i (by have:=(List.getElem?_eq_some_iff.1 hv).1;omega)
  rw [hv] at q2
  cases q2
  exact ⟨t,q3,c_proValue q4 q6 q5⟩
 have hput:∀ (i:Nat) (F:Fm),i<ts.length→Dc (g.take (i+1)) F→fmSz F≤4096→∃ t:Tm,ts[i]? = some t∧Pure Tryz.prog env 75 [.agg F.cells,.int .i64 0,.agg t.cells] (fmErrV (putR F t)) ∧
   ((putR F t).2=0→Dc (g.take i) (putR F t).1∧fmSz (putR F t).1≤4096):=by
  intro i F hi hF zF
  obtain ⟨a,v,t,q1,q2,q3,q4,q5,q6⟩:=hs.at i (by omega)
  rw [take_ty q1] at hF
  have hlen:(g.take i).length≤16:=by simp;omega
  exact ⟨t,q3,c_formulaPut F (hF.G (u:=true)).toW (hF.G (u:=true)) zF (hF.least (by simp at hlen ⊢;omega)) t q4.G.toW q4.G q6 ((q4.ty q5 []).least _ (by omega) (by simp;omega)),
   fun h0=>putR_dc hF q4 q5 q6 (by omega) zF h0⟩
 have hT:∀ F:Fm,Dc [] F→fmSz F≤4096→Pure Tryz.prog env 76 [.agg F.cells,.int .i64 lim] (decV (dA lim F)):=fun F hF zF=>c_decTruth hF zF lim hl
 have hR0:putsR f (ts.take ts.length).reverse=putsR f ts.reverse:=by rw [List.take_length]
 have hfg:Dc (g.take ts.length) f:=by rw [lt,List.take_length];exact hf
 have hvd:decV (holdsR lim f ts)=if (putsR f ts.reverse).2 != 0 then .tup [.bool false,.int .i64 0,.int .i64 (putsR f ts.reverse).2] else decV (dA lim (putsR f ts.reverse).1):=by
  unfold holdsR
  cases hz:((putsR f ts.reverse).2 != 0) with
  | true=>simp only [if_true];unfold decV;rw [if_pos hz]
  | false=>simp only [Bool.false_eq_true,if_false]
 rw [hvd]
 generalize putsR f ts.reverse=R at *
 have hin:∀ S,InV S (if R.2 != 0 then V.tup [.bool false,.int .i64 0,.int .i64 R.2] else decV (dA lim R.1)):=by
  intro S
  unfold decV
  repeat' split
  all_goals simp [InV,InL]
 have h5:∀ e∈ts.map Tm.cells,e.length=5:=by
  intro e he
  obtain ⟨t,_,rfl⟩:=List.mem_map.1 he
  exact Tm.cells_len t
 have hbk:=c_backwardT (c:=.any) (es:=ts.map Tm.cells)
 have n0:((0:Int) != 0)=false:=rfl
 have hl16:l.length≤16:=by omega
 have hlts:l.length≤ts.length∧ts.length≤l.length:=by omega
 clear hvd hf hl ll lt
 refine ret_of_walkX Tryz.func44 rfl (by kernel_rfl) fun g0 w0 gen hrel hfr=>?_
 have hfr':∀ r i,h ⟨gen,r,i⟩=none:=fresh_of hfr
 have hres:Tryz.f44.results.toList=[.cell 6 4,.cell 7 3,.cell 8 32]:=rfl
 have hl0:∀ b,w0.heap.size≤b→g0.lim b=0:=hrel.limnew
 refine ARX_pieces ?_
 simp only [flatC_seq,flatC_region,flatC_block,flatC_ret,flatC_cond,List.append_assoc,List.cons_append,List.nil_append,List.map_cons,List.map_nil,List.append_nil]
 refine ARX_of_AR (J:=fun σ=>σ.tm 2=.int .i64 lim∧σ.tm 3=.ptr ⟨gen,0,0⟩ 0∧σ.tm 6=.ptr ⟨gen,0,1⟩ 0∧σ.tm 7=.ptr ⟨gen,0,2⟩ 0∧σ.tm 8=.ptr ⟨gen,0,3⟩ 0 ∧
  σ.tm 44=.fn (.func 121) [] [.el [.sl .any (ts.map Tm.cells)] 0]∧Agree h σ.h ∧
  σ.h ⟨gen,0,0⟩=some (.box f.cells)∧σ.h ⟨gen,0,1⟩=some (.box [.bool false])∧σ.h ⟨gen,0,2⟩=some (.box [.int .i64 0])∧σ.h ⟨gen,0,3⟩=some (.box [.int .i64 0])) [_,_,_,_,_,_,_,_] (by kernel_rfl) follows ?_ ?_
 ·simp only [List.map_cons,List.map_nil,List.cons_append,List.nil_append]
  clear hput hT hin
  have hw5:=weakLL_Tm ts
  refine wq_ ?_
  refine ar_ [2,3,6,7,8,24] [⟨gen,0,0⟩,⟨gen,0,1⟩,⟨gen,0,2⟩,⟨gen,0,3⟩] (fun i σ=>Agree h σ.h∧OwnS h σ.h (σ.tm 10) 5 ((ts.take i).map Tm.cells)) (l).length ?_ ?_ ?_
  ·simp only [go_sem, *]
   exact ⟨ag_,.inl rfl⟩
  ·
   intro i σ gr0 hgl_gr0 hgn hlt jI jN jS ⟨jA,j10⟩
   obtain ⟨jT,jB⟩:=jS
   simp only [go_sem] at jT jB
   obtain ⟨hgf,hgf0,eg_gen_gr0,eh_gen_gr0⟩:=rnd hgn hgl_gr0 jA
   obtain ⟨x,hx,hxm,hm⟩:=rnx hlt
   clear hgn
   obtain ⟨t,ht,hc⟩:=h2 i x hx
   have hse:(ts.take (i+1)).map Tm.cells=(ts.take i).map Tm.cells++[t.cells]:=by rw [List.take_add_one,ht];simp
   have hel:((ts.take i).map Tm.cells).length=i:=by
    have:=(List.getElem?_eq_some_iff.1 ht).1
    simp;omega
   have hal:((ts.take i).map Tm.cells).all (fun e=>e.length==5)=true:=by
    rw [List.all_eq_true];intro e he;obtain ⟨y,_,rfl⟩:=List.mem_map.1 he;simp [Tm.cells_len]
   generalize (ts.take i).map Tm.cells=es at *
   clear h2
   repeat' (first
    |(refine ⟨?_,?_⟩;focus ((repeat' (first|refine ⟨?_,?_⟩|refine .inr ?_));all_goals kernel_rfl))
    |(refine okE_app_own j10 (by repeat (first|exact Keeps.refl _|refine Keeps.new ?_ (hgf _ _)|refine Keeps.new ?_ (hfr' _ _)|refine Keeps.box ?_ rfl|refine Keeps.box ?_ (by simp only [go_sem, *]))) rfl (by simp only [go_sem, *]<;>omega) (by first|exact hgf0 _ _|exact hfr' _ _) (by simp only [go_sem, *]) (by intro hd;cases hd) ?_;intro v' h' log' jO jK jAg jAb jF;simp only [go_sem, *])
    | (first|refine wp rfl ?_|refine spt rfl ?_|refine spf rfl ?_|(refine spl (fun hc=>?_) fun hc=>?_)<;>(try rw [beq_iff_eq] at hc)<;>try simp only [hc]|(refine gs (fun hb=>?_) fun hb=>?_)<;>try simp only [Bool.not_true,Bool.not_false] at hb|refine cp hc ?_|refine AR_inv ?_)<;>try simp only [go_sem, *])
   exact jAg (by repeat (first|exact jA|refine Agree.new ?_ (hgf0 _ _)))
  ·
   intro σ ga0 hgl_ga0 hgn jS ⟨jA,j10⟩
   obtain ⟨jT,jB⟩:=jS
   simp only [go_sem] at jT jB
   obtain ⟨hgf,hgf0,eg_gen_ga0,eh_gen_ga0⟩:=rnd hgn hgl_ga0 jA
   clear hgn
   rw [show l.length=ts.length by omega,List.take_length] at j10
   obtain ⟨cO,j10⟩:=j10.val
   clear h2
   repeat' (first
    |(refine ⟨?_,?_⟩;focus ((repeat' (first|refine ⟨?_,?_⟩|refine .inr ?_));all_goals kernel_rfl))
    | (first|refine wp rfl ?_|refine spt rfl ?_|refine spf rfl ?_|(refine spl (fun hc=>?_) fun hc=>?_)<;>(try rw [beq_iff_eq] at hc)<;>try simp only [hc]|(refine gs (fun hb=>?_) fun hb=>?_)<;>try simp only [Bool.not_true,Bool.not_false] at hb|refine cp c_backwardT ?_|refine AR_inv ?_)<;>try simp only [go_sem, *])
 ·rintro σ ⟨j2,j3,j6,j7,j8,j44,jA,jb0,jb1,jb2,jb3⟩
  clear h1 h2 hbk
  refine ARX_block ?_
  refine ARX_back5 (vs:=ts.map Tm.cells) backT_ok j44 h5 (by simp;omega) (of_decide_eq_true (by kernel_rfl)) (of_decide_eq_true (by kernel_rfl))
   (fun i hi=>Agree h hi∧hi ⟨gen,0,1⟩=some (.box [.bool false])∧hi ⟨gen,0,2⟩=some (.box [.int .i64 0])∧hi ⟨gen,0,3⟩=some (.box [.int .i64 0]) ∧
    ∃ F:Fm,hi ⟨gen,0,0⟩=some (.box F.cells)∧Dc (g.take i) F∧fmSz F≤4096∧putsR F (ts.take i).reverse=R)
   (fun id hi=>id=none∧Agree h hi∧(R.2 != 0)=true∧hi ⟨gen,0,1⟩=some (.box [.bool false])∧hi ⟨gen,0,2⟩=some (.box [.int .i64 0])∧hi ⟨gen,0,3⟩=some (.box [.int .i64 R.2])) ?_ ?_ ?_ ?_
  ·rw [List.length_map]
   exact ⟨jA,jb1,jb2,jb3,f,jb0,hfg,zf,hR0⟩
  ·
   intro xa xb gr i v hi oka okb hgr hlt hv ⟨jA,jb1,jb2,jb3,F,jb0,hF,zF,hR⟩ mid fin finx
   rw [List.length_map] at hlt
   obtain ⟨t,ht,hP,hok⟩:=hput i F hlt hF zF
   rw [take_rev ht] at hR
   rw [List.getElem?_map,ht] at hv
   cases hv
   unfold fmErrV at hP
   clear hput hT hin hF zF
   refine ARX_gen (fun gm hgm=>?_)
   have hgf:∀ r i,hi ⟨gm,r,i⟩=none:=fresh_of hgm
   have hgf0:=fun r i=>agree_fresh jA (hgf r i)
   have hg1:gen<gm:=hgm ⟨gen,0,0⟩ (by simp [jb0])
   have e1:=gen_lt hg1
   have e2:=gen_lt' hg1
   clear hgm
   refine ARX_region oka follows (by kernel_rfl) ?_
   simp only [go_sem, *]
   refine mid _ _ ?_
   clear mid
   rw [putsR] at hR
   cases hz:((putR F t).2 != 0) with
   | true =>
    rw [hz] at hR
    simp only [if_true] at hR
    subst hR
    clear hok fin
    replace finx:=fun gn' σ' hh=>finx gn' none σ' ⟨rfl,hh⟩
    simp only [jumpE] at finx
    generalize (putR F t).1=F1 at *
    generalize (putR F t).2=e at *
    repeat' (first
     |(refine ⟨?_,?_⟩;focus ((repeat' (first|refine ⟨?_,?_⟩|refine .inr ?_));all_goals kernel_rfl))
     |exact agf (by assumption)
     | (first|refine ARX_seq ?_|refine ARX_region okb follows (by kernel_rfl) ?_|refine ARX_condP ?_|refine ARX_block ?_|refine ARX_exit ?_|refine ARX_skip ?_|refine ARX_ret ?_|refine ARX_block_end ?_|refine ARX_block_pass (by decide) ?_|refine ARX_block_hit ?_|refine ARX_code_exit ?_|refine spt rfl ?_|refine spf rfl ?_|refine cp hP ?_)<;>try simp only [go_sem, *])
    simp only [hz,if_true] at finx
    exact ARX_out (finx _ _ ⟨by repeat (first|exact jA|refine Agree.new ?_ (hgf0 _ _)|refine Agree.new ?_ (hfr' _ _)),trivial,by simp only [go_sem, *],by simp only [go_sem, *],by simp only [go_sem, *]⟩)
   | false =>
    rw [hz] at hR
    simp only [Bool.false_eq_true,if_false] at hR
    obtain ⟨q1,q2⟩:=hok (by simpa using hz)
    have hz0:(putR F t).2=0:=by simpa using hz
    rw [hz0] at hP
    clear hok finx hz hz0
    generalize (putR F t).1=F1 at *
    repeat' (first
     |(refine ⟨?_,?_⟩;focus ((repeat' (first|refine ⟨?_,?_⟩|refine .inr ?_));all_goals kernel_rfl))
     |exact agf (by assumption)
     | (first|refine ARX_seq ?_|refine ARX_region okb follows (by kernel_rfl) ?_|refine ARX_condP ?_|refine ARX_block ?_|refine ARX_exit ?_|refine ARX_skip ?_|refine ARX_ret ?_|refine ARX_block_end ?_|refine ARX_block_pass (by decide) ?_|refine ARX_block_hit ?_|refine ARX_code_exit ?_|refine spt rfl ?_|refine spf rfl ?_|refine cp hP ?_)<;>try simp only [go_sem, *])
    exact fin _ _ ⟨by repeat (first|exact jA|refine Agree.new ?_ (hgf0 _ _)|refine Agree.new ?_ (hfr' _ _)),by simp only [go_sem, *],by simp only [go_sem, *],by simp only [go_sem, *],F1,by simp only [go_sem, *],q1,q2,hR⟩
  ·rintro D h' ⟨jA,jb1,jb2,jb3,F,jb0,hF,zF,hR⟩
   have hFT:=hT F (by simpa using hF) zF
   simp only [List.take_zero,List.reverse_nil,putsR] at hR
   clear hR0 hin hfg hput hT hF zF
   subst hR
   have n0:((0:Int) != 0)=false:=rfl
   simp only [n0,Bool.false_eq_true,if_false]
   have okD:=xD_ok ⟨Tryz.prog,env,Tryz.f44.ntmps,Tryz.f44,g0,w0,h,decV (dA lim F),h⟩ D
   unfold decV at *
   generalize dA lim F=a at *
   obtain ⟨b,w',e⟩:=a
   simp only at *
   cases he:(e != 0) with
   | true =>
    simp only [he,if_true] at *
    repeat' (first
     |(refine ⟨?_,?_⟩;focus ((repeat' (first|refine ⟨?_,?_⟩|refine .inr ?_));all_goals kernel_rfl))
     |exact agf (by assumption)
     | (first|refine ARX_seq ?_|refine ARX_region okD follows (by kernel_rfl) ?_|refine ARX_condP ?_|refine ARX_block ?_|refine ARX_exit ?_|refine ARX_skip ?_|refine ARX_ret ?_|refine ARX_block_end ?_|refine ARX_block_pass (by decide) ?_|refine ARX_block_hit ?_|refine ARX_code_exit ?_|refine spt rfl ?_|refine spf rfl ?_|refine cp hFT ?_|refine ARX_doneD follows hl0 ?_|refine finF hrel ?_ ?_ ?_|refine ARX_out ?_)<;>try simp only [go_sem, *])
   | false =>
    simp only [he,Bool.false_eq_true,if_false] at *
    repeat' (first
     |(refine ⟨?_,?_⟩;focus ((repeat' (first|refine ⟨?_,?_⟩|refine .inr ?_));all_goals kernel_rfl))
     |exact agf (by assumption)
     | (first|refine ARX_seq ?_|refine ARX_region okD follows (by kernel_rfl) ?_|refine ARX_condP ?_|refine ARX_block ?_|refine ARX_exit ?_|refine ARX_skip ?_|refine ARX_ret ?_|refine ARX_block_end ?_|refine ARX_block_pass (by decide) ?_|refine ARX_block_hit ?_|refine ARX_code_exit ?_|refine spt rfl ?_|refine spf rfl ?_|refine cp hFT ?_|refine ARX_doneD follows hl0 ?_|refine finF hrel ?_ ?_ ?_|refine ARX_out ?_)<;>try simp only [go_sem, *])
  ·rintro D id' h' ⟨rfl,jA,hz,jb1,jb2,jb3⟩
   simp only [jumpE]
   rw [if_pos hz]
   have okD:=xD_ok ⟨Tryz.prog,env,Tryz.f44.ntmps,Tryz.f44,g0,w0,h,.tup [.bool false,.int .i64 0,.int .i64 R.2],h⟩ D
   clear hput hT hin hz hR0 hfg
   generalize R.2=e at *
   repeat' (first
    |(refine ⟨?_,?_⟩;focus ((repeat' (first|refine ⟨?_,?_⟩|refine .inr ?_));all_goals kernel_rfl))
    |exact agf (by assumption)
    | (first|refine ARX_seq ?_|refine ARX_region okD follows (by kernel_rfl) ?_|refine ARX_condP ?_|refine ARX_block ?_|refine ARX_exit ?_|refine ARX_skip ?_|refine ARX_ret ?_|refine ARX_block_end ?_|refine ARX_block_pass (by decide) ?_|refine ARX_block_hit ?_|refine ARX_code_exit ?_|refine spt rfl ?_|refine spf rfl ?_|refine ARX_doneD follows hl0 ?_|refine finF hrel ?_ ?_ ?_|refine ARX_out ?_)<;>try simp only [go_sem, *])
end Go.Proofs.YteaijonkbbkkjaaGreatDoor
