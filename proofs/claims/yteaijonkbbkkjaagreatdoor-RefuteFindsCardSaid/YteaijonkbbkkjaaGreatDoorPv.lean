/-
 Walks: several parts in one text.
-/
import Derived.Test.YteaijonkbbkkjaaGreatDoorPy
import Derived.Test.YteaijonkbbkkjaaGreatDoorOs
import Derived.Test.YteaijonkbbkkjaaGreatDoorAbsDd
import Derived.Test.YteaijonkbbkkjaaGreatDoorQf
import Derived.Test.YteaijonkbbkkjaaGreatDoorGn
import Derived.Test.YteaijonkbbkkjaaGreatDoorGl
set_option linter.unusedSimpArgs false
set_option linter.unusedVariables false
set_option maxRecDepth 20000
set_option maxHeartbeats 4000000
namespace Go.Proofs.YteaijonkbbkkjaaGreatDoor
open Go GoAbs Go.Proofs
def findV (r:Option (List PVl) × Int):V :=
 .tup [.sl .any ((r.1.getD []).map PVl.cells),.bool r.1.isSome,.int .i64 r.2]
structure Tried (b:Fm) (H:List PVl→Nat→Ans) (l:List PVl):Prop where
 len:l.length≤100
 holds:∀ w:Nat,w≤65536→Pure Tryz.prog env 44 [.agg b.cells,.sl .any (l.map PVl.cells),.int .i64 w] (decV (H l w))
 used:∀ w:Nat,(H l w).2.2=0→(H l w).2.1≤w
 own:∀ v∈l,Pure Tryz.prog env 35 [.agg v.cells] (.agg v.cells)
theorem c_Find {f b:Fm} {ts:List Ty} {bd m w:Nat} {H:List PVl→Nat→Ans} {L:List (List PVl)} (hC:Pure Tryz.prog env 41 [.agg f.cells] (.tup [.agg (claimC ts b),.int .i64 0]))
  (hL:∀ t∈ts,Pure Tryz.prog env 33 [.agg t.cells,.int .i64 bd,.int .i64 m] (.int .i64 0)) (hts:ts.length≤100) (hw:w≤65536)
  (hlc:Pure Tryz.prog env 43 [.sl .any [],.sl .any (ts.map Ty.cells),.int .i64 bd,.int .i64 m] (lnsV [] (ts.map Ty.cells) bd m))
  (hI:Iter Tryz.prog env (lnsV [] (ts.map Ty.cells) bd m) (rowsL [] L)) (hT:∀ l∈L,Tried b H l) :
  Pure Tryz.prog env 16 [.agg f.cells,.int .i64 bd,.int .i64 m,.int .i64 w] (findV (findR H L w)):=by
 intro h
 have n0:((0:Int) != 0)=false:=rfl
 have hM:=c_rfMay (w:=(w:Int)) (by omega) (by omega)
 obtain ⟨lV,hlV⟩:∃ lV,lV=lnsV [] (ts.map Ty.cells) bd m:=⟨_,rfl⟩
 have iV:∀ S,InV S lV:=fun S=>by
  rw [hlV];unfold lnsV;simp only [go_sem, *]
 unfold claimC at hC
 rw [← hlV] at hlc hI
 rw [Fm.cells_eq b] at hC
 obtain ⟨v,hv⟩:∃ v,findV (findR H L w)=v:=⟨_,rfl⟩
 rw [hv]
 refine ret_of_walkX Tryz.func16 rfl (by kernel_rfl) fun g0 w0 gen hrel hfr=>?_
 have hfr':∀ r i,h ⟨gen,r,i⟩=none:=fresh_of hfr
 have hres:Tryz.f16.results.toList=[.cell 8 31,.cell 9 4,.cell 10 32]:=rfl
 have hl0:∀ b,w0.heap.size≤b→g0.lim b=0:=hrel.limnew
 refine ARX_pieces ?_
 simp only [flatC_seq,flatC_region,flatC_block,flatC_ret,flatC_cond,List.append_assoc,List.cons_append,List.nil_append,List.map_cons,List.map_nil,List.append_nil]
 refine ARX_of_AR (J:=fun σ=>σ.tm 7=.ptr ⟨gen,0,1⟩ 0∧σ.tm 8=.ptr ⟨gen,0,2⟩ 0∧σ.tm 9=.ptr ⟨gen,0,3⟩ 0∧σ.tm 10=.ptr ⟨gen,0,4⟩ 0∧σ.tm 11=.ptr ⟨gen,1,5⟩ 0∧σ.tm 53=lV∧Agree h σ.h ∧
  σ.h ⟨gen,0,1⟩=some (.box [.int .i64 w])∧σ.h ⟨gen,0,2⟩=some (.box [.sl .full []])∧σ.h ⟨gen,0,3⟩=some (.box [.bool false])∧σ.h ⟨gen,0,4⟩=some (.box [.int .i64 0]) ∧
  σ.h ⟨gen,1,5⟩=some (.box (.sl .any (ts.map Ty.cells)::b.cells))) [_,_,_,_,_,_,_,_,_] (by kernel_rfl) follows ?_ ?_
 ·simp only [List.map_cons,List.map_nil,List.cons_append,List.nil_append]
  rw [Fm.cells_eq b]
  clear hI hT hlV
  have hwT:weakLL (ts.map Ty.cells)=ts.map Ty.cells:=weakLL_Ty ts
  refine wq_ ?_
  refine ar_ [1,2,7,8,9,10,11,32] [⟨gen,0,1⟩,⟨gen,0,2⟩,⟨gen,0,3⟩,⟨gen,0,4⟩,⟨gen,1,5⟩] (fun i σ=>Agree h σ.h∧True) (ts).length ?_ ?_ ?_
  ·simp only [go_sem, *]
   first|exact ag_|exact ⟨ag_,trivial⟩
  ·
   intro i σ gr0 hgl_gr0 hgn hlt jI jN jS ⟨jA,_⟩
   obtain ⟨jT,jB⟩:=jS
   simp only [go_sem] at jT jB
   obtain ⟨hgf,hgf0,eg_gen_gr0,eh_gen_gr0⟩:=rnd hgn hgl_gr0 jA
   obtain ⟨x,hx,hxm,hm⟩:=rnx hlt
   clear hgn
   have hl:=hL x hxm
   clear hL
   first|refine wq_ ?_|exact wk_
   all_goals first|exact ag_|exact ⟨ag_,trivial⟩|skip
  ·
   intro σ ga0 hgl_ga0 hgn jS ⟨jA,_⟩
   obtain ⟨jT,jB⟩:=jS
   simp only [go_sem] at jT jB
   obtain ⟨hgf,hgf0,eg_gen_ga0,eh_gen_ga0⟩:=rnd hgn hgl_ga0 jA
   clear hgn
   clear hL
   repeat' (first
    |(refine ⟨?_,?_⟩;focus ((repeat' (first|refine ⟨?_,?_⟩|refine .inr ?_));all_goals kernel_rfl))
    | (first|refine wp rfl ?_|refine spt rfl ?_|refine spf rfl ?_|(refine spl (fun hc=>?_) fun hc=>?_)<;>(try rw [beq_iff_eq] at hc)<;>try simp only [hc]|(refine gs (fun hb=>?_) fun hb=>?_)<;>try simp only [Bool.not_true,Bool.not_false] at hb|refine cp hM ?_|refine cp hlc ?_|refine AR_inv ?_)<;>try simp only [go_sem, *])
   all_goals first|exact ag_|skip
 ·rintro σ ⟨j7,j8,j9,j10,j11,j53,jA,jb1,jb2,jb3,jb4,jb5⟩
  clear hC hL hM hlc hts
  refine ARX_O ?_
  refine ARX_block ?_
  refine ARX_iter (yO_ok _) (ps:=[54]) (vs:=rowsL [] L) (by intro p hp;simp at hp;subst hp;exact of_decide_eq_true (by kernel_rfl)) (fun v hh=>by obtain ⟨l,_,rfl⟩:=List.mem_map.1 hh;rfl)
   (fun id=>id=⟨gen,0,1⟩∨id=⟨gen,0,2⟩∨id=⟨gen,0,3⟩∨id=⟨gen,0,4⟩) (by rintro id (rfl|rfl|rfl|rfl)<;>simp [jb1,jb2,jb3,jb4])
   (fun i X hh=>X=xT∧Agree h hh∧hh ⟨gen,0,2⟩=some (.box [.sl .full []])∧hh ⟨gen,0,3⟩=some (.box [.bool false])∧hh ⟨gen,0,4⟩=some (.box [.int .i64 0]) ∧
    hh ⟨gen,1,5⟩=some (.box (.sl .any (ts.map Ty.cells)::b.cells))∧∃ w':Nat,w'≤65536∧hh ⟨gen,0,1⟩=some (.box [.int .i64 w'])∧findR H (L.drop i) w'=findR H L w)
   (fun id X hh=>id=none∧X=xT∧Agree h hh∧∃ cc rs bo e,hh ⟨gen,0,2⟩=some (.box [.sl cc rs])∧hh ⟨gen,0,3⟩=some (.box [.bool bo])∧hh ⟨gen,0,4⟩=some (.box [.int .i64 e]) ∧
    weakLL rs=rs∧(∀ S,InLL S rs)∧v=.tup [.sl .any rs,.bool bo,.int .i64 e])
   (by rintro i X hh ⟨rfl,_⟩;exact xT_st) (by rintro i X hh ⟨_,rfl,_⟩;exact xT_st)
   (by
    rintro i X h1 h2 e ⟨q0,q1,q2,q3,q4,q5,w',q6,q7,q8⟩
    exact ⟨q0,fun id hid=>(e id (by rw [jA id hid];exact hid)).trans (q1 id hid),(e _ (by rw [jb2];simp)).trans q2,(e _ (by rw [jb3];simp)).trans q3,(e _ (by rw [jb4];simp)).trans q4,
     (e _ (by rw [jb5];simp)).trans q5,w',q6,(e _ (by rw [jb1];simp)).trans q7,q8⟩)
   (by
    rintro i X h1 h2 e ⟨q0,q00,q1,cc,rs,bo,er,q2,q3,q4,q5⟩
    exact ⟨q0,q00,fun id hid=>(e id (by rw [jA id hid];exact hid)).trans (q1 id hid),cc,rs,bo,er,(e _ (by rw [jb2];simp)).trans q2,(e _ (by rw [jb3];simp)).trans q3,(e _ (by rw [jb4];simp)).trans q4,q5⟩)
   hl0 ?_ (by rw [j53];exact hI) ⟨rfl,jA,jb2,jb3,jb4,jb5,w,hw,jb1,by rw [List.drop_zero]⟩ rfl rfl ?_ ?_
  ·
   clear jb1 jb2 jb3 jb4 jb5 jA hI
   rintro ya yb gn i vv hi X oa ob ⟨lp,f1,f2,f3⟩ d1 d2 lo1 lo2 hXS hbd1 hbd2 hgn hvv ⟨rfl,jA,jb2,jb3,jb4,jb5,w',hw',jb1,hF⟩ hnn toB fin finx
   obtain ⟨l,hl,rfl⟩:∃ l,L[i]? = some l∧vv=[V.sl .any (l.map PVl.cells)]:=by
    unfold rowsL at hvv
    rw [List.getElem?_map] at hvv
    cases hv:L[i]? with
    | none=>rw [hv] at hvv;simp at hvv
    | some l=>rw [hv] at hvv;simp at hvv;exact ⟨l,rfl,hvv.symm⟩
   obtain ⟨q1,q2,q3,q4⟩:=hT l (List.mem_of_getElem? hl)
   have hh:=q2 w' hw'
   have hu:=q3 w'
   have hil:i<L.length:=(List.getElem?_eq_some_iff.1 hl).1
   have hdr:L.drop i=l::L.drop (i+1):=by
    rw [List.drop_eq_getElem_cons hil]
    congr 1
    exact (List.getElem?_eq_some_iff.1 hl).2
   rw [hdr,findR] at hF
   have hwl:weakLL (l.map PVl.cells)=l.map PVl.cells:=weakLL_PVl l
   refine ARX_gen (fun gm hgm=>?_)
   have hgf:∀ r i,hi ⟨gm,r,i⟩=none:=fresh_of hgm
   have hgf0:=fun r i=>agree_fresh jA (hgf r i)
   have hg1:gen<gm:=hgm ⟨gen,0,1⟩ (by simp [jb1])
   have e1:=gen_lt hg1
   have e2:=gen_lt' hg1
   have xa:XOk Tryz.prog (ya.at xT):=oa.x hXS
   have xb:XOk Tryz.prog (yb.at xT):=ob.x hXS
   have nI:∀ id:GoAbs.Id,¬ (id=⟨gen,0,1⟩∨id=⟨gen,0,2⟩∨id=⟨gen,0,3⟩∨id=⟨gen,0,4⟩)→(id=⟨gen,0,1⟩)=False∧(id=⟨gen,0,2⟩)=False∧(id=⟨gen,0,3⟩)=False∧(id=⟨gen,0,4⟩)=False :=
    fun id hid=>⟨eq_false fun e=>hid (.inl e),eq_false fun e=>hid (.inr (.inl e)),eq_false fun e=>hid (.inr (.inr (.inl e))),eq_false fun e=>hid (.inr (.inr (.inr e)))⟩
   rw [Fm.cells_eq b] at hh jb5 fin
   clear hgm hnn hvv hT q2 q3 hdr hil
   simp only [updL]
   refine ARX_region xa follows (by kernel_rfl) ?_
   simp only [go_sem, *]
   refine toB _ _ gm hXS ?_
   clear toB
   unfold decV at hh
   generalize H l w'=a at hh hu hF
   obtain ⟨bo,u,e⟩:=a
   simp only at hh hu hF
   cases he:(e != 0) with
   | true =>
    simp only [he,if_true] at hh hF
    clear fin hu q4
    repeat' (first
     |(refine ⟨?_,?_⟩;focus ((repeat' (first|refine ⟨?_,?_⟩|refine .inr ?_));all_goals kernel_rfl))
     | (first|refine ARX_seq ?_|refine ARX_region xb follows (by kernel_rfl) ?_|refine ARX_condP ?_|refine ARX_block ?_|refine ARX_skip ?_|refine spt rfl ?_|refine spf rfl ?_|refine cp hh ?_|refine ARX_ret ?_)<;>try simp only [go_sem, *])
    refine ARX_out (finx _ gm none _ ⟨rfl,rfl,?_,.full,[],false,e,?_,?_,?_,rfl,(fun S=>by simp [InLL]),?_⟩ fun id hid q=>?_)
    ·repeat (first|exact jA|refine Agree.new ?_ (hfr' _ _))
    ·simp only [go_sem, *]
    ·simp only [go_sem, *]
    ·simp only [go_sem, *]
    ·rw [← hv,← hF];rfl
    ·obtain ⟨m1,m2,m3,m4⟩:=nI id hid
     simp only [hset,m1,m2,m3,m4,if_false]
   | false =>
    simp only [he,Bool.false_eq_true,if_false] at hh hF
    have hu':u≤w':=hu (by simpa using he)
    clear hu he
    cases bo with
    | true =>
     simp only [if_true] at hF
     have hsub:IntKind.i64.wrap ((w':Int) - (u:Int))=((w' - u:Nat):Int):=wrap_eq (by omega) (by omega) (by omega)
     clear finx q4
     repeat' (first
      |(refine ⟨?_,?_⟩;focus ((repeat' (first|refine ⟨?_,?_⟩|refine .inr ?_));all_goals kernel_rfl))
      | (first|refine ARX_seq ?_|refine ARX_region xb follows (by kernel_rfl) ?_|refine ARX_condP ?_|refine ARX_block ?_|refine ARX_skip ?_|refine ARX_block_end ?_|refine spt rfl ?_|refine spf rfl ?_|refine cp hh ?_)<;>try simp only [go_sem, *])
     refine fin _ gm _ ⟨rfl,?_,?_,?_,?_,?_,w' - u,by omega,?_,hF⟩ fun id hid q=>?_
     ·repeat (first|exact jA|refine Agree.new ?_ (hfr' _ _))
     ·simp only [go_sem, *]
     ·simp only [go_sem, *]
     ·simp only [go_sem, *]
     ·simp only [go_sem, *]
     ·simp only [go_sem, *]
     ·obtain ⟨m1,m2,m3,m4⟩:=nI id hid
      simp only [hset,m1,m2,m3,m4,if_false]
    | false =>
     simp only [Bool.false_eq_true,if_false] at hF
     clear fin
     repeat' (first
      |(refine ⟨?_,?_⟩;focus ((repeat' (first|refine ⟨?_,?_⟩|refine .inr ?_));all_goals kernel_rfl))
      | (first|refine ARX_seq ?_|refine ARX_region xb follows (by kernel_rfl) ?_|refine ARX_condP ?_|refine ARX_block ?_|refine ARX_skip ?_|refine spt rfl ?_|refine spf rfl ?_|refine cp hh ?_)<;>try simp only [go_sem, *])
     clear hh
     refine ARY_loop l.length (fun m X σ=>X=xT∧σ.tm 8=.ptr ⟨gen,0,2⟩ 0∧σ.tm 9=.ptr ⟨gen,0,3⟩ 0∧σ.tm 10=.ptr ⟨gen,0,4⟩ 0∧σ.tm 69=.sl .any (l.map PVl.cells)∧σ.tm 70=.int .i64 (l.length:Nat)∧σ.tm 71=.int .i64 (m:Nat) ∧
      Agree hi σ.h∧OwnS hi σ.h (σ.tm 20) 4 ((l.take m).map PVl.cells)) ?_ ?_
     ·simp only [go_sem, *]
      exact ⟨rfl,Agree.refl _,.inl rfl⟩
     intro y' gn' m X σ2 e1' e2' e3' e4' hok' hm ⟨hX,k8,k9,k10,k69,k70,k71,kA,k20⟩ next out
     subst hX
     have xb':XOk Tryz.prog (y'.at xT):=(hok' ob).x (xT_st (bd:=0))
     rcases Nat.lt_or_ge m l.length with hlt|hge
     ·obtain ⟨x,hx⟩:∃ x,l[m]? = some x:=⟨_,List.getElem?_eq_getElem hlt⟩
      have hd:=lt_true hlt
      have hws:=wrap_succ (i:=m) (by omega)
      have ho:=q4 x (List.mem_of_getElem? hx)
      have hts:(l.take (m+1)).map PVl.cells=(l.take m).map PVl.cells++[x.cells]:=map_take_succ hx
      have hmn:=min_lt hlt
      clear out finx q4
      refine ARX_gen (fun gk hgk=>?_)
      have kf:∀ r i,σ2.h ⟨gk,r,i⟩=none:=fresh_of hgk
      have kf0:∀ r i,hi ⟨gk,r,i⟩=none:=fun r i=>agree_fresh kA (kf r i)
      clear hgk
      repeat' (first
       |(refine okE_app_own k20 (by repeat (first|exact Keeps.refl _|refine Keeps.new ?_ (kf _ _)|refine Keeps.box ?_ rfl|refine Keeps.box ?_ (by simp only [go_sem, *]))) rfl (by simp only [go_sem, *]<;>omega) (kf0 _ _) (by simp only [go_sem, *]) (by intro hd;cases hd) ?_;intro v' h' log' jO jK jAg jAb jF;simp only [go_sem, *])
       |(refine ⟨?_,?_⟩;focus ((repeat' (first|refine ⟨?_,?_⟩|refine .inr ?_));all_goals kernel_rfl))
       | (first|refine ARX_seq ?_|refine ARX_region xb' follows (by kernel_rfl) ?_|refine ARX_condP ?_|refine ARX_block ?_|refine ARX_skip ?_|refine ARX_block_end ?_|refine spt rfl ?_|refine spf rfl ?_|refine cp ho ?_)<;>try simp only [go_sem, *])
      refine next _ _ _ hlt ?_
      simp only [go_sem, *]
      have kO:=jAg (by repeat (first|exact kA|refine Agree.new ?_ (kf0 _ _)))
      first|exact kO|exact ⟨kO,by rw [hts];exact jO⟩|exact ⟨rfl,kO,by rw [hts];exact jO⟩
     ·have hd:=lt_false hge
      obtain rfl:m=l.length:=by omega
      obtain ⟨cO,hO⟩:=k20.val
      rw [List.take_length] at hO
      clear next q4
      repeat' (first
       |(refine ⟨?_,?_⟩;focus ((repeat' (first|refine ⟨?_,?_⟩|refine .inr ?_));all_goals kernel_rfl))
       | (first|refine ARX_seq ?_|refine ARX_region xb' follows (by kernel_rfl) ?_|refine ARX_condP ?_|refine ARX_skip ?_|refine spf rfl ?_|refine ARX_exit ?_|refine ARX_code_exit ?_)<;>try simp only [go_sem, *])
      refine out _ _ _ gn' (.inr ⟨_,rfl⟩) ?_
      refine ARX_block_hit ?_
      have kb2:=(kA ⟨gen,0,2⟩ (by rw [jb2];simp)).trans jb2
      have kb3:=(kA ⟨gen,0,3⟩ (by rw [jb3];simp)).trans jb3
      have kb4:=(kA ⟨gen,0,4⟩ (by rw [jb4];simp)).trans jb4
      repeat' (first
       |(refine ⟨?_,?_⟩;focus ((repeat' (first|refine ⟨?_,?_⟩|refine .inr ?_));all_goals kernel_rfl))
       | (first|refine ARX_seq ?_|refine ARX_region xb follows (by kernel_rfl) ?_|refine ARX_ret ?_)<;>try simp only [go_sem, *])
      refine ARX_out (finx _ gn' none _ ⟨rfl,rfl,?_,cO,l.map PVl.cells,true,0,?_,?_,?_,hwl,(fun S=>by simp only [go_sem, *]),?_⟩ fun id hid q=>?_)
      ·have:Agree h σ2.h:=fun id hid=>(kA id (by rw [jA id hid];exact hid)).trans (jA id hid)
       repeat (first|exact this|refine Agree.new ?_ (hfr' _ _))
      ·simp only [go_sem, *]
      ·simp only [go_sem, *]
      ·simp only [go_sem, *]
      ·rw [← hv,← hF];rfl
      ·obtain ⟨m1,m2,m3,m4⟩:=nI id hid
       simp only [hset,m1,m2,m3,m4,if_false]
       exact kA id q
  ·rintro D X' h' hD ok ⟨rfl,jA,jb2,jb3,jb4,jb5,w',hw',jb1,hF⟩ hsame
   rw [rowsL_len,List.drop_length] at hF
   have hv':v=.tup [.sl .any [],.bool false,.int .i64 0]:=by rw [← hv,← hF];rfl
   have okD:=ok.x (xT_st (bd:=0))
   clear hv hF
   subst hv'
   repeat' (first
    |(refine ⟨?_,?_⟩;focus ((repeat' (first|refine ⟨?_,?_⟩|refine .inr ?_));all_goals kernel_rfl))
    |exact agf (by assumption)
    | (first|refine ARX_seq ?_|refine ARX_region okD follows (by kernel_rfl) ?_|refine ARX_condP ?_|refine ARX_block ?_|refine ARX_exit ?_|refine ARX_skip ?_|refine ARX_ret ?_|refine ARX_block_end ?_|refine spt rfl ?_|refine spf rfl ?_|refine ARX_oendM follows hl0 hD ?_|refine finF hrel ?_ ?_ ?_)<;>try simp only [go_sem, *])
  ·rintro D id X' h' hD ok ⟨rfl,rfl,jA,cc,rs,bo,e,jb2,jb3,jb4,hwk,hin,hv'⟩ hsame
   simp only [jumpE]
   clear hv
   subst hv'
   refine ARX_out (ARX_oendM follows hl0 hD ?_)
   exact wk_
theorem c_claim21 {g k:List Ty} {f b:Fm} (h:Front g f k b):Pure Tryz.prog env 41 [.agg (allF g f).cells] (.tup [.agg (claimC k b),.int .i64 0]):=by
 have he:=h.good.err0 (show fmSz (allF g f)≤4096 by have:=h.size;omega)
 have h1:=c_formulaTyped [] (by simp) (by simp) (allF g f) h.ty he (by have:=h.size;omega) h.good.toW
 have h2:=c_Universal (allF g f) h.good.toW he (by have:=h.size;omega)
 rw [h.univ] at h2
 have gb:=h.dc.G (u:=true)
 have h3:=c_clsDecidable b gb.toW
 have e:b.has 4=(true,0):=by
  unfold Fm.has
  rw [gb.err0 (by have:=h.sz;omega),h.dc.fld (by have:=h.len;have:=h.sz;omega)]
  rfl
 rw [e] at h3
 unfold boolErrV at h3
 exact c_claimOf h1 h2 h3
theorem tried_of {k:List Ty} {b:Fm} {T:List PVl→List Tm} {l:List PVl} (h:IsVls k l (T l)) (hk:k.length≤3) (db:Dc k b) (zb:fmSz b≤4096):Tried b (holdsT b T) l:=by
 refine ⟨by have:=h.len.1;omega,fun w hw=>c_decHolds h (by omega) db zb w hw,fun w hw=>?_,fun v hv=>?_⟩
 ·generalize ha:holdsT b T l w=a at hw
  obtain ⟨bo,u,e⟩:=a
  simp only at hw
  subst hw
  exact ((holdsT_ok h (by omega) db zb).up w bo u w ha (Nat.le_refl _)).1
 ·obtain ⟨i,hi⟩:=List.mem_iff_getElem?.1 hv
  obtain ⟨a,v',t,q1,q2,q3,q4,q5,q6⟩:=h.at i (by have:=(List.getElem?_eq_some_iff.1 hi).1;have:=h.len.1;omega)
  rw [hi] at q2
  cases q2
  exact c_own v (q4.W q6)
theorem c_find21 {g k:List Ty} {f b:Fm} (h:Front g f k b) {T:List PVl→List Tm} {bd m w:Nat} (hT:∀ l∈tries bd m k,IsVls k l (T l)) (hb:bd≤16) (hm:m≤65536) (hw:w≤65536) :
  Pure Tryz.prog env 16 [.agg (allF g f).cells,.int .i64 bd,.int .i64 m,.int .i64 w] (findV (findR (holdsT b T) (tries bd m k) w)):=by
 have hl:=h.len
 have hz:=h.sz
 refine c_Find (c_claim21 h) (fun t ht=>c_rfLook (h.plain t ht) hb hm) (by omega) hw ?_ ?_ fun l hl'=>tried_of (hT l hl') hl h.dc (by omega)
 ·exact c_lines bd m (fun S=>by simp [InLL]) (fun S=>by simp only [go_sem, *]) rfl (weakLL_Ty k)
 ·exact it_lines (b:=bd) (m:=m) (by omega) hm k [] (fun t ht=>(h.plain t ht).plT) (by simp;omega)
theorem c_sane21:Pure Tryz.prog env 7 [] (.bool true):=by
 have dq:Dc [tNat] (fmEq (tmVar 0) (numT 0)):=.eq v0_G (numT_G 0) (show HasTy TyG ([]++[tNat]) (tmVar 0) tNat from .v0) (HasTy.num 0)
 have zq:fmSz (fmEq (tmVar 0) (numT 0))≤300:=by rw [fmSz_eq,tmSz_v,tmSz_num];omega
 have hp:∀ y∈[tNat],PlainTy y:=by simp;exact .inl rfl
 have hF:Front [tNat] (fmEq (tmVar 0) (numT 0)) [tNat] (fmEq (tmVar 0) (numT 0)):=by
  refine ⟨by rw [allF_uni,Fm.univ_n rfl];rfl,dq,zq,hp,by simp,allF_ty [tNat] [] (fun y hy=>(hp y hy).G) dq.ty,allF_G (fun y hy=>(hp y hy).G) dq.G,by rw [allF_sz];simp;omega⟩
 have ht:tries 3 10 [tNat]=[[numP 0],[numP 1],[numP 2]]:=rfl
 have hT:∀ l∈tries 3 10 [tNat],IsVls [tNat] l ((fun l:List PVl=>l.map fun v=>numT v.num.toNat) l):=by
  rw [ht]
  intro l hl
  simp only [List.mem_cons,List.not_mem_nil,or_false] at hl
  have key:∀ n:Nat,n≤2→IsVls [tNat] [numP n] [numT n]:=fun n hn=>.snoc (g:=[]) (l:=[]) (ts:=[]) .nil (.num n) TyG.nat (by rw [tmSz_num];omega)
  rcases hl with rfl|rfl|rfl
  ·exact key 0 (by omega)
  ·exact key 1 (by omega)
  ·exact key 2 (by omega)
 have h1:=c_find21 hF hT (bd:=3) (m:=10) (w:=1000) (by omega) (by omega) (by omega)
 rw [show findR (holdsT (fmEq (tmVar 0) (numT 0)) (fun l:List PVl=>l.map fun v=>numT v.num.toNat)) (tries 3 10 [tNat]) 1000=(some [numP 1],0) by kernel_rfl] at h1
 have h2:=c_Num 0 (by omega)
 replace h2:Pure Tryz.prog env 29 [.int .i64 0] (.agg (numT 0).cells):=h2
 have h3:=c_refNat
 have h4:=c_Var 0
 have h5:=c_Eq (tmVar 0) (numT 0) (tmVar_W 0) (numT_W 0)
 have h6:=c_fmQ 4 tNat (fmEq (tmVar 0) (numT 0)) tNat_W (fmEq_W (tmVar_W 0) (numT_W 0))
 replace h1:Pure Tryz.prog env 16 [.agg (fmQ 4 tNat (fmEq (tmVar 0) (numT 0))).cells,.int .i64 3,.int .i64 10,.int .i64 1000] (.tup [.sl .any [[.int .i64 1,.int .i64 1,.sl .any [],.sl .any []]],.bool true,.int .i64 0]):=by
  have e:([numP 1]:List PVl).map PVl.cells=[[.int .i64 1,.int .i64 1,.sl .any [],.sl .any []]]:=by simp [numP,PVl.mk_cells,ints]
  unfold findV at h1
  simp only [Option.getD_some,Option.isSome_some,e] at h1
  exact h1
 clear hF hT ht dq zq hp
 generalize fmQ 4 tNat (fmEq (tmVar 0) (numT 0))=q at *
 generalize fmEq (tmVar 0) (numT 0)=q0 at *
 generalize numT 0=t0 at *
 have m1:(((1:Nat):Int)==1)=true:=rfl
 have m2:((1:Int)==1)=true:=rfl
 have m3:((0:Int)==0)=true:=rfl
 have m4:(0:Int)<((1:Nat):Int):=by omega
 intro h
 exact ek_ Tryz.func7 [.tmp 0]
end Go.Proofs.YteaijonkbbkkjaaGreatDoor
