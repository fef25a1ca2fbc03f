/-
 Walks: scope.Each and what uses it.
-/
import Derived.Test.YtbfilinnoedfeaaGreatDoorHa
set_option linter.unusedSimpArgs false
set_option linter.unusedVariables false
set_option maxRecDepth 20000
set_option maxHeartbeats 4000000
namespace Go.Proofs.YtbfilinnoedfeaaGreatDoor
open Go GoAbs Go.Proofs
theorem c_sEach {α:Type} (enc:α→List V) (F:Tm→Int→Tm) (G:Tm→Int→α→α) (kd:Nat) (cap:List V) (hcap:weakL cap=cap) (henc:∀ s (S:GoAbs.Id→Prop),InL S (enc s))
  (A d:GoAbs.Id) (oA:GoAbs.Obj) (nA:A≠d)
  (hdo:∀ t,TmW t→∀ b s,TurnsE Tryz.prog env kd (.agg t.cells::.int .i64 b::cap) [(A,oA)] d (.box (enc s)) (.agg (F t b).cells) (.box (enc (G t b s)))) :
  ∀ f:Fm,FmW f→∀ (b:Int) (s:α),TurnsE Tryz.prog env 148 [.agg f.cells,.int .i64 b,.fn (.func kd) [] cap] [(A,oA)] d (.box (enc s)) (.agg (f.ev F b).cells) (.box (enc (f.es G b s))):=by
 intro t
 induction t using Fm.ind with|h t ih=>?_
 intro ht b s h he hd
 simp only [List.mem_cons,List.not_mem_nil,or_false,forall_eq] at he
 have hlen:=ht.len
 have hlen2:=ht.tlen
 have ih':∀ x∈t.args,∀ (b:Int) (s:α),TurnsE Tryz.prog env 148 [.agg x.cells,.int .i64 b,.fn (.func kd) [] cap] [(A,oA)] d (.box (enc s)) (.agg (x.ev F b).cells) (.box (enc (x.es G b s))):=fun x hx=>ih x hx (ht.arg hx)
 have ht':∀ x∈t.terms,∀ b s,TurnsE Tryz.prog env kd (.agg x.cells::.int .i64 b::cap) [(A,oA)] d (.box (enc s)) (.agg (F x b).cells) (.box (enc (G x b s))):=fun x hx=>hdo x (ht.term hx)
 clear ih hdo ht
 have n3:(A=d)=False:=by simpa using nA
 clear nA
 have hw:IntKind.i64.wrap (b+1)=addW b 1:=rfl
 have hv0:=congrArg (fun t:Fm=>V.agg t.cells) (Fm.ev_eq F t b).symm
 have hs0:=(Fm.es_eq G t b s).symm
 try simp only at hv0
 have hin:∀ S,InV S (V.agg (t.ev F b).cells):=fun S=>by simp [InV,InL_Fm]
 generalize V.agg (t.ev F b).cells=v at hv0 hin ⊢
 generalize t.es G b s=sN at hs0 ⊢
 unfold evB at hv0 hs0
 generalize hb1:(if (decide (t.kind≥4)&&decide (t.kind≤7))=true then addW b 1 else b)=b1 at hv0 hs0
 have hq:((decide (t.kind≥4)=true∧decide (t.kind≤7)=true)∧addW b 1=b1)∨(decide (t.kind≥4)=true∧decide (t.kind≤7)=false∧b1=b)∨(decide (t.kind≥4)=false∧b1=b):=by
  cases q1:decide (t.kind≥4)<;>cases q2:decide (t.kind≤7)<;>rw [q1,q2] at hb1<;>simp_all
 clear hb1
 rcases hq with ⟨⟨q1,q2⟩,q3⟩|⟨q1,q2,rfl⟩|⟨q1,rfl⟩
 all_goals
  rw [Fm.cells_eq t]
  refine en Tryz.func148 [.cell 6 48] rfl rfl fun g0 w0 gen hrel hfr hfr' hres=>?_
  have f1:=fresh_ne hfr hd
  have f2:=fresh_ne' hfr hd
  have f5:=fresh_ne hfr he
  repeat' (first
   |(refine ⟨?_,?_⟩;focus ((repeat' (first|refine ⟨?_,?_⟩|refine .inr ?_));all_goals kernel_rfl))
   | (first|refine wp rfl ?_|refine spt rfl ?_|refine spf rfl ?_|(refine spl (fun hc=>?_) fun hc=>?_)<;>(try rw [beq_iff_eq] at hc)<;>try simp only [hc]|(refine gs (fun hb=>?_) fun hb=>?_)<;>try simp only [Bool.not_true,Bool.not_false] at hb)<;>try simp only [go_sem, *])
  refine AR_range [1,2,3,6,7,26] [⟨gen,0,0⟩,⟨gen,0,1⟩] (fun i σ=>AgreeBut d h σ.h∧∃ s' v,σ.h d=some (.box (enc s'))∧Fm.esL G t.args b1 (tmsS G b1 s' (t.terms.drop i))=sN∧σ.h ⟨gen,1,1⟩=some (.box [.int .i64 t.kind,.int .i64 t.type.kind,.sl .any (t.type.args.map Ty.cells),v,.sl .full []])∧OwnS h σ.h v 5 (((t.terms.take i).map fun x=>F x b1).map Tm.cells)) (t.terms).length (by first|omega|(simp only [go_sem, *]<;>omega)) ⟨rfl,rfl,rfl⟩ rfl (by simp only [go_sem, *]) (by simp only [go_sem, *]) ?_ (by intro i σ t v ht hK;simp only [List.mem_cons,List.not_mem_nil,or_false] at ht;rcases ht with rfl|rfl|rfl<;>exact hK) ?_ ?_
  ·simp only [go_sem, *]
   exact ⟨by repeat (first|exact AgreeBut.refl _ _|assumption|refine AgreeBut.new ?_ (hfr' _ _)|refine AgreeBut.set ?_),_,_,rfl,hs0,rfl,.inl rfl⟩
  ·clear hv0 hs0 ih'
   intro i σ gr0 hgl_gr0 hgn hlt jI jN jS ⟨jA,s',v1,js,jv,jb,jO⟩
   obtain ⟨jT,jB⟩:=jS
   simp only [go_sem] at jT jB
   have hgf:=fresh_of hgn
   have hgf0:=agreeBut_fresh' hd jA hgf (fun r i e=>by have:=hfr d (by rw [hd];simp);rw [e] at this;simp at this;omega)
   have fd_gr0:=fresh_ne2 hfr hd (show gen<gr0 by omega)
   have fe_gr0:=fresh_ne2' hfr hd (show gen<gr0 by omega)
   have eg_gen_gr0:=gen_lt (show gen<gr0 by omega)
   have eh_gen_gr0:=gen_lt' (show gen<gr0 by omega)
   obtain ⟨x,hx⟩:∃ x,(t.terms)[i]? = some x:=⟨_,List.getElem?_eq_getElem hlt⟩
   have hxm:=List.mem_of_getElem? hx
   have hm:=min_lt hlt
   clear hgn
   rw [drop_get hx,tmsS_cons] at jv
   have hc:=ht' x hxm b1 s'
   have hA':=(jA A (by simpa using n3) (by rw [he];simp)).trans he
   have g5:=fresh_ne2 hfr he hgl_gr0
   have hts:((t.terms.take (i+1)).map fun x=>F x b1).map Tm.cells=((t.terms.take i).map fun x=>F x b1).map Tm.cells++[(F x b1).cells]:=by rw [map_take_succ hx,List.map_append];rfl
   clear ht' he
   repeat' (first
    |(refine ⟨?_,?_⟩;focus ((repeat' (first|refine ⟨?_,?_⟩|refine .inr ?_));all_goals kernel_rfl))
    |(refine okE_app_owne jO (by repeat (first|exact Keeps.refl _|refine Keeps.new ?_ (hgf _ _)|refine Keeps.new ?_ (hfr' _ _)|refine Keeps.box ?_ rfl|refine Keeps.box ?_ (by simp only [go_sem, *]))) rfl (by simp only [go_sem, *]<;>omega) (by first|exact hgf0 _ _|exact hfr' _ _) (by simp only [go_sem, *]) (by intro hd e;simp only [logOk_cons,logOk_nil,and_true];repeat (first|exact trivial|refine ⟨.inr (by kernel_rfl),?_⟩|exact .inr (by kernel_rfl))) ?_;intro v' h' id' jO jK jAg jAb jF jI;obtain ⟨cO,rfl⟩:=jO.val;simp only [go_sem, *])
    | (first|refine wp rfl ?_|refine spt rfl ?_|refine spf rfl ?_|(refine spl (fun hc=>?_) fun hc=>?_)<;>(try rw [beq_iff_eq] at hc)<;>try simp only [hc]|(refine gs (fun hb=>?_) fun hb=>?_)<;>try simp only [Bool.not_true,Bool.not_false] at hb|(refine Call1_turnE (hc) ?_ ?_ ?_;(focus ((simp only [go_sem, *]<;>(repeat (first|assumption|rfl|refine And.intro ?_ ?_)));done));(focus ((simp only [go_sem, *]<;>first|rfl|assumption);done)))|refine AR_inv ?_)<;>try simp only [go_sem, *])
   exact ⟨AgreeBut.new (jAb d (by repeat (first|assumption|refine AgreeBut.set ?_|refine AgreeBut.new ?_ (hgf0 _ _)))) (hfr' _ _),_,_,rfl,jv,rfl,jO.keep (Keeps.box (Keeps.refl _) (by simp only [go_sem, *]))⟩
  clear ht' hs0
  intro σ ga0 hgl_ga0 hgn jS ⟨jA,s1,v1,js,jv,jb,jO1⟩
  obtain ⟨jT,jB⟩:=jS
  simp only [go_sem] at jT jB
  have hgf:=fresh_of hgn
  have hgf0:=agreeBut_fresh' hd jA hgf (fun r i e=>by have:=hfr d (by rw [hd];simp);rw [e] at this;simp at this;omega)
  have fd_ga0:=fresh_ne2 hfr hd (show gen<ga0 by omega)
  have fe_ga0:=fresh_ne2' hfr hd (show gen<ga0 by omega)
  have eg_gen_ga0:=gen_lt (show gen<ga0 by omega)
  have eh_gen_ga0:=gen_lt' (show gen<ga0 by omega)
  clear hgn
  rw [List.take_length] at jO1
  rw [List.drop_length,tmsS_nil] at jv
  obtain ⟨c1,rfl⟩:=jO1.val
  clear jO1
  repeat' (first
   |(refine ⟨?_,?_⟩;focus ((repeat' (first|refine ⟨?_,?_⟩|refine .inr ?_));all_goals kernel_rfl))
   | (first|refine wp rfl ?_|refine spt rfl ?_|refine spf rfl ?_|(refine spl (fun hc=>?_) fun hc=>?_)<;>(try rw [beq_iff_eq] at hc)<;>try simp only [hc]|(refine gs (fun hb=>?_) fun hb=>?_)<;>try simp only [Bool.not_true,Bool.not_false] at hb)<;>try simp only [go_sem, *])
  refine AR_range [1,2,6,7,43] [⟨gen,0,1⟩] (fun i σ=>AgreeBut d h σ.h∧∃ s' v,σ.h d=some (.box (enc s'))∧Fm.esL G (t.args.drop i) b1 s'=sN∧σ.h ⟨gen,1,1⟩=some (.box [.int .i64 t.kind,.int .i64 t.type.kind,.sl .any (t.type.args.map Ty.cells),.sl c1 ((t.terms.map fun x=>F x b1).map Tm.cells),v])∧OwnS h σ.h v 5 (((t.args.take i).map fun x=>x.ev F b1).map Fm.cells)) (t.args).length (by first|omega|(simp only [go_sem, *]<;>omega)) ⟨rfl,rfl,rfl⟩ rfl (by simp only [go_sem, *]) (by simp only [go_sem, *]) ?_ (by intro i σ t v ht hK;simp only [List.mem_cons,List.not_mem_nil,or_false] at ht;rcases ht with rfl|rfl|rfl<;>exact hK) ?_ ?_
  ·simp only [go_sem, *]
   first|exact ⟨jA,_,_,rfl,jv,rfl,.inl rfl⟩|exact ⟨_,_,rfl,jv,rfl,.inl rfl⟩
  ·clear hv0 jv
   intro i σ gr1 hgl_gr1 hgn hlt jI jN jS ⟨jA,s',v1,js',jv,jb',jO⟩
   obtain ⟨jT,jB⟩:=jS
   simp only [go_sem] at jT jB
   have hgf:=fresh_of hgn
   have hgf0:=agreeBut_fresh' hd jA hgf (fun r i e=>by have:=hfr d (by rw [hd];simp);rw [e] at this;simp at this;omega)
   have fd_gr1:=fresh_ne2 hfr hd (show gen<gr1 by omega)
   have fe_gr1:=fresh_ne2' hfr hd (show gen<gr1 by omega)
   have eg_gen_gr1:=gen_lt (show gen<gr1 by omega)
   have eh_gen_gr1:=gen_lt' (show gen<gr1 by omega)
   have eg_ga0_gr1:=gen_lt (show ga0<gr1 by omega)
   have eh_ga0_gr1:=gen_lt' (show ga0<gr1 by omega)
   obtain ⟨x,hx⟩:∃ x,(t.args)[i]? = some x:=⟨_,List.getElem?_eq_getElem hlt⟩
   have hxm:=List.mem_of_getElem? hx
   have hm:=min_lt hlt
   clear hgn
   rw [drop_get hx,Fm.esL_cons] at jv
   have hc:=ih' x hxm b1 s'
   have hA':=(jA A (by simpa using n3) (by rw [he];simp)).trans he
   have g5:=fresh_ne2 hfr he (show gen<gr1 by omega)
   have hts:((t.args.take (i+1)).map fun x=>x.ev F b1).map Fm.cells=((t.args.take i).map fun x=>x.ev F b1).map Fm.cells++[(x.ev F b1).cells]:=by rw [map_take_succ hx,List.map_append];rfl
   clear ih' he
   repeat' (first
    |(refine ⟨?_,?_⟩;focus ((repeat' (first|refine ⟨?_,?_⟩|refine .inr ?_));all_goals kernel_rfl))
    |(refine okE_app_owne jO (by repeat (first|exact Keeps.refl _|refine Keeps.new ?_ (hgf _ _)|refine Keeps.new ?_ (hfr' _ _)|refine Keeps.box ?_ rfl|refine Keeps.box ?_ (by simp only [go_sem, *]))) rfl (by simp only [go_sem, *]<;>omega) (by first|exact hgf0 _ _|exact hfr' _ _) (by simp only [go_sem, *]) (by intro hd e;simp only [logOk_cons,logOk_nil,and_true];repeat (first|exact trivial|refine ⟨.inr (by kernel_rfl),?_⟩|exact .inr (by kernel_rfl))) ?_;intro v' h' id' jO jK jAg jAb jF jI;obtain ⟨cO,rfl⟩:=jO.val;simp only [go_sem, *])
    | (first|refine wp rfl ?_|refine spt rfl ?_|refine spf rfl ?_|(refine spl (fun hc=>?_) fun hc=>?_)<;>(try rw [beq_iff_eq] at hc)<;>try simp only [hc]|(refine gs (fun hb=>?_) fun hb=>?_)<;>try simp only [Bool.not_true,Bool.not_false] at hb|(refine Call1_turnE (hc) ?_ ?_ ?_;(focus ((simp only [go_sem, *]<;>(repeat (first|assumption|rfl|refine And.intro ?_ ?_)));done));(focus ((simp only [go_sem, *]<;>first|rfl|assumption);done)))|refine AR_inv ?_)<;>try simp only [go_sem, *])
   exact ⟨AgreeBut.new (jAb d (by repeat (first|assumption|refine AgreeBut.set ?_|refine AgreeBut.new ?_ (hgf0 _ _)))) (hfr' _ _),_,_,rfl,jv,rfl,jO.keep (Keeps.box (Keeps.refl _) (by simp only [go_sem, *]))⟩
  ·
   intro σ ga1 hgl_ga1 hgn jS ⟨jA,s2,v2,js2,jv2,jb2,jO2⟩
   obtain ⟨jT,jB⟩:=jS
   simp only [go_sem] at jT jB
   have hgf:=fresh_of hgn
   have hgf0:=agreeBut_fresh' hd jA hgf (fun r i e=>by have:=hfr d (by rw [hd];simp);rw [e] at this;simp at this;omega)
   have fd_ga1:=fresh_ne2 hfr hd (show gen<ga1 by omega)
   have fe_ga1:=fresh_ne2' hfr hd (show gen<ga1 by omega)
   have eg_gen_ga1:=gen_lt (show gen<ga1 by omega)
   have eh_gen_ga1:=gen_lt' (show gen<ga1 by omega)
   have eg_ga0_ga1:=gen_lt (show ga0<ga1 by omega)
   have eh_ga0_ga1:=gen_lt' (show ga0<ga1 by omega)
   clear hgn
   rw [List.take_length] at jO2
   rw [List.drop_length,Fm.esL_nil] at jv2
   obtain ⟨c2,rfl⟩:=jO2.val
   subst jv2
   clear ih' jO2
   rw [Fm.mk_cells] at hv0
   subst hv0
   repeat' (first
    |(refine ⟨?_,?_⟩;focus ((repeat' (first|refine ⟨?_,?_⟩|refine .inr ?_));all_goals kernel_rfl))
    | (first|refine wp rfl ?_|refine spt rfl ?_|refine spf rfl ?_|(refine spl (fun hc=>?_) fun hc=>?_)<;>(try rw [beq_iff_eq] at hc)<;>try simp only [hc]|(refine gs (fun hb=>?_) fun hb=>?_)<;>try simp only [Bool.not_true,Bool.not_false] at hb)<;>try simp only [go_sem, *])
   refine AR_fin_turn hrel hd (hin _) (henc _ _) (by repeat (first|assumption|refine AgreeBut.new ?_ (hfr' _ _))) (by simp only [go_sem, *]) ?_
   simp only [go_sem, *]
end Go.Proofs.YtbfilinnoedfeaaGreatDoor
