/-
 Walks: lifting formulas (tree, formula).
-/
import Derived.Test.YtbfilinnoedfeaaGreatDoorMh
import Derived.Test.YtbfilinnoedfeaaGreatDoorMb
import Derived.Test.YtbfilinnoedfeaaGreatDoorTe
import Derived.Test.YtbfilinnoedfeaaGreatDoorAbsDc
set_option linter.unusedSimpArgs false
set_option linter.unusedVariables false
set_option maxRecDepth 20000
set_option maxHeartbeats 4000000
namespace Go.Proofs.YtbfilinnoedfeaaGreatDoor
open Go GoAbs Go.Proofs
theorem c_NearFormula1 (A d:GoAbs.Id) (oA:GoAbs.Obj) (nA:A≠d) (t:Tm) (ht:TmW t) (hl:t.least 536870912=true) (b:Int) :
  TurnsE Tryz.prog env 234 (.agg t.cells::.int .i64 b::[.ptr d 0]) [(A,oA)] d (.box [.bool true]) (.tup []) (.box [.bool true]):=by
 intro h he hd
 clear he nA
 have hc:=c_Near t ht
 rw [near_ok hl] at hc
 clear hl
 refine en Tryz.func234 [] rfl rfl fun g0 w0 gen hrel hfr hfr' hres=>?_
 have f1:=fresh_ne hfr hd
 have f2:=fresh_ne' hfr hd
 repeat' (first
  |exact agb (by assumption)
  | (first|refine wp rfl ?_|(refine gs (fun hb=>?_) fun hb=>?_)<;>try simp only [Bool.not_true,Bool.not_false] at hb|refine cp hc ?_|refine finT hrel hd ?_ ?_ ?_ ?_ ?_)<;>try simp only [go_sem, *])
theorem c_eachT (kd:Nat) (cap:List V) (hcap:weakL cap=cap) (A d:GoAbs.Id) (oA:GoAbs.Obj) (nA:A≠d)
  (hdo:∀ x:Tm,TmW x→x.least 536870912=true→∀ b:Int,TurnsE Tryz.prog env kd (.agg x.cells::.int .i64 b::cap) [(A,oA)] d (.box [.bool true]) (.tup []) (.box [.bool true])) :
  ∀ f:Fm,FmW f→f.least 536870912=true→∀ b:Int,TurnsE Tryz.prog env 233 [.agg f.cells,.int .i64 b,.fn (.func kd) [] cap] [(A,oA)] d (.box [.bool true]) (.tup []) (.box [.bool true]):=by
 intro t
 induction t using Fm.ind with|h t ih=>?_
 intro ht hl b h he hd
 simp only [List.mem_cons,List.not_mem_nil,or_false,forall_eq] at he
 have hlen:=ht.len
 have hlen2:=ht.tlen
 have ih':∀ x∈t.args,∀ b:Int,TurnsE Tryz.prog env 233 [.agg x.cells,.int .i64 b,.fn (.func kd) [] cap] [(A,oA)] d (.box [.bool true]) (.tup []) (.box [.bool true]):=fun x hx=>ih x hx (ht.arg hx) (least_args hl hx)
 have ht':∀ x∈t.terms,∀ b:Int,TurnsE Tryz.prog env kd (.agg x.cells::.int .i64 b::cap) [(A,oA)] d (.box [.bool true]) (.tup []) (.box [.bool true]):=fun x hx=>hdo x (ht.term hx) (least_terms hl hx)
 have hQ:=c_Quantifier t.kind
 clear ih hdo ht hl
 have n3:(A=d)=False:=by simpa using nA
 clear nA
 have hw:IntKind.i64.wrap (b+1)=addW b 1:=rfl
 refine en Tryz.func233 [] rfl rfl fun g0 w0 gen hrel hfr hfr' hres=>?_
 have f1:=fresh_ne hfr hd
 have f2:=fresh_ne' hfr hd
 have f5:=fresh_ne hfr he
 repeat' (first
  | (first|refine wp rfl ?_|refine spt rfl ?_|refine spf rfl ?_|(refine spl (fun hc=>?_) fun hc=>?_)<;>(try rw [beq_iff_eq] at hc)<;>try simp only [hc])<;>try simp only [go_sem, *])
 refine AR_range [1,2,3,11] [⟨gen,0,0⟩] (fun i σ=>AgreeBut d h σ.h∧σ.h d=some (.box [.bool true])) (t.terms).length (by first|omega|(simp only [go_sem, *]<;>omega)) ⟨rfl,rfl,rfl⟩ rfl (by simp only [go_sem, *]) (by simp only [go_sem, *]) ?_ (by intro i σ t v ht hK;simp only [List.mem_cons,List.not_mem_nil,or_false] at ht;rcases ht with rfl|rfl|rfl<;>exact hK) ?_ ?_
 ·simp only [go_sem, *]
  first|exact ⟨by repeat (first|exact AgreeBut.refl _ _|assumption|refine AgreeBut.new ?_ (hfr' _ _)|refine AgreeBut.set ?_),rfl⟩|(repeat (first|exact AgreeBut.refl _ _|assumption|refine AgreeBut.new ?_ (hfr' _ _)|refine AgreeBut.set ?_))
 ·clear ih'
  intro i σ gr0 hgl_gr0 hgn hlt jI jN jS ⟨jA,js⟩
  obtain ⟨jT,jB⟩:=jS
  simp only [go_sem] at jT jB
  have hgf:=fresh_of hgn
  have hgf0:=agreeBut_fresh' hd jA hgf (fun r i e=>by have:=hfr d (by rw [hd];simp);rw [e] at this;simp at this;omega)
  have fd_gr0:=fresh_ne2 hfr hd (show gen<gr0 by omega)
  have fe_gr0:=fresh_ne2' hfr hd (show gen<gr0 by omega)
  have eg_gen_gr0:=gen_lt (show gen<gr0 by omega)
  have eh_gen_gr0:=gen_lt' (show gen<gr0 by omega)
  obtain ⟨x,hx⟩:∃ x,(t.terms)[i]? = some x:=⟨_,List.getElem?_eq_getElem hlt⟩
  have hxm:=List.mem_of_getElem? hx
  have hm:=min_lt hlt
  clear hgn
  have hc:=ht' x hxm
  have hA':=(jA A (by simpa using n3) (by rw [he];simp)).trans he
  have g5:=fresh_ne2 hfr he hgl_gr0
  clear ht' he
  repeat' (first
   | (first|refine wp rfl ?_|refine spt rfl ?_|refine spf rfl ?_|(refine spl (fun hc=>?_) fun hc=>?_)<;>(try rw [beq_iff_eq] at hc)<;>try simp only [hc]|(refine Call1_turnE (hc _) ?_ ?_ ?_;(focus ((simp only [go_sem, *]<;>(repeat (first|assumption|rfl|refine And.intro ?_ ?_)));done));(focus ((simp only [go_sem, *]<;>first|rfl|assumption);done)))|refine AR_inv ?_)<;>try simp only [go_sem, *])
  first|exact ⟨by repeat (first|assumption|refine AgreeBut.new ?_ (hgf0 _ _)|refine AgreeBut.set ?_),rfl⟩|(repeat (first|assumption|refine AgreeBut.new ?_ (hgf0 _ _)|refine AgreeBut.set ?_))
 clear ht'
 intro σ ga0 hgl_ga0 hgn jS ⟨jA,js⟩
 obtain ⟨jT,jB⟩:=jS
 simp only [go_sem] at jT jB
 have hgf:=fresh_of hgn
 have hgf0:=agreeBut_fresh' hd jA hgf (fun r i e=>by have:=hfr d (by rw [hd];simp);rw [e] at this;simp at this;omega)
 have fd_ga0:=fresh_ne2 hfr hd (show gen<ga0 by omega)
 have fe_ga0:=fresh_ne2' hfr hd (show gen<ga0 by omega)
 have eg_gen_ga0:=gen_lt (show gen<ga0 by omega)
 have eh_gen_ga0:=gen_lt' (show gen<ga0 by omega)
 clear hgn
 cases hq:(decide (t.kind≥4)&&decide (t.kind≤7))
 all_goals
  rw [hq] at hQ
  clear hq
  repeat' (first
   | (first|refine wp rfl ?_|refine spt rfl ?_|refine spf rfl ?_|(refine spl (fun hc=>?_) fun hc=>?_)<;>(try rw [beq_iff_eq] at hc)<;>try simp only [hc]|refine cp hQ ?_)<;>try simp only [go_sem, *])
  refine AR_range [1,2,28] [] (fun i σ=>AgreeBut d h σ.h∧σ.h d=some (.box [.bool true])) (t.args).length (by first|omega|(simp only [go_sem, *]<;>omega)) ⟨rfl,rfl,rfl⟩ rfl (by simp only [go_sem, *]) (by simp only [go_sem, *]) ?_ (by intro i σ t v ht hK;simp only [List.mem_cons,List.not_mem_nil,or_false] at ht;rcases ht with rfl|rfl|rfl<;>exact hK) ?_ ?_
  ·simp only [go_sem, *]
   first|exact ⟨jA,rfl⟩|exact jA|trace_state
  ·
   intro i σ gr1 hgl_gr1 hgn hlt jI jN jS ⟨jA,js'⟩
   obtain ⟨jT,jB⟩:=jS
   simp only [go_sem] at jT jB
   have hgf:=fresh_of hgn
   have hgf0:=agreeBut_fresh' hd jA hgf (fun r i e=>by have:=hfr d (by rw [hd];simp);rw [e] at this;simp at this;omega)
   have fd_gr1:=fresh_ne2 hfr hd (show gen<gr1 by omega)
   have fe_gr1:=fresh_ne2' hfr hd (show gen<gr1 by omega)
   have eg_gen_gr1:=gen_lt (show gen<gr1 by omega)
   have eh_gen_gr1:=gen_lt' (show gen<gr1 by omega)
   have eg_ga0_gr1:=gen_lt (show ga0<gr1 by omega)
   have eh_ga0_gr1:=gen_lt' (show ga0<gr1 by omega)
   obtain ⟨x,hx⟩:∃ x,(t.args)[i]? = some x:=⟨_,List.getElem?_eq_getElem hlt⟩
   have hxm:=List.mem_of_getElem? hx
   have hm:=min_lt hlt
   clear hgn
   have hc:=ih' x hxm
   have hA':=(jA A (by simpa using n3) (by rw [he];simp)).trans he
   have g5:=fresh_ne2 hfr he (show gen<gr1 by omega)
   clear ih' he
   repeat' (first
    | (first|refine wp rfl ?_|refine spt rfl ?_|refine spf rfl ?_|(refine spl (fun hc=>?_) fun hc=>?_)<;>(try rw [beq_iff_eq] at hc)<;>try simp only [hc]|(refine Call1_turnE (hc _) ?_ ?_ ?_;(focus ((simp only [go_sem, *]<;>(repeat (first|assumption|rfl|refine And.intro ?_ ?_)));done));(focus ((simp only [go_sem, *]<;>first|rfl|assumption);done)))|refine AR_inv ?_)<;>try simp only [go_sem, *])
   first|exact ⟨by repeat (first|assumption|refine AgreeBut.new ?_ (hgf0 _ _)|refine AgreeBut.set ?_),rfl⟩|(repeat (first|assumption|refine AgreeBut.new ?_ (hgf0 _ _)|refine AgreeBut.set ?_))
  ·
   intro σ ga1 hgl_ga1 hgn jS ⟨jA,js2⟩
   obtain ⟨jT,jB⟩:=jS
   simp only [go_sem] at jT jB
   have hgf:=fresh_of hgn
   have hgf0:=agreeBut_fresh' hd jA hgf (fun r i e=>by have:=hfr d (by rw [hd];simp);rw [e] at this;simp at this;omega)
   have fd_ga1:=fresh_ne2 hfr hd (show gen<ga1 by omega)
   have fe_ga1:=fresh_ne2' hfr hd (show gen<ga1 by omega)
   have eg_gen_ga1:=gen_lt (show gen<ga1 by omega)
   have eh_gen_ga1:=gen_lt' (show gen<ga1 by omega)
   have eg_ga0_ga1:=gen_lt (show ga0<ga1 by omega)
   have eh_ga0_ga1:=gen_lt' (show ga0<ga1 by omega)
   clear hgn
   clear ih'
   repeat' (first
    | (first|refine wp rfl ?_|refine spt rfl ?_|refine spf rfl ?_|(refine spl (fun hc=>?_) fun hc=>?_)<;>(try rw [beq_iff_eq] at hc)<;>try simp only [hc])<;>try simp only [go_sem, *])
   refine AR_fin_turn hrel hd (by simp only [go_sem,and_self]) (by simp only [go_sem,and_self]) (by repeat (first|assumption|refine AgreeBut.new ?_ (hfr' _ _))) (by simp only [go_sem, *]) ?_
   simp only [go_sem, *]
theorem c_NearFormula (f:Fm) (hf:FmW f) (hl:f.least 536870912=true):Pure Tryz.prog env 181 [.agg f.cells] (.bool true):=by
 intro h
 refine en Tryz.func181 [.tmp 2] rfl rfl fun g0 w0 gen hrel hfr hfr' hres=>?_
 have nA:(⟨gen,0,0⟩:GoAbs.Id)≠⟨gen,1,0⟩:=by simp
 have hc:=c_eachT 234 [.ptr ⟨gen,1,0⟩ 0] rfl ⟨gen,0,0⟩ ⟨gen,1,0⟩ (.box f.cells) nA (fun x hx hl b=>c_NearFormula1 _ _ _ nA x hx hl b) f hf hl 0
 clear nA hl
 repeat' (first
  |exact hin _|exact agf (by assumption)
  | (first|refine wp rfl ?_|(refine Call1_turnE (hc) ?_ ?_ ?_;(focus ((simp only [go_sem, *]<;>(repeat (first|assumption|rfl|refine And.intro ?_ ?_)));done));(focus ((simp only [go_sem, *]<;>first|rfl|assumption);done)))|refine finF hrel ?_ ?_ ?_)<;>try simp only [go_sem, *])
theorem c_RebuildF (F:Tm→Int→Tm) (kd:Nat) (cap:List V) (hcap:weakL cap=cap) (A B:GoAbs.Id) (oA oB:GoAbs.Obj)
  (hof:∀ x:Tm,TmW x→∀ b:Int,PureE Tryz.prog env kd (.agg x.cells::.int .i64 b::cap) [(A,oA),(B,oB)] (.agg (F x b).cells)) :
  ∀ f:Fm,FmW f→∀ b:Int,PureE Tryz.prog env 239 [.agg f.cells,.int .i64 b,.fn (.func kd) [] cap] [(A,oA),(B,oB)] (.agg (f.rv F b).cells):=by
 intro t
 induction t using Fm.ind with|h t ih=>?_
 intro ht b h he
 simp only [List.mem_cons,List.not_mem_nil,or_false,forall_eq_or_imp,forall_eq] at he
 obtain ⟨hA,hB⟩:=he
 have hlen:=ht.len
 have hlen2:=ht.tlen
 have ih':∀ x∈t.args,∀ b:Int,PureE Tryz.prog env 239 [.agg x.cells,.int .i64 b,.fn (.func kd) [] cap] [(A,oA),(B,oB)] (.agg (x.rv F b).cells):=fun x hx=>ih x hx (ht.arg hx)
 have ht':∀ x∈t.terms,∀ b:Int,PureE Tryz.prog env kd (.agg x.cells::.int .i64 b::cap) [(A,oA),(B,oB)] (.agg (F x b).cells):=fun x hx=>hof x (ht.term hx)
 have hO:=c_OwnType t.type ht.ty
 have hQ:=c_Quantifier t.kind
 clear ih ht hof
 have hw:IntKind.i64.wrap (b+1)=addW b 1:=rfl
 have hv0:=congrArg (fun t:Fm=>V.agg t.cells) (Fm.rv_eq F t b).symm
 try simp only at hv0
 have hin:∀ S,InV S (V.agg (t.rv F b).cells):=fun S=>by simp [InV,InL_Fm]
 generalize V.agg (t.rv F b).cells=v at hv0 hin ⊢
 unfold evB at hv0
 generalize hb1:(if (decide (t.kind≥4)&&decide (t.kind≤7))=true then addW b 1 else b)=b1 at hv0
 refine en Tryz.func239 [.cell 6 48] rfl rfl fun g0 w0 gen hrel hfr hfr' hres=>?_
 have f5:=fresh_ne hfr hA
 have f6:=fresh_ne hfr hB
 repeat' (first
  |(refine ⟨?_,?_⟩;focus ((repeat' (first|refine ⟨?_,?_⟩|refine .inr ?_));all_goals kernel_rfl))
  |exact hin _|exact agf (by assumption)
  | (first|refine wp rfl ?_|refine spt rfl ?_|refine spf rfl ?_|(refine spl (fun hc=>?_) fun hc=>?_)<;>(try rw [beq_iff_eq] at hc)<;>try simp only [hc]|refine cp hO ?_|refine finF hrel ?_ ?_ ?_)<;>try simp only [go_sem, *])
 refine AR_range [1,2,3,6,7,19] [⟨gen,0,0⟩,⟨gen,0,1⟩] (fun i σ=>Agree h σ.h∧∃ v,σ.h ⟨gen,1,6⟩=some (.box [.int .i64 t.kind,.int .i64 t.type.kind,.sl .any (t.type.args.map Ty.cells),v,.sl .full []])∧OwnS h σ.h v 5 (((t.terms.take i).map fun x=>F x b).map Tm.cells)) (t.terms).length (by first|omega|(simp only [go_sem, *]<;>omega)) ⟨rfl,rfl,rfl⟩ rfl (by simp only [go_sem, *]) (by simp only [go_sem, *]) ?_ (by intro i σ t v ht hK;simp only [List.mem_cons,List.not_mem_nil,or_false] at ht;rcases ht with rfl|rfl|rfl<;>exact hK) ?_ ?_
 ·simp only [go_sem, *]
  exact ⟨(by repeat (first|exact Agree.refl _|assumption|refine Agree.new ?_ (hgf0 _ _)|refine Agree.new ?_ (hfr' _ _))),_,rfl,.inl rfl⟩
 ·clear ih' hv0 hb1
  intro i σ gr0 hgl_gr0 hgn hlt jI jN jS ⟨jA,v,jb,jO0⟩
  obtain ⟨jT,jB⟩:=jS
  simp only [go_sem] at jT jB
  have hgf:=fresh_of hgn
  have hgf0:=fun r i=>agree_fresh jA (hgf r i)
  have eg_gen_gr0:=gen_lt (show gen<gr0 by omega)
  have eh_gen_gr0:=gen_lt' (show gen<gr0 by omega)
  obtain ⟨x,hx⟩:∃ x,(t.terms)[i]? = some x:=⟨_,List.getElem?_eq_getElem hlt⟩
  have hxm:=List.mem_of_getElem? hx
  have hm:=min_lt hlt
  clear hgn
  have hc:=ht' x hxm b
  have hts:((t.terms.take (i+1)).map fun x=>F x b).map Tm.cells=((t.terms.take i).map fun x=>F x b).map Tm.cells++[(F x b).cells]:=by rw [map_take_succ hx,List.map_append];rfl
  have hA':=(jA A (by rw [hA];simp)).trans hA
  have hB':=(jA B (by rw [hB];simp)).trans hB
  have g5:=fresh_ne2 hfr hA hgl_gr0
  have g6:=fresh_ne2 hfr hB hgl_gr0
  clear ht' hA hB
  repeat' (first
   |(refine ⟨?_,?_⟩;focus ((repeat' (first|refine ⟨?_,?_⟩|refine .inr ?_));all_goals kernel_rfl))
   |(refine okE_app_ownd jO0 (by repeat (first|exact Keeps.refl _|refine Keeps.new ?_ (hgf _ _)|refine Keeps.new ?_ (hfr' _ _)|refine Keeps.box ?_ rfl|refine Keeps.box ?_ (by simp only [go_sem, *]))) rfl (by simp only [go_sem, *]<;>omega) (by first|exact hgf0 _ _|exact hfr' _ _) (by simp only [go_sem, *]) (by intro hd e;simp only [logOk_cons,logOk_nil,and_true];repeat (first|exact trivial|refine ⟨.inr (by kernel_rfl),?_⟩|exact .inr (by kernel_rfl))) ?_;intro v' h' id' jO jK jAg jAb jF;obtain ⟨cO,rfl⟩:=jO.val;simp only [go_sem, *])
   | (first|refine wp rfl ?_|refine spt rfl ?_|refine spf rfl ?_|(refine spl (fun hc=>?_) fun hc=>?_)<;>(try rw [beq_iff_eq] at hc)<;>try simp only [hc]|(refine Call1_pureE (hc) ?_ ?_;(focus ((simp only [go_sem, *]<;>(repeat (first|assumption|rfl|refine And.intro ?_ ?_)));done)))|refine AR_inv ?_)<;>try simp only [go_sem, *])
  refine ⟨?_,_,rfl,jO.keep (Keeps.box (Keeps.refl _) (by simp only [go_sem, *]))⟩
  exact Agree.new (jAg (by repeat (first|exact Agree.refl _|assumption|refine Agree.new ?_ (hgf0 _ _)|refine Agree.new ?_ (hfr' _ _)))) (hfr' _ _)
 clear ht'
 intro σ ga0 hgl_ga0 hgn jS ⟨jA,v1,jb,jO1⟩
 obtain ⟨jT,jB⟩:=jS
 simp only [go_sem] at jT jB
 have hgf:=fresh_of hgn
 have hgf0:=fun r i=>agree_fresh jA (hgf r i)
 have eg_gen_ga0:=gen_lt (show gen<ga0 by omega)
 have eh_gen_ga0:=gen_lt' (show gen<ga0 by omega)
 clear hgn
 rw [List.take_length] at jO1
 obtain ⟨c1,rfl⟩:=jO1.val
 clear jO1
 cases hq:(decide (t.kind≥4)&&decide (t.kind≤7)) with
 | true =>
  rw [hq] at hQ hb1
  clear hq
  simp only [if_true,Bool.false_eq_true,if_false] at hb1
  repeat' (first
   |(refine ⟨?_,?_⟩;focus ((repeat' (first|refine ⟨?_,?_⟩|refine .inr ?_));all_goals kernel_rfl))
   |exact hin _|exact agf (by assumption)
   | (first|refine wp rfl ?_|refine spt rfl ?_|refine spf rfl ?_|(refine spl (fun hc=>?_) fun hc=>?_)<;>(try rw [beq_iff_eq] at hc)<;>try simp only [hc]|refine cp hQ ?_|refine finF hrel ?_ ?_ ?_)<;>try simp only [go_sem, *])
  refine AR_range [1,2,6,7,41] [⟨gen,0,1⟩] (fun i σ=>Agree h σ.h∧∃ v,σ.h ⟨gen,1,6⟩=some (.box [.int .i64 t.kind,.int .i64 t.type.kind,.sl .any (t.type.args.map Ty.cells),.sl c1 ((t.terms.map fun x=>F x b).map Tm.cells),v])∧OwnS h σ.h v 5 (((t.args.take i).map fun x=>x.rv F b1).map Fm.cells)) (t.args).length (by first|omega|(simp only [go_sem, *]<;>omega)) ⟨rfl,rfl,rfl⟩ rfl (by simp only [go_sem, *]) (by simp only [go_sem, *]) ?_ (by intro i σ t v ht hK;simp only [List.mem_cons,List.not_mem_nil,or_false] at ht;rcases ht with rfl|rfl|rfl<;>exact hK) ?_ ?_
  ·simp only [go_sem, *]
   first|exact ⟨_,rfl,.inl rfl⟩|exact ⟨(by repeat (first|exact Agree.refl _|assumption|refine Agree.new ?_ (hgf0 _ _)|refine Agree.new ?_ (hfr' _ _))),_,rfl,.inl rfl⟩
  ·clear hv0
   intro i σ gr1 hgl_gr1 hgn hlt jI jN jS ⟨jA,v,jb',jO0⟩
   obtain ⟨jT,jB⟩:=jS
   simp only [go_sem] at jT jB
   have hgf:=fresh_of hgn
   have hgf0:=fun r i=>agree_fresh jA (hgf r i)
   have eg_gen_gr1:=gen_lt (show gen<gr1 by omega)
   have eh_gen_gr1:=gen_lt' (show gen<gr1 by omega)
   have eg_ga0_gr1:=gen_lt (show ga0<gr1 by omega)
   have eh_ga0_gr1:=gen_lt' (show ga0<gr1 by omega)
   obtain ⟨x,hx⟩:∃ x,(t.args)[i]? = some x:=⟨_,List.getElem?_eq_getElem hlt⟩
   have hxm:=List.mem_of_getElem? hx
   have hm:=min_lt hlt
   clear hgn
   have hc:=ih' x hxm b1
   have hts:((t.args.take (i+1)).map fun x=>x.rv F b1).map Fm.cells=((t.args.take i).map fun x=>x.rv F b1).map Fm.cells++[(x.rv F b1).cells]:=by rw [map_take_succ hx,List.map_append];rfl
   have hA':=(jA A (by rw [hA];simp)).trans hA
   have hB':=(jA B (by rw [hB];simp)).trans hB
   have g5:=fresh_ne2 hfr hA (show gen<gr1 by omega)
   have g6:=fresh_ne2 hfr hB (show gen<gr1 by omega)
   clear ih' hA hB
   repeat' (first
    |(refine ⟨?_,?_⟩;focus ((repeat' (first|refine ⟨?_,?_⟩|refine .inr ?_));all_goals kernel_rfl))
    |(refine okE_app_ownd jO0 (by repeat (first|exact Keeps.refl _|refine Keeps.new ?_ (hgf _ _)|refine Keeps.new ?_ (hfr' _ _)|refine Keeps.box ?_ rfl|refine Keeps.box ?_ (by simp only [go_sem, *]))) rfl (by simp only [go_sem, *]<;>omega) (by first|exact hgf0 _ _|exact hfr' _ _) (by simp only [go_sem, *]) (by intro hd e;simp only [logOk_cons,logOk_nil,and_true];repeat (first|exact trivial|refine ⟨.inr (by kernel_rfl),?_⟩|exact .inr (by kernel_rfl))) ?_;intro v' h' id' jO jK jAg jAb jF;obtain ⟨cO,rfl⟩:=jO.val;simp only [go_sem, *])
    | (first|refine wp rfl ?_|refine spt rfl ?_|refine spf rfl ?_|(refine spl (fun hc=>?_) fun hc=>?_)<;>(try rw [beq_iff_eq] at hc)<;>try simp only [hc]|(refine Call1_pureE (hc) ?_ ?_;(focus ((simp only [go_sem, *]<;>(repeat (first|assumption|rfl|refine And.intro ?_ ?_)));done)))|refine AR_inv ?_)<;>try simp only [go_sem, *])
   refine ⟨?_,_,rfl,jO.keep (Keeps.box (Keeps.refl _) (by simp only [go_sem, *]))⟩
   exact Agree.new (jAg (by repeat (first|exact Agree.refl _|assumption|refine Agree.new ?_ (hgf0 _ _)|refine Agree.new ?_ (hfr' _ _)))) (hfr' _ _)
  ·
   intro σ ga1 hgl_ga1 hgn jS ⟨jA,v,jb',jO0⟩
   obtain ⟨jT,jB⟩:=jS
   simp only [go_sem] at jT jB
   have hgf:=fresh_of hgn
   have hgf0:=fun r i=>agree_fresh jA (hgf r i)
   have eg_gen_ga1:=gen_lt (show gen<ga1 by omega)
   have eh_gen_ga1:=gen_lt' (show gen<ga1 by omega)
   have eg_ga0_ga1:=gen_lt (show ga0<ga1 by omega)
   have eh_ga0_ga1:=gen_lt' (show ga0<ga1 by omega)
   clear hgn
   rw [List.take_length] at jO0
   obtain ⟨c,rfl⟩:=jO0.val
   clear ih'
   rw [Fm.mk_cells] at hv0
   subst hv0
   repeat' (first
    |(refine ⟨?_,?_⟩;focus ((repeat' (first|refine ⟨?_,?_⟩|refine .inr ?_));all_goals kernel_rfl))
    |exact hin _|exact agf (by assumption)
    | (first|refine wp rfl ?_|refine spt rfl ?_|refine spf rfl ?_|(refine spl (fun hc=>?_) fun hc=>?_)<;>(try rw [beq_iff_eq] at hc)<;>try simp only [hc]|refine finF hrel ?_ ?_ ?_)<;>try simp only [go_sem, *])
 | false =>
  rw [hq] at hQ hb1
  clear hq
  simp only [if_true,Bool.false_eq_true,if_false] at hb1
  subst hb1
  repeat' (first
   |(refine ⟨?_,?_⟩;focus ((repeat' (first|refine ⟨?_,?_⟩|refine .inr ?_));all_goals kernel_rfl))
   |exact hin _|exact agf (by assumption)
   | (first|refine wp rfl ?_|refine spt rfl ?_|refine spf rfl ?_|(refine spl (fun hc=>?_) fun hc=>?_)<;>(try rw [beq_iff_eq] at hc)<;>try simp only [hc]|refine cp hQ ?_|refine finF hrel ?_ ?_ ?_)<;>try simp only [go_sem, *])
  refine AR_range [1,2,6,7,41] [⟨gen,0,1⟩] (fun i σ=>Agree h σ.h∧∃ v,σ.h ⟨gen,1,6⟩=some (.box [.int .i64 t.kind,.int .i64 t.type.kind,.sl .any (t.type.args.map Ty.cells),.sl c1 ((t.terms.map fun x=>F x b).map Tm.cells),v])∧OwnS h σ.h v 5 (((t.args.take i).map fun x=>x.rv F b).map Fm.cells)) (t.args).length (by first|omega|(simp only [go_sem, *]<;>omega)) ⟨rfl,rfl,rfl⟩ rfl (by simp only [go_sem, *]) (by simp only [go_sem, *]) ?_ (by intro i σ t v ht hK;simp only [List.mem_cons,List.not_mem_nil,or_false] at ht;rcases ht with rfl|rfl|rfl<;>exact hK) ?_ ?_
  ·simp only [go_sem, *]
   first|exact ⟨_,rfl,.inl rfl⟩|exact ⟨(by repeat (first|exact Agree.refl _|assumption|refine Agree.new ?_ (hgf0 _ _)|refine Agree.new ?_ (hfr' _ _))),_,rfl,.inl rfl⟩
  ·clear hv0
   intro i σ gr1 hgl_gr1 hgn hlt jI jN jS ⟨jA,v,jb',jO0⟩
   obtain ⟨jT,jB⟩:=jS
   simp only [go_sem] at jT jB
   have hgf:=fresh_of hgn
   have hgf0:=fun r i=>agree_fresh jA (hgf r i)
   have eg_gen_gr1:=gen_lt (show gen<gr1 by omega)
   have eh_gen_gr1:=gen_lt' (show gen<gr1 by omega)
   have eg_ga0_gr1:=gen_lt (show ga0<gr1 by omega)
   have eh_ga0_gr1:=gen_lt' (show ga0<gr1 by omega)
   obtain ⟨x,hx⟩:∃ x,(t.args)[i]? = some x:=⟨_,List.getElem?_eq_getElem hlt⟩
   have hxm:=List.mem_of_getElem? hx
   have hm:=min_lt hlt
   clear hgn
   have hc:=ih' x hxm b
   have hts:((t.args.take (i+1)).map fun x=>x.rv F b).map Fm.cells=((t.args.take i).map fun x=>x.rv F b).map Fm.cells++[(x.rv F b).cells]:=by rw [map_take_succ hx,List.map_append];rfl
   have hA':=(jA A (by rw [hA];simp)).trans hA
   have hB':=(jA B (by rw [hB];simp)).trans hB
   have g5:=fresh_ne2 hfr hA (show gen<gr1 by omega)
   have g6:=fresh_ne2 hfr hB (show gen<gr1 by omega)
   clear ih' hA hB
   repeat' (first
    |(refine ⟨?_,?_⟩;focus ((repeat' (first|refine ⟨?_,?_⟩|refine .inr ?_));all_goals kernel_rfl))
    |(refine okE_app_ownd jO0 (by repeat (first|exact Keeps.refl _|refine Keeps.new ?_ (hgf _ _)|refine Keeps.new ?_ (hfr' _ _)|refine Keeps.box ?_ rfl|refine Keeps.box ?_ (by simp only [go_sem, *]))) rfl (by simp only [go_sem, *]<;>omega) (by first|exact hgf0 _ _|exact hfr' _ _) (by simp only [go_sem, *]) (by intro hd e;simp only [logOk_cons,logOk_nil,and_true];repeat (first|exact trivial|refine ⟨.inr (by kernel_rfl),?_⟩|exact .inr (by kernel_rfl))) ?_;intro v' h' id' jO jK jAg jAb jF;obtain ⟨cO,rfl⟩:=jO.val;simp only [go_sem, *])
    | (first|refine wp rfl ?_|refine spt rfl ?_|refine spf rfl ?_|(refine spl (fun hc=>?_) fun hc=>?_)<;>(try rw [beq_iff_eq] at hc)<;>try simp only [hc]|(refine Call1_pureE (hc) ?_ ?_;(focus ((simp only [go_sem, *]<;>(repeat (first|assumption|rfl|refine And.intro ?_ ?_)));done)))|refine AR_inv ?_)<;>try simp only [go_sem, *])
   refine ⟨?_,_,rfl,jO.keep (Keeps.box (Keeps.refl _) (by simp only [go_sem, *]))⟩
   exact Agree.new (jAg (by repeat (first|exact Agree.refl _|assumption|refine Agree.new ?_ (hgf0 _ _)|refine Agree.new ?_ (hfr' _ _)))) (hfr' _ _)
  ·
   intro σ ga1 hgl_ga1 hgn jS ⟨jA,v,jb',jO0⟩
   obtain ⟨jT,jB⟩:=jS
   simp only [go_sem] at jT jB
   have hgf:=fresh_of hgn
   have hgf0:=fun r i=>agree_fresh jA (hgf r i)
   have eg_gen_ga1:=gen_lt (show gen<ga1 by omega)
   have eh_gen_ga1:=gen_lt' (show gen<ga1 by omega)
   have eg_ga0_ga1:=gen_lt (show ga0<ga1 by omega)
   have eh_ga0_ga1:=gen_lt' (show ga0<ga1 by omega)
   clear hgn
   rw [List.take_length] at jO0
   obtain ⟨c,rfl⟩:=jO0.val
   clear ih'
   rw [Fm.mk_cells] at hv0
   subst hv0
   repeat' (first
    |(refine ⟨?_,?_⟩;focus ((repeat' (first|refine ⟨?_,?_⟩|refine .inr ?_));all_goals kernel_rfl))
    |exact hin _|exact agf (by assumption)
    | (first|refine wp rfl ?_|refine spt rfl ?_|refine spf rfl ?_|(refine spl (fun hc=>?_) fun hc=>?_)<;>(try rw [beq_iff_eq] at hc)<;>try simp only [hc]|refine finF hrel ?_ ?_ ?_)<;>try simp only [go_sem, *])
theorem c_fwithin (n:Int):Pure Tryz.prog env 179 [.int .i64 n] (.bool (decide (n≥0)&&decide (n≤4096))):=by
 intro h
 cases q1:decide (n≥0)<;>cases q2:decide (n≤4096)<;>simp only [Bool.false_and,Bool.true_and]
 all_goals
  refine en Tryz.func179 [.tmp 2] rfl rfl fun g0 w0 gen hrel hfr hfr' hres=>?_
  repeat' (first
   |exact hin _|exact agf (by assumption)
   | (first|refine wp rfl ?_|(refine gs (fun hb=>?_) fun hb=>?_)<;>try simp only [Bool.not_true,Bool.not_false] at hb|refine finF hrel ?_ ?_ ?_)<;>try simp only [go_sem, *])
end Go.Proofs.YtbfilinnoedfeaaGreatDoor
