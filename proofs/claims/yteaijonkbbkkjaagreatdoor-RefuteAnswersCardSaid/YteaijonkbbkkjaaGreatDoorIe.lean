/-
 Walks: lifting formulas (tree, formula).
-/
import Derived.Test.YteaijonkbbkkjaaGreatDoorMh
import Derived.Test.YteaijonkbbkkjaaGreatDoorMb
import Derived.Test.YteaijonkbbkkjaaGreatDoorAbsD
import Derived.Test.YteaijonkbbkkjaaGreatDoorAbsC
import Derived.Test.YteaijonkbbkkjaaGreatDoorMa
import Derived.Test.YteaijonkbbkkjaaGreatDoorMn
import Derived.Test.YteaijonkbbkkjaaGreatDoorAbsDc
set_option linter.unusedSimpArgs false
set_option linter.unusedVariables false
set_option maxRecDepth 20000
set_option maxHeartbeats 4000000
namespace Go.Proofs.YteaijonkbbkkjaaGreatDoor
open Go GoAbs Go.Proofs
theorem ba2 (A d:GoAbs.Id) (oA:GoAbs.Obj) (nA:A≠d) (t:Tm) (ht:TmW t) (hl:t.least 536870912=true) (b:Int) :
  Y4 Tryz.prog env 171 (.agg t.cells::.int .i64 b::[.ptr d 0]) [(A,oA)] d (.box [.bool true]) (.tup []) (.box [.bool true]):=by
 intro h he hd;clear he nA;have hc:=cf9 t ht;rw [bN1 hl] at hc;clear hl;refine en_ Tryz.func171 [] fun g0 w0 gen b7 hfr c6 m0=>?_;have f1:=c7 hfr hd;have f2:=l4 hfr hd;exact I0
theorem cI9 (kd:Nat) (cap:List V) (V0:C7 cap=cap) (A d:GoAbs.Id) (oA:GoAbs.Obj) (nA:A≠d)
  (hdo:∀ x:Tm,TmW x→x.least 536870912=true→∀ b:Int,Y4 Tryz.prog env kd (.agg x.cells::.int .i64 b::cap) [(A,oA)] d (.box [.bool true]) (.tup []) (.box [.bool true])) :
  ∀ f:Fm,FmW f→f.least 536870912=true→∀ b:Int,Y4 Tryz.prog env 170 [.agg f.cells,.int .i64 b,.fn (.func kd) [] cap] [(A,oA)] d (.box [.bool true]) (.tup []) (.box [.bool true]):=by
 intro t
 induction t using Fm.ind with|h t ih=>?_
 intro ht hl b h he hd;simp only [List.mem_cons,List.not_mem_nil,or_false,forall_eq] at he;have hlen:=ht.len;have aF5:=ht.aE3;have ih':∀ x∈t.args,∀ b:Int,Y4 Tryz.prog env 170 [.agg x.cells,.int .i64 b,.fn (.func kd) [] cap] [(A,oA)] d (.box [.bool true]) (.tup []) (.box [.bool true]):=fun x hx=>ih x hx (ht.arg hx) (ad2 hl hx);have ht':∀ x∈t.r8,∀ b:Int,Y4 Tryz.prog env kd (.agg x.cells::.int .i64 b::cap) [(A,oA)] d (.box [.bool true]) (.tup []) (.box [.bool true]):=fun x hx=>hdo x (ht.term hx) (aS7 hl hx);have hQ:=al1 t.kind;clear ih hdo ht hl;have n3:(A=d)=False:=by simpa using nA
 clear nA;have hw:IntKind.i64.wrap (b+1)=x4 b 1:=rfl;refine en_ Tryz.func170 [] fun g0 w0 gen b7 hfr c6 m0=>?_;have f1:=c7 hfr hd;have f2:=l4 hfr hd;have f5:=c7 hfr he;refine wq_ ?_;refine ar_ [1,2,3,11] [⟨gen,0,0⟩] (fun i σ=>a9 d h σ.h∧σ.h d=some (.box [.bool true])) (t.r8).length ?_ ?_ ?_
 ·simp only [go_sem, *]
  first|exact ⟨by repeat (first|exact a9.refl _ _|assumption|refine a9.new ?_ (c6 _ _)|refine a9.set ?_),rfl⟩|(repeat (first|exact a9.refl _ _|assumption|refine a9.new ?_ (c6 _ _)|refine a9.set ?_))
 ·clear ih'
  intro i σ gr0 l6 hgn hlt jI jN jS ⟨jA,js⟩;obtain ⟨jT,jB⟩:=jS;simp only [go_sem] at jT jB;have hgf:=c8 hgn;have m6:=l7 hd jA hgf (fun r i e=>by have:=hfr d (by rw [hd];simp);rw [e] at this;simp at this;omega);have az5:=u6 hfr hd (show gen<gr0 by omega);have az2:=B3 hfr hd (show gen<gr0 by omega);have n7:=s8 (show gen<gr0 by omega);have n8:=o9 (show gen<gr0 by omega);obtain ⟨x,hx,hxm,hm⟩:=rnx hlt;clear hgn;have hc:=ht' x hxm;have hA':=(jA A (by simpa using n3) (by rw [he];simp)).trans he;have g5:=u6 hfr he l6;clear ht' he
  repeat' (first
   | (first|refine wp rfl ?_|refine spt rfl ?_|refine spf rfl ?_|(refine spl (fun hc=>?_) fun hc=>?_)<;>(try rw [beq_iff_eq] at hc)<;>try simp only [hc]|(refine N6 (hc _) ?_ ?_ ?_;(focus ((simp only [go_sem, *]<;>(repeat (first|assumption|rfl|refine And.intro ?_ ?_)));done));(focus ((simp only [go_sem, *]<;>first|rfl|assumption);done)))|refine u7 ?_)<;>try simp only [go_sem, *])
  first|exact ⟨by repeat (first|assumption|refine a9.new ?_ (m6 _ _)|refine a9.set ?_),rfl⟩|(repeat (first|assumption|refine a9.new ?_ (m6 _ _)|refine a9.set ?_))
 clear ht';intro σ ga0 l9 hgn jS ⟨jA,js⟩;obtain ⟨jT,jB⟩:=jS;simp only [go_sem] at jT jB;have hgf:=c8 hgn;have m6:=l7 hd jA hgf (fun r i e=>by have:=hfr d (by rw [hd];simp);rw [e] at this;simp at this;omega);have aA6:=u6 hfr hd (show gen<ga0 by omega);have ay9:=B3 hfr hd (show gen<ga0 by omega);have n9:=s8 (show gen<ga0 by omega);have o0:=o9 (show gen<ga0 by omega);clear hgn;cases hq:(decide (t.kind≥4)&&decide (t.kind≤7))
 all_goals
  rw [hq] at hQ;clear hq;refine wq_ ?_;refine ar_ [1,2,28] [] (fun i σ=>a9 d h σ.h∧σ.h d=some (.box [.bool true])) (t.args).length ?_ ?_ ?_
  ·simp only [go_sem, *]
   first|exact ⟨jA,rfl⟩|exact jA|trace_state
  ·
   intro i σ gr1 M8 hgn hlt jI jN jS ⟨jA,js'⟩;obtain ⟨jT,jB⟩:=jS;simp only [go_sem] at jT jB;have hgf:=c8 hgn;have m6:=l7 hd jA hgf (fun r i e=>by have:=hfr d (by rw [hd];simp);rw [e] at this;simp at this;omega);have cj3:=u6 hfr hd (show gen<gr1 by omega);have cr3:=B3 hfr hd (show gen<gr1 by omega);have G2:=s8 (show gen<gr1 by omega);have G8:=o9 (show gen<gr1 by omega);have K8:=s8 (show ga0<gr1 by omega);have K5:=o9 (show ga0<gr1 by omega);obtain ⟨x,hx,hxm,hm⟩:=rnx hlt;clear hgn;have hc:=ih' x hxm;have hA':=(jA A (by simpa using n3) (by rw [he];simp)).trans he;have g5:=u6 hfr he (show gen<gr1 by omega);clear ih' he
   repeat' (first
    | (first|refine wp rfl ?_|refine spt rfl ?_|refine spf rfl ?_|(refine spl (fun hc=>?_) fun hc=>?_)<;>(try rw [beq_iff_eq] at hc)<;>try simp only [hc]|(refine N6 (hc _) ?_ ?_ ?_;(focus ((simp only [go_sem, *]<;>(repeat (first|assumption|rfl|refine And.intro ?_ ?_)));done));(focus ((simp only [go_sem, *]<;>first|rfl|assumption);done)))|refine u7 ?_)<;>try simp only [go_sem, *])
   first|exact ⟨by repeat (first|assumption|refine a9.new ?_ (m6 _ _)|refine a9.set ?_),rfl⟩|(repeat (first|assumption|refine a9.new ?_ (m6 _ _)|refine a9.set ?_))
  ·
   intro σ ga1 M7 hgn jS ⟨jA,js2⟩;obtain ⟨jT,jB⟩:=jS;simp only [go_sem] at jT jB;have hgf:=c8 hgn;have m6:=l7 hd jA hgf (fun r i e=>by have:=hfr d (by rw [hd];simp);rw [e] at this;simp at this;omega);have cv4:=u6 hfr hd (show gen<ga1 by omega);have cm7:=B3 hfr hd (show gen<ga1 by omega);have G3:=s8 (show gen<ga1 by omega);have G4:=o9 (show gen<ga1 by omega);have K6:=s8 (show ga0<ga1 by omega);have K3:=o9 (show ga0<ga1 by omega);clear hgn;clear ih';refine wq_ ?_;refine L4 b7 hd (by simp only [go_sem,and_self]) (by simp only [go_sem,and_self]) (by repeat (first|assumption|refine a9.new ?_ (c6 _ _))) sg_ ?_;simp only [go_sem, *]
theorem bd5 (f:Fm) (hf:FmW f) (hl:f.least 536870912=true):Pure Tryz.prog env 125 [.agg f.cells] (.bool true):=by
 intro h;refine en_ Tryz.func125 [.tmp 2] fun g0 w0 gen b7 hfr c6 m0=>?_;have nA:(⟨gen,0,0⟩:GoAbs.Id)≠⟨gen,1,0⟩:=by simp
 have hc:=cI9 171 [.ptr ⟨gen,1,0⟩ 0] rfl ⟨gen,0,0⟩ ⟨gen,1,0⟩ (.box f.cells) nA (fun x hx hl b=>ba2 _ _ _ nA x hx hl b) f hf hl 0;clear nA hl
 repeat' (first
  |exact hin _|exact agf as_
  | (first|refine wp rfl ?_|(refine N6 (hc) ?_ ?_ ?_;(focus ((simp only [go_sem, *]<;>(repeat (first|assumption|rfl|refine And.intro ?_ ?_)));done));(focus ((simp only [go_sem, *]<;>first|rfl|assumption);done)))|refine A9 b7 ?_ ?_ ?_)<;>try simp only [go_sem, *])
theorem bK3 (F:Tm→Int→Tm) (kd:Nat) (cap:List V) (V0:C7 cap=cap) (A B:GoAbs.Id) (oA oB:GoAbs.Obj)
  (hof:∀ x:Tm,TmW x→∀ b:Int,as6 Tryz.prog env kd (.agg x.cells::.int .i64 b::cap) [(A,oA),(B,oB)] (.agg (F x b).cells)) :
  ∀ f:Fm,FmW f→∀ b:Int,as6 Tryz.prog env 141 [.agg f.cells,.int .i64 b,.fn (.func kd) [] cap] [(A,oA),(B,oB)] (.agg (f.rv F b).cells):=by
 intro t
 induction t using Fm.ind with|h t ih=>?_
 intro ht b h he;simp only [List.mem_cons,List.not_mem_nil,or_false,forall_eq_or_imp,forall_eq] at he;obtain ⟨hA,hB⟩:=he;have hlen:=ht.len;have aF5:=ht.aE3;have ih':∀ x∈t.args,∀ b:Int,as6 Tryz.prog env 141 [.agg x.cells,.int .i64 b,.fn (.func kd) [] cap] [(A,oA),(B,oB)] (.agg (x.rv F b).cells):=fun x hx=>ih x hx (ht.arg hx);have ht':∀ x∈t.r8,∀ b:Int,as6 Tryz.prog env kd (.agg x.cells::.int .i64 b::cap) [(A,oA),(B,oB)] (.agg (F x b).cells):=fun x hx=>hof x (ht.term hx);have hO:=ah8 t.type ht.ty;have hQ:=al1 t.kind;clear ih ht hof;have hw:IntKind.i64.wrap (b+1)=x4 b 1:=rfl;have hv0:=congrArg (fun t:Fm=>V.agg t.cells) (Fm.bU1 F t b).symm
 try simp only at hv0
 have hin:∀ S,InV S (V.agg (t.rv F b).cells):=fun S=>by simp [InV,bk3]
 generalize V.agg (t.rv F b).cells=v at hv0 hin ⊢;unfold evB at hv0;generalize hb1:(if (decide (t.kind≥4)&&decide (t.kind≤7))=true then x4 b 1 else b)=b1 at hv0;refine en_ Tryz.func141 [.cell 6 45] fun g0 w0 gen b7 hfr c6 m0=>?_;have f5:=c7 hfr hA;have f6:=c7 hfr hB;refine wq_ ?_;refine ar_ [1,2,3,6,7,19] [⟨gen,0,0⟩,⟨gen,0,1⟩] (fun i σ=>g9 h σ.h∧∃ v,σ.h ⟨gen,1,6⟩=some (.box [.int .i64 t.kind,.int .i64 t.type.kind,.sl .any (t.type.args.map Ty.cells),v,.sl .full []])∧T7 h σ.h v 5 (((t.r8.take i).map fun x=>F x b).map Tm.cells)) (t.r8).length ?_ ?_ ?_
 ·simp only [go_sem, *]
  exact ⟨ag_,_,rfl,.inl rfl⟩
 ·clear ih' hv0 hb1
  intro i σ gr0 l6 hgn hlt jI jN jS ⟨jA,v,jb,jO0⟩;obtain ⟨jT,jB⟩:=jS;simp only [go_sem] at jT jB;obtain ⟨hgf,m6,n7,n8⟩:=rnd hgn l6 jA;obtain ⟨x,hx,hxm,hm⟩:=rnx hlt;clear hgn;have hc:=ht' x hxm b;have hts:((t.r8.take (i+1)).map fun x=>F x b).map Tm.cells=((t.r8.take i).map fun x=>F x b).map Tm.cells++[(F x b).cells]:=by rw [B4 hx,List.map_append];rfl
  have hA':=(jA A (by rw [hA];simp)).trans hA;have hB':=(jA B (by rw [hB];simp)).trans hB;have g5:=u6 hfr hA l6;have g6:=u6 hfr hB l6;clear ht' hA hB
  repeat' (first
   |(refine ⟨?_,?_⟩;focus ((repeat' (first|refine ⟨?_,?_⟩|refine .inr ?_));all_goals kernel_rfl))
   |(refine G9 jO0 kp_ rfl so_ fr_ sg_ lo_ ?_;intro v' h' id' jO jK jAg jAb jF;obtain ⟨cO,rfl⟩:=jO.val;simp only [go_sem, *])
   | (first|refine wp rfl ?_|refine spt rfl ?_|refine spf rfl ?_|(refine spl (fun hc=>?_) fun hc=>?_)<;>(try rw [beq_iff_eq] at hc)<;>try simp only [hc]|(refine U5 (hc) ?_ ?_;(focus ((simp only [go_sem, *]<;>(repeat (first|assumption|rfl|refine And.intro ?_ ?_)));done)))|refine u7 ?_)<;>try simp only [go_sem, *])
  refine ⟨?_,_,rfl,jO.ak5 (F4.box (F4.refl _) sg_)⟩;exact g9.new (jAg ag_) (c6 _ _)
 clear ht';intro σ ga0 l9 hgn jS ⟨jA,v1,jb,jO1⟩;obtain ⟨jT,jB⟩:=jS;simp only [go_sem] at jT jB;obtain ⟨hgf,m6,n9,o0⟩:=rnd hgn l9 jA;clear hgn;rw [List.take_length] at jO1;obtain ⟨c1,rfl⟩:=jO1.val;clear jO1;cases hq:(decide (t.kind≥4)&&decide (t.kind≤7)) with
 | true =>
  rw [hq] at hQ hb1;clear hq;simp only [if_true,Bool.false_eq_true,if_false] at hb1;refine wq_ ?_;refine ar_ [1,2,6,7,41] [⟨gen,0,1⟩] (fun i σ=>g9 h σ.h∧∃ v,σ.h ⟨gen,1,6⟩=some (.box [.int .i64 t.kind,.int .i64 t.type.kind,.sl .any (t.type.args.map Ty.cells),.sl c1 ((t.r8.map fun x=>F x b).map Tm.cells),v])∧T7 h σ.h v 5 (((t.args.take i).map fun x=>x.rv F b1).map Fm.cells)) (t.args).length ?_ ?_ ?_
  ·simp only [go_sem, *]
   first|exact ⟨_,rfl,.inl rfl⟩|exact ⟨ag_,_,rfl,.inl rfl⟩
  ·clear hv0
   intro i σ gr1 M8 hgn hlt jI jN jS ⟨jA,v,jb',jO0⟩;obtain ⟨jT,jB⟩:=jS;simp only [go_sem] at jT jB;have hgf:=c8 hgn;have m6:=fun r i=>s7 jA (hgf r i);have G2:=s8 (show gen<gr1 by omega);have G8:=o9 (show gen<gr1 by omega);have K8:=s8 (show ga0<gr1 by omega);have K5:=o9 (show ga0<gr1 by omega);obtain ⟨x,hx,hxm,hm⟩:=rnx hlt;clear hgn;have hc:=ih' x hxm b1;have hts:((t.args.take (i+1)).map fun x=>x.rv F b1).map Fm.cells=((t.args.take i).map fun x=>x.rv F b1).map Fm.cells++[(x.rv F b1).cells]:=by rw [B4 hx,List.map_append];rfl
   have hA':=(jA A (by rw [hA];simp)).trans hA;have hB':=(jA B (by rw [hB];simp)).trans hB;have g5:=u6 hfr hA (show gen<gr1 by omega);have g6:=u6 hfr hB (show gen<gr1 by omega);clear ih' hA hB
   repeat' (first
    |(refine ⟨?_,?_⟩;focus ((repeat' (first|refine ⟨?_,?_⟩|refine .inr ?_));all_goals kernel_rfl))
    |(refine G9 jO0 kp_ rfl so_ fr_ sg_ lo_ ?_;intro v' h' id' jO jK jAg jAb jF;obtain ⟨cO,rfl⟩:=jO.val;simp only [go_sem, *])
    | (first|refine wp rfl ?_|refine spt rfl ?_|refine spf rfl ?_|(refine spl (fun hc=>?_) fun hc=>?_)<;>(try rw [beq_iff_eq] at hc)<;>try simp only [hc]|(refine U5 (hc) ?_ ?_;(focus ((simp only [go_sem, *]<;>(repeat (first|assumption|rfl|refine And.intro ?_ ?_)));done)))|refine u7 ?_)<;>try simp only [go_sem, *])
   refine ⟨?_,_,rfl,jO.ak5 (F4.box (F4.refl _) sg_)⟩;exact g9.new (jAg ag_) (c6 _ _)
  ·
   intro σ ga1 M7 hgn jS ⟨jA,v,jb',jO0⟩;obtain ⟨jT,jB⟩:=jS;simp only [go_sem] at jT jB;have hgf:=c8 hgn;have m6:=fun r i=>s7 jA (hgf r i);have G3:=s8 (show gen<ga1 by omega);have G4:=o9 (show gen<ga1 by omega);have K6:=s8 (show ga0<ga1 by omega);have K3:=o9 (show ga0<ga1 by omega);clear hgn;rw [List.take_length] at jO0;obtain ⟨c,rfl⟩:=jO0.val;clear ih';rw [Fm.p9] at hv0;subst hv0;exact wk_
 | false =>
  rw [hq] at hQ hb1;clear hq;simp only [if_true,Bool.false_eq_true,if_false] at hb1;subst hb1;refine wq_ ?_;refine ar_ [1,2,6,7,41] [⟨gen,0,1⟩] (fun i σ=>g9 h σ.h∧∃ v,σ.h ⟨gen,1,6⟩=some (.box [.int .i64 t.kind,.int .i64 t.type.kind,.sl .any (t.type.args.map Ty.cells),.sl c1 ((t.r8.map fun x=>F x b).map Tm.cells),v])∧T7 h σ.h v 5 (((t.args.take i).map fun x=>x.rv F b).map Fm.cells)) (t.args).length ?_ ?_ ?_
  ·simp only [go_sem, *]
   first|exact ⟨_,rfl,.inl rfl⟩|exact ⟨ag_,_,rfl,.inl rfl⟩
  ·clear hv0
   intro i σ gr1 M8 hgn hlt jI jN jS ⟨jA,v,jb',jO0⟩;obtain ⟨jT,jB⟩:=jS;simp only [go_sem] at jT jB;have hgf:=c8 hgn;have m6:=fun r i=>s7 jA (hgf r i);have G2:=s8 (show gen<gr1 by omega);have G8:=o9 (show gen<gr1 by omega);have K8:=s8 (show ga0<gr1 by omega);have K5:=o9 (show ga0<gr1 by omega);obtain ⟨x,hx,hxm,hm⟩:=rnx hlt;clear hgn;have hc:=ih' x hxm b;have hts:((t.args.take (i+1)).map fun x=>x.rv F b).map Fm.cells=((t.args.take i).map fun x=>x.rv F b).map Fm.cells++[(x.rv F b).cells]:=by rw [B4 hx,List.map_append];rfl
   have hA':=(jA A (by rw [hA];simp)).trans hA;have hB':=(jA B (by rw [hB];simp)).trans hB;have g5:=u6 hfr hA (show gen<gr1 by omega);have g6:=u6 hfr hB (show gen<gr1 by omega);clear ih' hA hB
   repeat' (first
    |(refine ⟨?_,?_⟩;focus ((repeat' (first|refine ⟨?_,?_⟩|refine .inr ?_));all_goals kernel_rfl))
    |(refine G9 jO0 kp_ rfl so_ fr_ sg_ lo_ ?_;intro v' h' id' jO jK jAg jAb jF;obtain ⟨cO,rfl⟩:=jO.val;simp only [go_sem, *])
    | (first|refine wp rfl ?_|refine spt rfl ?_|refine spf rfl ?_|(refine spl (fun hc=>?_) fun hc=>?_)<;>(try rw [beq_iff_eq] at hc)<;>try simp only [hc]|(refine U5 (hc) ?_ ?_;(focus ((simp only [go_sem, *]<;>(repeat (first|assumption|rfl|refine And.intro ?_ ?_)));done)))|refine u7 ?_)<;>try simp only [go_sem, *])
   refine ⟨?_,_,rfl,jO.ak5 (F4.box (F4.refl _) sg_)⟩;exact g9.new (jAg ag_) (c6 _ _)
  ·
   intro σ ga1 M7 hgn jS ⟨jA,v,jb',jO0⟩;obtain ⟨jT,jB⟩:=jS;simp only [go_sem] at jT jB;have hgf:=c8 hgn;have m6:=fun r i=>s7 jA (hgf r i);have G3:=s8 (show gen<ga1 by omega);have G4:=o9 (show gen<ga1 by omega);have K6:=s8 (show ga0<ga1 by omega);have K3:=o9 (show ga0<ga1 by omega);clear hgn;rw [List.take_length] at jO0;obtain ⟨c,rfl⟩:=jO0.val;clear ih';rw [Fm.p9] at hv0;subst hv0;exact wk_
theorem ce3 (n:Int):Pure Tryz.prog env 123 [.int .i64 n] (.bool (decide (n≥0)&&decide (n≤4096))):=by
 intro h;cases q1:decide (n≥0)<;>cases q2:decide (n≤4096)<;>simp only [Bool.false_and,Bool.true_and]
 all_goals
  exact ek_ Tryz.func123 [.tmp 2]
end Go.Proofs.YteaijonkbbkkjaaGreatDoor
