/-
 Walks: several parts in one text.
-/
import Derived.Test.YteaijonkbbkkjaaGreatDoorMa
import Derived.Test.YteaijonkbbkkjaaGreatDoorAbsD
import Derived.Test.YteaijonkbbkkjaaGreatDoorMc
import Derived.Test.YteaijonkbbkkjaaGreatDoorAbsC
set_option linter.unusedSimpArgs false
set_option linter.unusedVariables false
set_option maxRecDepth 20000
set_option maxHeartbeats 4000000
namespace Go.Proofs.YteaijonkbbkkjaaGreatDoor
open Go GoAbs Go.Proofs
theorem B7 {a b:Int} {r:Bool} (h:(a==b)=r):(a != b)=!r:=by simp [bne,h]
theorem aP4:∀ {l l':List Ty},Ty.w6 l l'=true→l.length=l'.length
 | [],[],_=>rfl
 | a::l,b::l',h=>by simp only [Ty.w6,Bool.and_eq_true] at h;simp [aP4 h.2]
 | [],_::_,h=>by simp [Ty.w6] at h
 | _::_,[],h=>by simp [Ty.w6] at h
theorem aQ9:∀ {l l':List Tm},Tm.w6 l l'=true→l.length=l'.length
 | [],[],_=>rfl
 | a::l,b::l',h=>by simp only [Tm.w6,Bool.and_eq_true] at h;simp [aQ9 h.2]
 | [],_::_,h=>by simp [Tm.w6] at h
 | _::_,[],h=>by simp [Tm.w6] at h
theorem aS0:∀ {l l':List Fm},Fm.w6 l l'=true→l.length=l'.length
 | [],[],_=>rfl
 | a::l,b::l',h=>by simp only [Fm.w6,Bool.and_eq_true] at h;simp [aS0 h.2]
 | [],_::_,h=>by simp [Fm.w6] at h
 | _::_,[],h=>by simp [Fm.w6] at h
theorem bC2 {l l':List Ty} (h:((l.length:Int)==(l'.length:Int))=false):Ty.w6 l l'=false:=by
 cases e:Ty.w6 l l' with
 | true=>rw [aP4 e] at h;simp at h
 | false=>rfl
theorem au0 {l l':List Tm} (h:((l.length:Int)==(l'.length:Int))=false):Tm.w6 l l'=false:=by
 cases e:Tm.w6 l l' with
 | true=>rw [aQ9 e] at h;simp at h
 | false=>rfl
theorem bb6 {l l':List Fm} (h:((l.length:Int)==(l'.length:Int))=false):Fm.w6 l l'=false:=by
 cases e:Fm.w6 l l' with
 | true=>rw [aS0 e] at h;simp at h
 | false=>rfl
theorem ab9 {α β:Type} {l:List α} {l':List β} (h:((l.length:Int)==(l'.length:Int))=true):∀ (i:Nat) (x:α),l[i]? = some x→∃ y,l'[i]? = some y:=by
 intro i x hx;have:=(List.getElem?_eq_some_iff.1 hx).1;simp at h;exact ⟨_,List.getElem?_eq_getElem om_⟩
theorem an0:∀ a:Ty,TyW a→∀ b:Ty,TyW b→Pure Tryz.prog env 78 [.agg a.cells,.agg b.cells] (.bool (Ty.same a b)):=by
 intro a
 induction a using Ty.ind with|h a ih=>?_
 intro ha b hb h;have hlen:=ha.len;have ih':∀ x∈a.args,∀ y∈b.args,Pure Tryz.prog env 78 [.agg x.cells,.agg y.cells] (.bool (Ty.same x y)):=fun x hx y hy=>ih x hx (ha.arg hx) y (hb.arg hy);clear ih ha hb;have hse:=(Ty.ac5 a b).symm;generalize Ty.same a b=v at hse ⊢;cases k1:(a.kind==b.kind) with
 | false =>
  rw [k1] at hse;simp only [Bool.false_and] at hse;subst hse;have k1':=B7 k1;clear k1 ih';exact ek_ Tryz.func78 [.tmp 4]
 | true =>
 have k1':=B7 k1;cases k2:((a.args.length:Int)==(b.args.length:Int)) with
 | false =>
  rw [k1,bC2 k2] at hse;simp only [Bool.and_false] at hse;subst hse;have k2':=B7 k2;clear k1 k2 ih';exact ek_ Tryz.func78 [.tmp 4]
 | true =>
  have k2':=B7 k2;have I8:=ab9 k2;rw [k1] at hse;simp only [Bool.true_and] at hse;have hln:a.args.length≤b.args.length∧b.args.length≤a.args.length:=by simp at k2;omega
  clear k1 k2;simp only [Bool.not_true] at k1' k2';refine en_ Tryz.func78 [.tmp 4] fun g0 w0 gen b7 hfr c6 m0=>?_;refine wq_ ?_;refine ar_ [3,22] [⟨gen,0,1⟩] (fun i σ=>g9 h σ.h∧Ty.w6 (a.args.drop i) (b.args.drop i)=v) (a.args).length ?_ ?_ ?_
  ·simp only [go_sem, *]
   first|done|exact ag_|exact ⟨ag_,hse⟩|exact hse
  ·clear hse
   intro i σ gr0 l6 hgn hlt jI jN jS ⟨jA,jv⟩;obtain ⟨jT,jB⟩:=jS;simp only [go_sem] at jT jB;obtain ⟨hgf,m6,n7,n8⟩:=rnd hgn l6 jA;obtain ⟨x,hx,hxm,hm⟩:=rnx hlt;clear hgn;obtain ⟨y,hy⟩:=I8 i x hx;rw [A2 hx,A2 hy,Ty.w6] at jv;have hc:=ih' x hxm y (List.mem_of_getElem? hy);clear ih' I8;cases hxy:Ty.same x y with
   | false =>
    rw [hxy] at hc jv;simp only [Bool.false_and] at jv;subst jv;exact wk_
   | true =>
    rw [hxy] at hc jv;simp only [Bool.true_and] at jv;refine wq_ ?_
    first|done|exact ag_|exact ⟨ag_,jv⟩|exact jv
  ·clear hse
   intro σ ga0 l9 hgn jS ⟨jA,jv⟩;obtain ⟨jT,jB⟩:=jS;simp only [go_sem] at jT jB;obtain ⟨hgf,m6,n9,o0⟩:=rnd hgn l9 jA;clear hgn;have hq:a.args.length=b.args.length:=by omega
   rw [List.drop_length,hq,List.drop_length,Ty.w6] at jv;subst jv;clear ih' I8 hq hln;exact wk_
theorem bI0:∀ a:Tm,TmW a→∀ b:Tm,TmW b→Pure Tryz.prog env 206 [.agg a.cells,.agg b.cells] (.bool (Tm.same a b)):=by
 intro a
 induction a using Tm.ind with|h a ih=>?_
 intro ha b hb h;have hlen:=ha.len;have ih':∀ x∈a.args,∀ y∈b.args,Pure Tryz.prog env 206 [.agg x.cells,.agg y.cells] (.bool (Tm.same x y)):=fun x hx y hy=>ih x hx (ha.arg hx) y (hb.arg hy);have hT:=an0 a.type ha.ty b.type hb.ty;clear ih ha hb;have hse:=(Tm.ac5 a b).symm;generalize Tm.same a b=v at hse ⊢;cases k1:(a.kind==b.kind) with
 | false =>
  rw [k1] at hse;simp only [Bool.false_and] at hse;subst hse;have k1':=B7 k1;clear k1 ih';exact ek_ Tryz.func206 [.tmp 4]
 | true =>
 have k1':=B7 k1;rw [k1] at hse;simp only [Bool.true_and] at hse;cases k3:(a.index==b.index) with
 | false =>
  rw [k3] at hse;simp only [Bool.false_and] at hse;subst hse;have k3':=B7 k3;clear k1 k3 ih';exact ek_ Tryz.func206 [.tmp 4]
 | true =>
 have k3':=B7 k3;rw [k3] at hse;simp only [Bool.true_and] at hse;cases k4:Ty.same a.type b.type with
 | false =>
  rw [k4] at hse hT;simp only [Bool.false_and] at hse;subst hse;clear k1 k3 k4 ih';exact ek_ Tryz.func206 [.tmp 4]
 | true =>
 rw [k4] at hse hT;simp only [Bool.true_and] at hse;clear k1 k3 k4;cases k2:((a.args.length:Int)==(b.args.length:Int)) with
 | false =>
  rw [au0 k2] at hse;subst hse;have k2':=B7 k2;clear k2 ih';exact ek_ Tryz.func206 [.tmp 4]
 | true =>
  have k2':=B7 k2;have I8:=ab9 k2;have hln:a.args.length≤b.args.length∧b.args.length≤a.args.length:=by simp at k2;omega
  clear k2;simp only [Bool.not_true] at k1' k2' k3';refine en_ Tryz.func206 [.tmp 4] fun g0 w0 gen b7 hfr c6 m0=>?_;refine wq_ ?_;refine ar_ [3,37] [⟨gen,0,1⟩] (fun i σ=>g9 h σ.h∧Tm.w6 (a.args.drop i) (b.args.drop i)=v) (a.args).length ?_ ?_ ?_
  ·simp only [go_sem, *]
   first|done|exact ag_|exact ⟨ag_,hse⟩|exact hse
  ·clear hse
   intro i σ gr0 l6 hgn hlt jI jN jS ⟨jA,jv⟩;obtain ⟨jT,jB⟩:=jS;simp only [go_sem] at jT jB;obtain ⟨hgf,m6,n7,n8⟩:=rnd hgn l6 jA;obtain ⟨x,hx,hxm,hm⟩:=rnx hlt;clear hgn;obtain ⟨y,hy⟩:=I8 i x hx;rw [A2 hx,A2 hy,Tm.w6] at jv;have hc:=ih' x hxm y (List.mem_of_getElem? hy);clear ih' I8;cases hxy:Tm.same x y with
   | false =>
    rw [hxy] at hc jv;simp only [Bool.false_and] at jv;subst jv;exact wk_
   | true =>
    rw [hxy] at hc jv;simp only [Bool.true_and] at jv;refine wq_ ?_
    first|done|exact ag_|exact ⟨ag_,jv⟩|exact jv
  ·clear hse
   intro σ ga0 l9 hgn jS ⟨jA,jv⟩;obtain ⟨jT,jB⟩:=jS;simp only [go_sem] at jT jB;obtain ⟨hgf,m6,n9,o0⟩:=rnd hgn l9 jA;clear hgn;have hq:a.args.length=b.args.length:=by omega
   rw [List.drop_length,hq,List.drop_length,Tm.w6] at jv;subst jv;clear ih' I8 hq hln;exact wk_
theorem aE7:∀ a:Fm,FmW a→∀ b:Fm,FmW b→Pure Tryz.prog env 186 [.agg a.cells,.agg b.cells] (.bool (Fm.same a b)):=by
 intro a
 induction a using Fm.ind with|h a ih=>?_
 intro ha b hb h;have hlen:=ha.len;have ch4:=ha.aE3;have ih':∀ x∈a.args,∀ y∈b.args,Pure Tryz.prog env 186 [.agg x.cells,.agg y.cells] (.bool (Fm.same x y)):=fun x hx y hy=>ih x hx (ha.arg hx) y (hb.arg hy);have hT:=an0 a.type ha.ty b.type hb.ty;have ht':∀ x∈a.r8,∀ y∈b.r8,Pure Tryz.prog env 206 [.agg x.cells,.agg y.cells] (.bool (Tm.same x y)):=fun x hx y hy=>bI0 x (ha.term hx) y (hb.term hy);clear ih ha hb;have hse:=(Fm.ac5 a b).symm;generalize Fm.same a b=v at hse ⊢;cases k1:(a.kind==b.kind) with
 | false =>
  rw [k1] at hse;simp only [Bool.false_and] at hse;subst hse;have k1':=B7 k1;clear k1 ih' ht';exact ek_ Tryz.func186 [.tmp 4]
 | true =>
 have k1':=B7 k1;rw [k1] at hse;simp only [Bool.true_and] at hse;cases k4:Ty.same a.type b.type with
 | false =>
  rw [k4] at hse hT;simp only [Bool.false_and] at hse;subst hse;clear k1 k4 ih' ht';exact ek_ Tryz.func186 [.tmp 4]
 | true =>
 rw [k4] at hse hT;simp only [Bool.true_and] at hse;clear k1 k4;cases k3:((a.r8.length:Int)==(b.r8.length:Int)) with
 | false =>
  rw [au0 k3] at hse;simp only [Bool.false_and] at hse;subst hse;have k3':=B7 k3;clear k3 ih' ht';exact ek_ Tryz.func186 [.tmp 4]
 | true =>
 have k3':=B7 k3;have bT2:=ab9 k3;have cZ5:a.r8.length≤b.r8.length∧b.r8.length≤a.r8.length:=by simp at k3;omega
 clear k3;cases k2:((a.args.length:Int)==(b.args.length:Int)) with
 | false =>
  rw [bb6 k2] at hse;simp only [Bool.and_false] at hse;subst hse;have k2':=B7 k2;clear k2 ih' ht' bT2 cZ5;exact ek_ Tryz.func186 [.tmp 4]
 | true =>
  have k2':=B7 k2;have I8:=ab9 k2;have hln:a.args.length≤b.args.length∧b.args.length≤a.args.length:=by simp at k2;omega
  clear k2;simp only [Bool.not_true] at k1' k2' k3';refine en_ Tryz.func186 [.tmp 4] fun g0 w0 gen b7 hfr c6 m0=>?_;refine wq_ ?_;refine ar_ [2,3,41] [⟨gen,0,0⟩,⟨gen,0,1⟩] (fun i σ=>g9 h σ.h∧(Tm.w6 (a.r8.drop i) (b.r8.drop i)&&Fm.w6 a.args b.args)=v) (a.r8).length ?_ ?_ ?_
  ·simp only [go_sem, *]
   first|done|exact ag_|exact ⟨ag_,hse⟩|exact hse
  ·clear hse ih' I8
   intro i σ gr0 l6 hgn hlt jI jN jS ⟨jA,jv⟩;obtain ⟨jT,jB⟩:=jS;simp only [go_sem] at jT jB;obtain ⟨hgf,m6,n7,n8⟩:=rnd hgn l6 jA;obtain ⟨x,hx,hxm,hm⟩:=rnx hlt;clear hgn;obtain ⟨y,hy⟩:=bT2 i x hx;rw [A2 hx,A2 hy,Tm.w6] at jv;have hc:=ht' x hxm y (List.mem_of_getElem? hy);clear ht' bT2;cases hxy:Tm.same x y with
   | false =>
    rw [hxy] at hc jv;simp only [Bool.false_and] at jv;subst jv;exact wk_
   | true =>
    rw [hxy] at hc jv;simp only [Bool.true_and] at jv;refine wq_ ?_
    first|done|exact ag_|exact ⟨ag_,jv⟩|exact jv
  clear hse ht' bT2;intro σ ga0 l9 hgn jS ⟨jA,jv0⟩;obtain ⟨jT,jB⟩:=jS;simp only [go_sem] at jT jB;obtain ⟨hgf,m6,n9,o0⟩:=rnd hgn l9 jA;clear hgn;have hq:a.r8.length=b.r8.length:=by omega
  rw [List.drop_length,hq,List.drop_length,Tm.w6] at jv0;simp only [Bool.true_and] at jv0;clear hq cZ5;refine wq_ ?_;refine ar_ [3,58] [⟨gen,0,1⟩] (fun i σ=>g9 h σ.h∧Fm.w6 (a.args.drop i) (b.args.drop i)=v) (a.args).length ?_ ?_ ?_
  ·simp only [go_sem, *]
   first|done|exact ag_|exact ⟨ag_,jv0⟩|exact jv0
  ·clear jv0
   intro i σ gr1 M8 hgn hlt jI jN jS ⟨jA,jv⟩;obtain ⟨jT,jB⟩:=jS;simp only [go_sem] at jT jB;have hgf:=c8 hgn;have m6:=fun r i=>s7 jA (hgf r i);have G2:=s8 (show gen<gr1 by omega);have G8:=o9 (show gen<gr1 by omega);have K8:=s8 (show ga0<gr1 by omega);have K5:=o9 (show ga0<gr1 by omega);obtain ⟨x,hx,hxm,hm⟩:=rnx hlt;clear hgn;obtain ⟨y,hy⟩:=I8 i x hx;rw [A2 hx,A2 hy,Fm.w6] at jv;have hc:=ih' x hxm y (List.mem_of_getElem? hy);clear ih' I8;cases hxy:Fm.same x y with
   | false =>
    rw [hxy] at hc jv;simp only [Bool.false_and] at jv;subst jv;exact wk_
   | true =>
    rw [hxy] at hc jv;simp only [Bool.true_and] at jv;refine wq_ ?_
    first|done|exact ag_|exact ⟨ag_,jv⟩|exact jv
  ·clear jv0
   intro σ ga1 M7 hgn jS ⟨jA,jv⟩;obtain ⟨jT,jB⟩:=jS;simp only [go_sem] at jT jB;have hgf:=c8 hgn;have m6:=fun r i=>s7 jA (hgf r i);have G3:=s8 (show gen<ga1 by omega);have G4:=o9 (show gen<ga1 by omega);have K6:=s8 (show ga0<ga1 by omega);have K3:=o9 (show ga0<ga1 by omega);clear hgn;have hq:a.args.length=b.args.length:=by omega
   rw [List.drop_length,hq,List.drop_length,Fm.w6] at jv;subst jv;clear ih' I8 hq hln;exact wk_
theorem ah8:∀ t:Ty,TyW t→Pure Tryz.prog env 86 [.agg t.cells] (.agg t.cells):=by
 intro t
 induction t using Ty.ind with|h t ih=>?_
 intro ht h;have hlen:=ht.len;have ih':∀ x∈t.args,Pure Tryz.prog env 86 [.agg x.cells] (.agg x.cells):=fun x hx=>ih x hx (ht.arg hx);clear ih;refine en_ Tryz.func86 [.cell 2 27] fun g0 w0 gen b7 hfr c6 m0=>?_;refine wq_ ?_;refine ar_ [2,3,10] [⟨gen,0,1⟩] (fun i σ=>g9 h σ.h∧∃ v,σ.h ⟨gen,1,3⟩=some (.box [.int .i64 t.kind,v])∧T7 h σ.h v 2 ((t.args.take i).map Ty.cells)) (t.args).length ?_ ?_ ?_
 ·simp only [go_sem, *]
  exact ⟨ag_,_,rfl,.inl rfl⟩
 ·
  intro i σ gr0 l6 hgn hlt jI jN jS ⟨jA,v,jb,jO0⟩;obtain ⟨jT,jB⟩:=jS;simp only [go_sem] at jT jB;obtain ⟨hgf,m6,n7,n8⟩:=rnd hgn l6 jA;obtain ⟨x,hx,hxm,hm⟩:=rnx hlt;clear hgn;have hc:=ih' x hxm;have hts:(t.args.take (i+1)).map Ty.cells=(t.args.take i).map Ty.cells++[x.cells]:=by rw [B4 hx]
  clear ih'
  repeat' (first
   |(refine ⟨?_,?_⟩;focus ((repeat' (first|refine ⟨?_,?_⟩|refine .inr ?_));all_goals kernel_rfl))
   |(refine G9 jO0 kp_ rfl so_ fr_ sg_ lo_ ?_;intro v' h' id' jO jK jAg jAb jF;obtain ⟨cO,rfl⟩:=jO.val;simp only [go_sem, *])
   | (first|refine wp rfl ?_|refine spt rfl ?_|refine spf rfl ?_|(refine spl (fun hc=>?_) fun hc=>?_)<;>(try rw [beq_iff_eq] at hc)<;>try simp only [hc]|refine cp hc ?_|refine u7 ?_)<;>try simp only [go_sem, *])
  refine ⟨?_,_,rfl,jO.ak5 (F4.box (F4.refl _) sg_)⟩;exact g9.new (jAg ag_) (c6 _ _)
 ·
  intro σ ga0 l9 hgn jS ⟨jA,v,jb,jO0⟩;obtain ⟨jT,jB⟩:=jS;simp only [go_sem] at jT jB;obtain ⟨hgf,m6,n9,o0⟩:=rnd hgn l9 jA;clear hgn;rw [List.take_length] at jO0;obtain ⟨c,rfl⟩:=jO0.val;clear ih';refine wq_ ?_;rw [Ty.m8]
theorem dd6:∀ t:Tm,TmW t→Pure Tryz.prog env 143 [.agg t.cells] (.agg t.cells):=by
 intro t
 induction t using Tm.ind with|h t ih=>?_
 intro ht h;have hlen:=ht.len;have ih':∀ x∈t.args,Pure Tryz.prog env 143 [.agg x.cells] (.agg x.cells):=fun x hx=>ih x hx (ht.arg hx);have hO:=ah8 t.type ht.ty;clear ih;refine en_ Tryz.func143 [.cell 2 65] fun g0 w0 gen b7 hfr c6 m0=>?_;refine wq_ ?_;refine ar_ [2,3,15] [⟨gen,0,1⟩] (fun i σ=>g9 h σ.h∧∃ v,σ.h ⟨gen,1,8⟩=some (.box [.int .i64 t.kind,.int .i64 t.index,.int .i64 t.type.kind,.sl .any (t.type.args.map Ty.cells),v])∧T7 h σ.h v 5 ((t.args.take i).map Tm.cells)) (t.args).length ?_ ?_ ?_
 ·simp only [go_sem, *]
  exact ⟨ag_,_,rfl,.inl rfl⟩
 ·
  intro i σ gr0 l6 hgn hlt jI jN jS ⟨jA,v,jb,jO0⟩;obtain ⟨jT,jB⟩:=jS;simp only [go_sem] at jT jB;obtain ⟨hgf,m6,n7,n8⟩:=rnd hgn l6 jA;obtain ⟨x,hx,hxm,hm⟩:=rnx hlt;clear hgn;have hc:=ih' x hxm;have hts:(t.args.take (i+1)).map Tm.cells=(t.args.take i).map Tm.cells++[x.cells]:=by rw [B4 hx]
  clear ih'
  repeat' (first
   |(refine ⟨?_,?_⟩;focus ((repeat' (first|refine ⟨?_,?_⟩|refine .inr ?_));all_goals kernel_rfl))
   |(refine G9 jO0 kp_ rfl so_ fr_ sg_ lo_ ?_;intro v' h' id' jO jK jAg jAb jF;obtain ⟨cO,rfl⟩:=jO.val;simp only [go_sem, *])
   | (first|refine wp rfl ?_|refine spt rfl ?_|refine spf rfl ?_|(refine spl (fun hc=>?_) fun hc=>?_)<;>(try rw [beq_iff_eq] at hc)<;>try simp only [hc]|refine cp hc ?_|refine u7 ?_)<;>try simp only [go_sem, *])
  refine ⟨?_,_,rfl,jO.ak5 (F4.box (F4.refl _) sg_)⟩;exact g9.new (jAg ag_) (c6 _ _)
 ·
  intro σ ga0 l9 hgn jS ⟨jA,v,jb,jO0⟩;obtain ⟨jT,jB⟩:=jS;simp only [go_sem] at jT jB;obtain ⟨hgf,m6,n9,o0⟩:=rnd hgn l9 jA;clear hgn;rw [List.take_length] at jO0;obtain ⟨c,rfl⟩:=jO0.val;clear ih';refine wq_ ?_;rw [Tm.m8]
theorem aR1 (k:Int) (l:List Tm):Pure Tryz.prog env 166 [.int .i64 k,.sl .any (l.map Tm.cells)] (.agg (tm0 k l).cells):=by
 intro h;refine en_ Tryz.func166 [.cell 4 65] fun g0 w0 gen b7 hfr c6 m0=>?_
 first|refine wq_ ?_|exact wk_
 all_goals simp [tm0,Tm.p9,Ty.J5,Ty.J4]
theorem aL9 (i:Int):Pure Tryz.prog env 188 [.int .i64 i] (.agg (u5 i).cells):=by
 intro h;refine en_ Tryz.func188 [.cell 2 65] fun g0 w0 gen b7 hfr c6 m0=>?_
 first|refine wq_ ?_|exact wk_
 all_goals simp [u5,Tm.p9,Ty.J5,Ty.J4]
theorem ba1:Pure Tryz.prog env 180 [] (.agg r5.cells):=by
 intro h;refine en_ Tryz.func180 [.cell 0 27] fun g0 w0 gen b7 hfr c6 m0=>?_;refine wq_ ?_
 rfl
theorem ch7 (f:Tm) (l:List Tm) (hl:l.length≤1000) :
  Pure Tryz.prog env 208 [.agg f.cells,.sl .any (l.map Tm.cells)] (.agg (ap5 f l).cells):=by
 intro h;have hin:∀ S,InV S (.agg (ap5 f l).cells):=fun S=>by simp [InV,aw0]
 generalize hv:V.agg (ap5 f l).cells=v at hin ⊢;refine en_ Tryz.func208 [.cell 4 65] fun g0 w0 gen b7 hfr c6 m0=>?_;refine wq_ ?_;refine ar_ [2,4,7] [⟨gen,0,1⟩] (fun i σ=>g9 h σ.h∧∃ f':Tm,σ.h ⟨gen,0,0⟩=some (.box f'.cells)∧V.agg (ap5 f' (l.drop i)).cells=v) (l).length ?_ ?_ ?_
 ·simp only [go_sem, *]
  exact ⟨ag_,f,rfl,hv⟩
 ·
  intro i σ gr0 l6 hgn hlt jI jN jS ⟨jA,f',jf,jv⟩;obtain ⟨jT,jB⟩:=jS;simp only [go_sem] at jT jB;obtain ⟨hgf,m6,n7,n8⟩:=rnd hgn l6 jA;obtain ⟨x,hx,hxm,hm⟩:=rnx hlt;clear hgn;rw [A2 hx,av9] at jv;have hc:=aR1 3 [f',x];simp only [List.map_cons,List.map_nil] at hc;refine wq_ ?_;exact ⟨ag_,_,rfl,jv⟩
 ·
  intro σ ga0 l9 hgn jS ⟨jA,f',jf,jv⟩;obtain ⟨jT,jB⟩:=jS;simp only [go_sem] at jT jB;obtain ⟨hgf,m6,n9,o0⟩:=rnd hgn l9 jA;clear hgn;rw [List.drop_length,aD4] at jv;subst jv;exact wk_
def bw2 (l:List Ty) (b:Tm):Tm:=l.foldr (fun t b=>tmT 2 t [b]) b
theorem cc4 {l:List Ty} {b:Tm} {j:Nat} {x:Ty} (h:l[j]? = some x):tmT 2 x [bw2 (l.drop (j+1)) b]=bw2 (l.drop j) b:=by
 rw [A2 h];rfl
theorem bF7 (b:Tm) (l:List Ty) (hl:l.length≤1000) :
  Pure Tryz.prog env 235 [.agg b.cells,.sl .any (l.map Ty.cells)] (.agg (bw2 l b).cells):=by
 intro h;have hw0:IntKind.i64.wrap ((l.length:Int) - 1)=(l.length:Int) - 1:=w8 rfl om_ om_;refine en_ Tryz.func235 [.cell 4 65] fun g0 w0 gen b7 hfr c6 m0=>?_;refine wq_ ?_;refine B1 (fun i σ=>σ.tm 5=.int .i64 ((l.length:Int) - 1 - i)∧σ.tm 1=.sl .any (l.map Ty.cells)∧σ.tm 2=.ptr ⟨gen,0,0⟩ 0∧σ.tm 4=.ptr ⟨gen,0,1⟩ 0 ∧
  σ.h ⟨gen,0,0⟩=some (.box (bw2 (l.drop (l.length - i)) b).cells)∧σ.h ⟨gen,0,1⟩=some (.box [.int .i64 0,.int .i64 0,.int .i64 0,.sl .full [],.sl .full []])∧g9 h σ.h∧i≤l.length) l.length ?_ ?_
 ·have e:(l.drop (l.length - 0))=[]:=by simp
  simp only [go_sem, *,e];exact ⟨sp_,rfl,ag_,om_⟩
 intro i σ hi ⟨j1,j2,j3,j4,j5,j6,j7,j8⟩;clear j8;have hw1:IntKind.i64.wrap ((l.length:Int) - 1 - (i:Int) - 1)=(l.length:Int) - 1 - (i:Int) - 1:=w8 rfl om_ om_;rcases Nat.lt_or_ge i l.length with hlt|hge
 ·have hd:decide ((l.length:Int) - 1 - (i:Int)≥0)=true:=by simp;omega
  have e0:l.length - (i+1)+1=l.length - i:=by omega
  obtain ⟨x,hx⟩:∃ x,l[l.length - (i+1)]? = some x:=⟨_,List.getElem?_eq_getElem om_⟩;have hst:=cc4 (b:=b) hx;rw [e0] at hst;rw [← hst];have e2:((l.length:Int) - 1 - (i:Int)).toNat=l.length - (i+1):=by omega
  have e3:0≤(l.length:Int) - 1 - (i:Int):=by omega
  have e4:(l.length:Int) - 1 - ((i+1:Nat):Int)=(l.length:Int) - 1 - (i:Int) - 1:=by omega
  have e5:i+1≤l.length:=by omega
  clear hst;generalize bw2 (l.drop (l.length - i)) b=b' at *;have Y0:(tmT 2 x [b']).cells=[.int .i64 2,.int .i64 0,.int .i64 x.kind,.sl .any (x.args.map Ty.cells),.sl .any [b'.cells]]:=by simp [tmT,Tm.p9,Ty.J5,Ty.J4]
  clear hi
  repeat' (first
   |(refine ⟨?_,?_⟩;focus ((repeat' (first|refine ⟨?_,?_⟩|refine .inr ?_));all_goals kernel_rfl))
   | (first|refine wp rfl ?_|refine spt rfl ?_|refine spf rfl ?_|(refine spl (fun hc=>?_) fun hc=>?_)<;>(try rw [beq_iff_eq] at hc)<;>try simp only [hc])<;>try simp only [go_sem, *])
  refine ai3 ⟨gen,0,0⟩ sr_ ?_;refine u7 ?_;simp only [go_sem, *];exact ag_
 ·have hd:decide ((l.length:Int) - 1 - (i:Int)≥0)=false:=by simp;omega
  obtain rfl:i=l.length:=by omega
  have e6:l.drop (l.length - l.length)=l:=by simp
  rw [e6] at j5;exact wk_
theorem cV6 (k:Int) (t:Ty) (a b c:Tm):Pure Tryz.prog env 236 [.int .i64 k,.agg t.cells,.agg a.cells,.agg b.cells,.agg c.cells] (.agg (tmT k t [a,b,c]).cells):=by
 intro h;refine en_ Tryz.func236 [.cell 10 65] fun g0 w0 gen b7 hfr c6 m0=>?_
 first|refine wq_ ?_|exact wk_
 all_goals simp [tmT,Tm.p9,Ty.J5,Ty.J4]
theorem dd5 (a b:Tm):Pure Tryz.prog env 207 [.agg a.cells,.agg b.cells] (.agg (M3 a b).cells):=by
 intro h;refine en_ Tryz.func207 [.cell 4 45] fun g0 w0 gen b7 hfr c6 m0=>?_
 first|refine wq_ ?_|exact wk_
 all_goals simp [M3,Fm.p9,Ty.J5,Ty.J4]
theorem al1 (k:Int):Pure Tryz.prog env 189 [.int .i64 k] (.bool (decide (k≥4)&&decide (k≤7))):=by
 intro h;refine en_ Tryz.func189 [.tmp 2] fun g0 w0 gen b7 hfr c6 m0=>?_
 first|refine wq_ ?_|exact wk_
 all_goals simp [*]
theorem co0 (a b c:Tm):Pure Tryz.prog env 222 [.agg a.cells,.agg b.cells,.agg c.cells] (.agg (aY9 a (ad6 (ad6 b)) c).cells):=by
 intro h;have h1:=bF7 b [r5,r5] sp_;simp only [List.map_cons,List.map_nil] at h1;have h2:=cV6 6 r5 a (ad6 (ad6 b)) c;have e:bw2 [r5,r5] b=ad6 (ad6 b):=rfl;rw [e] at h1;refine en_ Tryz.func222 [.cell 6 65] fun g0 w0 gen b7 hfr c6 m0=>?_;have zq0:=ba1;refine wq_ ?_
 rfl
theorem cT5 (b:Tm):Pure Tryz.prog env 221 [.agg b.cells] (.agg (ad6 (ad6 b)).cells):=by
 intro h;have h1:=bF7 b [r5,r5] sp_;simp only [List.map_cons,List.map_nil] at h1;have e:bw2 [r5,r5] b=ad6 (ad6 b):=rfl;rw [e] at h1;have zq0:=ba1;exact ek_ Tryz.func221 [.cell 2 65]
theorem cG1:Pure Tryz.prog env 223 [] (.agg aq5.cells):=by
 intro h;have h0:=aR1 4 [];have h1:=bF7 (aY9 (tm0 4 []) (ad6 (ad6 (u5 1))) (u5 0)) [r5] sp_;simp only [List.map_cons,List.map_nil] at h0 h1;have e:bw2 [r5] (aY9 (tm0 4 []) (ad6 (ad6 (u5 1))) (u5 0))=aq5:=rfl;rw [e] at h1;refine en_ Tryz.func223 [.cell 0 65] fun g0 w0 gen b7 hfr c6 m0=>?_
 repeat' (first
  |exact hin _|exact agf as_
  | (first|refine wp rfl ?_|refine cp h0 ?_|refine cp (aL9 _) ?_|refine cp (co0 _ _ _) ?_|refine cp ba1 ?_|refine cp h1 ?_|refine A9 b7 ?_ ?_ ?_)<;>try simp only [go_sem, *])
theorem cO2:Pure Tryz.prog env 209 [] (.agg an8.cells):=by
 intro h;have h0:=ch7 aq5 [u5 0] sp_;simp only [List.map_cons,List.map_nil] at h0;have e:ap5 aq5 [u5 0]=tm0 3 [aq5,u5 0]:=rfl;rw [e] at h0;refine en_ Tryz.func209 [.cell 0 65] fun g0 w0 gen b7 hfr c6 m0=>?_
 repeat' (first
  |exact hin _|exact agf as_
  | (first|refine wp rfl ?_|refine cp cG1 ?_|refine cp h0 ?_|refine cp (aL9 _) ?_|refine cp (co0 _ _ _) ?_|refine cp (cT5 _) ?_|refine A9 b7 ?_ ?_ ?_)<;>try simp only [go_sem, *])
 rfl
theorem cl4 (s t:Tm):Pure Tryz.prog env 187 [.agg s.cells,.agg t.cells] (.agg (J3 s t).cells):=by
 intro h;have h0:=ch7 an8 [tm0 5 [s],t] sp_;have h1:=aR1 5 [s];have h2:=aR1 4 [];simp only [List.map_cons,List.map_nil] at h0 h1 h2;have e:ap5 an8 [tm0 5 [s],t]=tm0 3 [tm0 3 [an8,tm0 5 [s]],t]:=rfl;rw [e] at h0;refine en_ Tryz.func187 [.cell 4 45] fun g0 w0 gen b7 hfr c6 m0=>?_
 repeat' (first
  |(refine ⟨?_,?_⟩;focus ((repeat' (first|refine ⟨?_,?_⟩|refine .inr ?_));all_goals kernel_rfl))
  |exact hin _|exact agf as_
  | (first|refine wp rfl ?_|refine cp cO2 ?_|refine cp h0 ?_|refine cp h1 ?_|refine cp h2 ?_|refine cp (dd5 _ _) ?_|refine A9 b7 ?_ ?_ ?_)<;>try simp only [go_sem, *])
 rfl
theorem bm9 (all:Bool):Pure Tryz.prog env 185 [.bool all] (.tup [.int .i64 (if all then 4 else 5),.int .i64 (if all then 3 else 2)]):=by
 intro h;cases all
 all_goals
  exact ek_ Tryz.func185 [.tmp 2,.tmp 3]
end Go.Proofs.YteaijonkbbkkjaaGreatDoor
