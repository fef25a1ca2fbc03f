/-
 Walks: several parts in one text.
-/
import Derived.Test.YteaijonkbbkkjaaGreatDoorNy
import Derived.Test.YteaijonkbbkkjaaGreatDoorMd
import Derived.Test.YteaijonkbbkkjaaGreatDoorAbsD
import Derived.Test.YteaijonkbbkkjaaGreatDoorNx
import Derived.Test.YteaijonkbbkkjaaGreatDoorMa
set_option linter.unusedSimpArgs false
set_option linter.unusedVariables false
set_option maxRecDepth 20000
set_option maxHeartbeats 4000000
namespace Go.Proofs.YteaijonkbbkkjaaGreatDoor
open Go GoAbs Go.Proofs
theorem cv1:C6.cells=[.int .i64 0,.int .i64 0,.int .i64 0,.sl .any [],.sl .any []]:=by simp [C6,Tm.p9,Ty.J5,Ty.J4]
theorem bw4:O3.cells=[.int .i64 0,.int .i64 0,.sl .any [],.sl .any [],.sl .any []]:=by simp [O3,Fm.p9,Ty.J5,Ty.J4]
theorem cm9 (t:Tm) (ht:TmW t) (fr b:Int):Pure Tryz.prog env 107 [.agg t.cells,.int .i64 fr,.int .i64 b] (bC9 (af4 t fr b)):=by
 intro h;have h1:=am0 t ht;have h2:=aO8 536870912 t ht;have h3:=bn2 b t ht fr;have h4:=ao2 _ (bk6 (b:=b) t fr ht);have hz:=cv1;unfold af4 bC9;cases k1:(Z2 t != 0) with
 | true =>
  simp only [if_true,hz];clear h2 h3 h4;exact ek_ Tryz.func107 [.cell 6 65,.tmp 7]
 | false =>
 simp only [Bool.false_eq_true,if_false];cases k2:decide (fr<0) with
 | true =>
  simp only [Bool.true_or,if_true,hz];clear h2 h3 h4;exact ek_ Tryz.func107 [.cell 6 65,.tmp 7]
 | false =>
 cases k3:decide (fr>4096) with
 | true =>
  simp only [Bool.or_true,Bool.true_or,if_true,hz];clear h2 h3 h4;exact ek_ Tryz.func107 [.cell 6 65,.tmp 7]
 | false =>
 cases k4:decide (b<0) with
 | true =>
  simp only [Bool.or_true,Bool.true_or,if_true,hz];clear h2 h3 h4;exact ek_ Tryz.func107 [.cell 6 65,.tmp 7]
 | false =>
 cases k5:decide (b>4096) with
 | true =>
  simp only [Bool.or_true,Bool.true_or,if_true,hz];clear h2 h3 h4;exact ek_ Tryz.func107 [.cell 6 65,.tmp 7]
 | false =>
 cases k6:t.least 536870912 with
 | false =>
  rw [k6] at h2;simp only [Bool.not_false,Bool.or_true,if_true,hz];clear h3 h4;exact ek_ Tryz.func107 [.cell 6 65,.tmp 7]
 | true =>
  rw [k6] at h2;simp only [Bool.not_true,Bool.or_false,Bool.false_eq_true,if_false];exact ek_ Tryz.func107 [.cell 6 65,.tmp 7]
theorem ba3 (s t:Tm) (hs:TmW s) (ht:TmW t):Pure Tryz.prog env 146 [.agg s.cells,.agg t.cells] (.agg (J3 s t).cells):=by
 intro h;have w1:TmW (tm0 5 [s]):=Y6 hs;have w2:TmW (tm0 3 [an8,tm0 5 [s]]):=M1 aa8 w1;have w3:TmW (tm0 3 [tm0 3 [an8,tm0 5 [s]],t]):=M1 w2 ht;have h1:=c_N 5 [s] sp_ (by simp [hs]);have h2:=c_N 3 [an8,tm0 5 [s]] sp_ (by simp [aa8,w1]);have h3:=c_N 3 [tm0 3 [an8,tm0 5 [s]],t] sp_ (by simp [w2,ht]);have h4:=c_N 4 [] sp_ sp_;have h5:=cH6 _ _ w3 (Z9 (k:=4));simp only [List.map_cons,List.map_nil] at h1 h2 h3 h4;clear w1 w2 w3;unfold J3;generalize tm0 3 [tm0 3 [an8,tm0 5 [s]],t]=z3 at *;generalize tm0 3 [an8,tm0 5 [s]]=z2 at *;generalize tm0 5 [s]=z1 at *;have zq0:=cK0;exact ek_ Tryz.func146 [.cell 4 45]
theorem cr7 (s t:Tm) (hs:TmW s) (ht:TmW t):Pure Tryz.prog env 108 [.agg s.cells,.agg t.cells] (Y5 (aw7 s t)):=by
 intro h;have h1:=am0 s hs;have h2:=am0 t ht;have h3:=ba3 s t hs ht;have wl:=av2 hs ht;have h4:=aD1 _ wl;have bF6:(J3 s t).r8=[ft (J3 s t) 0,tm0 4 []]:=rfl;have h5:=aC9 (ft (J3 s t) 0) (wl.term (by rw [bF6];simp));have hz:=bw4;unfold aw7 Y5;clear wl;generalize ft (J3 s t) 0=z at *;generalize J3 s t=y at *;cases k1:(Z2 s != 0) with
 | true =>
  simp only [if_true,hz];clear h2 h3 h4 h5 bF6;exact ek_ Tryz.func108 [.cell 4 45,.tmp 5]
 | false =>
 simp only [Bool.false_eq_true,if_false];cases k2:(Z2 t != 0) with
 | true =>
  simp only [if_true,hz];clear h3 h4 h5 bF6;exact ek_ Tryz.func108 [.cell 4 45,.tmp 5]
 | false =>
 simp only [Bool.false_eq_true,if_false];cases k3:decide (z.szW>4096) with
 | true =>
  simp only [Bool.true_or,if_true,hz];clear h4;exact ek_ Tryz.func108 [.cell 4 45,.tmp 5]
 | false =>
 cases k4:decide (y.szW>4096) with
 | true =>
  simp only [Bool.or_true,if_true,hz];exact ek_ Tryz.func108 [.cell 4 45,.tmp 5]
 | false =>
  simp only [Bool.or_false,Bool.false_eq_true,if_false];exact ek_ Tryz.func108 [.cell 4 45,.tmp 5]
theorem bq6 (all:Bool) (t:Tm) (ht:TmW t) (f:Fm) (hf:FmW f):Pure Tryz.prog env 66 [.bool all,.agg t.cells,.agg f.cells] (Y5 (cI2 all t f)):=by
 intro h;have h1:=cm9 t ht 0 1;have h2:=V7 f hf;have wx:TmW (af4 t 0 1).1:=by
  unfold af4
  repeat' split
  all_goals first|exact aH6|exact bk6 _ _ ht
 have h3:=cr7 (u5 0) (af4 t 0 1).1 (D4 0) wx;have hz:=bw4;unfold cI2 Y5;generalize af4 t 0 1=p at *;obtain ⟨x,e⟩:=p;simp only [bC9] at h1 h3 wx ⊢;cases k1:(e != 0) with
 | true =>
  simp only [if_true,hz];clear h2 h3;exact ek_ Tryz.func66 [.cell 6 45,.tmp 7]
 | false =>
 simp only [Bool.false_eq_true,if_false];cases k2:(P5 f != 0) with
 | true =>
  simp only [if_true,hz];clear h3;exact ek_ Tryz.func66 [.cell 6 45,.tmp 7]
 | false =>
 simp only [Bool.false_eq_true,if_false];have wl:(aw7 (u5 0) x).2=0→(aw7 (u5 0) x).1=J3 (u5 0) x:=by
  unfold aw7
  repeat' split
  all_goals (intro h;first|rfl|(simp at h;simp [h] at *)|simp_all)
 cases k3:((aw7 (u5 0) x).2 != 0) with
 | true =>
  clear wl;generalize aw7 (u5 0) x=p at *;obtain ⟨y,e3⟩:=p;simp only [Y5] at h3 k3 ⊢;simp only [if_true,hz];have zq0:=aB8 0;exact ek_ Tryz.func66 [.cell 6 45,.tmp 7]
 | false =>
 simp only [Bool.false_eq_true,if_false];have wl:=wl (by simpa using k3);have wL:FmW (J3 (u5 0) x):=av2 (D4 0) wx;have hB:=cp3 (all:=all) wx hf;have h8:=aD1 _ hB;unfold J0 at h8 ⊢;generalize aw7 (u5 0) x=p at *;obtain ⟨y,e3⟩:=p;simp only [Y5] at h3 k3 wl;subst wl;have h4:=aV2 2 _ f wL hf;have h5:=bz1 5 r5 _ K4 (aJ8 (k:=2) wL hf);have h6:=aV2 3 _ f wL hf;have h7:=bz1 4 r5 _ K4 (aJ8 (k:=3) wL hf);have hV:=aB8 0;clear hB wL hf wx ht;cases all with
 | true =>
  simp only [if_true] at h8 ⊢;generalize J3 (u5 0) x=y at *;generalize E8 2 y f=y2 at *;generalize E8 3 y f=y3 at *;generalize fmQ 5 r5 y2=y5 at *;generalize fmQ 4 r5 y3=y4 at *;cases k4:decide (y4.szW>4096)
  all_goals
   simp only [if_true,Bool.false_eq_true,if_false,hz];have zq0:=D8;exact ek_ Tryz.func66 [.cell 6 45,.tmp 7]
 | false =>
  simp only [Bool.false_eq_true,if_false] at h8 ⊢;generalize J3 (u5 0) x=y at *;generalize E8 2 y f=y2 at *;generalize fmQ 5 r5 y2=y5 at *;clear h6 h7;cases k4:decide (y5.szW>4096)
  all_goals
   simp only [if_true,Bool.false_eq_true,if_false,hz];have zq0:=D8;exact ek_ Tryz.func66 [.cell 6 45,.tmp 7]
theorem bx5:∀ a:Tm,TmW a→∀ b:Tm,TmW b→Pure Tryz.prog env 210 [.agg a.cells,.agg b.cells] (.bool (Tm.same a b)):=by
 intro a
 induction a using Tm.ind with|h a ih=>?_
 intro ha b hb h;have hlen:=ha.len;have ih':∀ x∈a.args,∀ y∈b.args,Pure Tryz.prog env 210 [.agg x.cells,.agg y.cells] (.bool (Tm.same x y)):=fun x hx y hy=>ih x hx (ha.arg hx) y (hb.arg hy);have hT:=ah2 a.type ha.ty b.type hb.ty;clear ih ha hb;have hse:=(Tm.ac5 a b).symm;generalize Tm.same a b=v at hse ⊢;cases k1:(a.kind==b.kind) with
 | false =>
  rw [k1] at hse;simp only [Bool.false_and] at hse;subst hse;have k1':=B7 k1;clear k1 ih';exact ek_ Tryz.func210 [.tmp 4]
 | true =>
 have k1':=B7 k1;rw [k1] at hse;simp only [Bool.true_and] at hse;cases k3:(a.index==b.index) with
 | false =>
  rw [k3] at hse;simp only [Bool.false_and] at hse;subst hse;have k3':=B7 k3;clear k1 k3 ih';exact ek_ Tryz.func210 [.tmp 4]
 | true =>
 have k3':=B7 k3;rw [k3] at hse;simp only [Bool.true_and] at hse;cases k4:Ty.same a.type b.type with
 | false =>
  rw [k4] at hse hT;simp only [Bool.false_and] at hse;subst hse;clear k1 k3 k4 ih';exact ek_ Tryz.func210 [.tmp 4]
 | true =>
 rw [k4] at hse hT;simp only [Bool.true_and] at hse;clear k1 k3 k4;cases k2:((a.args.length:Int)==(b.args.length:Int)) with
 | false =>
  rw [au0 k2] at hse;subst hse;have k2':=B7 k2;clear k2 ih';exact ek_ Tryz.func210 [.tmp 4]
 | true =>
  have k2':=B7 k2;have I8:=ab9 k2;have hln:a.args.length≤b.args.length∧b.args.length≤a.args.length:=by simp at k2;omega
  clear k2;simp only [Bool.not_true] at k1' k2' k3';refine en_ Tryz.func210 [.tmp 4] fun g0 w0 gen b7 hfr c6 m0=>?_;refine wq_ ?_;refine ar_ [2,3] [⟨gen,0,0⟩,⟨gen,0,1⟩] (fun i σ=>g9 h σ.h∧Tm.w6 (a.args.drop i) (b.args.drop i)=v) (a.args).length ?_ ?_ ?_
  ·simp only [go_sem, *]
   first|done|exact ag_|exact ⟨ag_,hse⟩|exact hse
  ·clear hse
   intro i σ gr0 l6 hgn hlt jI jN jS ⟨jA,jv⟩;obtain ⟨jT,jB⟩:=jS;simp only [go_sem] at jT jB;obtain ⟨hgf,m6,n7,n8⟩:=rnd hgn l6 jA;obtain ⟨x,hx,hxm,hm⟩:=rnx hlt;clear hgn;obtain ⟨y,hy⟩:=I8 i x hx;rw [A2 hx,A2 hy,Tm.w6] at jv;have hc:=ih' x hxm y (List.mem_of_getElem? hy);clear ih' I8;cases hxy:Tm.same x y with
   | false =>
    rw [hxy] at hc jv;simp only [Bool.false_and] at jv;subst jv;exact wk_
   | true =>
    rw [hxy] at hc jv;simp only [Bool.true_and] at jv
    repeat' (first
     |(refine ⟨?_,?_⟩;focus ((repeat' (first|refine ⟨?_,?_⟩|refine .inr ?_));all_goals kernel_rfl))
     | (first|refine wp rfl ?_|refine spt rfl ?_|refine spf rfl ?_|(refine spl (fun hc=>?_) fun hc=>?_)<;>(try rw [beq_iff_eq] at hc)<;>try simp only [hc]|(refine gs (fun hb=>?_) fun hb=>?_)<;>try simp only [Bool.not_true,Bool.not_false] at hb|refine cp hc ?_|refine u7 ?_)<;>try simp only [go_sem, *])
    first|done|exact ag_|exact ⟨ag_,jv⟩|exact jv
  ·clear hse
   intro σ ga0 l9 hgn jS ⟨jA,jv⟩;obtain ⟨jT,jB⟩:=jS;simp only [go_sem] at jT jB;obtain ⟨hgf,m6,n9,o0⟩:=rnd hgn l9 jA;clear hgn;have hq:a.args.length=b.args.length:=by omega
   rw [List.drop_length,hq,List.drop_length,Tm.w6] at jv;subst jv;clear ih' I8 hq hln;exact wk_
theorem bc3 (a b:List Tm) (hlen:a.length≤100000) (hb:b.length≤100000) (wa:∀ x∈a,TmW x) (wb:∀ x∈b,TmW x) :
  Pure Tryz.prog env 191 [.sl .any (a.map Tm.cells),.sl .any (b.map Tm.cells)] (.bool (Tm.w6 a b)):=by
 intro h;have ih':∀ x∈a,∀ y∈b,Pure Tryz.prog env 210 [.agg x.cells,.agg y.cells] (.bool (Tm.same x y)):=fun x hx y hy=>bx5 x (wa x hx) y (wb y hy);clear wa wb;cases k2:((a.length:Int)==(b.length:Int)) with
 | false =>
  rw [au0 k2];have k2':=B7 k2;clear k2 ih';exact ek_ Tryz.func191 [.tmp 4]
 | true =>
  have k2':=B7 k2;have I8:=ab9 k2;have hln:a.length≤b.length∧b.length≤a.length:=by simp at k2;omega
  clear k2;simp only [Bool.not_true] at k2';have hse:Tm.w6 a b=Tm.w6 a b:=rfl;generalize hv:Tm.w6 a b=v at hse ⊢;clear hse;refine en_ Tryz.func191 [.tmp 4] fun g0 w0 gen b7 hfr c6 m0=>?_;refine wq_ ?_;refine ar_ [0,1] [] (fun i σ=>g9 h σ.h∧Tm.w6 (a.drop i) (b.drop i)=v) (a).length ?_ ?_ ?_
  ·simp only [go_sem, *]
   first|done|exact ag_|exact ⟨ag_,hv⟩|exact hv
  ·clear hv
   intro i σ gr0 l6 hgn hlt jI jN jS ⟨jA,jv⟩;obtain ⟨jT,jB⟩:=jS;simp only [go_sem] at jT jB;obtain ⟨hgf,m6,n7,n8⟩:=rnd hgn l6 jA;obtain ⟨x,hx,hxm,hm⟩:=rnx hlt;clear hgn;obtain ⟨y,hy⟩:=I8 i x hx;rw [A2 hx,A2 hy,Tm.w6] at jv;have hc:=ih' x hxm y (List.mem_of_getElem? hy);clear ih' I8;cases hxy:Tm.same x y with
   | false =>
    rw [hxy] at hc jv;simp only [Bool.false_and] at jv;subst jv;exact wk_
   | true =>
    rw [hxy] at hc jv;simp only [Bool.true_and] at jv
    repeat' (first
     |(refine ⟨?_,?_⟩;focus ((repeat' (first|refine ⟨?_,?_⟩|refine .inr ?_));all_goals kernel_rfl))
     | (first|refine wp rfl ?_|refine spt rfl ?_|refine spf rfl ?_|(refine spl (fun hc=>?_) fun hc=>?_)<;>(try rw [beq_iff_eq] at hc)<;>try simp only [hc]|refine cp hc ?_|refine u7 ?_)<;>try simp only [go_sem, *])
    first|done|exact ag_|exact ⟨ag_,jv⟩|exact jv
  ·clear hv
   intro σ ga0 l9 hgn jS ⟨jA,jv⟩;obtain ⟨jT,jB⟩:=jS;simp only [go_sem] at jT jB;obtain ⟨hgf,m6,n9,o0⟩:=rnd hgn l9 jA;clear hgn;have hq:a.length=b.length:=by omega
   rw [List.drop_length,hq,List.drop_length,Tm.w6] at jv;subst jv;clear ih' I8 hq hln;exact wk_
theorem aQ3:∀ a:Fm,FmW a→∀ b:Fm,FmW b→Pure Tryz.prog env 145 [.agg a.cells,.agg b.cells] (.bool (Fm.same a b)):=by
 intro a
 induction a using Fm.ind with|h a ih=>?_
 intro ha b hb h;have hlen:=ha.len;have ih':∀ x∈a.args,∀ y∈b.args,Pure Tryz.prog env 145 [.agg x.cells,.agg y.cells] (.bool (Fm.same x y)):=fun x hx y hy=>ih x hx (ha.arg hx) y (hb.arg hy);have hT:=ah2 a.type ha.ty b.type hb.ty;have hM:=bc3 a.r8 b.r8 ha.aE3 hb.aE3 (fun x hx=>ha.term hx) (fun x hx=>hb.term hx);clear ih ha hb;have hse:=(Fm.ac5 a b).symm;generalize Fm.same a b=v at hse ⊢;cases k1:(a.kind==b.kind) with
 | false =>
  rw [k1] at hse;simp only [Bool.false_and] at hse;subst hse;have k1':=B7 k1;clear k1 ih';exact ek_ Tryz.func145 [.tmp 4]
 | true =>
 have k1':=B7 k1;rw [k1] at hse;simp only [Bool.true_and] at hse;cases k4:Ty.same a.type b.type with
 | false =>
  rw [k4] at hse hT;simp only [Bool.false_and] at hse;subst hse;clear k1 k4 ih';exact ek_ Tryz.func145 [.tmp 4]
 | true =>
 rw [k4] at hse hT;simp only [Bool.true_and] at hse;clear k1 k4;cases k3:Tm.w6 a.r8 b.r8 with
 | false =>
  rw [k3] at hse hM;simp only [Bool.false_and] at hse;subst hse;clear k3 ih';exact ek_ Tryz.func145 [.tmp 4]
 | true =>
 rw [k3] at hse hM;simp only [Bool.true_and] at hse;clear k3;cases k2:((a.args.length:Int)==(b.args.length:Int)) with
 | false =>
  rw [bb6 k2] at hse;subst hse;have k2':=B7 k2;clear k2 ih';exact ek_ Tryz.func145 [.tmp 4]
 | true =>
  have k2':=B7 k2;have I8:=ab9 k2;have hln:a.args.length≤b.args.length∧b.args.length≤a.args.length:=by simp at k2;omega
  clear k2;simp only [Bool.not_true] at k1' k2';refine en_ Tryz.func145 [.tmp 4] fun g0 w0 gen b7 hfr c6 m0=>?_;refine wq_ ?_;refine ar_ [2,3] [⟨gen,0,0⟩,⟨gen,0,1⟩] (fun i σ=>g9 h σ.h∧Fm.w6 (a.args.drop i) (b.args.drop i)=v) (a.args).length ?_ ?_ ?_
  ·simp only [go_sem, *]
   first|done|exact ag_|exact ⟨ag_,hse⟩|exact hse
  ·clear hse
   intro i σ gr0 l6 hgn hlt jI jN jS ⟨jA,jv⟩;obtain ⟨jT,jB⟩:=jS;simp only [go_sem] at jT jB;obtain ⟨hgf,m6,n7,n8⟩:=rnd hgn l6 jA;obtain ⟨x,hx,hxm,hm⟩:=rnx hlt;clear hgn;obtain ⟨y,hy⟩:=I8 i x hx;rw [A2 hx,A2 hy,Fm.w6] at jv;have hc:=ih' x hxm y (List.mem_of_getElem? hy);clear ih' I8;cases hxy:Fm.same x y with
   | false =>
    rw [hxy] at hc jv;simp only [Bool.false_and] at jv;subst jv;exact wk_
   | true =>
    rw [hxy] at hc jv;simp only [Bool.true_and] at jv
    repeat' (first
     |(refine ⟨?_,?_⟩;focus ((repeat' (first|refine ⟨?_,?_⟩|refine .inr ?_));all_goals kernel_rfl))
     | (first|refine wp rfl ?_|refine spt rfl ?_|refine spf rfl ?_|(refine spl (fun hc=>?_) fun hc=>?_)<;>(try rw [beq_iff_eq] at hc)<;>try simp only [hc]|(refine gs (fun hb=>?_) fun hb=>?_)<;>try simp only [Bool.not_true,Bool.not_false] at hb|refine cp hc ?_|refine u7 ?_)<;>try simp only [go_sem, *])
    first|done|exact ag_|exact ⟨ag_,jv⟩|exact jv
  ·clear hse
   intro σ ga0 l9 hgn jS ⟨jA,jv⟩;obtain ⟨jT,jB⟩:=jS;simp only [go_sem] at jT jB;obtain ⟨hgf,m6,n9,o0⟩:=rnd hgn l9 jA;clear hgn;have hq:a.args.length=b.args.length:=by omega
   rw [List.drop_length,hq,List.drop_length,Fm.w6] at jv;subst jv;clear ih' I8 hq hln;exact wk_
end Go.Proofs.YteaijonkbbkkjaaGreatDoor
