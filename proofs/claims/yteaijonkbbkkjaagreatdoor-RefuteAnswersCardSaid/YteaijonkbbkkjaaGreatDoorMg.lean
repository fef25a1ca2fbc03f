/-
 Walks: several parts in one text.
-/
import Derived.Test.YteaijonkbbkkjaaGreatDoorMc
import Derived.Test.YteaijonkbbkkjaaGreatDoorMb
import Derived.Test.YteaijonkbbkkjaaGreatDoorAbsD
set_option linter.unusedSimpArgs false
set_option linter.unusedVariables false
set_option maxRecDepth 20000
set_option maxHeartbeats 4000000
namespace Go.Proofs.YteaijonkbbkkjaaGreatDoor
open Go GoAbs Go.Proofs
theorem be8 (t:Ty):Pure Tryz.prog env 133 [.agg t.cells] (.bool (aa0 t)):=by
 intro h;unfold aa0;cases hk:(t.kind==0) with
 | true =>
  refine en_ Tryz.func133 [.tmp 2] fun g0 w0 gen b7 hfr c6 m0=>?_
  repeat' (first
   |exact hin _|exact agf as_
   | (first|refine wp rfl ?_|(refine gs (fun hb=>?_) fun hb=>?_)<;>try simp only [Bool.not_true,Bool.not_false] at hb|refine A9 b7 ?_ ?_ ?_)<;>try simp only [go_sem, *])
  all_goals simp
 | false =>
  refine en_ Tryz.func133 [.tmp 2] fun g0 w0 gen b7 hfr c6 m0=>?_
  first|refine wq_ ?_|exact wk_
  all_goals simp
theorem bL2:∀ t:Ty,TyW t→Pure Tryz.prog env 182 [.agg t.cells] (.bool t.G5):=by
 intro t
 induction t using Ty.ind with|h t ih=>?_
 intro ht h;have hlen:=ht.len;have ih':∀ x∈t.args,Pure Tryz.prog env 182 [.agg x.cells] (.bool x.G5):=fun x hx=>ih x hx (ht.arg hx);clear ih;have hv0:=t.at3.symm;generalize hvv:t.G5=v at hv0 ⊢;clear hvv;refine en_ Tryz.func182 [.tmp 2] fun g0 w0 gen b7 hfr c6 m0=>?_
 repeat' (first
  |refine aV1 (id:=0) (fun σ=>σ.tm 1=.ptr ⟨gen,0,0⟩ 0∧σ.h ⟨gen,0,0⟩=some (.box t.cells)∧g9 h σ.h∧∃ w,ap7 t.kind=some w∧σ.tm 3=.int .i64 w) ?_ ?_
  |refine D6 ?_|refine I1 ?_|refine F2 ?_|refine A8 ?_|refine I4 ?_|refine A3 ?_|refine B5 ?_|refine A4 ?_
  |refine A0 (by decide) ?_|refine Q0 ?_|refine K2 ?_
  |(refine ⟨?_,?_⟩;focus ((repeat' (first|refine ⟨?_,?_⟩|refine .inr ?_));all_goals kernel_rfl))
  |refine E3 rfl ?_|refine E4 rfl ?_|(refine H5 rfl (fun hc=>?_) (fun hc=>?_)<;>(try rw [beq_iff_eq] at hc)<;>(try simp only [hc]))
  | ((first|refine B6 ?_|(refine z9 (fun hb=>?_) (fun hb=>?_)<;>(try simp only [Bool.not_true,Bool.not_false] at hb))|refine u7 ?_|refine aB5 b7 (by first|exact hin _|simp only [go_sem,and_self]) ag_ ?_)<;>simp only [go_sem, *]))
 ·exact ⟨.new (.refl _) (c6 _ _),0,rfl,rfl⟩
 ·exact ⟨.new (.refl _) (c6 _ _),0,rfl,rfl⟩
 ·exact ⟨.new (.refl _) (c6 _ _),0,rfl,rfl⟩
 ·exact ⟨.new (.refl _) (c6 _ _),2,rfl,rfl⟩
 ·exact ⟨.new (.refl _) (c6 _ _),2,rfl,rfl⟩
 ·rw [← hv0];simp [ap7, *]
 intro σ ⟨j1,j2,j3,w,j4,j5⟩;rw [j4] at hv0;simp only at hv0;clear j4;cases hw:((t.args.length:Int)==w) with
 | false =>
  have hw':((t.args.length:Int) != w)=true:=by simp [bne,hw]
  rw [hw,Bool.false_and] at hv0;subst hv0;clear hw ih';exact wk_
 | true =>
  have hw':((t.args.length:Int) != w)=false:=by simp [bne,hw]
  rw [hw,Bool.true_and] at hv0;clear hw;refine wq_ ?_;refine ar_ [21] [] (fun i σ=>g9 h σ.h∧(t.args.drop i).all Ty.G5=v) (t.args).length ?_ ?_ ?_
  ·simp only [go_sem, *]
   all_goals exact hv0
  ·clear hv0 hw' j5
   intro i σ gr0 l6 hgn hlt jI jN jS ⟨jA,jv⟩;obtain ⟨jT,jB⟩:=jS;simp only [go_sem] at jT jB;obtain ⟨hgf,m6,n7,n8⟩:=rnd hgn l6 jA;obtain ⟨x,hx,hxm,hm⟩:=rnx hlt;clear hgn;rw [A2 hx,List.all_cons] at jv;have hc:=ih' x hxm;clear ih';cases hn:x.G5 with
   | false =>
    rw [hn] at hc;rw [hn,Bool.false_and] at jv;subst jv;exact wk_
   | true =>
    rw [hn] at hc;rw [hn,Bool.true_and] at jv;refine wq_ ?_
    first|exact ag_|exact ⟨ag_,jv⟩
  ·clear hv0 hw' j5
   intro σ ga0 l9 hgn jS ⟨jA,jv⟩;obtain ⟨jT,jB⟩:=jS;simp only [go_sem] at jT jB;obtain ⟨hgf,m6,n9,o0⟩:=rnd hgn l9 jA;clear hgn;rw [List.drop_length,List.all_nil] at jv;subst jv;clear ih';exact wk_
theorem ce6:∀ t:Ty,TyW t→Pure Tryz.prog env 183 [.agg t.cells] (.int .i64 t.szW):=by
 intro t
 induction t using Ty.ind with|h t ih=>?_
 intro ht h;have hlen:=ht.len;have ih':∀ x∈t.args,Pure Tryz.prog env 183 [.agg x.cells] (.int .i64 x.szW):=fun x hx=>ih x hx (ht.arg hx);clear ih;have hv0:=t.aY7.symm;generalize hvv:t.szW=v at hv0 ⊢;clear hvv;refine en_ Tryz.func183 [.tmp 2] fun g0 w0 gen b7 hfr c6 m0=>?_;refine wq_ ?_;refine ar_ [2,7] [] (fun i σ=>g9 h σ.h∧∃ n,σ.tm 3=.int .i64 n∧Ty.Z5 n (t.args.drop i)=v) (t.args).length ?_ ?_ ?_
 ·simp only [go_sem, *]
  exact ⟨ag_,_,rfl,hv0⟩
 ·clear hv0
  intro i σ gr0 l6 hgn hlt jI jN jS ⟨jA,n,jn,jv⟩;obtain ⟨jT,jB⟩:=jS;simp only [go_sem] at jT jB;obtain ⟨hgf,m6,n7,n8⟩:=rnd hgn l6 jA;obtain ⟨x,hx,hxm,hm⟩:=rnx hlt;clear hgn;rw [A2 hx,Ty.ab1] at jv;have hc:=ih' x hxm;clear ih';refine wq_ ?_;exact ⟨ag_,_,rfl,jv⟩
 ·clear hv0
  intro σ ga0 l9 hgn jS ⟨jA,n,jn,jv⟩;obtain ⟨jT,jB⟩:=jS;simp only [go_sem] at jT jB;obtain ⟨hgf,m6,n9,o0⟩:=rnd hgn l9 jA;clear hgn;rw [List.drop_length,Ty.af7] at jv;subst jv;clear ih';exact wk_
theorem ag2 (t:Ty) (ht:TyW t):Pure Tryz.prog env 136 [.agg t.cells] (.int .i64 (ac2 t)):=by
 intro h;have h1:=bL2 t ht;have h2:=ce6 t ht;have hsz:=t.Y2;have hv0:(chk 64 t.nodes).2=ac2 t:=rfl;generalize hvv:ac2 t=v at hv0 ⊢;clear hvv;unfold Ty.G5 at h1;cases hn:t.nodes with
 | none =>
  rw [hn] at h1 hv0;simp only [chk,Option.isSome_none] at h1 hv0;subst hv0;clear h2 hsz;exact ek_ Tryz.func136 [.tmp 2]
 | some n =>
  rw [hsz n hn] at h2;rw [hn] at h1 hv0;simp only [chk,Option.isSome_some] at h1 hv0;clear hsz hn;cases hd:decide (n>64) with
  | true =>
   have:64<n:=by simpa using hd
   rw [if_pos this] at hv0;subst hv0;exact ek_ Tryz.func136 [.tmp 2]
  | false =>
   have:¬ 64<n:=by simpa using hd
   rw [if_neg this] at hv0;subst hv0;exact ek_ Tryz.func136 [.tmp 2]
theorem ca6 (k:Int):Pure Tryz.prog env 181 [.int .i64 k] (.int .i64 (ai7 k)):=by
 intro h;have hv0:ai7 k=ai7 k:=rfl;generalize hvv:ai7 k=v at hv0 ⊢;clear hv0;refine en_ Tryz.func181 [.tmp 2] fun g0 w0 gen b7 hfr c6 m0=>?_
 repeat' (first
  |exact hin _|exact agf as_
  | (first|refine wp rfl ?_|refine spt rfl ?_|refine spf rfl ?_|(refine spl (fun hc=>?_) fun hc=>?_)<;>(try rw [beq_iff_eq] at hc)<;>try simp only [hc]|refine A9 b7 ?_ ?_ ?_)<;>try simp only [go_sem, *])
 all_goals (rw [← hvv];first|(simp_all [ai7];done)|rfl)
theorem be4:∀ t:Tm,TmW t→Pure Tryz.prog env 134 [.agg t.cells] (.bool t.G5):=by
 intro t
 induction t using Tm.ind with|h t ih=>?_
 intro ht h;have hlen:=ht.len;have ih':∀ x∈t.args,Pure Tryz.prog env 134 [.agg x.cells] (.bool x.G5):=fun x hx=>ih x hx (ht.arg hx);clear ih;have hA:=ca6 t.kind;have hZ:=be8 t.type;have hC:=ag2 t.type ht.ty;have hv0:=t.at3.symm;rw [bF0] at hv0;generalize hvv:t.G5=v at hv0 ⊢;clear hvv;cases h1:((t.args.length:Int) != ai7 t.kind) with
 | true =>
  simp only [h1,Bool.not_true,Bool.false_and] at hv0;subst hv0;clear ih' hZ hC;refine en_ Tryz.func134 [.tmp 2] fun g0 w0 gen b7 hfr c6 m0=>?_
  repeat' (first
   |(refine ⟨?_,?_⟩;focus ((repeat' (first|refine ⟨?_,?_⟩|refine .inr ?_));all_goals kernel_rfl))
   |exact hin _|exact agf as_
   | (first|refine wp rfl ?_|refine spt rfl ?_|refine spf rfl ?_|(refine spl (fun hc=>?_) fun hc=>?_)<;>(try rw [beq_iff_eq] at hc)<;>try simp only [hc]|(refine gs (fun hb=>?_) fun hb=>?_)<;>try simp only [Bool.not_true,Bool.not_false] at hb|refine cp hA ?_|refine A9 b7 ?_ ?_ ?_)<;>try simp only [go_sem, *])
 | false =>
 cases h2:decide (t.index<0) with
 | true =>
  simp only [h2,Bool.not_true,Bool.and_false,Bool.false_and] at hv0;subst hv0;clear ih' hZ hC;refine en_ Tryz.func134 [.tmp 2] fun g0 w0 gen b7 hfr c6 m0=>?_
  repeat' (first
   |(refine ⟨?_,?_⟩;focus ((repeat' (first|refine ⟨?_,?_⟩|refine .inr ?_));all_goals kernel_rfl))
   |exact hin _|exact agf as_
   | (first|refine wp rfl ?_|refine spt rfl ?_|refine spf rfl ?_|(refine spl (fun hc=>?_) fun hc=>?_)<;>(try rw [beq_iff_eq] at hc)<;>try simp only [hc]|(refine gs (fun hb=>?_) fun hb=>?_)<;>try simp only [Bool.not_true,Bool.not_false] at hb|refine cp hA ?_|refine A9 b7 ?_ ?_ ?_)<;>try simp only [go_sem, *])
 | false =>
 have hv1:(!(t.kind != 1&&t.index != 0)&&(if typed t.kind then ac2 t.type==0 else aa0 t.type)&&t.args.all Tm.G5)=v:=by simpa [h1,h2] using hv0
 clear hv0;refine en_ Tryz.func134 [.tmp 2] fun g0 w0 gen b7 hfr c6 m0=>?_
 repeat' (first
  |refine bU5 (id:=1) (fun σ=>σ.tm 1=.ptr ⟨gen,0,0⟩ 0∧σ.h ⟨gen,0,0⟩=some (.box t.cells)∧g9 h σ.h∧((if typed t.kind then ac2 t.type==0 else aa0 t.type)&&t.args.all Tm.G5)=v) ?_ ?_
  |refine D6 ?_|refine I1 ?_|refine F2 ?_|refine A8 ?_|refine I4 ?_|refine A3 ?_|refine B5 ?_|refine A4 ?_
  |refine A0 (by decide) ?_|refine Q0 ?_|refine K2 ?_
  |(refine ⟨?_,?_⟩;focus ((repeat' (first|refine ⟨?_,?_⟩|refine .inr ?_));all_goals kernel_rfl))
  |refine E3 rfl ?_|refine E4 rfl ?_|(refine H5 rfl (fun hc=>?_) (fun hc=>?_)<;>(try rw [beq_iff_eq] at hc)<;>(try simp only [hc]))
  | ((first|refine B6 ?_|(refine z9 (fun hb=>?_) (fun hb=>?_)<;>(try simp only [Bool.not_true,Bool.not_false] at hb))|refine u7 ?_|refine y9 (hA) ?_|refine aB5 b7 (by first|exact hin _|simp only [go_sem,and_self]) ag_ ?_)<;>simp only [go_sem, *]))
 rotate_right
 ·intro σ ⟨j1,j2,j3,hv2⟩
  clear h1 h2 hv1 hA
  repeat' (first
   |refine aV1 (id:=0) (fun σ=>σ.tm 1=.ptr ⟨gen,0,0⟩ 0∧σ.h ⟨gen,0,0⟩=some (.box t.cells)∧g9 h σ.h∧t.args.all Tm.G5=v) ?_ ?_
   |refine D6 ?_|refine I1 ?_|refine F2 ?_|refine A8 ?_|refine I4 ?_|refine A3 ?_|refine B5 ?_|refine A4 ?_
   |refine A0 (by decide) ?_|refine Q0 ?_|refine K2 ?_
   |(refine ⟨?_,?_⟩;focus ((repeat' (first|refine ⟨?_,?_⟩|refine .inr ?_));all_goals kernel_rfl))
   |refine E3 rfl ?_|refine E4 rfl ?_|(refine H5 rfl (fun hc=>?_) (fun hc=>?_)<;>(try rw [beq_iff_eq] at hc)<;>(try simp only [hc]))
   | ((first|refine B6 ?_|(refine z9 (fun hb=>?_) (fun hb=>?_)<;>(try simp only [Bool.not_true,Bool.not_false] at hb))|refine u7 ?_|refine y9 (hZ) ?_|refine y9 (hC) ?_|refine aB5 b7 (by first|exact hin _|simp only [go_sem,and_self]) ag_ ?_)<;>simp only [go_sem, *]))
  rotate_right
  ·intro σ ⟨j1,j2,j3,hv3⟩
   clear hZ hC hv2
   repeat' (first
    |(refine ⟨?_,?_⟩;focus ((repeat' (first|refine ⟨?_,?_⟩|refine .inr ?_));all_goals kernel_rfl))
    |exact hin _|exact agf as_
    | (first|refine wp rfl ?_|refine spt rfl ?_|refine spf rfl ?_|(refine spl (fun hc=>?_) fun hc=>?_)<;>(try rw [beq_iff_eq] at hc)<;>try simp only [hc]|(refine gs (fun hb=>?_) fun hb=>?_)<;>try simp only [Bool.not_true,Bool.not_false] at hb|refine A9 b7 ?_ ?_ ?_)<;>try simp only [go_sem, *])
   refine ar_ [42] [] (fun i σ=>g9 h σ.h∧(t.args.drop i).all Tm.G5=v) (t.args).length ?_ ?_ ?_
   ·simp only [go_sem, *]
    all_goals exact hv3
   ·clear hv3
    intro i σ gr0 l6 hgn hlt jI jN jS ⟨jA,jv⟩;obtain ⟨jT,jB⟩:=jS;simp only [go_sem] at jT jB;obtain ⟨hgf,m6,n7,n8⟩:=rnd hgn l6 jA;obtain ⟨x,hx,hxm,hm⟩:=rnx hlt;clear hgn;rw [A2 hx,List.all_cons] at jv;have hc:=ih' x hxm;clear ih';cases hn:x.G5 with
    | false =>
     rw [hn] at hc;rw [hn,Bool.false_and] at jv;subst jv
     repeat' (first
      |(refine ⟨?_,?_⟩;focus ((repeat' (first|refine ⟨?_,?_⟩|refine .inr ?_));all_goals kernel_rfl))
      |exact hin _|exact agf as_
      | (first|refine wp rfl ?_|refine spt rfl ?_|refine spf rfl ?_|(refine spl (fun hc=>?_) fun hc=>?_)<;>(try rw [beq_iff_eq] at hc)<;>try simp only [hc]|(refine gs (fun hb=>?_) fun hb=>?_)<;>try simp only [Bool.not_true,Bool.not_false] at hb|refine cp hc ?_|refine A9 b7 ?_ ?_ ?_)<;>try simp only [go_sem, *])
    | true =>
     rw [hn] at hc;rw [hn,Bool.true_and] at jv
     repeat' (first
      |(refine ⟨?_,?_⟩;focus ((repeat' (first|refine ⟨?_,?_⟩|refine .inr ?_));all_goals kernel_rfl))
      |exact hin _|exact agf as_
      | (first|refine wp rfl ?_|refine spt rfl ?_|refine spf rfl ?_|(refine spl (fun hc=>?_) fun hc=>?_)<;>(try rw [beq_iff_eq] at hc)<;>try simp only [hc]|(refine gs (fun hb=>?_) fun hb=>?_)<;>try simp only [Bool.not_true,Bool.not_false] at hb|refine u7 ?_|refine cp hc ?_|refine A9 b7 ?_ ?_ ?_)<;>try simp only [go_sem, *])
     first|exact ag_|exact ⟨ag_,jv⟩
   ·clear hv3
    intro σ ga0 l9 hgn jS ⟨jA,jv⟩;obtain ⟨jT,jB⟩:=jS;simp only [go_sem] at jT jB;obtain ⟨hgf,m6,n9,o0⟩:=rnd hgn l9 jA;clear hgn;rw [List.drop_length,List.all_nil] at jv;subst jv;clear ih'
    repeat' (first
     |(refine ⟨?_,?_⟩;focus ((repeat' (first|refine ⟨?_,?_⟩|refine .inr ?_));all_goals kernel_rfl))
     |exact hin _|exact agf as_
     | (first|refine wp rfl ?_|refine spt rfl ?_|refine spf rfl ?_|(refine spl (fun hc=>?_) fun hc=>?_)<;>(try rw [beq_iff_eq] at hc)<;>try simp only [hc]|(refine gs (fun hb=>?_) fun hb=>?_)<;>try simp only [Bool.not_true,Bool.not_false] at hb|refine A9 b7 ?_ ?_ ?_)<;>try simp only [go_sem, *])
  all_goals (clear ih' hZ hC;subst hv2;simp_all [typed,bne];done)
 all_goals (clear ih' hZ hC hA;subst hv1;first|(simp_all [typed,bne];done)|exact ⟨ag_,by simp_all [typed,bne]⟩)
theorem aC9:∀ t:Tm,TmW t→Pure Tryz.prog env 95 [.agg t.cells] (.int .i64 t.szW):=by
 intro t
 induction t using Tm.ind with|h t ih=>?_
 intro ht h;have hlen:=ht.len;have ih':∀ x∈t.args,Pure Tryz.prog env 95 [.agg x.cells] (.int .i64 x.szW):=fun x hx=>ih x hx (ht.arg hx);clear ih;have hv0:=t.aY7.symm;generalize hvv:t.szW=v at hv0 ⊢;clear hvv;refine en_ Tryz.func95 [.tmp 2] fun g0 w0 gen b7 hfr c6 m0=>?_;refine wq_ ?_;refine ar_ [2,7] [] (fun i σ=>g9 h σ.h∧∃ n,σ.tm 3=.int .i64 n∧Tm.Z5 n (t.args.drop i)=v) (t.args).length ?_ ?_ ?_
 ·simp only [go_sem, *]
  exact ⟨ag_,_,rfl,hv0⟩
 ·clear hv0
  intro i σ gr0 l6 hgn hlt jI jN jS ⟨jA,n,jn,jv⟩;obtain ⟨jT,jB⟩:=jS;simp only [go_sem] at jT jB;obtain ⟨hgf,m6,n7,n8⟩:=rnd hgn l6 jA;obtain ⟨x,hx,hxm,hm⟩:=rnx hlt;clear hgn;rw [A2 hx,Tm.ab1] at jv;have hc:=ih' x hxm;clear ih';refine wq_ ?_;exact ⟨ag_,_,rfl,jv⟩
 ·clear hv0
  intro σ ga0 l9 hgn jS ⟨jA,n,jn,jv⟩;obtain ⟨jT,jB⟩:=jS;simp only [go_sem] at jT jB;obtain ⟨hgf,m6,n9,o0⟩:=rnd hgn l9 jA;clear hgn;rw [List.drop_length,Tm.af7] at jv;subst jv;clear ih';exact wk_
theorem am0 (t:Tm) (ht:TmW t):Pure Tryz.prog env 91 [.agg t.cells] (.int .i64 (Z2 t)):=by
 intro h;have h1:=be4 t ht;have h2:=aC9 t ht;have hsz:=t.Y2;have hv0:(chk 4096 t.nodes).2=Z2 t:=rfl;generalize hvv:Z2 t=v at hv0 ⊢;clear hvv;unfold Tm.G5 at h1;cases hn:t.nodes with
 | none =>
  rw [hn] at h1 hv0;simp only [chk,Option.isSome_none] at h1 hv0;subst hv0;clear h2 hsz;exact ek_ Tryz.func91 [.tmp 2]
 | some n =>
  rw [hsz n hn] at h2;rw [hn] at h1 hv0;simp only [chk,Option.isSome_some] at h1 hv0;clear hsz hn;cases hd:decide (n>4096) with
  | true =>
   have:4096<n:=by simpa using hd
   rw [if_pos this] at hv0;subst hv0;exact ek_ Tryz.func91 [.tmp 2]
  | false =>
   have:¬ 4096<n:=by simpa using hd
   rw [if_neg this] at hv0;subst hv0;exact ek_ Tryz.func91 [.tmp 2]
theorem U2 (k:Int):Pure Tryz.prog env 135 [.int .i64 k] (.bool (Z3 k)):=by
 intro h;have hvv:Z3 k=Z3 k:=rfl;generalize hvv:Z3 k=v;refine en_ Tryz.func135 [.tmp 2] fun g0 w0 gen b7 hfr c6 m0=>?_
 repeat' (first
  |exact hin _|exact agf as_
  | (first|refine wp rfl ?_|(refine gs (fun hb=>?_) fun hb=>?_)<;>try simp only [Bool.not_true,Bool.not_false] at hb|refine A9 b7 ?_ ?_ ?_)<;>try simp only [go_sem, *])
 all_goals (rw [← hvv];simp_all [Z3])
theorem aD1:∀ t:Fm,FmW t→Pure Tryz.prog env 80 [.agg t.cells] (.int .i64 t.szW):=by
 intro t
 induction t using Fm.ind with|h t ih=>?_
 intro ht h;have hlen:=ht.len;have aF5:=ht.aE3;have ih':∀ x∈t.args,Pure Tryz.prog env 80 [.agg x.cells] (.int .i64 x.szW):=fun x hx=>ih x hx (ht.arg hx);clear ih;have hv0:=t.aY7.symm;generalize hvv:t.szW=v at hv0 ⊢;clear hvv;refine en_ Tryz.func80 [.tmp 2] fun g0 w0 gen b7 hfr c6 m0=>?_;refine wq_ ?_;refine ar_ [1,2,9] [⟨gen,0,0⟩] (fun i σ=>g9 h σ.h∧∃ n,σ.tm 3=.int .i64 n∧Fm.Z5 (Tm.Z5 n (t.r8.drop i)) t.args=v) (t.r8).length ?_ ?_ ?_
 ·simp only [go_sem, *]
  exact ⟨ag_,_,rfl,hv0⟩
 ·clear hv0 ih'
  intro i σ gr0 l6 hgn hlt jI jN jS ⟨jA,n,jn,jv⟩;obtain ⟨jT,jB⟩:=jS;simp only [go_sem] at jT jB;obtain ⟨hgf,m6,n7,n8⟩:=rnd hgn l6 jA;obtain ⟨x,hx,hxm,hm⟩:=rnx hlt;clear hgn;rw [A2 hx,Tm.ab1] at jv;have hc:=aC9 x (ht.term hxm);refine wq_ ?_;exact ⟨ag_,_,rfl,jv⟩
 clear hv0;intro σ ga0 l9 hgn jS ⟨jA,n,jn,jv⟩;obtain ⟨jT,jB⟩:=jS;simp only [go_sem] at jT jB;obtain ⟨hgf,m6,n9,o0⟩:=rnd hgn l9 jA;clear hgn;rw [List.drop_length,Tm.af7] at jv;refine wq_ ?_;refine ar_ [2,21] [] (fun i σ=>g9 h σ.h∧∃ n,σ.tm 3=.int .i64 n∧Fm.Z5 n (t.args.drop i)=v) (t.args).length ?_ ?_ ?_
 ·simp only [go_sem, *]
  first|exact ⟨_,rfl,jv⟩|exact ⟨ag_,_,rfl,jv⟩
 ·clear jv
  intro i σ gr1 M8 hgn hlt jI jN jS ⟨jA,n',jn',jv⟩;obtain ⟨jT,jB⟩:=jS;simp only [go_sem] at jT jB;have hgf:=c8 hgn;have m6:=fun r i=>s7 jA (hgf r i);have G2:=s8 (show gen<gr1 by omega);have G8:=o9 (show gen<gr1 by omega);have K8:=s8 (show ga0<gr1 by omega);have K5:=o9 (show ga0<gr1 by omega);obtain ⟨x,hx,hxm,hm⟩:=rnx hlt;clear hgn;rw [A2 hx,Fm.ab1] at jv;have hc:=ih' x hxm;clear ih';refine wq_ ?_;exact ⟨ag_,_,rfl,jv⟩
 ·clear jv
  intro σ ga1 M7 hgn jS ⟨jA,n',jn',jv⟩;obtain ⟨jT,jB⟩:=jS;simp only [go_sem] at jT jB;have hgf:=c8 hgn;have m6:=fun r i=>s7 jA (hgf r i);have G3:=s8 (show gen<ga1 by omega);have G4:=o9 (show gen<ga1 by omega);have K6:=s8 (show ga0<ga1 by omega);have K3:=o9 (show ga0<ga1 by omega);clear hgn;rw [List.drop_length,Fm.af7] at jv;subst jv;clear ih';exact wk_
end Go.Proofs.YteaijonkbbkkjaaGreatDoor
