/-
 Walks: several parts in one text.
-/
import Derived.Test.YteaijonkbbkkjaaGreatDoorMa
import Derived.Test.YteaijonkbbkkjaaGreatDoorAbsB
set_option linter.unusedSimpArgs false
set_option linter.unusedVariables false
set_option maxRecDepth 20000
namespace Go.Proofs.YteaijonkbbkkjaaGreatDoor
open Go GoAbs Go.Proofs
theorem bA1:∀ t:Ty,TyW t→Pure Tryz.prog env 155 [.agg t.cells] (Y3 t.nodes):=by
 intro t
 induction t using Ty.ind with|h t ih=>?_
 intro ht h;have hlen:=ht.len;have ih':∀ x∈t.args,Pure Tryz.prog env 155 [.agg x.cells] (Y3 x.nodes):=fun x hx=>ih x hx (ht.arg hx);clear ih;have hin:∀ S,InV S (Y3 t.nodes):=fun S=>by cases t.nodes<;>simp [Y3,InV,InL]
 generalize hv:Y3 t.nodes=v at hin ⊢;refine en_ Tryz.func155 [.tmp 2,.tmp 3] fun g0 w0 gen b7 hfr c6 m0=>?_
 repeat' (first
  |refine aV1 (id:=0) (fun σ=>σ.tm 1=.ptr ⟨gen,0,0⟩ 0∧σ.h ⟨gen,0,0⟩=some (.box t.cells)∧g9 h σ.h∧∃ w,ap7 t.kind=some w∧σ.tm 4=.int .i64 w) ?_ ?_
  |refine D6 ?_|refine I1 ?_|refine F2 ?_|refine A8 ?_|refine I4 ?_|refine A3 ?_|refine B5 ?_|refine A4 ?_
  |refine A0 (by decide) ?_|refine Q0 ?_|refine K2 ?_
  |(refine ⟨?_,?_⟩;focus ((repeat' (first|refine ⟨?_,?_⟩|refine .inr ?_));all_goals kernel_rfl))
  |refine E3 rfl ?_|refine E4 rfl ?_|(refine H5 rfl (fun hc=>?_) (fun hc=>?_)<;>(try rw [beq_iff_eq] at hc)<;>(try simp only [hc]))
  | ((first|refine B6 ?_|(refine z9 (fun hb=>?_) (fun hb=>?_)<;>(try simp only [Bool.not_true,Bool.not_false] at hb))|refine u7 ?_|refine aB5 b7 (by first|exact hin _|simp only [go_sem,and_self]) ag_ ?_)<;>simp only [go_sem, *]))
 ·exact ⟨.new (.refl _) (c6 _ _),0,rfl,rfl⟩
 ·exact ⟨.new (.refl _) (c6 _ _),0,rfl,rfl⟩
 ·exact ⟨.new (.refl _) (c6 _ _),0,rfl,rfl⟩
 ·exact ⟨.new (.refl _) (c6 _ _),2,rfl,rfl⟩
 ·exact ⟨.new (.refl _) (c6 _ _),2,rfl,rfl⟩
 ·rw [← hv,Ty.T0];simp [ap7,Y3, *]
 intro σ ⟨j1,j2,j3,w,j4,j5⟩;cases hw:((t.args.length:Int)==w) with
 | false =>
  have hw':((t.args.length:Int) != w)=true:=by simp [bne,hw]
  have hv':Y3 none=v:=by rw [← hv,Ty.T0,j4];simp [hw]
  subst hv';clear hw hv ih';exact wk_
 | true =>
  have hw':((t.args.length:Int) != w)=false:=by simp [bne,hw]
  have hv':Y3 (Ty.C0 1 t.args)=v:=by rw [← hv,Ty.T0,j4];simp [hw]
  clear hw hv;refine wq_ ?_;refine B1 (fun i σ=>σ.tm 27=.int .i64 i∧σ.tm 26=.int .i64 t.args.length∧σ.tm 25=.sl .any (t.args.map Ty.cells) ∧
   σ.h ⟨gen,0,0⟩=some (.box t.cells)∧g9 h σ.h∧∃ n,σ.tm 5=.int .i64 n∧Y3 (Ty.C0 n (t.args.drop i))=v) t.args.length ?_ ?_
  ·simp only [go_sem, *]
   exact ⟨rfl,_,rfl,hv'⟩
  clear j1 j2 j3 j5 hw' hv';clear σ;intro i σ hi ⟨j1,j2,j3,j4,j5,n,j6,j7⟩;refine ak0 (fun gn hgn=>?_);have hgf:=c8 hgn;have m6:∀ r i,h ⟨gn,r,i⟩=none:=fun r i=>s7 j5 (hgf r i);have e1:=K9 hgn j4;have e2:=G7 hgn j4;have hw:=z7 (i:=i) om_;clear hgn;rcases Nat.lt_or_ge i t.args.length with hlt|hge
  ·have hd:=T5 hlt
   obtain ⟨x,hx⟩:∃ x,t.args[i]? = some x:=⟨_,List.getElem?_eq_getElem hlt⟩;rw [A2 hx] at j7;have hc:=ih' x (List.mem_of_getElem? hx);clear ih';cases hn:x.nodes with
   | none =>
    rw [hn] at hc;rw [Ty.N4 hn] at j7;subst j7;exact wk_
   | some k =>
    rw [hn] at hc;rw [Ty.H7 hn] at j7;refine wq_ ?_;exact ⟨by repeat (first|assumption|refine g9.new ?_ (m6 _ _)),_,rfl,j7⟩
  ·have hd:=O2 hge
   obtain rfl:i=t.args.length:=by omega
   rw [List.drop_length,Ty.K7] at j7;subst j7;clear ih';exact wk_
theorem ay3 (t:Ty) (ht:TyW t):Pure Tryz.prog env 101 [.agg t.cells] (two (chk 64 t.nodes)):=by
 intro h;have hc:=bA1 t ht;have hin:∀ S,InV S (two (chk 64 t.nodes)):=fun S=>by simp [two,InV,InL]
 cases hn:t.nodes with
 | none =>
  rw [hn] at hc hin;refine en_ Tryz.func101 [.tmp 2,.tmp 3] fun g0 w0 gen b7 hfr c6 m0=>?_
  first|refine wq_ ?_|exact wk_
  all_goals simp [two,chk]
 | some n =>
  rw [hn] at hc hin;refine en_ Tryz.func101 [.tmp 2,.tmp 3] fun g0 w0 gen b7 hfr c6 m0=>?_
  repeat' (first
   |exact hin _|exact agf as_
   | (first|refine wp rfl ?_|refine spt rfl ?_|refine spf rfl ?_|(refine spl (fun hc=>?_) fun hc=>?_)<;>(try rw [beq_iff_eq] at hc)<;>try simp only [hc]|refine cp hc ?_|refine A9 b7 ?_ ?_ ?_)<;>try simp only [go_sem, *])
  all_goals (try simp only [decide_eq_true_eq,decide_eq_false_iff_not] at *)
  all_goals first|(have hcn:¬ 64<n:=by omega);simp [two,chk,hcn]|(have hcn:64<n:=by omega);simp [two,chk,hcn]
theorem al8 (t:Ty) (ht:TyW t):Pure Tryz.prog env 58 [.agg t.cells] (.int .i64 (ac2 t)):=by
 intro h;have hc:=ay3 t ht;unfold two at hc;refine en_ Tryz.func58 [.tmp 2] fun g0 w0 gen b7 hfr c6 m0=>?_
 first|refine wq_ ?_|exact wk_
 all_goals simp [ac2]
theorem bw5 (t:Ty):Pure Tryz.prog env 213 [.agg t.cells] (.bool (aa0 t)):=by
 intro h;refine en_ Tryz.func213 [.tmp 2] fun g0 w0 gen b7 hfr c6 m0=>?_
 repeat' (first
  |exact hin _|exact agf as_
  | (first|refine wp rfl ?_|(refine gs (fun hb=>?_) fun hb=>?_)<;>try simp only [Bool.not_true,Bool.not_false] at hb|refine A9 b7 ?_ ?_ ?_)<;>try simp only [go_sem, *])
 all_goals simp_all [aa0]
theorem cF4 (k:Int):Pure Tryz.prog env 215 [.int .i64 k] (.bool (typed k)):=by
 intro h;refine en_ Tryz.func215 [.tmp 2] fun g0 w0 gen b7 hfr c6 m0=>?_
 repeat' (first
  |exact hin _|exact agf as_
  | (first|refine wp rfl ?_|(refine gs (fun hb=>?_) fun hb=>?_)<;>try simp only [Bool.not_true,Bool.not_false] at hb|refine A9 b7 ?_ ?_ ?_)<;>try simp only [go_sem, *])
 all_goals simp_all [typed]
theorem cG9 (k:Int):Pure Tryz.prog env 214 [.int .i64 k] (Y3 (arity k)):=by
 intro h;have hin:∀ S,InV S (Y3 (arity k)):=fun S=>by cases arity k<;>simp [Y3,InV,InL]
 have hk:k<1∨14≤k∨k=1∨k=2∨k=3∨k=4∨k=5∨k=6∨k=7∨k=8∨k=9∨k=10∨k=11∨k=12∨k=13:=by omega
 rcases hk with hk|hk|hk
 ·have hv:Y3 none=Y3 (arity k):=by simp [arity,hk]
  rw [← hv];clear hv hin;refine en_ Tryz.func214 [.tmp 2,.tmp 3] fun g0 w0 gen b7 hfr c6 m0=>?_
  repeat' (first
   |exact hin _|exact agf as_
   | (first|refine wp rfl ?_|refine spt rfl ?_|refine spf rfl ?_|(refine spl (fun hc=>?_) fun hc=>?_)<;>(try rw [beq_iff_eq] at hc)<;>try simp only [hc]|(refine gs (fun hb=>?_) fun hb=>?_)<;>try simp only [Bool.not_true,Bool.not_false] at hb|refine A9 b7 ?_ ?_ ?_)<;>try simp only [go_sem, *])
  all_goals (exfalso;first|(simp_all;done)|(simp_all;omega))
 ·have hv:Y3 none=Y3 (arity k):=by simp [arity,hk]
  rw [← hv];clear hv hin;refine en_ Tryz.func214 [.tmp 2,.tmp 3] fun g0 w0 gen b7 hfr c6 m0=>?_
  repeat' (first
   |exact hin _|exact agf as_
   | (first|refine wp rfl ?_|refine spt rfl ?_|refine spf rfl ?_|(refine spl (fun hc=>?_) fun hc=>?_)<;>(try rw [beq_iff_eq] at hc)<;>try simp only [hc]|(refine gs (fun hb=>?_) fun hb=>?_)<;>try simp only [Bool.not_true,Bool.not_false] at hb|refine A9 b7 ?_ ?_ ?_)<;>try simp only [go_sem, *])
  all_goals (exfalso;first|(simp_all;done)|(simp_all;omega))
 ·have hv:∃ a,arity k=some a∧((env 0).getD [])[k.toNat]? = some (.int .i64 a):=by
   rcases hk with rfl|rfl|rfl|rfl|rfl|rfl|rfl|rfl|rfl|rfl|rfl|rfl|rfl<;>exact ⟨_,rfl,rfl⟩
  obtain ⟨a,h1,h2⟩:=hv;rw [h1];clear hin;have k1:decide (k<1)=false:=by simp;omega
  have k2:decide (14≤k)=false:=by simp;omega
  have k3:0≤k:=by omega
  have k4:k<((14:Nat):Int):=by omega
  have k6:env 0=some [.int .i64 0,.int .i64 0,.int .i64 1,.int .i64 2,.int .i64 0,.int .i64 1,.int .i64 3,.int .i64 0,.int .i64 2,.int .i64 3,.int .i64 2,.int .i64 1,.int .i64 1,.int .i64 0]:=rfl;have h3:[V.int .i64 0,.int .i64 0,.int .i64 1,.int .i64 2,.int .i64 0,.int .i64 1,.int .i64 3,.int .i64 0,.int .i64 2,.int .i64 3,.int .i64 2,.int .i64 1,.int .i64 1,.int .i64 0][0+k.toNat * 1]? = some (.int .i64 a):=by rw [Nat.zero_add,Nat.mul_one];exact h2
  have k5:k.toNat<14:=by omega
  clear h2 hk;exact ek_ Tryz.func214 [.tmp 2,.tmp 3]
theorem aJ6 (t:Ty) (ht:TyW t):Pure Tryz.prog env 101 [.agg t.cells] (.tup [.int .i64 (chk 64 t.nodes).1,.int .i64 (ac2 t)]):=ay3 t ht
theorem aS4:∀ t:Tm,TmW t→Pure Tryz.prog env 195 [.agg t.cells] (Y3 t.nodes):=by
 intro t
 induction t using Tm.ind with|h t ih=>?_
 intro ht h;have hlen:=ht.len;have ih':∀ x∈t.args,Pure Tryz.prog env 195 [.agg x.cells] (Y3 x.nodes):=fun x hx=>ih x hx (ht.arg hx);clear ih;have hin:∀ S,InV S (Y3 t.nodes):=fun S=>by cases t.nodes<;>simp [Y3,InV,InL]
 have hct:=aJ6 t.type ht.ty;have hca:=cG9 t.kind;generalize hv:Y3 t.nodes=v at hin ⊢;cases ha:arity t.kind with
 | none =>
  rw [ha] at hca;have hv':Y3 none=v:=by rw [← hv,Tm.T0];simp [O5,ha]
  subst hv';clear ih' hct;exact ek_ Tryz.func195 [.tmp 2,.tmp 3]
 | some a =>
 rw [ha] at hca;refine en_ Tryz.func195 [.tmp 2,.tmp 3] fun g0 w0 gen b7 hfr c6 m0=>?_
 repeat' (first
  |refine bU5 (id:=2) (fun σ=>σ.tm 1=.ptr ⟨gen,0,0⟩ 0∧σ.h ⟨gen,0,0⟩=some (.box t.cells)∧g9 h σ.h∧((t.args.length:Int)==a&&decide (0≤t.index)&&(t.index==0||t.kind==1))=true) ?_ ?_
  |refine D6 ?_|refine I1 ?_|refine F2 ?_|refine A8 ?_|refine I4 ?_|refine A3 ?_|refine B5 ?_|refine A4 ?_
  |refine A0 (by decide) ?_|refine Q0 ?_|refine K2 ?_
  |(refine ⟨?_,?_⟩;focus ((repeat' (first|refine ⟨?_,?_⟩|refine .inr ?_));all_goals kernel_rfl))
  |refine E3 rfl ?_|refine E4 rfl ?_|(refine H5 rfl (fun hc=>?_) (fun hc=>?_)<;>(try rw [beq_iff_eq] at hc)<;>(try simp only [hc]))
  | ((first|refine B6 ?_|(refine z9 (fun hb=>?_) (fun hb=>?_)<;>(try simp only [Bool.not_true,Bool.not_false] at hb))|refine u7 ?_|refine y9 (hca) ?_|refine aB5 b7 (by first|exact hin _|simp only [go_sem,and_self]) ag_ ?_)<;>simp only [go_sem, *]))
 all_goals first
  | (clear ih' hca hct;rw [← hv,Tm.T0];simp_all [O5,Y3];done)
  | (clear ih' hca hct;rw [← hv,Tm.T0];clear hv hin;have hh:O5 t.kind t.index t.type t.args.length=false:=by { simp_all [O5];intros;omega };rw [hh];rfl)
  | (clear ih' hca hct;refine ⟨.new (.refl _) (c6 _ _),?_⟩;simp_all;done)
  | (clear ih' hca hct;refine ⟨.new (.refl _) (c6 _ _),?_⟩;simp_all;omega)
  | skip
 clear hca;intro σ ⟨j1,j2,j3,hd0⟩
 repeat' (first
  |(refine cC5 (t:=45) (fun σ=>σ.tm 1=.ptr ⟨gen,0,0⟩ 0∧σ.h ⟨gen,0,0⟩=some (.box t.cells)∧g9 h σ.h∧O5 t.kind t.index t.type t.args.length=true) rfl (fun hc=>?_) (fun hc=>?_) ?_<;>(try rw [beq_iff_eq] at hc)<;>(try simp only [hc]))
  |refine D6 ?_|refine I1 ?_|refine F2 ?_|refine A8 ?_|refine I4 ?_|refine A3 ?_|refine B5 ?_|refine A4 ?_
  |refine A0 (by decide) ?_|refine Q0 ?_|refine K2 ?_
  |(refine ⟨?_,?_⟩;focus ((repeat' (first|refine ⟨?_,?_⟩|refine .inr ?_));all_goals kernel_rfl))
  |refine E3 rfl ?_|refine E4 rfl ?_|(refine H5 rfl (fun hc=>?_) (fun hc=>?_)<;>(try rw [beq_iff_eq] at hc)<;>(try simp only [hc]))
  | ((first|refine B6 ?_|(refine z9 (fun hb=>?_) (fun hb=>?_)<;>(try simp only [Bool.not_true,Bool.not_false] at hb))|refine u7 ?_|refine y9 (hct) ?_|refine y9 (bw5 _) ?_|refine y9 (cF4 _) ?_|refine aB5 b7 (by first|exact hin _|simp only [go_sem,and_self]) ag_ ?_)<;>simp only [go_sem, *]))
 all_goals first
  | (clear ih' hct;rw [← hv,Tm.T0];simp_all [O5,Y3];done)
  | (clear ih' hct;simp_all [O5];done)
  | skip
 clear hct j1 j2 j3 hd0;clear σ;intro σ ⟨j1,j2,j3,j4⟩;have hv':Y3 (Tm.C0 1 t.args)=v:=by rw [← hv,Tm.T0,j4];simp
 clear hv;refine wq_ ?_;refine B1 (fun i σ=>σ.tm 61=.int .i64 i∧σ.tm 60=.int .i64 t.args.length∧σ.tm 59=.sl .any (t.args.map Tm.cells) ∧
  σ.h ⟨gen,0,0⟩=some (.box t.cells)∧g9 h σ.h∧∃ n,σ.tm 8=.int .i64 n∧Y3 (Tm.C0 n (t.args.drop i))=v) t.args.length ?_ ?_
 ·simp only [go_sem, *]
  exact ⟨rfl,_,rfl,hv'⟩
 clear j1 j2 j3 j4 hv';clear σ;intro i σ hi ⟨j1,j2,j3,j4,j5,n,j6,j7⟩;refine ak0 (fun gn hgn=>?_);have hgf:=c8 hgn;have m6:∀ r i,h ⟨gn,r,i⟩=none:=fun r i=>s7 j5 (hgf r i);have e1:=K9 hgn j4;have e2:=G7 hgn j4;have hw:=z7 (i:=i) om_;clear hgn;rcases Nat.lt_or_ge i t.args.length with hlt|hge
 ·have hd:=T5 hlt
  obtain ⟨x,hx⟩:∃ x,t.args[i]? = some x:=⟨_,List.getElem?_eq_getElem hlt⟩;rw [A2 hx] at j7;have hc:=ih' x (List.mem_of_getElem? hx);clear ih';cases hn:x.nodes with
  | none =>
   rw [hn] at hc;rw [Tm.N4 hn] at j7;subst j7;exact wk_
  | some k =>
   rw [hn] at hc;rw [Tm.H7 hn] at j7;refine wq_ ?_;exact ⟨by repeat (first|assumption|refine g9.new ?_ (m6 _ _)),_,rfl,j7⟩
 ·have hd:=O2 hge
  obtain rfl:i=t.args.length:=by omega
  rw [List.drop_length,Tm.K7] at j7;subst j7;clear ih';exact wk_
theorem cj5 (t:Fm) (ht:FmW t):Pure Tryz.prog env 194 [.agg t.cells] (.bool (formed t.kind t.type t.r8.length t.args.length)):=by
 intro h;have hct:=aJ6 t.type ht.ty;generalize hv:formed t.kind t.type t.r8.length t.args.length=v;refine en_ Tryz.func194 [.tmp 2] fun g0 w0 gen b7 hfr c6 m0=>?_
 repeat' (first
  |refine aV1 (id:=0) (fun σ=>σ.tm 1=.ptr ⟨gen,0,0⟩ 0∧σ.h ⟨gen,0,0⟩=some (.box t.cells)∧g9 h σ.h∧∃ a b c,au2 t.kind=some (a,b,c)∧σ.tm 3=.int .i64 a∧σ.tm 4=.int .i64 b∧σ.tm 5=.bool c) ?_ ?_
  |refine D6 ?_|refine I1 ?_|refine F2 ?_|refine A8 ?_|refine I4 ?_|refine A3 ?_|refine B5 ?_|refine A4 ?_
  |refine A0 (by decide) ?_|refine Q0 ?_|refine K2 ?_
  |(refine ⟨?_,?_⟩;focus ((repeat' (first|refine ⟨?_,?_⟩|refine .inr ?_));all_goals kernel_rfl))
  |refine E3 rfl ?_|refine E4 rfl ?_|(refine H5 rfl (fun hc=>?_) (fun hc=>?_)<;>(try rw [beq_iff_eq] at hc)<;>(try simp only [hc]))
  | ((first|refine B6 ?_|(refine z9 (fun hb=>?_) (fun hb=>?_)<;>(try simp only [Bool.not_true,Bool.not_false] at hb))|refine u7 ?_|refine aB5 b7 (by first|exact hin _|simp only [go_sem,and_self]) ag_ ?_)<;>simp only [go_sem, *]))
 all_goals first
  |exact ⟨.new (.refl _) (c6 _ _),_,_,_,rfl,rfl,rfl,rfl⟩
  | (clear hct;rw [← hv];simp_all [formed,au2];done)
  | skip
 intro σ ⟨j1,j2,j3,a,b,c,hw,j4,j5,j6⟩;have hv':((if c then ac2 t.type==0 else aa0 t.type)&&(t.r8.length:Int)==a&&(t.args.length:Int)==b)=v:=by rw [← hv];simp [formed,hw]
 clear hv;cases c with
 | true =>
  repeat' (first
   |exact hin _|exact agf as_
   | (first|refine wp rfl ?_|refine spt rfl ?_|refine spf rfl ?_|(refine spl (fun hc=>?_) fun hc=>?_)<;>(try rw [beq_iff_eq] at hc)<;>try simp only [hc]|(refine gs (fun hb=>?_) fun hb=>?_)<;>try simp only [Bool.not_true,Bool.not_false] at hb|refine cp hct ?_|refine A9 b7 ?_ ?_ ?_)<;>try simp only [go_sem, *])
  all_goals (clear hct;subst hv';simp_all;done)
 | false =>
  clear hct
  repeat' (first
   |exact hin _|exact agf as_
   | (first|refine wp rfl ?_|refine spt rfl ?_|refine spf rfl ?_|(refine spl (fun hc=>?_) fun hc=>?_)<;>(try rw [beq_iff_eq] at hc)<;>try simp only [hc]|(refine gs (fun hb=>?_) fun hb=>?_)<;>try simp only [Bool.not_true,Bool.not_false] at hb|refine cp (bw5 _) ?_|refine A9 b7 ?_ ?_ ?_)<;>try simp only [go_sem, *])
  all_goals (subst hv';simp_all;done)
def bl0 (o:Option Int) (a:List Fm):Option Int:=match o with|none=>none|some n=>Fm.C0 n a
theorem bs3 (a:List Fm):bl0 none a=none:=rfl
theorem bx1 (n:Int) (a:List Fm):bl0 (some n) a=Fm.C0 n a:=rfl
theorem aZ4:∀ t:Fm,FmW t→Pure Tryz.prog env 163 [.agg t.cells] (Y3 t.nodes):=by
 intro t
 induction t using Fm.ind with|h t ih=>?_
 intro ht h;have hlen:=ht.len;have aF5:=ht.aE3;have ih':∀ x∈t.args,Pure Tryz.prog env 163 [.agg x.cells] (Y3 x.nodes):=fun x hx=>ih x hx (ht.arg hx);clear ih;have hin:∀ S,InV S (Y3 t.nodes):=fun S=>by cases t.nodes<;>simp [Y3,InV,InL]
 have hcf:=cj5 t ht;generalize hv:Y3 t.nodes=v at hin ⊢;cases hf:formed t.kind t.type t.r8.length t.args.length with
 | false =>
  rw [hf] at hcf;have hv':Y3 none=v:=by rw [← hv,Fm.T0,hf];simp
  subst hv';clear ih' hv;exact ek_ Tryz.func163 [.tmp 2,.tmp 3]
 | true =>
 rw [hf] at hcf;have hv':Y3 (bl0 (Tm.C0 1 t.r8) t.args)=v:=by rw [← hv,Fm.T0,hf];rfl
 clear hv;refine en_ Tryz.func163 [.tmp 2,.tmp 3] fun g0 w0 gen b7 hfr c6 m0=>?_;refine wq_ ?_;clear hcf;refine B1 (fun i σ=>σ.tm 1=.ptr ⟨gen,0,0⟩ 0∧σ.tm 19=.int .i64 i∧σ.tm 18=.int .i64 t.r8.length∧σ.tm 17=.sl .any (t.r8.map Tm.cells) ∧
  σ.h ⟨gen,0,0⟩=some (.box t.cells)∧g9 h σ.h∧∃ n,σ.tm 4=.int .i64 n∧Y3 (bl0 (Tm.C0 n (t.r8.drop i)) t.args)=v) t.r8.length ?_ ?_
 ·simp only [go_sem, *]
  exact ⟨rfl,by repeat (first|exact g9.refl _|assumption|refine g9.new ?_ (c6 _ _)),_,rfl,hv'⟩
 clear hv';intro i σ hi ⟨j0,j1,j2,j3,j4,j5,n,j6,j7⟩;refine ak0 (fun gn hgn=>?_);have hgf:=c8 hgn;have m6:∀ r i,h ⟨gn,r,i⟩=none:=fun r i=>s7 j5 (hgf r i);have e1:=K9 hgn j4;have e2:=G7 hgn j4;have hw:=z7 (i:=i) om_;clear hgn;rcases Nat.lt_or_ge i t.r8.length with hlt|hge
 ·have hd:=T5 hlt
  obtain ⟨x,hx⟩:∃ x,t.r8[i]? = some x:=⟨_,List.getElem?_eq_getElem hlt⟩;rw [A2 hx] at j7;have hc:=aS4 x (ht.term (List.mem_of_getElem? hx));clear ih';cases hn:x.nodes with
  | none =>
   rw [hn] at hc;rw [Tm.N4 hn,bs3] at j7;subst j7;exact wk_
  | some k =>
   rw [hn] at hc;rw [Tm.H7 hn] at j7;refine wq_ ?_;exact ⟨by repeat (first|assumption|refine g9.new ?_ (m6 _ _)),_,rfl,j7⟩
 have hd:=O2 hge;obtain rfl:i=t.r8.length:=by omega
 rw [List.drop_length,Tm.K7,bx1] at j7;have hv':=j7;clear j7;refine wq_ ?_;refine B1 (fun i σ=>σ.tm 1=.ptr ⟨gen,0,0⟩ 0∧σ.tm 37=.int .i64 i∧σ.tm 36=.int .i64 t.args.length∧σ.tm 35=.sl .any (t.args.map Fm.cells) ∧
  σ.h ⟨gen,0,0⟩=some (.box t.cells)∧g9 h σ.h∧∃ n,σ.tm 4=.int .i64 n∧Y3 (Fm.C0 n (t.args.drop i))=v) t.args.length ?_ ?_
 ·simp only [go_sem, *]
  exact ⟨rfl,_,rfl,hv'⟩
 clear j0 j1 j2 j3 j4 j5 j6 hv' hge hd hi e1 e2 hgf m6 hw;clear σ;intro i σ hi ⟨j0,j1,j2,j3,j4,j5,n,j6,j7⟩;refine ak0 (fun gn hgn=>?_);have hgf:=c8 hgn;have m6:∀ r i,h ⟨gn,r,i⟩=none:=fun r i=>s7 j5 (hgf r i);have e1:=K9 hgn j4;have e2:=G7 hgn j4;have hw:=z7 (i:=i) om_;clear hgn;rcases Nat.lt_or_ge i t.args.length with hlt|hge
 ·have hd:=T5 hlt
  obtain ⟨x,hx⟩:∃ x,t.args[i]? = some x:=⟨_,List.getElem?_eq_getElem hlt⟩;rw [A2 hx] at j7;have hc:=ih' x (List.mem_of_getElem? hx);clear ih';cases hn:x.nodes with
  | none =>
   rw [hn] at hc;rw [Fm.N4 hn] at j7;subst j7;exact wk_
  | some k =>
   rw [hn] at hc;rw [Fm.H7 hn] at j7;refine wq_ ?_;exact ⟨by repeat (first|assumption|refine g9.new ?_ (m6 _ _)),_,rfl,j7⟩
 ·have hd:=O2 hge
  obtain rfl:i=t.args.length:=by omega
  rw [List.drop_length,Fm.K7] at j7;subst j7;clear ih';exact wk_
theorem ay4 (t:Fm) (ht:FmW t):Pure Tryz.prog env 117 [.agg t.cells] (two (chk 4096 t.nodes)):=by
 intro h;have hc:=aZ4 t ht;have hin:∀ S,InV S (two (chk 4096 t.nodes)):=fun S=>by simp [two,InV,InL]
 cases hn:t.nodes with
 | none =>
  rw [hn] at hc hin;refine en_ Tryz.func117 [.tmp 2,.tmp 3] fun g0 w0 gen b7 hfr c6 m0=>?_
  first|refine wq_ ?_|exact wk_
  all_goals simp [two,chk]
 | some n =>
  rw [hn] at hc hin;refine en_ Tryz.func117 [.tmp 2,.tmp 3] fun g0 w0 gen b7 hfr c6 m0=>?_
  repeat' (first
   |exact hin _|exact agf as_
   | (first|refine wp rfl ?_|refine spt rfl ?_|refine spf rfl ?_|(refine spl (fun hc=>?_) fun hc=>?_)<;>(try rw [beq_iff_eq] at hc)<;>try simp only [hc]|refine cp hc ?_|refine A9 b7 ?_ ?_ ?_)<;>try simp only [go_sem, *])
  all_goals (try simp only [decide_eq_true_eq,decide_eq_false_iff_not] at *)
  all_goals first|(have hcn:¬ 4096<n:=by omega);simp [two,chk,hcn]|(have hcn:4096<n:=by omega);simp [two,chk,hcn]
theorem am5 (t:Fm) (ht:FmW t):Pure Tryz.prog env 72 [.agg t.cells] (.int .i64 (P5 t)):=by
 intro h;have hc:=ay4 t ht;unfold two at hc;refine en_ Tryz.func72 [.tmp 2] fun g0 w0 gen b7 hfr c6 m0=>?_
 first|refine wq_ ?_|exact wk_
 all_goals simp [P5]
end Go.Proofs.YteaijonkbbkkjaaGreatDoor
