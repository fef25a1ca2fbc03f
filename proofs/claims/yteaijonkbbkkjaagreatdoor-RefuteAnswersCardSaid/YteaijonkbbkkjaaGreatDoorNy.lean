/-
 Walks: several parts in one text.
-/
import Derived.Test.YteaijonkbbkkjaaGreatDoorMg
set_option linter.unusedSimpArgs false
set_option linter.unusedVariables false
set_option maxRecDepth 20000
set_option maxHeartbeats 4000000
namespace Go.Proofs.YteaijonkbbkkjaaGreatDoor
open Go GoAbs Go.Proofs
theorem cj4 (t:Ty) (n m:Int):formed 1 t n m=(aa0 t&&n==2&&m==0):=rfl
theorem bW2 {k:Int} (hk:k=2∨k=3) (t:Ty) (n m:Int):formed k t n m=(aa0 t&&n==0&&m==2):=by rcases hk with rfl|rfl<;>rfl
theorem by9 {k:Int} (h:Z3 k=true):k=4∨k=5∨k=6∨k=7:=by simpa [Z3,or_assoc] using h
theorem ck5 {k:Int} (hk:Z3 k=true) (t:Ty) (n m:Int):formed k t n m=(ac2 t==0&&n==0&&m==1):=by
 rcases by9 hk with rfl|rfl|rfl|rfl<;>rfl
theorem bW8 {k:Int} (h1:(k==1)=false) (h2:(k==2)=false) (h3:(k==3)=false) (hk:Z3 k=false) (t:Ty) (n m:Int):formed k t n m=false:=by
 simp only [Z3,Bool.or_eq_false_iff] at hk;simp [formed,au2,h1,h2,h3,hk]
theorem bZ6:∀ t:Fm,FmW t→Pure Tryz.prog env 79 [.agg t.cells] (.bool t.G5):=by
 intro t
 induction t using Fm.ind with|h t ih=>?_
 intro ht h;have ih':∀ x∈t.args,Pure Tryz.prog env 79 [.agg x.cells] (.bool x.G5):=fun x hx=>ih x hx (ht.arg hx);clear ih;have hv0:=t.at3.symm;have hZ:=be8 t.type;have hC:=ag2 t.type ht.ty;have hT:=fun x hx=>be4 x (ht.term (x:=x) hx);generalize hvv:t.G5=v at hv0 ⊢;clear hvv ht;cases k1:(t.kind==1) with
 | true =>
  have hk:t.kind=1:=by simpa using k1
  rw [hk,cj4] at hv0;clear k1;cases b1:((t.args.length:Int)==0) with
  | false =>
   simp only [b1,Bool.false_and,Bool.and_false] at hv0;clear ih' hT;subst hv0;refine en_ Tryz.func79 [.tmp 2] fun g0 w0 gen b7 hfr c6 m0=>?_
   repeat' (first
    |exact hin _|exact agf as_
    | (first|refine wp rfl ?_|refine spt rfl ?_|refine spf rfl ?_|(refine spl (fun hc=>?_) fun hc=>?_)<;>(try rw [beq_iff_eq] at hc)<;>try simp only [hc]|(refine gs (fun hb=>?_) fun hb=>?_)<;>try simp only [Bool.not_true,Bool.not_false] at hb|refine cp hZ ?_|refine cp hC ?_|refine cp (U2 _) ?_|refine A9 b7 ?_ ?_ ?_)<;>try simp only [go_sem, *])
  | true =>
  cases b2:aa0 t.type with
  | false =>
   simp only [b2,Bool.false_and,Bool.and_false] at hv0;clear ih' hT;subst hv0;refine en_ Tryz.func79 [.tmp 2] fun g0 w0 gen b7 hfr c6 m0=>?_
   repeat' (first
    |exact hin _|exact agf as_
    | (first|refine wp rfl ?_|refine spt rfl ?_|refine spf rfl ?_|(refine spl (fun hc=>?_) fun hc=>?_)<;>(try rw [beq_iff_eq] at hc)<;>try simp only [hc]|(refine gs (fun hb=>?_) fun hb=>?_)<;>try simp only [Bool.not_true,Bool.not_false] at hb|refine cp hZ ?_|refine cp hC ?_|refine cp (U2 _) ?_|refine A9 b7 ?_ ?_ ?_)<;>try simp only [go_sem, *])
  | true =>
  rw [b2] at hZ;cases b3:((t.r8.length:Int)==2) with
  | false =>
   simp only [b3,Bool.false_and,Bool.and_false] at hv0;clear ih' hT;subst hv0;refine en_ Tryz.func79 [.tmp 2] fun g0 w0 gen b7 hfr c6 m0=>?_
   repeat' (first
    |exact hin _|exact agf as_
    | (first|refine wp rfl ?_|refine spt rfl ?_|refine spf rfl ?_|(refine spl (fun hc=>?_) fun hc=>?_)<;>(try rw [beq_iff_eq] at hc)<;>try simp only [hc]|(refine gs (fun hb=>?_) fun hb=>?_)<;>try simp only [Bool.not_true,Bool.not_false] at hb|refine cp hZ ?_|refine cp hC ?_|refine cp (U2 _) ?_|refine A9 b7 ?_ ?_ ?_)<;>try simp only [go_sem, *])
  | true =>
  obtain ⟨x,y,hxy⟩:=ck4 (show t.r8.length=2 by have:=b3;simp at this;omega);have ha0:t.args=[]:=List.length_eq_zero_iff.1 (by simpa using b1);have h1:=hT x (by rw [hxy];simp);have h2:=hT y (by rw [hxy];simp);clear hT ih' b1 b3;simp only [b2,hxy,ha0,List.length_cons,List.length_nil,List.all_cons,List.all_nil,Bool.and_true] at hv0;simp only [show (((0+1+1:Nat):Int)==2)=true from rfl,show (((0:Nat):Int)==0)=true from rfl,Bool.true_and] at hv0;cases b4:x.G5 with
  | false =>
   rw [b4,Bool.false_and] at hv0;rw [b4] at h1;subst hv0;refine en_ Tryz.func79 [.tmp 2] fun g0 w0 gen b7 hfr c6 m0=>?_
   repeat' (first
    |exact hin _|exact agf as_
    | (first|refine wp rfl ?_|refine spt rfl ?_|refine spf rfl ?_|(refine spl (fun hc=>?_) fun hc=>?_)<;>(try rw [beq_iff_eq] at hc)<;>try simp only [hc]|(refine gs (fun hb=>?_) fun hb=>?_)<;>try simp only [Bool.not_true,Bool.not_false] at hb|refine cp hZ ?_|refine cp hC ?_|refine cp (U2 _) ?_|refine cp h1 ?_|refine cp h2 ?_|refine A9 b7 ?_ ?_ ?_)<;>try simp only [go_sem, *])
  | true =>
   rw [b4,Bool.true_and] at hv0;rw [b4] at h1;subst hv0;refine en_ Tryz.func79 [.tmp 2] fun g0 w0 gen b7 hfr c6 m0=>?_
   repeat' (first
    |exact hin _|exact agf as_
    | (first|refine wp rfl ?_|refine spt rfl ?_|refine spf rfl ?_|(refine spl (fun hc=>?_) fun hc=>?_)<;>(try rw [beq_iff_eq] at hc)<;>try simp only [hc]|(refine gs (fun hb=>?_) fun hb=>?_)<;>try simp only [Bool.not_true,Bool.not_false] at hb|refine cp hZ ?_|refine cp hC ?_|refine cp (U2 _) ?_|refine cp h1 ?_|refine cp h2 ?_|refine A9 b7 ?_ ?_ ?_)<;>try simp only [go_sem, *])
   all_goals (simp_all;done)
 | false =>
 cases k23:(t.kind==2||t.kind==3) with
 | true =>
  have hk:t.kind=2∨t.kind=3:=by simpa using k23
  rw [bW2 hk] at hv0;clear k23;rcases hk with hk|hk
  all_goals
   clear k1;cases b1:((t.r8.length:Int)==0) with
   | false =>
    simp only [b1,Bool.false_and,Bool.and_false] at hv0;clear ih' hT;subst hv0;refine en_ Tryz.func79 [.tmp 2] fun g0 w0 gen b7 hfr c6 m0=>?_
    repeat' (first
     |exact hin _|exact agf as_
     | (first|refine wp rfl ?_|refine spt rfl ?_|refine spf rfl ?_|(refine spl (fun hc=>?_) fun hc=>?_)<;>(try rw [beq_iff_eq] at hc)<;>try simp only [hc]|(refine gs (fun hb=>?_) fun hb=>?_)<;>try simp only [Bool.not_true,Bool.not_false] at hb|refine cp hZ ?_|refine cp hC ?_|refine cp (U2 _) ?_|refine A9 b7 ?_ ?_ ?_)<;>try simp only [go_sem, *])
   | true =>
   cases b2:aa0 t.type with
   | false =>
    simp only [b2,Bool.false_and,Bool.and_false] at hv0;clear ih' hT;subst hv0;refine en_ Tryz.func79 [.tmp 2] fun g0 w0 gen b7 hfr c6 m0=>?_
    repeat' (first
     |exact hin _|exact agf as_
     | (first|refine wp rfl ?_|refine spt rfl ?_|refine spf rfl ?_|(refine spl (fun hc=>?_) fun hc=>?_)<;>(try rw [beq_iff_eq] at hc)<;>try simp only [hc]|(refine gs (fun hb=>?_) fun hb=>?_)<;>try simp only [Bool.not_true,Bool.not_false] at hb|refine cp hZ ?_|refine cp hC ?_|refine cp (U2 _) ?_|refine A9 b7 ?_ ?_ ?_)<;>try simp only [go_sem, *])
   | true =>
   rw [b2] at hZ;cases b3:((t.args.length:Int)==2) with
   | false =>
    simp only [b3,Bool.false_and,Bool.and_false] at hv0;clear ih' hT;subst hv0;refine en_ Tryz.func79 [.tmp 2] fun g0 w0 gen b7 hfr c6 m0=>?_
    repeat' (first
     |exact hin _|exact agf as_
     | (first|refine wp rfl ?_|refine spt rfl ?_|refine spf rfl ?_|(refine spl (fun hc=>?_) fun hc=>?_)<;>(try rw [beq_iff_eq] at hc)<;>try simp only [hc]|(refine gs (fun hb=>?_) fun hb=>?_)<;>try simp only [Bool.not_true,Bool.not_false] at hb|refine cp hZ ?_|refine cp hC ?_|refine cp (U2 _) ?_|refine A9 b7 ?_ ?_ ?_)<;>try simp only [go_sem, *])
   | true =>
   obtain ⟨x,y,hxy⟩:=ck4 (show t.args.length=2 by have:=b3;simp at this;omega);have ha0:t.r8=[]:=List.length_eq_zero_iff.1 (by simpa using b1);have h1:=ih' x (by rw [hxy];simp);have h2:=ih' y (by rw [hxy];simp);clear hT ih' b1 b3;simp only [b2,hxy,ha0,List.length_cons,List.length_nil,List.all_cons,List.all_nil,Bool.and_true] at hv0;simp only [show (((0+1+1:Nat):Int)==2)=true from rfl,show (((0:Nat):Int)==0)=true from rfl,Bool.true_and] at hv0;cases b4:x.G5 with
   | false =>
    rw [b4,Bool.false_and] at hv0;rw [b4] at h1;subst hv0;refine en_ Tryz.func79 [.tmp 2] fun g0 w0 gen b7 hfr c6 m0=>?_
    repeat' (first
     |exact hin _|exact agf as_
     | (first|refine wp rfl ?_|refine spt rfl ?_|refine spf rfl ?_|(refine spl (fun hc=>?_) fun hc=>?_)<;>(try rw [beq_iff_eq] at hc)<;>try simp only [hc]|(refine gs (fun hb=>?_) fun hb=>?_)<;>try simp only [Bool.not_true,Bool.not_false] at hb|refine cp hZ ?_|refine cp hC ?_|refine cp (U2 _) ?_|refine cp h1 ?_|refine cp h2 ?_|refine A9 b7 ?_ ?_ ?_)<;>try simp only [go_sem, *])
   | true =>
    rw [b4,Bool.true_and] at hv0;rw [b4] at h1;subst hv0;refine en_ Tryz.func79 [.tmp 2] fun g0 w0 gen b7 hfr c6 m0=>?_
    repeat' (first
     |exact hin _|exact agf as_
     | (first|refine wp rfl ?_|refine spt rfl ?_|refine spf rfl ?_|(refine spl (fun hc=>?_) fun hc=>?_)<;>(try rw [beq_iff_eq] at hc)<;>try simp only [hc]|(refine gs (fun hb=>?_) fun hb=>?_)<;>try simp only [Bool.not_true,Bool.not_false] at hb|refine cp hZ ?_|refine cp hC ?_|refine cp (U2 _) ?_|refine cp h1 ?_|refine cp h2 ?_|refine A9 b7 ?_ ?_ ?_)<;>try simp only [go_sem, *])
    all_goals (simp_all;done)
 | false =>
 have k2:(t.kind==2)=false:=by cases h2:(t.kind==2)<;>simp_all
 have k3:(t.kind==3)=false:=by cases h3:(t.kind==3)<;>simp_all
 clear k23;cases kq:Z3 t.kind with
 | true =>
  rw [ck5 kq] at hv0;cases b1:((t.r8.length:Int)==0) with
  | false =>
   simp only [b1,Bool.false_and,Bool.and_false] at hv0;clear ih' hT;subst hv0;refine en_ Tryz.func79 [.tmp 2] fun g0 w0 gen b7 hfr c6 m0=>?_
   repeat' (first
    |exact hin _|exact agf as_
    | (first|refine wp rfl ?_|refine spt rfl ?_|refine spf rfl ?_|(refine spl (fun hc=>?_) fun hc=>?_)<;>(try rw [beq_iff_eq] at hc)<;>try simp only [hc]|(refine gs (fun hb=>?_) fun hb=>?_)<;>try simp only [Bool.not_true,Bool.not_false] at hb|refine cp hZ ?_|refine cp hC ?_|refine cp (U2 _) ?_|refine A9 b7 ?_ ?_ ?_)<;>try simp only [go_sem, *])
  | true =>
  cases b2:(ac2 t.type==0) with
  | false =>
   simp only [b2,Bool.false_and,Bool.and_false] at hv0;clear ih' hT;subst hv0;refine en_ Tryz.func79 [.tmp 2] fun g0 w0 gen b7 hfr c6 m0=>?_
   repeat' (first
    |exact hin _|exact agf as_
    | (first|refine wp rfl ?_|refine spt rfl ?_|refine spf rfl ?_|(refine spl (fun hc=>?_) fun hc=>?_)<;>(try rw [beq_iff_eq] at hc)<;>try simp only [hc]|(refine gs (fun hb=>?_) fun hb=>?_)<;>try simp only [Bool.not_true,Bool.not_false] at hb|refine cp hZ ?_|refine cp hC ?_|refine cp (U2 _) ?_|refine A9 b7 ?_ ?_ ?_)<;>try simp only [go_sem, *])
  | true =>
  cases b3:((t.args.length:Int)==1) with
  | false =>
   simp only [b3,Bool.false_and,Bool.and_false] at hv0;clear ih' hT;subst hv0;refine en_ Tryz.func79 [.tmp 2] fun g0 w0 gen b7 hfr c6 m0=>?_
   repeat' (first
    |exact hin _|exact agf as_
    | (first|refine wp rfl ?_|refine spt rfl ?_|refine spf rfl ?_|(refine spl (fun hc=>?_) fun hc=>?_)<;>(try rw [beq_iff_eq] at hc)<;>try simp only [hc]|(refine gs (fun hb=>?_) fun hb=>?_)<;>try simp only [Bool.not_true,Bool.not_false] at hb|refine cp hZ ?_|refine cp hC ?_|refine cp (U2 _) ?_|refine A9 b7 ?_ ?_ ?_)<;>try simp only [go_sem, *])
  | true =>
  obtain ⟨x,hxy⟩:=de8 (show t.args.length=1 by have:=b3;simp at this;omega);have ha0:t.r8=[]:=List.length_eq_zero_iff.1 (by simpa using b1);have h1:=ih' x (by rw [hxy];simp);clear hT ih' b1 b3;simp only [b2,hxy,ha0,List.length_cons,List.length_nil,List.all_cons,List.all_nil,Bool.and_true] at hv0;simp only [show (((0+1:Nat):Int)==1)=true from rfl,show (((0:Nat):Int)==0)=true from rfl,Bool.true_and] at hv0;subst hv0;refine en_ Tryz.func79 [.tmp 2] fun g0 w0 gen b7 hfr c6 m0=>?_
  repeat' (first
   |exact hin _|exact agf as_
   | (first|refine wp rfl ?_|refine spt rfl ?_|refine spf rfl ?_|(refine spl (fun hc=>?_) fun hc=>?_)<;>(try rw [beq_iff_eq] at hc)<;>try simp only [hc]|(refine gs (fun hb=>?_) fun hb=>?_)<;>try simp only [Bool.not_true,Bool.not_false] at hb|refine cp hZ ?_|refine cp hC ?_|refine cp (U2 _) ?_|refine cp h1 ?_|refine A9 b7 ?_ ?_ ?_)<;>try simp only [go_sem, *])
  all_goals (simp_all;done)
 | false =>
  rw [bW8 k1 k2 k3 kq,Bool.false_and,Bool.false_and] at hv0;clear ih' hT;subst hv0;refine en_ Tryz.func79 [.tmp 2] fun g0 w0 gen b7 hfr c6 m0=>?_
  repeat' (first
   |exact hin _|exact agf as_
   | (first|refine wp rfl ?_|refine spt rfl ?_|refine spf rfl ?_|(refine spl (fun hc=>?_) fun hc=>?_)<;>(try rw [beq_iff_eq] at hc)<;>try simp only [hc]|(refine gs (fun hb=>?_) fun hb=>?_)<;>try simp only [Bool.not_true,Bool.not_false] at hb|refine cp hZ ?_|refine cp hC ?_|refine cp (U2 _) ?_|refine A9 b7 ?_ ?_ ?_)<;>try simp only [go_sem, *])
theorem V7 (t:Fm) (ht:FmW t):Pure Tryz.prog env 46 [.agg t.cells] (.int .i64 (P5 t)):=by
 intro h;have h1:=bZ6 t ht;have h2:=aD1 t ht;have hsz:=t.Y2;have hv0:(chk 4096 t.nodes).2=P5 t:=rfl;generalize hvv:P5 t=v at hv0 ⊢;clear hvv;unfold Fm.G5 at h1;cases hn:t.nodes with
 | none =>
  rw [hn] at h1 hv0;simp only [chk,Option.isSome_none] at h1 hv0;subst hv0;clear h2 hsz;exact ek_ Tryz.func46 [.tmp 2]
 | some n =>
  rw [hsz n hn] at h2;rw [hn] at h1 hv0;simp only [chk,Option.isSome_some] at h1 hv0;clear hsz hn;cases hd:decide (n>4096) with
  | true =>
   have:4096<n:=by simpa using hd
   rw [if_pos this] at hv0;subst hv0;exact ek_ Tryz.func46 [.tmp 2]
  | false =>
   have:¬ 4096<n:=by simpa using hd
   rw [if_neg this] at hv0;subst hv0;exact ek_ Tryz.func46 [.tmp 2]
theorem aC6 (t:Tm):Pure Tryz.prog env 190 [.agg t.cells] (.int .i64 (r6 t.kind)):=by
 intro h;unfold r6;cases hk:(t.kind==2) with
 | true =>
  refine en_ Tryz.func190 [.tmp 2] fun g0 w0 gen b7 hfr c6 m0=>?_
  repeat' (first
   |exact hin _|exact agf as_
   | (first|refine wp rfl ?_|refine spt rfl ?_|refine spf rfl ?_|(refine spl (fun hc=>?_) fun hc=>?_)<;>(try rw [beq_iff_eq] at hc)<;>try simp only [hc]|refine A9 b7 ?_ ?_ ?_)<;>try simp only [go_sem, *])
  all_goals simp
 | false =>
  refine en_ Tryz.func190 [.tmp 2] fun g0 w0 gen b7 hfr c6 m0=>?_
  repeat' (first
   |exact hin _|exact agf as_
   | (first|refine wp rfl ?_|refine spt rfl ?_|refine spf rfl ?_|(refine spl (fun hc=>?_) fun hc=>?_)<;>(try rw [beq_iff_eq] at hc)<;>try simp only [hc]|refine A9 b7 ?_ ?_ ?_)<;>try simp only [go_sem, *])
  all_goals simp
theorem bg8 (t:Fm):Pure Tryz.prog env 149 [.agg t.cells] (.int .i64 (D9 t.kind)):=by
 intro h;have hq:=U2 t.kind;unfold D9;cases hk:Z3 t.kind with
 | true =>
  rw [hk] at hq;refine en_ Tryz.func149 [.tmp 2] fun g0 w0 gen b7 hfr c6 m0=>?_
  repeat' (first
   |exact hin _|exact agf as_
   | (first|refine wp rfl ?_|refine spt rfl ?_|refine spf rfl ?_|(refine spl (fun hc=>?_) fun hc=>?_)<;>(try rw [beq_iff_eq] at hc)<;>try simp only [hc]|refine cp hq ?_|refine A9 b7 ?_ ?_ ?_)<;>try simp only [go_sem, *])
  all_goals simp
 | false =>
  rw [hk] at hq;refine en_ Tryz.func149 [.tmp 2] fun g0 w0 gen b7 hfr c6 m0=>?_
  repeat' (first
   |exact hin _|exact agf as_
   | (first|refine wp rfl ?_|refine spt rfl ?_|refine spf rfl ?_|(refine spl (fun hc=>?_) fun hc=>?_)<;>(try rw [beq_iff_eq] at hc)<;>try simp only [hc]|refine cp hq ?_|refine A9 b7 ?_ ?_ ?_)<;>try simp only [go_sem, *])
  all_goals simp
theorem aO8 (m:Int):∀ t:Tm,TmW t→Pure Tryz.prog env 93 [.agg t.cells,.int .i64 m] (.bool (t.least m)):=by
 intro t
 induction t using Tm.ind with|h t ih=>?_
 intro ht h;have hlen:=ht.len;have ih':∀ x∈t.args,Pure Tryz.prog env 93 [.agg x.cells,.int .i64 m] (.bool (x.least m)):=fun x hx=>ih x hx (ht.arg hx);clear ih;have hv0:=(t.R2 m).symm;generalize hvv:t.least m=v at hv0 ⊢;clear hvv;cases hi:decide (t.index>m) with
 | true =>
  have:decide (t.index≤m)=false:=by simp at hi ⊢;omega
  rw [this,Bool.false_and] at hv0;subst hv0;clear ih';exact ek_ Tryz.func93 [.tmp 4]
 | false =>
 have:decide (t.index≤m)=true:=by simp at hi ⊢;omega
 rw [this,Bool.true_and] at hv0;clear this;refine en_ Tryz.func93 [.tmp 4] fun g0 w0 gen b7 hfr c6 m0=>?_;refine wq_ ?_;refine ar_ [1,12] [] (fun i σ=>g9 h σ.h∧Tm.J1 m (t.args.drop i)=v) (t.args).length ?_ ?_ ?_
 ·simp only [go_sem, *]
  first|exact ag_|exact ⟨ag_,hv0⟩
 ·clear hv0 hi
  intro i σ gr0 l6 hgn hlt jI jN jS ⟨jA,jv⟩;obtain ⟨jT,jB⟩:=jS;simp only [go_sem] at jT jB;obtain ⟨hgf,m6,n7,n8⟩:=rnd hgn l6 jA;obtain ⟨x,hx,hxm,hm⟩:=rnx hlt;clear hgn;rw [A2 hx,Tm.L6] at jv;have hc:=ih' x hxm;clear ih';cases hn:x.least m with
  | false =>
   rw [hn] at hc;rw [hn,Bool.false_and] at jv;subst jv;exact wk_
  | true =>
   rw [hn] at hc;rw [hn,Bool.true_and] at jv;refine wq_ ?_
   first|exact ag_|exact ⟨ag_,jv⟩
 ·clear hv0 hi
  intro σ ga0 l9 hgn jS ⟨jA,jv⟩;obtain ⟨jT,jB⟩:=jS;simp only [go_sem] at jT jB;obtain ⟨hgf,m6,n9,o0⟩:=rnd hgn l9 jA;clear hgn;rw [List.drop_length,Tm.F7] at jv;subst jv;clear ih';exact wk_
theorem cb5:∀ t:Tm,TmW t→∀ at':Int,Pure Tryz.prog env 148 [.agg t.cells,.int .i64 at'] (.int .i64 (t.times at')):=by
 intro t
 induction t using Tm.ind with|h t ih=>?_
 intro ht at' h;have hlen:=ht.len;have ih':∀ x∈t.args,Pure Tryz.prog env 148 [.agg x.cells,.int .i64 (x4 at' (r6 t.kind))] (.int .i64 (x.times (x4 at' (r6 t.kind)))):=fun x hx=>ih x hx (ht.arg hx) _;clear ih;have hB:=aC6 t;have hv0:=(t.bc5 at').symm;generalize hvv:t.times at'=v at hv0 ⊢;clear hvv;have hw:IntKind.i64.wrap (at'+r6 t.kind)=x4 at' (r6 t.kind):=rfl;generalize x4 at' (r6 t.kind)=a2 at *;have hw1:IntKind.i64.wrap (0+1)=x4 0 1:=rfl;cases hk:(t.kind==1&&t.index==at') with
 | true =>
  have hk1:(t.kind==1)=true:=by cases h1:(t.kind==1)<;>simp_all
  have hk2:(t.index==at')=true:=by cases h1:(t.index==at')<;>simp_all
  rw [hk] at hv0;simp only [if_true] at hv0;generalize x4 0 1=n0 at *;clear hk;refine en_ Tryz.func148 [.tmp 4] fun g0 w0 gen b7 hfr c6 m0=>?_;refine wq_ ?_;refine ar_ [1,2,4,20] [⟨gen,0,0⟩] (fun i σ=>g9 h σ.h∧∃ n,σ.tm 5=.int .i64 n∧Tm.Q9 a2 n (t.args.drop i)=v) (t.args).length ?_ ?_ ?_
  ·simp only [go_sem, *]
   first|exact ⟨_,rfl,hv0⟩|exact ⟨ag_,_,rfl,hv0⟩
  ·clear hv0
   intro i σ gr0 l6 hgn hlt jI jN jS ⟨jA,n,jn,jv⟩;obtain ⟨jT,jB⟩:=jS;simp only [go_sem] at jT jB;obtain ⟨hgf,m6,n7,n8⟩:=rnd hgn l6 jA;obtain ⟨x,hx,hxm,hm⟩:=rnx hlt;clear hgn;rw [A2 hx,Tm.U4] at jv;have hc:=ih' x hxm;have hw2:IntKind.i64.wrap (n+x.times a2)=x4 n (x.times a2):=rfl;clear ih';refine wq_ ?_
   first|exact ⟨_,rfl,jv⟩|exact ⟨ag_,_,rfl,jv⟩
  ·clear hv0
   intro σ ga0 l9 hgn jS ⟨jA,n,jn,jv⟩;obtain ⟨jT,jB⟩:=jS;simp only [go_sem] at jT jB;obtain ⟨hgf,m6,n9,o0⟩:=rnd hgn l9 jA;clear hgn;rw [List.drop_length,Tm.R1] at jv;subst jv;clear ih';exact wk_
 | false =>
  rw [hk] at hv0;simp only [Bool.false_eq_true,if_false] at hv0;have hkk:((t.kind==1)=true∧(t.index==at')=false)∨(t.kind==1)=false:=by cases h1:(t.kind==1)<;>cases h2:(t.index==at')<;>simp_all
  clear hk hw1;rcases hkk with ⟨hk1,hk2⟩|hk1
  all_goals
   refine en_ Tryz.func148 [.tmp 4] fun g0 w0 gen b7 hfr c6 m0=>?_;refine wq_ ?_;refine ar_ [1,2,4,20] [⟨gen,0,0⟩] (fun i σ=>g9 h σ.h∧∃ n,σ.tm 5=.int .i64 n∧Tm.Q9 a2 n (t.args.drop i)=v) (t.args).length ?_ ?_ ?_
   ·simp only [go_sem, *]
    first|exact ⟨_,rfl,hv0⟩|exact ⟨ag_,_,rfl,hv0⟩
   ·clear hv0
    intro i σ gr0 l6 hgn hlt jI jN jS ⟨jA,n,jn,jv⟩;obtain ⟨jT,jB⟩:=jS;simp only [go_sem] at jT jB;obtain ⟨hgf,m6,n7,n8⟩:=rnd hgn l6 jA;obtain ⟨x,hx,hxm,hm⟩:=rnx hlt;clear hgn;rw [A2 hx,Tm.U4] at jv;have hc:=ih' x hxm;have hw2:IntKind.i64.wrap (n+x.times a2)=x4 n (x.times a2):=rfl;clear ih';refine wq_ ?_
    first|exact ⟨_,rfl,jv⟩|exact ⟨ag_,_,rfl,jv⟩
   ·clear hv0
    intro σ ga0 l9 hgn jS ⟨jA,n,jn,jv⟩;obtain ⟨jT,jB⟩:=jS;simp only [go_sem] at jT jB;obtain ⟨hgf,m6,n9,o0⟩:=rnd hgn l9 jA;clear hgn;rw [List.drop_length,Tm.R1] at jv;subst jv;clear ih';exact wk_
theorem bk6 {b:Int}:∀ (t:Tm) (fr:Int),TmW t→TmW (t.up b fr):=by
 intro t
 induction t using Tm.ind with|h t ih=>?_
 intro fr ht;rw [Tm.bO9];refine .mk _ _ _ _ ht.ty (by rw [List.length_map];exact ht.len) ?_;intro x hx;obtain ⟨y,hy,rfl⟩:=List.mem_map.1 hx;exact ih y hy _ (ht.arg hy)
theorem bn2 (b:Int):∀ t:Tm,TmW t→∀ fr:Int,Pure Tryz.prog env 147 [.agg t.cells,.int .i64 fr,.int .i64 b] (.agg (t.up b fr).cells):=by
 intro t
 induction t using Tm.ind with|h t ih=>?_
 intro ht fr h;have hlen:=ht.len;have ih':∀ x∈t.args,Pure Tryz.prog env 147 [.agg x.cells,.int .i64 (x4 fr (r6 t.kind)),.int .i64 b] (.agg (x.up b (x4 fr (r6 t.kind))).cells):=fun x hx=>ih x hx (ht.arg hx) _;clear ih;have hB:=aC6 t;have hv0:V.agg (Tm.mk t.kind (if t.kind==1&&decide (t.index≥fr) then x4 t.index b else t.index) t.type (t.args.map fun x=>x.up b (x4 fr (r6 t.kind)))).cells=.agg (t.up b fr).cells:=by rw [Tm.bO9]
 have hin:∀ S,InV S (V.agg (t.up b fr).cells):=fun S=>by simp [InV,aw0]
 generalize hvv:V.agg (t.up b fr).cells=v at hv0 hin ⊢;clear hvv;have hw:IntKind.i64.wrap (fr+r6 t.kind)=x4 fr (r6 t.kind):=rfl;generalize x4 fr (r6 t.kind)=a2 at *;have hw1:IntKind.i64.wrap (t.index+b)=x4 t.index b:=rfl;cases hk:(t.kind==1&&decide (t.index≥fr)) with
 | true =>
  have hk1:(t.kind==1)=true:=by cases h1:(t.kind==1)<;>simp_all
  have hk2:decide (t.index≥fr)=true:=by cases h1:decide (t.index≥fr)<;>simp_all
  rw [hk] at hv0;simp only [if_true] at hv0;generalize x4 t.index b=n0 at *;clear hk;refine en_ Tryz.func147 [.cell 6 65] fun g0 w0 gen b7 hfr c6 m0=>?_;refine wq_ ?_;refine ar_ [1,2,3,6,7,32] [⟨gen,0,0⟩,⟨gen,0,1⟩] (fun i σ=>g9 h σ.h∧∃ v,σ.h ⟨gen,1,7⟩=some (.box [.int .i64 t.kind,.int .i64 n0,.int .i64 t.type.kind,.sl .any (t.type.args.map Ty.cells),v])∧T7 h σ.h v 5 (((t.args.take i).map fun x=>x.up b a2).map Tm.cells)) (t.args).length ?_ ?_ ?_
  ·simp only [go_sem, *]
   exact ⟨ag_,_,rfl,.inl rfl⟩
  ·clear hv0
   intro i σ gr0 l6 hgn hlt jI jN jS ⟨jA,v,jb,jO0⟩;obtain ⟨jT,jB⟩:=jS;simp only [go_sem] at jT jB;obtain ⟨hgf,m6,n7,n8⟩:=rnd hgn l6 jA;obtain ⟨x,hx,hxm,hm⟩:=rnx hlt;clear hgn;have hc:=ih' x hxm;have hts:((t.args.take (i+1)).map fun x=>x.up b a2).map Tm.cells=((t.args.take i).map fun x=>x.up b a2).map Tm.cells++[(x.up b a2).cells]:=by rw [B4 hx,List.map_append];rfl
   clear ih'
   repeat' (first
    |(refine ⟨?_,?_⟩;focus ((repeat' (first|refine ⟨?_,?_⟩|refine .inr ?_));all_goals kernel_rfl))
    |(refine G9 jO0 kp_ rfl so_ fr_ sg_ lo_ ?_;intro v' h' id' jO jK jAg jAb jF;obtain ⟨cO,rfl⟩:=jO.val;simp only [go_sem, *])
    | (first|refine wp rfl ?_|refine spt rfl ?_|refine spf rfl ?_|(refine spl (fun hc=>?_) fun hc=>?_)<;>(try rw [beq_iff_eq] at hc)<;>try simp only [hc]|(refine gs (fun hb=>?_) fun hb=>?_)<;>try simp only [Bool.not_true,Bool.not_false] at hb|refine cp hc ?_|refine cp hB ?_|refine u7 ?_)<;>try simp only [go_sem, *])
   refine ⟨?_,_,rfl,jO.ak5 (F4.box (F4.refl _) sg_)⟩;exact g9.new (jAg ag_) (c6 _ _)
  ·
   intro σ ga0 l9 hgn jS ⟨jA,v,jb,jO0⟩;obtain ⟨jT,jB⟩:=jS;simp only [go_sem] at jT jB;obtain ⟨hgf,m6,n9,o0⟩:=rnd hgn l9 jA;clear hgn;rw [List.take_length] at jO0;obtain ⟨c,rfl⟩:=jO0.val;clear ih';rw [Tm.p9] at hv0;subst hv0;exact wk_
 | false =>
  rw [hk] at hv0;simp only [Bool.false_eq_true,if_false] at hv0;have hkk:((t.kind==1)=true∧decide (t.index≥fr)=false)∨(t.kind==1)=false:=by cases h1:(t.kind==1)<;>cases h2:decide (t.index≥fr)<;>simp_all
  clear hk hw1;rcases hkk with ⟨hk1,hk2⟩|hk1
  all_goals
   refine en_ Tryz.func147 [.cell 6 65] fun g0 w0 gen b7 hfr c6 m0=>?_;refine wq_ ?_;refine ar_ [1,2,3,6,7,32] [⟨gen,0,0⟩,⟨gen,0,1⟩] (fun i σ=>g9 h σ.h∧∃ v,σ.h ⟨gen,1,7⟩=some (.box [.int .i64 t.kind,.int .i64 t.index,.int .i64 t.type.kind,.sl .any (t.type.args.map Ty.cells),v])∧T7 h σ.h v 5 (((t.args.take i).map fun x=>x.up b a2).map Tm.cells)) (t.args).length ?_ ?_ ?_
   ·simp only [go_sem, *]
    exact ⟨ag_,_,rfl,.inl rfl⟩
   ·clear hv0
    intro i σ gr0 l6 hgn hlt jI jN jS ⟨jA,v,jb,jO0⟩;obtain ⟨jT,jB⟩:=jS;simp only [go_sem] at jT jB;obtain ⟨hgf,m6,n7,n8⟩:=rnd hgn l6 jA;obtain ⟨x,hx,hxm,hm⟩:=rnx hlt;clear hgn;have hc:=ih' x hxm;have hts:((t.args.take (i+1)).map fun x=>x.up b a2).map Tm.cells=((t.args.take i).map fun x=>x.up b a2).map Tm.cells++[(x.up b a2).cells]:=by rw [B4 hx,List.map_append];rfl
    clear ih'
    repeat' (first
     |(refine ⟨?_,?_⟩;focus ((repeat' (first|refine ⟨?_,?_⟩|refine .inr ?_));all_goals kernel_rfl))
     |(refine G9 jO0 kp_ rfl so_ fr_ sg_ lo_ ?_;intro v' h' id' jO jK jAg jAb jF;obtain ⟨cO,rfl⟩:=jO.val;simp only [go_sem, *])
     | (first|refine wp rfl ?_|refine spt rfl ?_|refine spf rfl ?_|(refine spl (fun hc=>?_) fun hc=>?_)<;>(try rw [beq_iff_eq] at hc)<;>try simp only [hc]|(refine gs (fun hb=>?_) fun hb=>?_)<;>try simp only [Bool.not_true,Bool.not_false] at hb|refine cp hc ?_|refine cp hB ?_|refine u7 ?_)<;>try simp only [go_sem, *])
    refine ⟨?_,_,rfl,jO.ak5 (F4.box (F4.refl _) sg_)⟩;exact g9.new (jAg ag_) (c6 _ _)
   ·
    intro σ ga0 l9 hgn jS ⟨jA,v,jb,jO0⟩;obtain ⟨jT,jB⟩:=jS;simp only [go_sem] at jT jB;obtain ⟨hgf,m6,n9,o0⟩:=rnd hgn l9 jA;clear hgn;rw [List.take_length] at jO0;obtain ⟨c,rfl⟩:=jO0.val;clear ih';rw [Tm.p9] at hv0;subst hv0;exact wk_
end Go.Proofs.YteaijonkbbkkjaaGreatDoor
