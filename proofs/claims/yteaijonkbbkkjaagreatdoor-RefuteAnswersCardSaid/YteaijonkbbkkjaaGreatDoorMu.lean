/-
 Walks: several parts in one text.
-/
import Derived.Test.YteaijonkbbkkjaaGreatDoorIe
import Derived.Test.YteaijonkbbkkjaaGreatDoorMh
import Derived.Test.YteaijonkbbkkjaaGreatDoorAbsDc
import Derived.Test.YteaijonkbbkkjaaGreatDoorMn
set_option linter.unusedSimpArgs false
set_option linter.unusedVariables false
set_option maxRecDepth 20000
set_option maxHeartbeats 4000000
namespace Go.Proofs.YteaijonkbbkkjaaGreatDoor
open Go GoAbs Go.Proofs
theorem cu5 (a:Int) (s:Tm) (hs:TmW s) (A B:GoAbs.Id) (t:Tm) (ht:TmW t) (b:Int):as6 Tryz.prog env 176 (.agg t.cells::.int .i64 b::[.ptr A 0,.ptr B 0])
  [(A,.box [.int .i64 a]),(B,.box s.cells)] (.agg (Q5 t (x4 a b) s).cells):=by
 intro h he;simp only [List.mem_cons,List.not_mem_nil,or_false,forall_eq_or_imp,forall_eq] at he;obtain ⟨hA,hB⟩:=he;have hw:IntKind.i64.wrap (a+b)=x4 a b:=rfl;have hc:=cs5 t ht (x4 a b) s hs;have hin:∀ S,InV S (V.agg (Q5 t (x4 a b) s).cells):=fun S=>by simp [InV,aw0]
 generalize x4 a b=m at *;generalize Q5 t m s=v at *;clear ht hs;refine en_ Tryz.func176 [.cell 6 65] fun g0 w0 gen b7 hfr c6 m0=>?_;have f5:=c7 hfr hA;have f6:=c7 hfr hB;exact wk_
theorem aM9 (f:Fm) (hf:FmW f) (a:Int) (s:Tm) (hs:TmW s):Pure Tryz.prog env 128 [.agg f.cells,.int .i64 a,.agg s.cells] (.agg (f.rv (fun t b=>Q5 t (x4 a b) s) 0).cells):=by
 intro h;refine en_ Tryz.func128 [.cell 6 45] fun g0 w0 gen b7 hfr c6 m0=>?_;have hc:=bK3 (fun t b=>Q5 t (x4 a b) s) 176 [.ptr ⟨gen,0,1⟩ 0,.ptr ⟨gen,0,2⟩ 0] rfl ⟨gen,0,1⟩ ⟨gen,0,2⟩ _ _ (fun x hx b=>cu5 a s hs _ _ x hx b) f hf 0;generalize f.rv (fun t b=>Q5 t (x4 a b) s) 0=v at *;clear hs
 repeat' (first
  |exact hin _|exact agf as_
  | (first|refine wp rfl ?_|(refine U5 (hc) ?_ ?_;(focus ((simp only [go_sem, *]<;>(repeat (first|assumption|rfl|refine And.intro ?_ ?_)));done)))|refine A9 b7 ?_ ?_ ?_)<;>try simp only [go_sem, *])
theorem cd4 (a:Int) (A d:GoAbs.Id) (nA:A≠d) (n:Int) (t:Tm) (ht:TmW t) (b:Int) :
  Y4 Tryz.prog env 174 (.agg t.cells::.int .i64 b::[.ptr d 0,.ptr A 0]) [(A,.box [.int .i64 a])] d (.box [.int .i64 n]) (.tup []) (.box [.int .i64 (x4 n (t.count (x4 a b)))]):=by
 intro h he hd;simp only [List.mem_cons,List.not_mem_nil,or_false,forall_eq] at he;have n3:(A=d)=False:=by simpa using nA
 have hc:=aX6 t ht (x4 a b);have hw:IntKind.i64.wrap (a+b)=x4 a b:=rfl;generalize x4 a b=m at *;have hw2:IntKind.i64.wrap (n+t.count m)=x4 n (t.count m):=rfl;generalize t.count m=q at *;clear ht nA;refine en_ Tryz.func174 [] fun g0 w0 gen b7 hfr c6 m0=>?_;have f1:=c7 hfr hd;have f2:=l4 hfr hd;have f5:=c7 hfr he;exact I0
theorem cE0 (F:Tm→Int→Int) (kd:Nat) (cap:List V) (V0:C7 cap=cap) (A d:GoAbs.Id) (oA:GoAbs.Obj) (nA:A≠d)
  (hdo:∀ x:Tm,TmW x→∀ b n:Int,Y4 Tryz.prog env kd (.agg x.cells::.int .i64 b::cap) [(A,oA)] d (.box [.int .i64 n]) (.tup []) (.box [.int .i64 (x4 n (F x b))])) :
  ∀ f:Fm,FmW f→∀ b n:Int,Y4 Tryz.prog env 170 [.agg f.cells,.int .i64 b,.fn (.func kd) [] cap] [(A,oA)] d (.box [.int .i64 n]) (.tup []) (.box [.int .i64 (f.sm F b n)]):=by
 intro t
 induction t using Fm.ind with|h t ih=>?_
 intro ht b n h he hd;simp only [List.mem_cons,List.not_mem_nil,or_false,forall_eq] at he;have hlen:=ht.len;have aF5:=ht.aE3;have ih':∀ x∈t.args,∀ b n:Int,Y4 Tryz.prog env 170 [.agg x.cells,.int .i64 b,.fn (.func kd) [] cap] [(A,oA)] d (.box [.int .i64 n]) (.tup []) (.box [.int .i64 (x.sm F b n)]):=fun x hx=>ih x hx (ht.arg hx);have ht':∀ x∈t.r8,∀ b n:Int,Y4 Tryz.prog env kd (.agg x.cells::.int .i64 b::cap) [(A,oA)] d (.box [.int .i64 n]) (.tup []) (.box [.int .i64 (x4 n (F x b))]):=fun x hx=>hdo x (ht.term hx);have hQ:=al1 t.kind;rw [Fm.bR9];unfold evB;clear ih hdo ht;have n3:(A=d)=False:=by simpa using nA
 clear nA;have hw:IntKind.i64.wrap (b+1)=x4 b 1:=rfl;generalize hb1:(if (decide (t.kind≥4)&&decide (t.kind≤7))=true then x4 b 1 else b)=b1;generalize hm:t.args.foldl (fun n x=>x.sm F b1 n) (t.r8.foldl (fun n t=>x4 n (F t b)) n)=m;refine en_ Tryz.func170 [] fun g0 w0 gen b7 hfr c6 m0=>?_;have f1:=c7 hfr hd;have f2:=l4 hfr hd;have f5:=c7 hfr he;refine wq_ ?_;refine ar_ [1,2,3,11] [⟨gen,0,0⟩] (fun i σ=>a9 d h σ.h∧σ.h d=some (.box [.int .i64 ((t.r8.take i).foldl (fun n t=>x4 n (F t b)) n)])) (t.r8).length ?_ ?_ ?_
 ·simp only [go_sem, *]
  exact ⟨by repeat (first|exact a9.refl _ _|assumption|refine a9.new ?_ (c6 _ _)|refine a9.set ?_),rfl⟩
 ·clear ih' hm
  intro i σ gr0 l6 hgn hlt jI jN jS ⟨jA,js⟩;obtain ⟨jT,jB⟩:=jS;simp only [go_sem] at jT jB;have hgf:=c8 hgn;have m6:=l7 hd jA hgf (fun r i e=>by have:=hfr d (by rw [hd];simp);rw [e] at this;simp at this;omega);have az5:=u6 hfr hd (show gen<gr0 by omega);have az2:=B3 hfr hd (show gen<gr0 by omega);have n7:=s8 (show gen<gr0 by omega);have n8:=o9 (show gen<gr0 by omega);obtain ⟨x,hx,hxm,hm⟩:=rnx hlt;clear hgn;have hc:=ht' x hxm b ((t.r8.take i).foldl (fun n t=>x4 n (F t b)) n);have hA':=(jA A (by simpa using n3) (by rw [he];simp)).trans he;have g5:=u6 hfr he l6;have hts:=ak4 (g:=fun n t=>x4 n (F t b)) hx n;generalize (t.r8.take i).foldl (fun n t=>x4 n (F t b)) n=w at *;clear ht' he
  repeat' (first
   | (first|refine wp rfl ?_|refine spt rfl ?_|refine spf rfl ?_|(refine spl (fun hc=>?_) fun hc=>?_)<;>(try rw [beq_iff_eq] at hc)<;>try simp only [hc]|(refine N6 (hc) ?_ ?_ ?_;(focus ((simp only [go_sem, *]<;>(repeat (first|assumption|rfl|refine And.intro ?_ ?_)));done));(focus ((simp only [go_sem, *]<;>first|rfl|assumption);done)))|refine u7 ?_)<;>try simp only [go_sem, *])
  repeat (first|assumption|refine a9.new ?_ (m6 _ _)|refine a9.set ?_)
 clear ht';intro σ ga0 l9 hgn jS ⟨jA,js⟩;obtain ⟨jT,jB⟩:=jS;simp only [go_sem] at jT jB;have hgf:=c8 hgn;have m6:=l7 hd jA hgf (fun r i e=>by have:=hfr d (by rw [hd];simp);rw [e] at this;simp at this;omega);have aA6:=u6 hfr hd (show gen<ga0 by omega);have ay9:=B3 hfr hd (show gen<ga0 by omega);have n9:=s8 (show gen<ga0 by omega);have o0:=o9 (show gen<ga0 by omega);clear hgn;rw [List.take_length] at js;generalize t.r8.foldl (fun n t=>x4 n (F t b)) n=w at *;cases hq:(decide (t.kind≥4)&&decide (t.kind≤7)) with
 | true =>
  rw [hq] at hQ hb1;clear hq;simp only [if_true] at hb1;refine wq_ ?_;refine ar_ [1,2,28] [] (fun i σ=>a9 d h σ.h∧σ.h d=some (.box [.int .i64 ((t.args.take i).foldl (fun n x=>x.sm F b1 n) w)])) (t.args).length ?_ ?_ ?_
  ·simp only [go_sem, *]
   first|exact ⟨jA,rfl⟩|exact jA|rfl
  ·clear hm
   intro i σ gr1 M8 hgn hlt jI jN jS ⟨jA,js'⟩;obtain ⟨jT,jB⟩:=jS;simp only [go_sem] at jT jB;have hgf:=c8 hgn;have m6:=l7 hd jA hgf (fun r i e=>by have:=hfr d (by rw [hd];simp);rw [e] at this;simp at this;omega);have cj3:=u6 hfr hd (show gen<gr1 by omega);have cr3:=B3 hfr hd (show gen<gr1 by omega);have G2:=s8 (show gen<gr1 by omega);have G8:=o9 (show gen<gr1 by omega);have K8:=s8 (show ga0<gr1 by omega);have K5:=o9 (show ga0<gr1 by omega);obtain ⟨x,hx,hxm,hm⟩:=rnx hlt;clear hgn;have hc:=ih' x hxm b1 ((t.args.take i).foldl (fun n x=>x.sm F b1 n) w);have hA':=(jA A (by simpa using n3) (by rw [he];simp)).trans he;have g5:=u6 hfr he (show gen<gr1 by omega);have hts:=ak4 (g:=fun n x=>x.sm F b1 n) hx w;generalize (t.args.take i).foldl (fun n x=>x.sm F b1 n) w=w' at *;clear ih' he
   repeat' (first
    | (first|refine wp rfl ?_|refine spt rfl ?_|refine spf rfl ?_|(refine spl (fun hc=>?_) fun hc=>?_)<;>(try rw [beq_iff_eq] at hc)<;>try simp only [hc]|(refine N6 (hc) ?_ ?_ ?_;(focus ((simp only [go_sem, *]<;>(repeat (first|assumption|rfl|refine And.intro ?_ ?_)));done));(focus ((simp only [go_sem, *]<;>first|rfl|assumption);done)))|refine u7 ?_)<;>try simp only [go_sem, *])
   repeat (first|assumption|refine a9.new ?_ (m6 _ _)|refine a9.set ?_)
  ·
   intro σ ga1 M7 hgn jS ⟨jA,js2⟩;obtain ⟨jT,jB⟩:=jS;simp only [go_sem] at jT jB;have hgf:=c8 hgn;have m6:=l7 hd jA hgf (fun r i e=>by have:=hfr d (by rw [hd];simp);rw [e] at this;simp at this;omega);have cv4:=u6 hfr hd (show gen<ga1 by omega);have cm7:=B3 hfr hd (show gen<ga1 by omega);have G3:=s8 (show gen<ga1 by omega);have G4:=o9 (show gen<ga1 by omega);have K6:=s8 (show ga0<ga1 by omega);have K3:=o9 (show ga0<ga1 by omega);clear hgn;rw [List.take_length,hm] at js2;clear ih' hm;refine wq_ ?_;refine L4 b7 hd (by simp only [go_sem,and_self]) (by simp only [go_sem,and_self]) (by repeat (first|assumption|refine a9.new ?_ (c6 _ _))) sg_ ?_;simp only [go_sem, *]
 | false =>
  rw [hq] at hQ hb1;clear hq;simp only [Bool.false_eq_true,if_false] at hb1;subst hb1;refine wq_ ?_;refine ar_ [1,2,28] [] (fun i σ=>a9 d h σ.h∧σ.h d=some (.box [.int .i64 ((t.args.take i).foldl (fun n x=>x.sm F b n) w)])) (t.args).length ?_ ?_ ?_
  ·simp only [go_sem, *]
   first|exact ⟨jA,rfl⟩|exact jA|rfl
  ·clear hm
   intro i σ gr1 M8 hgn hlt jI jN jS ⟨jA,js'⟩;obtain ⟨jT,jB⟩:=jS;simp only [go_sem] at jT jB;have hgf:=c8 hgn;have m6:=l7 hd jA hgf (fun r i e=>by have:=hfr d (by rw [hd];simp);rw [e] at this;simp at this;omega);have cj3:=u6 hfr hd (show gen<gr1 by omega);have cr3:=B3 hfr hd (show gen<gr1 by omega);have G2:=s8 (show gen<gr1 by omega);have G8:=o9 (show gen<gr1 by omega);have K8:=s8 (show ga0<gr1 by omega);have K5:=o9 (show ga0<gr1 by omega);obtain ⟨x,hx,hxm,hm⟩:=rnx hlt;clear hgn;have hc:=ih' x hxm b ((t.args.take i).foldl (fun n x=>x.sm F b n) w);have hA':=(jA A (by simpa using n3) (by rw [he];simp)).trans he;have g5:=u6 hfr he (show gen<gr1 by omega);have hts:=ak4 (g:=fun n x=>x.sm F b n) hx w;generalize (t.args.take i).foldl (fun n x=>x.sm F b n) w=w' at *;clear ih' he
   repeat' (first
    | (first|refine wp rfl ?_|refine spt rfl ?_|refine spf rfl ?_|(refine spl (fun hc=>?_) fun hc=>?_)<;>(try rw [beq_iff_eq] at hc)<;>try simp only [hc]|(refine N6 (hc) ?_ ?_ ?_;(focus ((simp only [go_sem, *]<;>(repeat (first|assumption|rfl|refine And.intro ?_ ?_)));done));(focus ((simp only [go_sem, *]<;>first|rfl|assumption);done)))|refine u7 ?_)<;>try simp only [go_sem, *])
   repeat (first|assumption|refine a9.new ?_ (m6 _ _)|refine a9.set ?_)
  ·
   intro σ ga1 M7 hgn jS ⟨jA,js2⟩;obtain ⟨jT,jB⟩:=jS;simp only [go_sem] at jT jB;have hgf:=c8 hgn;have m6:=l7 hd jA hgf (fun r i e=>by have:=hfr d (by rw [hd];simp);rw [e] at this;simp at this;omega);have cv4:=u6 hfr hd (show gen<ga1 by omega);have cm7:=B3 hfr hd (show gen<ga1 by omega);have G3:=s8 (show gen<ga1 by omega);have G4:=o9 (show gen<ga1 by omega);have K6:=s8 (show ga0<ga1 by omega);have K3:=o9 (show ga0<ga1 by omega);clear hgn;rw [List.take_length,hm] at js2;clear ih' hm;refine wq_ ?_;refine L4 b7 hd (by simp only [go_sem,and_self]) (by simp only [go_sem,and_self]) (by repeat (first|assumption|refine a9.new ?_ (c6 _ _))) sg_ ?_;simp only [go_sem, *]
theorem ba7 (f:Fm) (hf:FmW f) (a:Int):Pure Tryz.prog env 127 [.agg f.cells,.int .i64 a] (.int .i64 (f.sm (fun t b=>t.count (x4 a b)) 0 0)):=by
 intro h;refine en_ Tryz.func127 [.tmp 4] fun g0 w0 gen b7 hfr c6 m0=>?_;have nA:(⟨gen,0,1⟩:GoAbs.Id)≠⟨gen,1,0⟩:=by simp
 have hc:=cE0 (fun t b=>t.count (x4 a b)) 174 [.ptr ⟨gen,1,0⟩ 0,.ptr ⟨gen,0,1⟩ 0] rfl ⟨gen,0,1⟩ ⟨gen,1,0⟩ _ nA (fun x hx b n=>cd4 a _ _ nA n x hx b) f hf 0 0;generalize f.sm (fun t b=>t.count (x4 a b)) 0 0=v at *;clear nA
 repeat' (first
  |exact hin _|exact agf as_
  | (first|refine wp rfl ?_|(refine N6 (hc) ?_ ?_ ?_;(focus ((simp only [go_sem, *]<;>(repeat (first|assumption|rfl|refine And.intro ?_ ?_)));done));(focus ((simp only [go_sem, *]<;>first|rfl|assumption);done)))|refine A9 b7 ?_ ?_ ?_)<;>try simp only [go_sem, *])
theorem bH3:(C5 0).cells=[.int .i64 4,.int .i64 0,.int .i64 0,.sl .any [],.sl .any []]:=by simp [C5,tm0,Tm.p9,Ty.J5,Ty.J4]
theorem bJ9 (n:Nat):(C5 (n+1)).cells=[.int .i64 5,.int .i64 0,.int .i64 0,.sl .any [],.sl .any [(C5 n).cells]]:=by simp [C5,tm0,Tm.p9,Ty.J5,Ty.J4]
theorem az8 (n:Nat) (hn:n≤100000):Pure Tryz.prog env 168 [.int .i64 n] (.agg (C5 n).cells):=by
 intro h;have e0:=bH3;have eS:=bJ9;refine en_ Tryz.func168 [.cell 2 65] fun g0 w0 gen b7 hfr c6 m0=>?_;refine wq_ ?_;refine ai3 ⟨gen,1,1⟩ sr_ ?_;simp only [go_sem, *];refine B1 (fun i σ=>σ.tm 4=.int .i64 ((n:Int) - i)∧σ.tm 2=.ptr ⟨gen,0,0⟩ 0∧σ.tm 3=.ptr ⟨gen,1,1⟩ 0∧i≤n ∧
  σ.h ⟨gen,1,1⟩=some (.box (C5 i).cells)∧σ.h ⟨gen,0,0⟩=some (.box [.int .i64 0,.int .i64 0,.int .i64 0,.sl .full [],.sl .full []])∧g9 h σ.h) n ?_ ?_
 ·rw [e0]
  clear e0 eS;simp only [go_sem, *];exact ⟨sp_,om_,ag_⟩
 intro i σ hi ⟨j4,j2,j3,ji,jb,jb0,jA⟩;refine F9 (fun gn hgl hgn=>?_);have hgf:=c8 hgn;have m6:=fun r i=>s7 jA (hgf r i);clear hgn e0;rcases Nat.lt_or_ge i n with hlt|hge
 ·have hd:decide ((n:Int) - (i:Int)>0)=true:=by simp;omega
  have hw1:IntKind.i64.wrap ((n:Int) - (i:Int) - 1)=(n:Int) - (i:Int) - 1:=w8 rfl om_ om_;have e5:(n:Int) - ((i+1:Nat):Int)=(n:Int) - (i:Int) - 1:=by omega
  have e6:i+1≤n:=by omega
  rw [eS];clear eS hi ji;generalize C5 i=t at *
  repeat' (first
   | (first|refine wp rfl ?_|refine spt rfl ?_|refine spf rfl ?_|(refine spl (fun hc=>?_) fun hc=>?_)<;>(try rw [beq_iff_eq] at hc)<;>try simp only [hc])<;>try simp only [go_sem, *])
  refine ai3 ⟨gen,1,1⟩ sr_ ?_;refine u7 ?_;simp only [go_sem, *];exact ag_
 ·have hd:decide ((n:Int) - (i:Int)>0)=false:=by simp;omega
  obtain rfl:i=n:=by omega
  clear eS hge hi;generalize C5 i=t at *;exact wk_
theorem aQ1 (n:Nat) (hn:n<4096):Pure Tryz.prog env 277 [.int .i64 n] (.tup [.agg (C5 n).cells,.int .i64 0]):=by
 intro h;have hc:=az8 n om_;have d1:decide ((n:Int)<0)=false:=by simp
 have d2:decide ((n:Int)≥4096)=false:=by simp;omega
 clear hn;generalize C5 n=t at *;exact ek_ Tryz.func277 [.cell 2 65,.tmp 3]
theorem bd7 (f:Fm) (hf:FmW f) (gf:FmG true f) (zf:z6 f≤4096):Pure Tryz.prog env 122 [.agg f.cells] (.tup [.int .i64 (z6 f),.int .i64 0]):=by
 intro h;have hc:=ay4 f hf;rw [gf.ae0 om_,chk,if_neg om_] at hc;unfold two at hc;clear gf zf hf;generalize z6 f=n at *;exact ek_ Tryz.func122 [.tmp 2,.tmp 3]
theorem bz8 (t:Tm) (ht:TmW t) (gt:TmG t) (zt:m7 t≤4096):Pure Tryz.prog env 124 [.agg t.cells] (.tup [.int .i64 (m7 t),.int .i64 0]):=by
 intro h;have hc:=aR0 t ht;rw [gt.ae0 om_,chk,if_neg om_] at hc;unfold two at hc;clear gt zt ht;generalize m7 t=n at *;exact ek_ Tryz.func124 [.tmp 2,.tmp 3]
theorem aL2 (f:Fm) (hf:FmW f) (gf:FmG true f) (zf:z6 f≤4096) (lf:f.least 536870912=true) (s:Tm) (hs:TmW s) (gs:TmG s) (zs:m7 s≤4096) (ls:s.least 536870912=true) :
  Pure Tryz.prog env 75 [.agg f.cells,.int .i64 0,.agg s.cells] (Y5 (H3 f s)):=by
 intro h;have h1:=bd7 f hf gf zf;have h2:=ce3 0;rw [show (decide ((0:Int)≥0)&&decide ((0:Int)≤4096))=true from rfl] at h2;have h3:=bz8 s hs gs zs;have h4:=bd5 f hf lf;have h5:=cf9 s hs;rw [bN1 ls] at h5;have h6:=ba7 f hf 0;have so:=cU9 gf om_ lf 0 0 om_ om_ om_;rw [show ((0:Nat):Int)=0 from rfl,Nat.zero_add] at so;rw [so] at h6;have h7:=aM9 f hf 0 s hs;rw [cN0 gs om_ ls gf om_ lf 0 om_ om_] at h7;have hsp:=Q3 s;have ho:=ao4 f 0;have hm:L9 f 0 * (m7 s - 1)≤4096 * 4096:=Nat.mul_le_mul om_ om_;have w1:IntKind.i64.wrap ((m7 s:Int) - 1)=((m7 s - 1:Nat):Int):=w8 om_ om_ om_;have w2:IntKind.i64.wrap ((L9 f 0:Int) * ((m7 s - 1:Nat):Int))=((L9 f 0 * (m7 s - 1):Nat):Int):=w8 (by push_cast;rfl) om_ om_;have w3:IntKind.i64.wrap ((z6 f:Int)+((L9 f 0 * (m7 s - 1):Nat):Int))=((z6 f+L9 f 0 * (m7 s - 1):Nat):Int):=w8 (by push_cast;rfl) om_ om_;have n0:((0:Int) != 0)=false:=rfl;unfold H3;by_cases hle:z6 f+L9 f 0 * (m7 s - 1)≤4096
 ·have hd:decide (((z6 f+L9 f 0 * (m7 s - 1):Nat):Int)>4096)=false:=by simp only [decide_eq_false_iff_not];omega
  rw [if_pos hle];clear hle hm ho hsp zs zf gf gs lf ls hf hs so;generalize z6 f+L9 f 0 * (m7 s - 1)=a3 at *;generalize L9 f 0 * (m7 s - 1)=a2 at *;generalize m7 s - 1=a1 at *;generalize O1 s 0 f 0=v at *;exact ek_ Tryz.func75 [.cell 6 45,.tmp 7]
 ·have hd:decide (((z6 f+L9 f 0 * (m7 s - 1):Nat):Int)>4096)=true:=by simp only [decide_eq_true_eq];omega
  rw [if_neg hle];have zc:O3.cells=[.int .i64 0,.int .i64 0,.sl .any [],.sl .any [],.sl .any []]:=by simp [O3,Fm.p9,Ty.J5,Ty.J4]
  clear hle hm ho hsp zs zf gf gs lf ls hf hs so;generalize z6 f+L9 f 0 * (m7 s - 1)=a3 at *;generalize L9 f 0 * (m7 s - 1)=a2 at *;generalize m7 s - 1=a1 at *;generalize O1 s 0 f 0=v at *;exact ek_ Tryz.func75 [.cell 6 45,.tmp 7]
theorem bt1 (all:Bool) (q:Tm) (wq:TmW q) (hc:q.count 0=0) (f:Fm) (hf:FmW f) (hb:FmW (J0 all q f)) (he:P5 (J0 all q f)=0) :
  Pure Tryz.prog env 178 [.agg (J0 all q f).cells] (.tup [.bool all,.agg (Q5 q 0 C6).cells,.agg f.cells,.bool true]):=by
 intro h;have h1:=am5 _ hb;rw [he] at h1;have he':(P5 (J0 all q f) != 0)=false:=by rw [he];rfl
 have h2:=bR1 _ hb (Fm.al2 he') (by cases all<;>simp [J0,fmQ,Fm.kind]);have e1:M9 (J0 all q f)=q:=rfl;have e2:aa9 (J0 all q f)=f:=rfl;have e3:((J0 all q f).kind==4)=all:=by cases all<;>rfl
 unfold aG3 at h2;rw [if_pos (aY5 hc),e1,e2,e3] at h2;have h3:=cs5 q wq 0 C6 aH6;rw [Z8] at h3;have h4:=av3 f hf;have n0:((0:Int) != 0)=false:=rfl;clear he he' e1 e2 e3 hc hb wq hf;generalize J0 all q f=z at *;generalize Q5 q 0 C6=t at *;exact ek_ Tryz.func178 [.tmp 2,.cell 3 65,.cell 4 45,.tmp 5]
end Go.Proofs.YteaijonkbbkkjaaGreatDoor
