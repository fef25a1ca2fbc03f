/-
 Walks: the terms of plain values (the program).
-/
import Derived.Test.YteaijonkbbkkjaaGreatDoorMj
import Derived.Test.YteaijonkbbkkjaaGreatDoorMu
import Derived.Test.YteaijonkbbkkjaaGreatDoorAbsDb
import Derived.Shelf.Abstract
import Derived.OwnWalkIn
import Derived.TacticsInMore
import Derived.LoopNIn
import Derived.LoopIn
set_option linter.unusedSimpArgs false
set_option linter.unusedVariables false
set_option maxRecDepth 20000
set_option maxHeartbeats 4000000
namespace Go.Proofs.YteaijonkbbkkjaaGreatDoor
open Go GoAbs Go.Proofs
theorem cP2 (n:Int):Pure Tryz.prog env 196 [.int .i64 n] (.bool (decide (n<0))):=by
 intro h;refine en_ Tryz.func196 [.tmp 2] fun g0 w0 gen b7 hfr c6 m0=>?_
 repeat' (first
  |exact hin _|exact agf as_
  | (first|refine wp rfl ?_|refine A9 b7 ?_ ?_ ?_)<;>try simp only [go_sem, *])
theorem by6 (l:List Nat) (hlen:l.length≤5000):Pure Tryz.prog env 216 [.sl .any (ints (l.map fun (n:Nat)=>(n:Int))),.fn (.func 196) [] []] (.int .i64 (-1)):=by
 intro h;have hln:=ae9 l;have I8:=fun i x=>ints_at (l:=l) (i:=i) (x:=x);generalize ints (l.map fun (n:Nat)=>(n:Int))=L at *;refine en_ Tryz.func216 [.tmp 4] fun g0 w0 gen b7 hfr c6 m0=>?_
 repeat' (first
  |exact hin _|exact agf as_
  | (first|refine wp rfl ?_|refine spt rfl ?_|refine spf rfl ?_|(refine spl (fun hc=>?_) fun hc=>?_)<;>(try rw [beq_iff_eq] at hc)<;>try simp only [hc]|refine A9 b7 ?_ ?_ ?_)<;>try simp only [go_sem, *])
 refine ar_ [0,1] [] (fun i σ=>g9 h σ.h∧True) (l).length ?_ ?_ ?_
 ·simp only [go_sem, *]
  exact ag_
 ·
  intro i σ gr0 l6 hgn hlt jI jN jS ⟨jA,_⟩;obtain ⟨jT,jB⟩:=jS;simp only [go_sem] at jT jB;obtain ⟨hgf,m6,n7,n8⟩:=rnd hgn l6 jA;obtain ⟨x,hx,hxm,hm⟩:=rnx hlt;clear hgn;have hg:=I8 i x hx;have hc:=cP2 (x:Int);rw [show decide ((x:Int)<0)=false by simp] at hc;clear I8
  repeat' (first
   |exact hin _|exact agf as_
   | (first|refine wp rfl ?_|refine spt rfl ?_|refine spf rfl ?_|(refine spl (fun hc=>?_) fun hc=>?_)<;>(try rw [beq_iff_eq] at hc)<;>try simp only [hc]|refine u7 ?_|refine cp hc ?_|refine A9 b7 ?_ ?_ ?_)<;>try simp only [go_sem, *])
 ·
  intro σ ga0 l9 hgn jS ⟨jA,_⟩;obtain ⟨jT,jB⟩:=jS;simp only [go_sem] at jT jB;obtain ⟨hgf,m6,n9,o0⟩:=rnd hgn l9 jA;clear hgn;clear I8
  repeat' (first
   |exact hin _|exact agf as_
   | (first|refine wp rfl ?_|refine spt rfl ?_|refine spf rfl ?_|(refine spl (fun hc=>?_) fun hc=>?_)<;>(try rw [beq_iff_eq] at hc)<;>try simp only [hc]|refine A9 b7 ?_ ?_ ?_)<;>try simp only [go_sem, *])
theorem bs4 (l:List Nat) (hlen:l.length≤5000):Pure Tryz.prog env 197 [.sl .any (ints (l.map fun (n:Nat)=>(n:Int))),.fn (.func 196) [] []] (.bool false):=by
 intro h;have h1:=by6 l hlen;have d1:decide ((-1:Int)≥0)=false:=rfl;have hwL:B2 (ints (l.map fun (n:Nat)=>(n:Int)))=ints (l.map fun (n:Nat)=>(n:Int)):=N5 _;generalize ints (l.map fun (n:Nat)=>(n:Int))=L at *;refine en_ Tryz.func197 [.tmp 4] fun g0 w0 gen b7 hfr c6 m0=>?_
 repeat' (first
  |exact hin _|exact agf as_
  | (first|refine wp rfl ?_|refine cp h1 ?_|refine A9 b7 ?_ ?_ ?_)<;>try simp only [go_sem, *])
theorem aM3:∀ {l:List Nat} {i n:Nat},l[i]? = some n→(l.take (i+1)).sum=(l.take i).sum+n
 | [],i,n,h=>by simp at h
 | y::l,0,n,h=>by simp at h;subst h;simp
 | y::l,i+1,n,h=>by
  have:=aM3 (l:=l) (i:=i) (n:=n) (by simpa using h);rw [List.take_succ_cons,List.take_succ_cons,List.sum_cons,List.sum_cons,this];omega
theorem ch8 {a:Ty} {v:PVl} {t:Tm} (hv:V3 a v t):m7 t≤4096→D7 a≤1000→Pure Tryz.prog env 164 [.agg v.cells] (.tup [.int .i64 (D7 a),.bool true]):=by
 induction hv with
 | num n =>
  intro hz ha h;rw [L7];have d1:decide ((n:Int)≥0)=true:=by simp
  clear hz ha;rw [PVl.p9];have dt:decide True=true:=rfl;have z0:(((0:Nat):Int)==0)=true:=rfl;have z2:(((2:Nat):Int)==2)=true:=rfl;refine en_ Tryz.func164 [.tmp 2,.tmp 3] fun g0 w0 gen b7 hfr c6 m0=>?_
  repeat' (first
   |exact hin _|exact agf as_
   | (first|refine wp rfl ?_|refine spt rfl ?_|refine spf rfl ?_|(refine spl (fun hc=>?_) fun hc=>?_)<;>(try rw [beq_iff_eq] at hc)<;>try simp only [hc]|(refine gs (fun hb=>?_) fun hb=>?_)<;>try simp only [Bool.not_true,Bool.not_false] at hb|refine A9 b7 ?_ ?_ ?_)<;>try simp only [go_sem, *])
  refine ar_ [2,3,82] [] (fun i σ=>g9 h σ.h∧σ.tm 5=.bool true∧σ.tm 6=.int .i64 1) (([]:List PVl)).length ?_ ?_ ?_
  ·simp only [go_sem, *]
   exact ag_
  ·
   intro i σ gr0 l6 hgn hlt jI jN jS ⟨jA,j5,j6⟩;obtain ⟨jT,jB⟩:=jS;simp only [go_sem] at jT jB;obtain ⟨hgf,m6,n7,n8⟩:=rnd hgn l6 jA;obtain ⟨x,hx,hxm,hm⟩:=rnx hlt;clear hgn;simp at hx
  ·
   intro σ ga0 l9 hgn jS ⟨jA,j5,j6⟩;obtain ⟨jT,jB⟩:=jS;simp only [go_sem] at jT jB;obtain ⟨hgf,m6,n9,o0⟩:=rnd hgn l9 jA;clear hgn
   repeat' (first
    |exact hin _|exact agf as_
    | (first|refine wp rfl ?_|refine spt rfl ?_|refine spf rfl ?_|(refine spl (fun hc=>?_) fun hc=>?_)<;>(try rw [beq_iff_eq] at hc)<;>try simp only [hc]|(refine gs (fun hb=>?_) fun hb=>?_)<;>try simp only [Bool.not_true,Bool.not_false] at hb|refine A9 b7 ?_ ?_ ?_)<;>try simp only [go_sem, *])
   rfl
 | list l =>
  intro hz ha h;rw [S2];rw [ac4] at hz;obtain ⟨_,hlen⟩:=V3.mem hz;have h1:=bs4 l om_;have hwL:B2 (ints (l.map fun (n:Nat)=>(n:Int)))=ints (l.map fun (n:Nat)=>(n:Int)):=N5 _;clear hz ha;rw [PVl.p9];generalize ints (l.map fun (n:Nat)=>(n:Int))=L at *;have dt:decide True=true:=rfl;have z0:(((0:Nat):Int)==0)=true:=rfl;have z2:(((2:Nat):Int)==2)=true:=rfl;refine en_ Tryz.func164 [.tmp 2,.tmp 3] fun g0 w0 gen b7 hfr c6 m0=>?_
  repeat' (first
   |exact hin _|exact agf as_
   | (first|refine wp rfl ?_|refine spt rfl ?_|refine spf rfl ?_|(refine spl (fun hc=>?_) fun hc=>?_)<;>(try rw [beq_iff_eq] at hc)<;>try simp only [hc]|(refine gs (fun hb=>?_) fun hb=>?_)<;>try simp only [Bool.not_true,Bool.not_false] at hb|refine cp h1 ?_|refine A9 b7 ?_ ?_ ?_)<;>try simp only [go_sem, *])
  refine ar_ [2,3,82] [] (fun i σ=>g9 h σ.h∧σ.tm 5=.bool true∧σ.tm 6=.int .i64 1) (([]:List PVl)).length ?_ ?_ ?_
  ·simp only [go_sem, *]
   exact ag_
  ·
   intro i σ gr0 l6 hgn hlt jI jN jS ⟨jA,j5,j6⟩;obtain ⟨jT,jB⟩:=jS;simp only [go_sem] at jT jB;obtain ⟨hgf,m6,n7,n8⟩:=rnd hgn l6 jA;obtain ⟨x,hx,hxm,hm⟩:=rnx hlt;clear hgn;simp at hx
  ·
   intro σ ga0 l9 hgn jS ⟨jA,j5,j6⟩;obtain ⟨jT,jB⟩:=jS;simp only [go_sem] at jT jB;obtain ⟨hgf,m6,n9,o0⟩:=rnd hgn l9 jA;clear hgn
   repeat' (first
    |exact hin _|exact agf as_
    | (first|refine wp rfl ?_|refine spt rfl ?_|refine spf rfl ?_|(refine spl (fun hc=>?_) fun hc=>?_)<;>(try rw [beq_iff_eq] at hc)<;>try simp only [hc]|(refine gs (fun hb=>?_) fun hb=>?_)<;>try simp only [Bool.not_true,Bool.not_false] at hb|refine A9 b7 ?_ ?_ ?_)<;>try simp only [go_sem, *])
   rfl
 | unit =>
  intro hz ha h;rw [ag7];clear hz ha;rw [PVl.p9];have dt:decide True=true:=rfl;have z0:(((0:Nat):Int)==0)=true:=rfl;have z2:(((2:Nat):Int)==2)=true:=rfl;refine en_ Tryz.func164 [.tmp 2,.tmp 3] fun g0 w0 gen b7 hfr c6 m0=>?_
  repeat' (first
   |exact hin _|exact agf as_
   | (first|refine wp rfl ?_|refine spt rfl ?_|refine spf rfl ?_|(refine spl (fun hc=>?_) fun hc=>?_)<;>(try rw [beq_iff_eq] at hc)<;>try simp only [hc]|(refine gs (fun hb=>?_) fun hb=>?_)<;>try simp only [Bool.not_true,Bool.not_false] at hb|refine A9 b7 ?_ ?_ ?_)<;>try simp only [go_sem, *])
  refine ar_ [2,3,82] [] (fun i σ=>g9 h σ.h∧σ.tm 5=.bool true∧σ.tm 6=.int .i64 1) (([]:List PVl)).length ?_ ?_ ?_
  ·simp only [go_sem, *]
   exact ag_
  ·
   intro i σ gr0 l6 hgn hlt jI jN jS ⟨jA,j5,j6⟩;obtain ⟨jT,jB⟩:=jS;simp only [go_sem] at jT jB;obtain ⟨hgf,m6,n7,n8⟩:=rnd hgn l6 jA;obtain ⟨x,hx,hxm,hm⟩:=rnx hlt;clear hgn;simp at hx
  ·
   intro σ ga0 l9 hgn jS ⟨jA,j5,j6⟩;obtain ⟨jT,jB⟩:=jS;simp only [go_sem] at jT jB;obtain ⟨hgf,m6,n9,o0⟩:=rnd hgn l9 jA;clear hgn
   repeat' (first
    |exact hin _|exact agf as_
    | (first|refine wp rfl ?_|refine spt rfl ?_|refine spf rfl ?_|(refine spl (fun hc=>?_) fun hc=>?_)<;>(try rw [beq_iff_eq] at hc)<;>try simp only [hc]|(refine gs (fun hb=>?_) fun hb=>?_)<;>try simp only [Bool.not_true,Bool.not_false] at hb|refine A9 b7 ?_ ?_ ?_)<;>try simp only [go_sem, *])
   rfl
 | @pair a b x y s t _ _ ih1 ih2 =>
  intro hz ha h;rw [Q4] at hz;rw [P0] at ha ⊢;have hc:∀ (i:Nat) (z:PVl),[x,y][i]? = some z→∃ n:Nat,[D7 a,D7 b][i]? = some n∧Pure Tryz.prog env 164 [.agg z.cells] (.tup [.int .i64 n,.bool true]):=by
   intro i z hz'
   match i with
   | 0=>simp at hz';subst hz';exact ⟨_,rfl,ih1 om_ om_⟩
   | 1=>simp at hz';subst hz';exact ⟨_,rfl,ih2 om_ om_⟩
   | i+2=>simp at hz'
  have bM4:∀ i,([D7 a,D7 b].take i).sum≤1000:=by
   intro i
   match i with
   | 0=>simp
   | 1=>simp;omega
   | i+2=>simp;omega
  have ak2:1+([D7 a,D7 b].take 2).sum=D7 a+D7 b+1:=by simp;omega
  clear ih1 ih2 hz ha;generalize D7 a+D7 b+1=R at *;generalize [D7 a,D7 b]=ns at *;have h2:[x,y].length=2:=rfl;rw [PVl.p9];generalize [x,y]=xs at *;have dt:decide True=true:=rfl;have z0:(((0:Nat):Int)==0)=true:=rfl;have z2:(((2:Nat):Int)==2)=true:=rfl;refine en_ Tryz.func164 [.tmp 2,.tmp 3] fun g0 w0 gen b7 hfr c6 m0=>?_
  repeat' (first
   |exact hin _|exact agf as_
   | (first|refine wp rfl ?_|refine spt rfl ?_|refine spf rfl ?_|(refine spl (fun hc=>?_) fun hc=>?_)<;>(try rw [beq_iff_eq] at hc)<;>try simp only [hc]|(refine gs (fun hb=>?_) fun hb=>?_)<;>try simp only [Bool.not_true,Bool.not_false] at hb|refine A9 b7 ?_ ?_ ?_)<;>try simp only [go_sem, *])
  refine ar_ [2,3,82] [] (fun i σ=>g9 h σ.h∧σ.tm 5=.bool true∧σ.tm 6=.int .i64 ((1+(ns.take i).sum:Nat):Int)) (xs).length ?_ ?_ ?_
  ·simp only [go_sem, *]
   exact ⟨ag_,rfl⟩
  ·
   intro i σ gr0 l6 hgn hlt jI jN jS ⟨jA,j5,j6⟩;obtain ⟨jT,jB⟩:=jS;simp only [go_sem] at jT jB;obtain ⟨hgf,m6,n7,n8⟩:=rnd hgn l6 jA;obtain ⟨x,hx,hxm,hm⟩:=rnx hlt;clear hgn;obtain ⟨n,hn,h1⟩:=hc i x hx;have hs:=aM3 hn;have hb:=bM4 (i+1);have hw1:IntKind.i64.wrap (((1+(ns.take i).sum:Nat):Int)+(n:Int))=((1+(ns.take (i+1)).sum:Nat):Int):=w8 om_ om_ om_;clear hc bM4 hb hs hn ak2;generalize 1+(ns.take (i+1)).sum=s2 at *;generalize 1+(ns.take i).sum=s1 at *
   repeat' (first
    |exact hin _|exact agf as_
    | (first|refine wp rfl ?_|refine spt rfl ?_|refine spf rfl ?_|(refine spl (fun hc=>?_) fun hc=>?_)<;>(try rw [beq_iff_eq] at hc)<;>try simp only [hc]|(refine gs (fun hb=>?_) fun hb=>?_)<;>try simp only [Bool.not_true,Bool.not_false] at hb|refine u7 ?_|refine cp h1 ?_|refine A9 b7 ?_ ?_ ?_)<;>try simp only [go_sem, *])
   exact ag_
  ·
   intro σ ga0 l9 hgn jS ⟨jA,j5,j6⟩;obtain ⟨jT,jB⟩:=jS;simp only [go_sem] at jT jB;obtain ⟨hgf,m6,n9,o0⟩:=rnd hgn l9 jA;clear hgn;rw [h2,ak2] at j6;clear hc bM4 ak2
   repeat' (first
    |exact hin _|exact agf as_
    | (first|refine wp rfl ?_|refine spt rfl ?_|refine spf rfl ?_|(refine spl (fun hc=>?_) fun hc=>?_)<;>(try rw [beq_iff_eq] at hc)<;>try simp only [hc]|(refine gs (fun hb=>?_) fun hb=>?_)<;>try simp only [Bool.not_true,Bool.not_false] at hb|refine A9 b7 ?_ ?_ ?_)<;>try simp only [go_sem, *])
theorem bv6 {a:Ty} {v:PVl} {t:Tm} (hv:V3 a v t) (hz:m7 t≤4096) (ha:TyG a):Pure Tryz.prog env 118 [.agg v.cells] (.int .i64 0):=by
 intro h;have h1:=ch8 hv hz (by have:=ha.2;omega);have d1:decide ((D7 a:Int)>64)=false:=by have:=ha.2;simp;omega
 clear hz ha hv;refine en_ Tryz.func118 [.tmp 2] fun g0 w0 gen b7 hfr c6 m0=>?_
 repeat' (first
  |exact hin _|exact agf as_
  | (first|refine wp rfl ?_|refine spt rfl ?_|refine spf rfl ?_|(refine spl (fun hc=>?_) fun hc=>?_)<;>(try rw [beq_iff_eq] at hc)<;>try simp only [hc]|refine cp h1 ?_|refine A9 b7 ?_ ?_ ?_)<;>try simp only [go_sem, *])
theorem bN9 (n:Nat) (hn:n≤4096):Pure Tryz.prog env 165 [.int .i64 n] (.int .i64 (n+1:Nat)):=by
 intro h;have d1:((4096:Int)<(n:Int))=False:=by simp;omega
 have d3:IntKind.i64.wrap ((n:Int)+1)=((n+1:Nat):Int):=w8 om_ om_ om_;clear hn;refine en_ Tryz.func165 [.tmp 2] fun g0 w0 gen b7 hfr c6 m0=>?_
 repeat' (first
  |exact hin _|exact agf as_
  | (first|refine wp rfl ?_|refine A9 b7 ?_ ?_ ?_)<;>try simp only [go_sem, *])
theorem cf4 {a:Ty} {v:PVl} {t:Tm} (hv:V3 a v t):m7 t≤4096→Pure Tryz.prog env 119 [.agg v.cells] (.int .i64 (m7 t)):=by
 induction hv with
 | num n =>
  intro hz h;rw [S4] at hz ⊢;have h1:=bN9 n om_;clear hz;rw [PVl.p9];generalize n+1=n1 at *;refine en_ Tryz.func119 [.tmp 2] fun g0 w0 gen b7 hfr c6 m0=>?_
  repeat' (first
   |exact hin _|exact agf as_
   | (first|refine wp rfl ?_|refine spt rfl ?_|refine spf rfl ?_|(refine spl (fun hc=>?_) fun hc=>?_)<;>(try rw [beq_iff_eq] at hc)<;>try simp only [hc]|refine cp h1 ?_|refine A9 b7 ?_ ?_ ?_)<;>try simp only [go_sem, *])
  refine ar_ [2,34] [] (fun i σ=>g9 h σ.h∧σ.tm 3=.int .i64 n1) (([]:List PVl)).length ?_ ?_ ?_
  ·simp only [go_sem, *]
   exact ag_
  ·
   intro i σ gr1 M8 hgn hlt jI jN jS ⟨jA,j3⟩;obtain ⟨jT,jB⟩:=jS;simp only [go_sem] at jT jB;obtain ⟨hgf,m6,G2,G8⟩:=rnd hgn M8 jA;obtain ⟨x,hx,hxm,hm⟩:=rnx hlt;clear hgn;simp at hx
  ·
   intro σ ga1 M7 hgn jS ⟨jA,j3⟩;obtain ⟨jT,jB⟩:=jS;simp only [go_sem] at jT jB;obtain ⟨hgf,m6,G3,G4⟩:=rnd hgn M7 jA;clear hgn
   repeat' (first
    |exact hin _|exact agf as_
    | (first|refine wp rfl ?_|refine spt rfl ?_|refine spf rfl ?_|(refine spl (fun hc=>?_) fun hc=>?_)<;>(try rw [beq_iff_eq] at hc)<;>try simp only [hc]|refine A9 b7 ?_ ?_ ?_)<;>try simp only [go_sem, *])
 | list l =>
  intro hz h;rw [ac4] at hz ⊢;obtain ⟨at5,hlen⟩:=V3.mem hz;have hln:=ae9 l;have I8:=fun i x=>ints_at (l:=l) (i:=i) (x:=x);rw [PVl.p9];generalize ints (l.map fun (n:Nat)=>(n:Int))=L at *;refine en_ Tryz.func119 [.tmp 2] fun g0 w0 gen b7 hfr c6 m0=>?_
  repeat' (first
   |exact hin _|exact agf as_
   | (first|refine wp rfl ?_|refine spt rfl ?_|refine spf rfl ?_|(refine spl (fun hc=>?_) fun hc=>?_)<;>(try rw [beq_iff_eq] at hc)<;>try simp only [hc]|refine A9 b7 ?_ ?_ ?_)<;>try simp only [go_sem, *])
  refine ar_ [1,18] [⟨gen,0,0⟩] (fun i σ=>g9 h σ.h∧σ.tm 3=.int .i64 (lsz (l.take i):Nat)) (l).length ?_ ?_ ?_
  ·simp only [go_sem, *]
   exact ⟨ag_,rfl⟩
  ·
   intro i σ gr0 l6 hgn hlt jI jN jS ⟨jA,j3⟩;obtain ⟨jT,jB⟩:=jS;simp only [go_sem] at jT jB;obtain ⟨hgf,m6,n7,n8⟩:=rnd hgn l6 jA;obtain ⟨x,hx,hxm,hm⟩:=rnx hlt;clear hgn;have hg:=I8 i x hx;have hxb:=at5 x hxm;have hs:=aJ9 hx;have hle:=aA9 l (i+1);have h1:=bN9 x om_;have d3:IntKind.i64.wrap (1+((x+1:Nat):Int))=((x+2:Nat):Int):=w8 om_ om_ om_;have d4:IntKind.i64.wrap (((lsz (l.take i):Nat):Int)+((x+2:Nat):Int))=((lsz (l.take (i+1)):Nat):Int):=w8 om_ om_ om_;have d5:decide (((lsz (l.take (i+1)):Nat):Int)>4096)=false:=by simp;omega
   clear I8 hz at5 hs hle hxb;generalize lsz (l.take (i+1))=s2 at *;generalize lsz (l.take i)=s1 at *;generalize x+1=x1 at *;generalize x+2=x2 at *
   repeat' (first
    |exact hin _|exact agf as_
    | (first|refine wp rfl ?_|refine spt rfl ?_|refine spf rfl ?_|(refine spl (fun hc=>?_) fun hc=>?_)<;>(try rw [beq_iff_eq] at hc)<;>try simp only [hc]|refine u7 ?_|refine cp h1 ?_|refine A9 b7 ?_ ?_ ?_)<;>try simp only [go_sem, *])
  ·
   intro σ ga0 l9 hgn jS ⟨jA,j3⟩;obtain ⟨jT,jB⟩:=jS;simp only [go_sem] at jT jB;obtain ⟨hgf,m6,n9,o0⟩:=rnd hgn l9 jA;clear hgn;rw [List.take_length] at j3;clear I8 hz at5
   repeat' (first
    |exact hin _|exact agf as_
    | (first|refine wp rfl ?_|refine spt rfl ?_|refine spf rfl ?_|(refine spl (fun hc=>?_) fun hc=>?_)<;>(try rw [beq_iff_eq] at hc)<;>try simp only [hc]|refine A9 b7 ?_ ?_ ?_)<;>try simp only [go_sem, *])
   refine ar_ [2,34] [] (fun i σ=>g9 h σ.h∧σ.tm 3=.int .i64 (lsz l:Nat)) (([]:List PVl)).length ?_ ?_ ?_
   ·simp only [go_sem, *]
   ·
    intro i σ gr1 M8 hgn hlt jI jN jS ⟨jA,j3'⟩;obtain ⟨jT,jB⟩:=jS;simp only [go_sem] at jT jB;have hgf:=c8 hgn;have m6:=fun r i=>s7 jA (hgf r i);have G2:=s8 (show gen<gr1 by omega);have G8:=o9 (show gen<gr1 by omega);have K8:=s8 (show ga0<gr1 by omega);have K5:=o9 (show ga0<gr1 by omega);obtain ⟨x,hx,hxm,hm⟩:=rnx hlt;clear hgn;simp at hx
   ·
    intro σ ga1 M7 hgn jS ⟨jA,j3'⟩;obtain ⟨jT,jB⟩:=jS;simp only [go_sem] at jT jB;have hgf:=c8 hgn;have m6:=fun r i=>s7 jA (hgf r i);have G3:=s8 (show gen<ga1 by omega);have G4:=o9 (show gen<ga1 by omega);have K6:=s8 (show ga0<ga1 by omega);have K3:=o9 (show ga0<ga1 by omega);clear hgn
    repeat' (first
     |exact hin _|exact agf as_
     | (first|refine wp rfl ?_|refine spt rfl ?_|refine spf rfl ?_|(refine spl (fun hc=>?_) fun hc=>?_)<;>(try rw [beq_iff_eq] at hc)<;>try simp only [hc]|refine A9 b7 ?_ ?_ ?_)<;>try simp only [go_sem, *])
 | unit =>
  intro hz h;clear hz;rw [PVl.p9,ap9];refine en_ Tryz.func119 [.tmp 2] fun g0 w0 gen b7 hfr c6 m0=>?_
  repeat' (first
   |exact hin _|exact agf as_
   | (first|refine wp rfl ?_|refine spt rfl ?_|refine spf rfl ?_|(refine spl (fun hc=>?_) fun hc=>?_)<;>(try rw [beq_iff_eq] at hc)<;>try simp only [hc]|refine A9 b7 ?_ ?_ ?_)<;>try simp only [go_sem, *])
  refine ar_ [2,34] [] (fun i σ=>g9 h σ.h∧σ.tm 3=.int .i64 1) (([]:List PVl)).length ?_ ?_ ?_
  ·simp only [go_sem, *]
   exact ag_
  ·
   intro i σ gr1 M8 hgn hlt jI jN jS ⟨jA,j3⟩;obtain ⟨jT,jB⟩:=jS;simp only [go_sem] at jT jB;obtain ⟨hgf,m6,G2,G8⟩:=rnd hgn M8 jA;obtain ⟨x,hx,hxm,hm⟩:=rnx hlt;clear hgn;simp at hx
  ·
   intro σ ga1 M7 hgn jS ⟨jA,j3⟩;obtain ⟨jT,jB⟩:=jS;simp only [go_sem] at jT jB;obtain ⟨hgf,m6,G3,G4⟩:=rnd hgn M7 jA;clear hgn
   repeat' (first
    |exact hin _|exact agf as_
    | (first|refine wp rfl ?_|refine spt rfl ?_|refine spf rfl ?_|(refine spl (fun hc=>?_) fun hc=>?_)<;>(try rw [beq_iff_eq] at hc)<;>try simp only [hc]|refine A9 b7 ?_ ?_ ?_)<;>try simp only [go_sem, *])
   rfl
 | @pair a b x y s t _ _ ih1 ih2 =>
  intro hz h;rw [Q4] at hz ⊢;have hc:∀ (i:Nat) (z:PVl),[x,y][i]? = some z→∃ n:Nat,[m7 s,m7 t][i]? = some n∧Pure Tryz.prog env 119 [.agg z.cells] (.int .i64 n):=by
   intro i z hz'
   match i with
   | 0=>simp at hz';subst hz';exact ⟨_,rfl,ih1 om_⟩
   | 1=>simp at hz';subst hz';exact ⟨_,rfl,ih2 om_⟩
   | i+2=>simp at hz'
  have bM4:∀ i,([m7 s,m7 t].take i).sum≤10000:=by
   intro i
   match i with
   | 0=>simp
   | 1=>simp;omega
   | i+2=>simp;omega
  have ak2:1+([m7 s,m7 t].take 2).sum=m7 s+m7 t+1:=by simp;omega
  clear ih1 ih2 hz;generalize m7 s+m7 t+1=R at *;generalize [m7 s,m7 t]=ns at *;have h2:[x,y].length=2:=rfl;rw [PVl.p9];generalize [x,y]=xs at *;refine en_ Tryz.func119 [.tmp 2] fun g0 w0 gen b7 hfr c6 m0=>?_
  repeat' (first
   |exact hin _|exact agf as_
   | (first|refine wp rfl ?_|refine spt rfl ?_|refine spf rfl ?_|(refine spl (fun hc=>?_) fun hc=>?_)<;>(try rw [beq_iff_eq] at hc)<;>try simp only [hc]|refine A9 b7 ?_ ?_ ?_)<;>try simp only [go_sem, *])
  refine ar_ [2,34] [] (fun i σ=>g9 h σ.h∧σ.tm 3=.int .i64 ((1+(ns.take i).sum:Nat):Int)) (xs).length ?_ ?_ ?_
  ·simp only [go_sem, *]
   exact ⟨ag_,rfl⟩
  ·
   intro i σ gr1 M8 hgn hlt jI jN jS ⟨jA,j3⟩;obtain ⟨jT,jB⟩:=jS;simp only [go_sem] at jT jB;obtain ⟨hgf,m6,G2,G8⟩:=rnd hgn M8 jA;obtain ⟨x,hx,hxm,hm⟩:=rnx hlt;clear hgn;obtain ⟨n,hn,h1⟩:=hc i x hx;have hs:=aM3 hn;have hb:=bM4 (i+1);have hw1:IntKind.i64.wrap (((1+(ns.take i).sum:Nat):Int)+(n:Int))=((1+(ns.take (i+1)).sum:Nat):Int):=w8 om_ om_ om_;clear hc bM4 hb hs hn ak2;generalize 1+(ns.take (i+1)).sum=s2 at *;generalize 1+(ns.take i).sum=s1 at *
   repeat' (first
    |exact hin _|exact agf as_
    | (first|refine wp rfl ?_|refine spt rfl ?_|refine spf rfl ?_|(refine spl (fun hc=>?_) fun hc=>?_)<;>(try rw [beq_iff_eq] at hc)<;>try simp only [hc]|refine u7 ?_|refine cp h1 ?_|refine A9 b7 ?_ ?_ ?_)<;>try simp only [go_sem, *])
   exact ag_
  ·
   intro σ ga1 M7 hgn jS ⟨jA,j3⟩;obtain ⟨jT,jB⟩:=jS;simp only [go_sem] at jT jB;obtain ⟨hgf,m6,G3,G4⟩:=rnd hgn M7 jA;clear hgn;rw [h2,ak2] at j3;clear hc bM4 ak2
   repeat' (first
    |exact hin _|exact agf as_
    | (first|refine wp rfl ?_|refine spt rfl ?_|refine spf rfl ?_|(refine spl (fun hc=>?_) fun hc=>?_)<;>(try rw [beq_iff_eq] at hc)<;>try simp only [hc]|refine A9 b7 ?_ ?_ ?_)<;>try simp only [go_sem, *])
end Go.Proofs.YteaijonkbbkkjaaGreatDoor
