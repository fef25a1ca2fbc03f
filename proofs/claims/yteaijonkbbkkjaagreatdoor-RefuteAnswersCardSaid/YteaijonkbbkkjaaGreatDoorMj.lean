/-
 Walks: several parts in one text.
-/
import Derived.Test.YteaijonkbbkkjaaGreatDoorMc
import Derived.Test.YteaijonkbbkkjaaGreatDoorAbsDc
import Derived.Test.YteaijonkbbkkjaaGreatDoorOm
import Derived.Test.YteaijonkbbkkjaaGreatDoorMr
import Derived.Test.YteaijonkbbkkjaaGreatDoorNz
import Derived.Test.YteaijonkbbkkjaaGreatDoorNy
set_option linter.unusedSimpArgs false
set_option linter.unusedVariables false
set_option maxRecDepth 20000
set_option maxHeartbeats 4000000
namespace Go.Proofs.YteaijonkbbkkjaaGreatDoor
open Go GoAbs Go.Proofs
theorem cg9:∀ v:PVl,VlW v→Pure Tryz.prog env 64 [.agg v.cells] (.int .i64 v.nd):=by
 intro t
 induction t using PVl.ind with|h t ih=>?_
 intro ht h;have hlen:=ht.len;have ih':∀ x∈t.args,Pure Tryz.prog env 64 [.agg x.cells] (.int .i64 x.nd):=fun x hx=>ih x hx (ht.arg x hx);clear ih;have hv0:=t.cK9.symm;generalize hvv:t.nd=v at hv0 ⊢;clear hvv;refine en_ Tryz.func64 [.tmp 2] fun g0 w0 gen b7 hfr c6 m0=>?_;refine wq_ ?_;refine ar_ [2,7] [] (fun i σ=>g9 h σ.h∧∃ n,σ.tm 3=.int .i64 n∧PVl.ndL n (t.args.drop i)=v) (t.args).length ?_ ?_ ?_
 ·simp only [go_sem, *]
  exact ⟨ag_,_,rfl,hv0⟩
 ·clear hv0
  intro i σ gr0 l6 hgn hlt jI jN jS ⟨jA,n,jn,jv⟩;obtain ⟨jT,jB⟩:=jS;simp only [go_sem] at jT jB;obtain ⟨hgf,m6,n7,n8⟩:=rnd hgn l6 jA;obtain ⟨x,hx,hxm,hm⟩:=rnx hlt;clear hgn;rw [A2 hx,PVl.aY4] at jv;have hc:=ih' x hxm;clear ih';refine wq_ ?_;exact ⟨ag_,_,rfl,jv⟩
 ·clear hv0
  intro σ ga0 l9 hgn jS ⟨jA,n,jn,jv⟩;obtain ⟨jT,jB⟩:=jS;simp only [go_sem] at jT jB;obtain ⟨hgf,m6,n9,o0⟩:=rnd hgn l9 jA;clear hgn;rw [List.drop_length,PVl.bS8] at jv;subst jv;clear ih';exact wk_
theorem ints_at {l:List Nat} {i:Nat} {x:Nat} (h:l[i]? = some x):(ints (l.map fun (n:Nat)=>(n:Int)))[i]? = some [.int .i64 (x:Int)]:=by
 rw [ba4,List.getElem?_map,h];rfl
theorem ae9 (l:List Nat):(ints (l.map fun (n:Nat)=>(n:Int))).length=l.length:=by rw [ao0,List.length_map]
theorem cv3 {a:Ty} {v:PVl} {t:Tm} (hv:V3 a v t):m7 t≤4096→Pure Tryz.prog env 63 [.agg v.cells] (.bool true):=by
 induction hv with
 | num n =>
  intro hz h;have d1:decide ((n:Int)≥0)=true:=by simp
  clear hz;rw [PVl.p9];have dt:decide True=true:=rfl;have z0:(((0:Nat):Int)==0)=true:=rfl;have z2:(((2:Nat):Int)==2)=true:=rfl;refine en_ Tryz.func63 [.tmp 2] fun g0 w0 gen b7 hfr c6 m0=>?_
  repeat' (first
   |exact hin _|exact agf as_
   | (first|refine wp rfl ?_|refine spt rfl ?_|refine spf rfl ?_|(refine spl (fun hc=>?_) fun hc=>?_)<;>(try rw [beq_iff_eq] at hc)<;>try simp only [hc]|(refine gs (fun hb=>?_) fun hb=>?_)<;>try simp only [Bool.not_true,Bool.not_false] at hb|refine A9 b7 ?_ ?_ ?_)<;>try simp only [go_sem, *])
 | list l =>
  intro hz h;rw [ac4] at hz;obtain ⟨_,hlen⟩:=V3.mem hz;have hln:=ae9 l;have I8:=fun i x=>ints_at (l:=l) (i:=i) (x:=x);clear hz;rw [PVl.p9];generalize ints (l.map fun (n:Nat)=>(n:Int))=L at *;have dt:decide True=true:=rfl;have z0:(((0:Nat):Int)==0)=true:=rfl;have z2:(((2:Nat):Int)==2)=true:=rfl;refine en_ Tryz.func63 [.tmp 2] fun g0 w0 gen b7 hfr c6 m0=>?_
  repeat' (first
   |exact hin _|exact agf as_
   | (first|refine wp rfl ?_|refine spt rfl ?_|refine spf rfl ?_|(refine spl (fun hc=>?_) fun hc=>?_)<;>(try rw [beq_iff_eq] at hc)<;>try simp only [hc]|(refine gs (fun hb=>?_) fun hb=>?_)<;>try simp only [Bool.not_true,Bool.not_false] at hb|refine A9 b7 ?_ ?_ ?_)<;>try simp only [go_sem, *])
  refine ar_ [1,6,27] [⟨gen,0,0⟩] (fun i σ=>g9 h σ.h∧True) (l).length ?_ ?_ ?_
  ·simp only [go_sem, *]
   exact ag_
  ·
   intro i σ gr0 l6 hgn hlt jI jN jS ⟨jA,_⟩;obtain ⟨jT,jB⟩:=jS;simp only [go_sem] at jT jB;obtain ⟨hgf,m6,n7,n8⟩:=rnd hgn l6 jA;obtain ⟨x,hx,hxm,hm⟩:=rnx hlt;clear hgn;have hg:=I8 i x hx;have d1:decide ((x:Int)<0)=false:=by simp
   clear I8
   repeat' (first
    |exact hin _|exact agf as_
    | (first|refine wp rfl ?_|refine spt rfl ?_|refine spf rfl ?_|(refine spl (fun hc=>?_) fun hc=>?_)<;>(try rw [beq_iff_eq] at hc)<;>try simp only [hc]|(refine gs (fun hb=>?_) fun hb=>?_)<;>try simp only [Bool.not_true,Bool.not_false] at hb|refine u7 ?_|refine A9 b7 ?_ ?_ ?_)<;>try simp only [go_sem, *])
  ·
   intro σ ga0 l9 hgn jS ⟨jA,_⟩;obtain ⟨jT,jB⟩:=jS;simp only [go_sem] at jT jB;obtain ⟨hgf,m6,n9,o0⟩:=rnd hgn l9 jA;clear hgn;clear I8
   repeat' (first
    |exact hin _|exact agf as_
    | (first|refine wp rfl ?_|refine spt rfl ?_|refine spf rfl ?_|(refine spl (fun hc=>?_) fun hc=>?_)<;>(try rw [beq_iff_eq] at hc)<;>try simp only [hc]|(refine gs (fun hb=>?_) fun hb=>?_)<;>try simp only [Bool.not_true,Bool.not_false] at hb|refine A9 b7 ?_ ?_ ?_)<;>try simp only [go_sem, *])
 | unit =>
  intro hz h;clear hz;rw [PVl.p9];have dt:decide True=true:=rfl;have z0:(((0:Nat):Int)==0)=true:=rfl;have z2:(((2:Nat):Int)==2)=true:=rfl;refine en_ Tryz.func63 [.tmp 2] fun g0 w0 gen b7 hfr c6 m0=>?_
  repeat' (first
   |exact hin _|exact agf as_
   | (first|refine wp rfl ?_|refine spt rfl ?_|refine spf rfl ?_|(refine spl (fun hc=>?_) fun hc=>?_)<;>(try rw [beq_iff_eq] at hc)<;>try simp only [hc]|(refine gs (fun hb=>?_) fun hb=>?_)<;>try simp only [Bool.not_true,Bool.not_false] at hb|refine A9 b7 ?_ ?_ ?_)<;>try simp only [go_sem, *])
 | @pair a b x y s t _ _ ih1 ih2 =>
  intro hz h;rw [Q4] at hz;have h1:Pure Tryz.prog env 63 [.agg x.cells] (.bool true):=ih1 om_;have h2:Pure Tryz.prog env 63 [.agg y.cells] (.bool true):=ih2 om_;clear ih1 ih2 hz;rw [PVl.p9];simp only [List.map_cons,List.map_nil];have dt:decide True=true:=rfl;have z0:(((0:Nat):Int)==0)=true:=rfl;have z2:(((2:Nat):Int)==2)=true:=rfl;refine en_ Tryz.func63 [.tmp 2] fun g0 w0 gen b7 hfr c6 m0=>?_
  repeat' (first
   |exact hin _|exact agf as_
   | (first|refine wp rfl ?_|refine spt rfl ?_|refine spf rfl ?_|(refine spl (fun hc=>?_) fun hc=>?_)<;>(try rw [beq_iff_eq] at hc)<;>try simp only [hc]|(refine gs (fun hb=>?_) fun hb=>?_)<;>try simp only [Bool.not_true,Bool.not_false] at hb|refine cp h1 ?_|refine cp h2 ?_|refine A9 b7 ?_ ?_ ?_)<;>try simp only [go_sem, *])
theorem cv7 {a:Ty} {v:PVl} {t:Tm} (hv:V3 a v t) (hz:m7 t≤4096) (ha:TyG a):Pure Tryz.prog env 36 [.agg v.cells] (.int .i64 0):=by
 intro h;have h1:=cv3 hv hz;have h2:=cg9 v (hv.W hz);rw [hv.nd (by have:=ha.2;omega)] at h2;have d1:decide ((D7 a:Int)>64)=false:=by have:=ha.2;simp;omega
 clear hz ha hv;exact ek_ Tryz.func36 [.tmp 2]
theorem cs7 {a:Ty} {v:PVl} {t:Tm} (hv:V3 a v t):m7 t≤4096→Pure Tryz.prog env 89 [.agg v.cells] (.int .i64 (m7 t)):=by
 induction hv with
 | num n =>
  intro hz h;rw [S4] at hz ⊢;have d1:((4096:Int)<(n:Int))=False:=by simp;omega
  have d2:((4097:Int)<((n+1:Nat):Int))=False:=by simp;omega
  have d3:IntKind.i64.wrap ((n:Int)+1)=((n+1:Nat):Int):=w8 om_ om_ om_;clear hz;rw [PVl.p9];refine en_ Tryz.func89 [.tmp 2] fun g0 w0 gen b7 hfr c6 m0=>?_
  repeat' (first
   |(refine ⟨?_,?_⟩;focus ((repeat' (first|refine ⟨?_,?_⟩|refine .inr ?_));all_goals kernel_rfl))
   |exact hin _|exact agf as_
   | (first|refine wp rfl ?_|refine spt rfl ?_|refine spf rfl ?_|(refine spl (fun hc=>?_) fun hc=>?_)<;>(try rw [beq_iff_eq] at hc)<;>try simp only [hc]|refine A9 b7 ?_ ?_ ?_)<;>try simp only [go_sem, *])
 | list l =>
  intro hz h;rw [ac4] at hz ⊢;obtain ⟨at5,hlen⟩:=V3.mem hz;have hln:=ae9 l;have I8:=fun i x=>ints_at (l:=l) (i:=i) (x:=x);rw [PVl.p9];generalize ints (l.map fun (n:Nat)=>(n:Int))=L at *;have d0:((4097:Int)<((lsz l:Nat):Int))=False:=by simp;omega
  refine en_ Tryz.func89 [.tmp 2] fun g0 w0 gen b7 hfr c6 m0=>?_
  repeat' (first
   |(refine ⟨?_,?_⟩;focus ((repeat' (first|refine ⟨?_,?_⟩|refine .inr ?_));all_goals kernel_rfl))
   |exact hin _|exact agf as_
   | (first|refine wp rfl ?_|refine spt rfl ?_|refine spf rfl ?_|(refine spl (fun hc=>?_) fun hc=>?_)<;>(try rw [beq_iff_eq] at hc)<;>try simp only [hc]|refine A9 b7 ?_ ?_ ?_)<;>try simp only [go_sem, *])
  refine ar_ [1,2,7,17] [⟨gen,0,0⟩] (fun i σ=>g9 h σ.h∧σ.tm 3=.int .i64 (lsz (l.take i):Nat)) (l).length ?_ ?_ ?_
  ·simp only [go_sem, *]
   exact ⟨ag_,rfl⟩
  ·
   intro i σ gr0 l6 hgn hlt jI jN jS ⟨jA,j3⟩;obtain ⟨jT,jB⟩:=jS;simp only [go_sem] at jT jB;obtain ⟨hgf,m6,n7,n8⟩:=rnd hgn l6 jA;obtain ⟨x,hx,hxm,hm⟩:=rnx hlt;clear hgn;have hg:=I8 i x hx;have hxb:=at5 x hxm;have hs:=aJ9 hx;have hle:=aA9 l (i+1);have d1:((4096:Int)<(x:Int))=False:=by simp;omega
   have d3:IntKind.i64.wrap ((lsz (l.take i):Int)+(x:Int))=((lsz (l.take i)+x:Nat):Int):=w8 om_ om_ om_;have d4:IntKind.i64.wrap (((lsz (l.take i)+x:Nat):Int)+2)=((lsz (l.take (i+1)):Nat):Int):=w8 om_ om_ om_;have d5:((4097:Int)<((lsz (l.take (i+1)):Nat):Int))=False:=by simp;omega
   clear I8 hz at5 hs hle hxb;generalize lsz (l.take (i+1))=s2 at *;generalize lsz (l.take i)=s1 at *
   repeat' (first
    |(refine ⟨?_,?_⟩;focus ((repeat' (first|refine ⟨?_,?_⟩|refine .inr ?_));all_goals kernel_rfl))
    |exact hin _|exact agf as_
    | (first|refine wp rfl ?_|refine spt rfl ?_|refine spf rfl ?_|(refine spl (fun hc=>?_) fun hc=>?_)<;>(try rw [beq_iff_eq] at hc)<;>try simp only [hc]|refine u7 ?_|refine A9 b7 ?_ ?_ ?_)<;>try simp only [go_sem, *])
  ·
   intro σ ga0 l9 hgn jS ⟨jA,j3⟩;obtain ⟨jT,jB⟩:=jS;simp only [go_sem] at jT jB;obtain ⟨hgf,m6,n9,o0⟩:=rnd hgn l9 jA;clear hgn;rw [List.take_length] at j3;clear I8 hz at5
   repeat' (first
    |(refine ⟨?_,?_⟩;focus ((repeat' (first|refine ⟨?_,?_⟩|refine .inr ?_));all_goals kernel_rfl))
    |exact hin _|exact agf as_
    | (first|refine wp rfl ?_|refine spt rfl ?_|refine spf rfl ?_|(refine spl (fun hc=>?_) fun hc=>?_)<;>(try rw [beq_iff_eq] at hc)<;>try simp only [hc]|refine A9 b7 ?_ ?_ ?_)<;>try simp only [go_sem, *])
 | unit =>
  intro hz h;clear hz;rw [PVl.p9,ap9];refine en_ Tryz.func89 [.tmp 2] fun g0 w0 gen b7 hfr c6 m0=>?_
  repeat' (first
   |(refine ⟨?_,?_⟩;focus ((repeat' (first|refine ⟨?_,?_⟩|refine .inr ?_));all_goals kernel_rfl))
   |exact hin _|exact agf as_
   | (first|refine wp rfl ?_|refine spt rfl ?_|refine spf rfl ?_|(refine spl (fun hc=>?_) fun hc=>?_)<;>(try rw [beq_iff_eq] at hc)<;>try simp only [hc]|refine A9 b7 ?_ ?_ ?_)<;>try simp only [go_sem, *])
  simp
 | @pair a b x y s t _ _ ih1 ih2 =>
  intro hz h;rw [Q4] at hz ⊢;have h1:Pure Tryz.prog env 89 [.agg x.cells] (.int .i64 (m7 s)):=ih1 om_;have h2:Pure Tryz.prog env 89 [.agg y.cells] (.int .i64 (m7 t)):=ih2 om_;have d1:IntKind.i64.wrap ((m7 s:Int)+(m7 t:Int))=((m7 s+m7 t:Nat):Int):=w8 om_ om_ om_;have d2:IntKind.i64.wrap (((m7 s+m7 t:Nat):Int)+1)=((m7 s+m7 t+1:Nat):Int):=w8 om_ om_ om_;have d3:((4097:Int)<((m7 s+m7 t+1:Nat):Int))=False:=by simp;omega
  clear ih1 ih2 hz;rw [PVl.p9];simp only [List.map_cons,List.map_nil];generalize m7 s+m7 t+1=s3 at *;generalize m7 s+m7 t=s2 at *;generalize m7 s=s0 at *;generalize m7 t=s1 at *;refine en_ Tryz.func89 [.tmp 2] fun g0 w0 gen b7 hfr c6 m0=>?_
  repeat' (first
   |(refine ⟨?_,?_⟩;focus ((repeat' (first|refine ⟨?_,?_⟩|refine .inr ?_));all_goals kernel_rfl))
   |exact hin _|exact agf as_
   | (first|refine wp rfl ?_|refine spt rfl ?_|refine spf rfl ?_|(refine spl (fun hc=>?_) fun hc=>?_)<;>(try rw [beq_iff_eq] at hc)<;>try simp only [hc]|refine cp h1 ?_|refine cp h2 ?_|refine A9 b7 ?_ ?_ ?_)<;>try simp only [go_sem, *])
theorem aW4 {l:List Nat} {i x:Nat} (h:l[i]? = some x):ae1 (l.drop i)=tm0 8 [C5 x,ae1 (l.drop (i+1))]:=by rw [A2 h];rfl
theorem cx5 {a:Ty} {v:PVl} {t:Tm} (hv:V3 a v t):m7 t≤4096→Pure Tryz.prog env 90 [.agg v.cells] (.agg t.cells):=by
 induction hv with
 | num n =>
  intro hz h;rw [S4] at hz;have h1:=aC2 n om_;clear hz;rw [PVl.p9];generalize C5 n=t at *;exact ek_ Tryz.func90 [.cell 2 65]
 | list l =>
  intro hz h;rw [ac4] at hz;obtain ⟨at5,hlen⟩:=V3.mem hz;have hln:=ae9 l;have I8:=fun i x=>ints_at (l:=l) (i:=i) (x:=x);have h1:=c_N 7 [] sp_ sp_;simp only [List.map_nil] at h1;rw [PVl.p9];generalize ints (l.map fun (n:Nat)=>(n:Int))=L at *;have hw0:IntKind.i64.wrap ((l.length:Int) - 1)=(l.length:Int) - 1:=w8 rfl om_ om_;have bX9:ae1 (l.drop l.length)=tm0 7 []:=by rw [List.drop_length];rfl
  refine en_ Tryz.func90 [.cell 2 65] fun g0 w0 gen b7 hfr c6 m0=>?_;refine wq_ ?_;refine B1 (fun i σ=>σ.tm 1=.ptr ⟨gen,0,0⟩ 0∧σ.tm 2=.ptr ⟨gen,0,1⟩ 0∧σ.tm 4=.int .i64 ((l.length - i:Nat) - 1:Int)∧σ.tm 3=.ptr ⟨gen,5,1⟩ 0 ∧
   σ.h ⟨gen,0,0⟩=some (.box [.int .i64 2,.int .i64 0,.sl .any L,.sl .any []])∧σ.h ⟨gen,0,1⟩=some (.box [.int .i64 0,.int .i64 0,.int .i64 0,.sl .full [],.sl .full []]) ∧
   σ.h ⟨gen,5,1⟩=some (.box (ae1 (l.drop (l.length - i))).cells)∧g9 h σ.h) l.length ?_ ?_
  ·simp only [go_sem, *]
   exact ⟨sp_,by rw [Nat.sub_zero,bX9],by repeat (first|exact g9.refl _|refine g9.new ?_ (c6 _ _))⟩
  intro i σ hi ⟨j1,j2,j4,j3,jb0,jb1,jb2,jA⟩;rcases Nat.lt_or_ge i l.length with hlt|hge
  ·have hx:l[l.length - (i+1)]? = some (l[l.length - (i+1)]'om_):=List.getElem?_eq_getElem om_
   generalize hxe:l[l.length - (i+1)]'om_=x at hx;have hxb:=at5 x (List.mem_of_getElem? hx);have hg:=I8 _ x hx;have h2:=aC2 x om_;have hd:=aW4 hx;rw [show l.length - (i+1)+1=l.length - i by omega] at hd;have hc:((l.length - i:Nat):Int) - 1=((l.length - (i+1):Nat):Int):=by omega
   rw [hc] at j4;have d1:decide (((l.length - (i+1):Nat):Int)≥0)=true:=by simp
   have hw:IntKind.i64.wrap (((l.length - (i+1):Nat):Int) - 1)=((l.length - (i+1):Nat):Int) - 1:=w8 rfl om_ om_;rw [tm0] at hd;clear I8 at5 hz hxe hx hxb hc;generalize ae1 (l.drop (l.length - i))=t1 at *;generalize ae1 (l.drop (l.length - (i+1)))=t2 at *;generalize C5 x=t0 at *;generalize l.length - (i+1)=z at *
   repeat' (first
    |(refine ⟨?_,?_⟩;focus ((repeat' (first|refine ⟨?_,?_⟩|refine .inr ?_));all_goals kernel_rfl))
    | (first|refine wp rfl ?_|refine spt rfl ?_|refine spf rfl ?_|(refine spl (fun hc=>?_) fun hc=>?_)<;>(try rw [beq_iff_eq] at hc)<;>try simp only [hc]|refine cp h2 ?_)<;>try simp only [go_sem, *])
   refine ai3 ⟨gen,5,1⟩ (by simp only [go_sem, *];rfl) ?_;simp only [go_sem, *];refine u7 ?_;simp only [go_sem, *];exact ⟨by rw [Tm.p9];rfl,by repeat (first|assumption|refine g9.new ?_ (c6 _ _))⟩
  ·obtain rfl:i=l.length:=by omega
   have d1:decide (((l.length - l.length:Nat):Int) - 1≥0)=false:=by simp
   rw [Nat.sub_self,List.drop_zero] at jb2;clear I8 at5 hz;exact wk_
 | unit =>
  intro hz h;have h1:=c_N 13 [] sp_ sp_;simp only [List.map_nil] at h1;clear hz;rw [PVl.p9];exact ek_ Tryz.func90 [.cell 2 65]
 | @pair a b x y s t _ _ ih1 ih2 =>
  intro hz h;rw [Q4] at hz;have h1:Pure Tryz.prog env 90 [.agg x.cells] (.agg s.cells):=ih1 om_;have h2:Pure Tryz.prog env 90 [.agg y.cells] (.agg t.cells):=ih2 om_;clear ih1 ih2 hz;rw [PVl.p9];simp only [List.map_cons,List.map_nil];refine en_ Tryz.func90 [.cell 2 65] fun g0 w0 gen b7 hfr c6 m0=>?_;refine wq_ ?_;rw [tm0,Tm.p9];rfl
theorem bF9 {a:Ty} {v:PVl} {t:Tm} (hv:V3 a v t) (hz:m7 t≤4096) (ha:TyG a):Pure Tryz.prog env 53 [.agg v.cells] (.tup [.agg t.cells,.int .i64 0]):=by
 intro h;have h1:=cv7 hv hz ha;have h2:=cs7 hv hz;have h3:=cx5 hv hz;have d1:decide ((m7 t:Int)>4096)=false:=by simp;omega
 clear hz ha hv;generalize m7 t=n at *;exact ek_ Tryz.func53 [.cell 2 65,.tmp 3]
theorem ci4 (a:Ans):ag3 a=.tup [.bool (if a.2.2 != 0 then false else a.1),.int .i64 (if a.2.2 != 0 then 0 else (a.2.1:Int)),.int .i64 a.2.2]:=by
 unfold ag3;cases h:(a.2.2 != 0) with
 | true=>rfl
 | false =>
  have:a.2.2=0:=by simpa using h
  simp [this]
end Go.Proofs.YteaijonkbbkkjaaGreatDoor
