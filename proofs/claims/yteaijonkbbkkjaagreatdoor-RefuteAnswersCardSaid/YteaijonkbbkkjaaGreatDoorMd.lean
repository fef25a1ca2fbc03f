/-
 Walks: several parts in one text.
-/
import Derived.Test.YteaijonkbbkkjaaGreatDoorMc
import Derived.Test.YteaijonkbbkkjaaGreatDoorMa
set_option linter.unusedSimpArgs false
set_option linter.unusedVariables false
set_option maxRecDepth 20000
set_option maxHeartbeats 4000000
namespace Go.Proofs.YteaijonkbbkkjaaGreatDoor
open Go GoAbs Go.Proofs
def bc1 (l:List Int) (m:Nat):Prop :=
 ∀ (z:Int) (g:List Ty) (t:Ty) (a:Nat),43 * z.toNat+tyH t<m→(∀ y∈g,TyF y∧tyH y≤40)→TyF t→tyH t≤40→g.length+43 * z.toNat+tyH t≤900→(tyH t:Int)≤z+1000 →
  ∃ t' a',L2 z.toNat g t t'∧TmW t'∧∀ d,D1 Tryz.prog env 67 [.ptr d 0,.sl .any (g.map Ty.cells),.agg t.cells,.int .i64 z] d (.box (C1 l a)) (.agg t'.cells) (.box (C1 l a'))
theorem ihT {l:List Int} {m:Nat} (ih:bc1 l m) (z:Int) (g:List Ty) (t:Ty) (a:Nat) (h1:43 * z.toNat+tyH t<m:=by first|omega|(simp only [ae3,aj6,aj8,af6,ai5] at *;omega)) (h2:∀ y∈g,TyF y∧tyH y≤40:=by first|exact hg|(intro y hy;rcases List.mem_append.1 hy with hy|hy;exact hg y hy;simp at hy;rcases hy with rfl|rfl|rfl<;>exact ⟨by first|assumption|exact .nat|exact .list,by first|assumption|omega|(simp only [ae3,aj6,aj8,af6,ai5] at *;omega)⟩)|(intro y hy;rcases List.mem_append.1 hy with hy|hy;exact hg y hy;simp at hy;rcases hy with rfl|rfl<;>exact ⟨by first|assumption|exact .nat|exact .list,by first|assumption|omega|(simp only [ae3,aj6,aj8,af6,ai5] at *;omega)⟩)|(intro y hy;rcases List.mem_append.1 hy with hy|hy;exact hg y hy;simp at hy;subst hy;exact ⟨by first|assumption|exact .nat,by first|assumption|omega|(simp only [ae3,aj6,aj8,af6,ai5] at *;omega)⟩)) (h3:TyF t:=by first|assumption|exact .nat|exact .list|exact .unit) (h4:tyH t≤40:=by first|assumption|omega|(simp only [ae3,aj6,aj8,af6,ai5] at *;omega))
  (h5:g.length+43 * z.toNat+tyH t≤900:=by first|omega|(simp only [List.length_append,List.length_cons,List.length_nil,ae3,aj6,aj8,af6,ai5] at *;omega)) (h6:(tyH t:Int)≤z+1000:=by first|omega|(simp only [ae3,aj6,aj8,af6,ai5] at *;omega)) :
  ∃ t' a',L2 z.toNat g t t'∧TmW t'∧∀ d,D1 Tryz.prog env 67 [.ptr d 0,.sl .any (g.map Ty.cells),.agg t.cells,.int .i64 z] d (.box (C1 l a)) (.agg t'.cells) (.box (C1 l a')):=ih z g t a h1 h2 h3 h4 h5 h6
structure cn8 (l:List Int) (g:List Ty) (t:Ty) (z:Int) (a:Nat) (d:GoAbs.Id) (h:H) (gen0:Nat) (σ:St):Prop where
 j0:σ.tm 0=.ptr d 0
 j1:σ.tm 1=.sl .any (g.map Ty.cells)
 j3:σ.tm 3=.int .i64 z
 j6:σ.tm 6=.ptr ⟨gen0,0,0⟩ 0
 j8:σ.tm 8=.ptr ⟨gen0,0,1⟩ 0
 b6:σ.h ⟨gen0,0,0⟩=some (.box t.cells)
 b8:σ.h ⟨gen0,0,1⟩=some (.box [.int .i64 0,.int .i64 0,.int .i64 0,.sl .full [],.sl .full []])
 bd:σ.h d=some (.box (C1 l a))
 ag:a9 d h σ.h
def bT0 (l:List Int) (g:List Ty) (t:Ty) (z:Int) (a:Nat) (t':Tm) (a':Nat):Prop :=
 ∀ (d:GoAbs.Id) (h:H) (o:GoAbs.Obj) (g0:G) (w0:World) (gen0 gen:Nat) (σ:St),h d=some o→Rel env g0 w0 h→(∀ id,h id≠none→id.gen<gen0)→cn8 l g t z a d h gen0 σ →
  AR ⟨Tryz.prog,env,Tryz.f67.ntmps,Tryz.f67,g0,w0,h,.agg t'.cells,u9 h d (.box (C1 l a'))⟩ gen
   [.code (I5 [true,true,true,true] (A7 Tryz.f67))] .normal σ
theorem cs4 (l:List Int) (hl:l.length≤1000) (m:Nat) (ih:bc1 l m) (z:Int) (g:List Ty) (t:Ty) (a:Nat) (hm:43 * z.toNat+tyH t=m)
  (hg:∀ y∈g,TyF y∧tyH y≤40) (ht:TyF t) (hth:tyH t≤40) (hb:g.length+43 * z.toNat+tyH t≤900) (hz:(tyH t:Int)≤z+1000) :
  ∃ t' a',L2 z.toNat g t t'∧bT0 l g t z a t' a':=by
 have hw:IntKind.i64.wrap (z - 1)=z - 1:=w8 rfl om_ om_;have hgl:g.length≤1000:=by omega
 cases ht with
 | unit =>
  have hkn:S5.kind=5:=rfl;have h1:=c_N 13 [] sp_ sp_;simp only [List.map_nil] at h1;refine ⟨_,a,.unit,fun d h o g0 w0 gen0 gen σ hd b7 hfr ⟨j0,j1,j3,j6,j8,b6,b8,bd,ag⟩=>?_⟩;refine F9 (fun gn X6 hgn=>?_);have hgf:=c8 hgn;have m0:Tryz.f67.results.toList=[.cell 8 65]:=rfl;have ac9:=c8 hfr;have f1:=c7 hfr hd;have f2:=l4 hfr hd;have f3:=c7 hgn bd;have f4:=l4 hgn bd;have e1:=K9 hgn b6;have e2:=G7 hgn b6;have c6:=l7 hd ag hgf (fun r i e=>by rw [e] at bd;rw [hgf] at bd;cases bd);clear hgn X6
  conv=>arg 3;simp only [I5,A7,Tryz.f67,Option.getD_some]
  exact I0
 | nat =>
  have hkn:r5.kind=1:=rfl;rcases Int.lt_or_le 0 z with hp|hp
  ·have hd0:decide (z>0)=true:=by simpa using hp
   have hn1:z.toNat=(z - 1).toNat+1:=by omega
   have hr:=L5 (l:=l) (a:=a) (n:=5) om_ om_;generalize hq:D2 l a 5=q at hr;obtain ⟨c,a1⟩:=q;have hc1:(D2 l a 5).1=c:=by rw [hq]
   have hc2:(D2 l a 5).2=a1:=by rw [hq]
   simp only at hr;obtain rfl|rfl|rfl|hge:c=0∨c=1∨c=2∨3≤c:=by omega
   ·
    obtain ⟨x,ax,kx,wx,Tx⟩:=ihT ih (z - 1) g r5 a1;have hN:=c_N 5 [x] sp_ (by simp [wx]);simp only [List.map_cons,List.map_nil] at hN;clear ih hr hq hp hg;refine ⟨_,ax,by rw [hn1];exact .succ kx,fun d h o g0 w0 gen0 gen σ hd b7 hfr ⟨j0,j1,j3,j6,j8,b6,b8,bd,ag⟩=>?_⟩;refine F9 (fun gn X6 hgn=>?_);have hgf:=c8 hgn;have m0:Tryz.f67.results.toList=[.cell 8 65]:=rfl;have ac9:=c8 hfr;have f1:=c7 hfr hd;have f2:=l4 hfr hd;have f3:=c7 hgn bd;have f4:=l4 hgn bd;have e1:=K9 hgn b6;have e2:=G7 hgn b6;have c6:=l7 hd ag hgf (fun r i e=>by rw [e] at bd;rw [hgf] at bd;cases bd);clear hgn X6
    conv=>arg 3;simp only [I5,A7,Tryz.f67,Option.getD_some]
    repeat' (first
     |(refine ⟨?_,?_⟩;focus ((repeat' (first|refine ⟨?_,?_⟩|refine .inr ?_));all_goals kernel_rfl))
     |exact agb as_
     | (first|refine wp rfl ?_|refine spt rfl ?_|refine spf rfl ?_|(refine spl (fun hc=>?_) fun hc=>?_)<;>(try rw [beq_iff_eq] at hc)<;>try simp only [hc]|(refine gs (fun hb=>?_) fun hb=>?_)<;>try simp only [Bool.not_true,Bool.not_false] at hb|refine cp hN ?_|refine ct (N7 l hl d _ _) sr_ ?_|(refine ct (Tx d) ?_ ?_;focus ((simp only [go_sem, *]<;>rfl);done))|refine Z4 b7 hd ?_ ?_ ?_ ?_ ?_)<;>try simp only [go_sem, *])
   ·
    obtain ⟨x,ax,kx,wx,Tx⟩:=ihT ih (z - 1) g r5 a1;obtain ⟨y,ay,ky,wy,Ty⟩:=ihT ih (z - 1) g r5 ax;have hA:=cJ9 aK1 [x,y] Z1 sp_ (by simp [wx,wy]);simp only [List.map_cons,List.map_nil,av9,aD4] at hA;clear ih hr hq hp hg;refine ⟨_,ay,by rw [hn1];exact .plus kx ky,fun d h o g0 w0 gen0 gen σ hd b7 hfr ⟨j0,j1,j3,j6,j8,b6,b8,bd,ag⟩=>?_⟩;refine F9 (fun gn X6 hgn=>?_);have hgf:=c8 hgn;have m0:Tryz.f67.results.toList=[.cell 8 65]:=rfl;have ac9:=c8 hfr;have f1:=c7 hfr hd;have f2:=l4 hfr hd;have f3:=c7 hgn bd;have f4:=l4 hgn bd;have e1:=K9 hgn b6;have e2:=G7 hgn b6;have c6:=l7 hd ag hgf (fun r i e=>by rw [e] at bd;rw [hgf] at bd;cases bd);clear hgn X6
    conv=>arg 3;simp only [I5,A7,Tryz.f67,Option.getD_some]
    repeat' (first
     |(refine ⟨?_,?_⟩;focus ((repeat' (first|refine ⟨?_,?_⟩|refine .inr ?_));all_goals kernel_rfl))
     |exact agb as_
     | (first|refine wp rfl ?_|refine spt rfl ?_|refine spf rfl ?_|(refine spl (fun hc=>?_) fun hc=>?_)<;>(try rw [beq_iff_eq] at hc)<;>try simp only [hc]|(refine gs (fun hb=>?_) fun hb=>?_)<;>try simp only [Bool.not_true,Bool.not_false] at hb|refine cp hA ?_|refine cp cQ8 ?_|refine ct (N7 l hl d _ _) sr_ ?_|(refine ct (Tx d) ?_ ?_;focus ((simp only [go_sem, *]<;>rfl);done))|(refine ct (Ty d) ?_ ?_;focus ((simp only [go_sem, *]<;>rfl);done))|refine Z4 b7 hd ?_ ?_ ?_ ?_ ?_)<;>try simp only [go_sem, *])
   ·
    obtain ⟨x,ax,kx,wx,Tx⟩:=ihT ih (z - 1) g r5 a1;obtain ⟨y,ay,ky,wy,Ty⟩:=ihT ih (z - 1) g r5 ax;have hA:=cJ9 an8 [x,y] aa8 sp_ (by simp [wx,wy]);simp only [List.map_cons,List.map_nil,av9,aD4] at hA;clear ih hr hq hp hg;refine ⟨_,ay,by rw [hn1];exact .sub kx ky,fun d h o g0 w0 gen0 gen σ hd b7 hfr ⟨j0,j1,j3,j6,j8,b6,b8,bd,ag⟩=>?_⟩;refine F9 (fun gn X6 hgn=>?_);have hgf:=c8 hgn;have m0:Tryz.f67.results.toList=[.cell 8 65]:=rfl;have ac9:=c8 hfr;have f1:=c7 hfr hd;have f2:=l4 hfr hd;have f3:=c7 hgn bd;have f4:=l4 hgn bd;have e1:=K9 hgn b6;have e2:=G7 hgn b6;have c6:=l7 hd ag hgf (fun r i e=>by rw [e] at bd;rw [hgf] at bd;cases bd);clear hgn X6
    conv=>arg 3;simp only [I5,A7,Tryz.f67,Option.getD_some]
    repeat' (first
     |(refine ⟨?_,?_⟩;focus ((repeat' (first|refine ⟨?_,?_⟩|refine .inr ?_));all_goals kernel_rfl))
     |exact agb as_
     | (first|refine wp rfl ?_|refine spt rfl ?_|refine spf rfl ?_|(refine spl (fun hc=>?_) fun hc=>?_)<;>(try rw [beq_iff_eq] at hc)<;>try simp only [hc]|(refine gs (fun hb=>?_) fun hb=>?_)<;>try simp only [Bool.not_true,Bool.not_false] at hb|refine cp hA ?_|refine cp cK0 ?_|refine ct (N7 l hl d _ _) sr_ ?_|(refine ct (Tx d) ?_ ?_;focus ((simp only [go_sem, *]<;>rfl);done))|(refine ct (Ty d) ?_ ?_;focus ((simp only [go_sem, *]<;>rfl);done))|refine Z4 b7 hd ?_ ?_ ?_ ?_ ?_)<;>try simp only [go_sem, *])
   ·have q0:(c==0)=false:=by simp;omega
    have q1:(c==1)=false:=by simp;omega
    have q2:(c==2)=false:=by simp;omega
    clear hge hr hq;have hr3:=L5 (l:=l) (a:=a1) (n:=3) om_ om_;obtain ⟨k,hk⟩:∃ k:Nat,(D2 l a1 3).1=(k:Int):=⟨(D2 l a1 3).1.toNat,om_⟩;have hk3:k<3:=by omega
    have hN:=bU6 k om_;clear ih hr3 hg;refine ⟨_,(D2 l a1 3).2,.num hk3,fun d h o g0 w0 gen0 gen σ hd b7 hfr ⟨j0,j1,j3,j6,j8,b6,b8,bd,ag⟩=>?_⟩;refine F9 (fun gn X6 hgn=>?_);have hgf:=c8 hgn;have m0:Tryz.f67.results.toList=[.cell 8 65]:=rfl;have ac9:=c8 hfr;have f1:=c7 hfr hd;have f2:=l4 hfr hd;have f3:=c7 hgn bd;have f4:=l4 hgn bd;have e1:=K9 hgn b6;have e2:=G7 hgn b6;have c6:=l7 hd ag hgf (fun r i e=>by rw [e] at bd;rw [hgf] at bd;cases bd);clear hgn X6
    conv=>arg 3;simp only [I5,A7,Tryz.f67,Option.getD_some]
    repeat' (first
     |(refine ⟨?_,?_⟩;focus ((repeat' (first|refine ⟨?_,?_⟩|refine .inr ?_));all_goals kernel_rfl))
     |exact agb as_
     | (first|refine wp rfl ?_|refine spt rfl ?_|refine spf rfl ?_|(refine spl (fun hc=>?_) fun hc=>?_)<;>(try rw [beq_iff_eq] at hc)<;>try simp only [hc]|(refine gs (fun hb=>?_) fun hb=>?_)<;>try simp only [Bool.not_true,Bool.not_false] at hb|refine cp hN ?_|refine ct (N7 l hl d _ _) sr_ ?_|refine Z4 b7 hd ?_ ?_ ?_ ?_ ?_)<;>try simp only [go_sem, *])
  ·have hd0:decide (z>0)=false:=by simp;omega
   have hr3:=L5 (l:=l) (a:=a) (n:=3) om_ om_;obtain ⟨k,hk⟩:∃ k:Nat,(D2 l a 3).1=(k:Int):=⟨(D2 l a 3).1.toNat,om_⟩;have hk3:k<3:=by omega
   have hN:=bU6 k om_;clear ih hr3 hg;refine ⟨_,(D2 l a 3).2,.num hk3,fun d h o g0 w0 gen0 gen σ hd b7 hfr ⟨j0,j1,j3,j6,j8,b6,b8,bd,ag⟩=>?_⟩;refine F9 (fun gn X6 hgn=>?_);have hgf:=c8 hgn;have m0:Tryz.f67.results.toList=[.cell 8 65]:=rfl;have ac9:=c8 hfr;have f1:=c7 hfr hd;have f2:=l4 hfr hd;have f3:=c7 hgn bd;have f4:=l4 hgn bd;have e1:=K9 hgn b6;have e2:=G7 hgn b6;have c6:=l7 hd ag hgf (fun r i e=>by rw [e] at bd;rw [hgf] at bd;cases bd);clear hgn X6
   conv=>arg 3;simp only [I5,A7,Tryz.f67,Option.getD_some]
   repeat' (first
    |(refine ⟨?_,?_⟩;focus ((repeat' (first|refine ⟨?_,?_⟩|refine .inr ?_));all_goals kernel_rfl))
    |exact agb as_
    | (first|refine wp rfl ?_|refine spt rfl ?_|refine spf rfl ?_|(refine spl (fun hc=>?_) fun hc=>?_)<;>(try rw [beq_iff_eq] at hc)<;>try simp only [hc]|(refine gs (fun hb=>?_) fun hb=>?_)<;>try simp only [Bool.not_true,Bool.not_false] at hb|refine cp hN ?_|refine ct (N7 l hl d _ _) sr_ ?_|refine Z4 b7 hd ?_ ?_ ?_ ?_ ?_)<;>try simp only [go_sem, *])
 | list =>
  have hkn:C8.kind=2:=rfl;have hN7:=c_N 7 [] sp_ sp_;simp only [List.map_nil] at hN7;rcases Int.lt_or_le 0 z with hp|hp
  ·have hd0:decide (z>0)=true:=by simpa using hp
   have hn1:z.toNat=(z - 1).toNat+1:=by omega
   generalize hq:D2 l a 2=q;obtain ⟨c,a1⟩:=q;have hc1:(D2 l a 2).1=c:=by rw [hq]
   have hc2:(D2 l a 2).2=a1:=by rw [hq]
   cases hc:(c==0) with
   | true =>
    obtain ⟨x,ax,kx,wx,Tx⟩:=ihT ih (z - 1) g r5 a1;obtain ⟨y,ay,ky,wy,Ty⟩:=ihT ih (z - 1) g C8 ax;have hN:=c_N 8 [x,y] sp_ (by simp [wx,wy]);simp only [List.map_cons,List.map_nil] at hN;clear ih hq hp hg;refine ⟨_,ay,by rw [hn1];exact .cons kx ky,fun d h o g0 w0 gen0 gen σ hd b7 hfr ⟨j0,j1,j3,j6,j8,b6,b8,bd,ag⟩=>?_⟩;refine F9 (fun gn X6 hgn=>?_);have hgf:=c8 hgn;have m0:Tryz.f67.results.toList=[.cell 8 65]:=rfl;have ac9:=c8 hfr;have f1:=c7 hfr hd;have f2:=l4 hfr hd;have f3:=c7 hgn bd;have f4:=l4 hgn bd;have e1:=K9 hgn b6;have e2:=G7 hgn b6;have c6:=l7 hd ag hgf (fun r i e=>by rw [e] at bd;rw [hgf] at bd;cases bd);clear hgn X6
    conv=>arg 3;simp only [I5,A7,Tryz.f67,Option.getD_some]
    repeat' (first
     |(refine ⟨?_,?_⟩;focus ((repeat' (first|refine ⟨?_,?_⟩|refine .inr ?_));all_goals kernel_rfl))
     |exact agb as_
     | (first|refine wp rfl ?_|refine spt rfl ?_|refine spf rfl ?_|(refine spl (fun hc=>?_) fun hc=>?_)<;>(try rw [beq_iff_eq] at hc)<;>try simp only [hc]|(refine gs (fun hb=>?_) fun hb=>?_)<;>try simp only [Bool.not_true,Bool.not_false] at hb|refine cp hN ?_|refine cp D8 ?_|refine ct (N7 l hl d _ _) sr_ ?_|(refine ct (Tx d) ?_ ?_;focus ((simp only [go_sem, *]<;>rfl);done))|(refine ct (Ty d) ?_ ?_;focus ((simp only [go_sem, *]<;>rfl);done))|refine Z4 b7 hd ?_ ?_ ?_ ?_ ?_)<;>try simp only [go_sem, *])
   | false =>
    clear ih hq hp hg;refine ⟨_,a1,.nil,fun d h o g0 w0 gen0 gen σ hd b7 hfr ⟨j0,j1,j3,j6,j8,b6,b8,bd,ag⟩=>?_⟩;refine F9 (fun gn X6 hgn=>?_);have hgf:=c8 hgn;have m0:Tryz.f67.results.toList=[.cell 8 65]:=rfl;have ac9:=c8 hfr;have f1:=c7 hfr hd;have f2:=l4 hfr hd;have f3:=c7 hgn bd;have f4:=l4 hgn bd;have e1:=K9 hgn b6;have e2:=G7 hgn b6;have c6:=l7 hd ag hgf (fun r i e=>by rw [e] at bd;rw [hgf] at bd;cases bd);clear hgn X6
    conv=>arg 3;simp only [I5,A7,Tryz.f67,Option.getD_some]
    repeat' (first
     |(refine ⟨?_,?_⟩;focus ((repeat' (first|refine ⟨?_,?_⟩|refine .inr ?_));all_goals kernel_rfl))
     |exact agb as_
     | (first|refine wp rfl ?_|refine spt rfl ?_|refine spf rfl ?_|(refine spl (fun hc=>?_) fun hc=>?_)<;>(try rw [beq_iff_eq] at hc)<;>try simp only [hc]|(refine gs (fun hb=>?_) fun hb=>?_)<;>try simp only [Bool.not_true,Bool.not_false] at hb|refine cp hN7 ?_|refine ct (N7 l hl d _ _) sr_ ?_|refine Z4 b7 hd ?_ ?_ ?_ ?_ ?_)<;>try simp only [go_sem, *])
  ·have hd0:decide (z>0)=false:=by simp;omega
   clear ih hg;refine ⟨_,a,.nil,fun d h o g0 w0 gen0 gen σ hd b7 hfr ⟨j0,j1,j3,j6,j8,b6,b8,bd,ag⟩=>?_⟩;refine F9 (fun gn X6 hgn=>?_);have hgf:=c8 hgn;have m0:Tryz.f67.results.toList=[.cell 8 65]:=rfl;have ac9:=c8 hfr;have f1:=c7 hfr hd;have f2:=l4 hfr hd;have f3:=c7 hgn bd;have f4:=l4 hgn bd;have e1:=K9 hgn b6;have e2:=G7 hgn b6;have c6:=l7 hd ag hgf (fun r i e=>by rw [e] at bd;rw [hgf] at bd;cases bd);clear hgn X6
   conv=>arg 3;simp only [I5,A7,Tryz.f67,Option.getD_some]
   repeat' (first
    |(refine ⟨?_,?_⟩;focus ((repeat' (first|refine ⟨?_,?_⟩|refine .inr ?_));all_goals kernel_rfl))
    |exact agb as_
    | (first|refine wp rfl ?_|refine spt rfl ?_|refine spf rfl ?_|(refine spl (fun hc=>?_) fun hc=>?_)<;>(try rw [beq_iff_eq] at hc)<;>try simp only [hc]|(refine gs (fun hb=>?_) fun hb=>?_)<;>try simp only [Bool.not_true,Bool.not_false] at hb|refine cp hN7 ?_|refine ct (N7 l hl d _ _) sr_ ?_|refine Z4 b7 hd ?_ ?_ ?_ ?_ ?_)<;>try simp only [go_sem, *])
 | @pair ta tb hta htb =>
  have hkn:(E9 ta tb).kind=3:=rfl;have hka:(E9 ta tb).args=[ta,tb]:=rfl;have hnn:z.toNat - 1=(z - 1).toNat:=by omega
  rw [af6] at hm hth hb hz;obtain ⟨x,ax,kx,wx,Tx⟩:=ihT ih (z - 1) g ta a;obtain ⟨y,ay,ky,wy,Ty⟩:=ihT ih (z - 1) g tb ax;have hN:=c_N 10 [x,y] sp_ (by simp [wx,wy]);simp only [List.map_cons,List.map_nil] at hN;clear ih hg;refine ⟨_,ay,.pair (by rw [hnn];exact kx) (by rw [hnn];exact ky),fun d h o g0 w0 gen0 gen σ hd b7 hfr ⟨j0,j1,j3,j6,j8,b6,b8,bd,ag⟩=>?_⟩;refine F9 (fun gn X6 hgn=>?_);have hgf:=c8 hgn;have m0:Tryz.f67.results.toList=[.cell 8 65]:=rfl;have ac9:=c8 hfr;have f1:=c7 hfr hd;have f2:=l4 hfr hd;have f3:=c7 hgn bd;have f4:=l4 hgn bd;have e1:=K9 hgn b6;have e2:=G7 hgn b6;have c6:=l7 hd ag hgf (fun r i e=>by rw [e] at bd;rw [hgf] at bd;cases bd);clear hgn X6
  conv=>arg 3;simp only [I5,A7,Tryz.f67,Option.getD_some]
  have zq0:=Tx d;have zq1:=Ty d;exact I0
 | @func ta tb hta htb =>
  have hkn:(G1 ta tb).kind=4:=rfl;have hka:(G1 ta tb).args=[ta,tb]:=rfl;have hnn:z.toNat - 1=(z - 1).toNat:=by omega
  rw [ai5] at hm hth hb hz;obtain ⟨x,ax,kx,wx,Tx⟩:=ihT ih (z - 1) (g++[ta]) tb a;have hN:=c_T 2 ta [x] hta.W sp_ (by simp [wx]);have hL:=aB4 g [ta] om_ sp_;simp only [List.map_cons,List.map_nil] at hN hL;clear ih hg;refine ⟨_,ax,.lam (by rw [hnn];exact kx),fun d h o g0 w0 gen0 gen σ hd b7 hfr ⟨j0,j1,j3,j6,j8,b6,b8,bd,ag⟩=>?_⟩;refine F9 (fun gn X6 hgn=>?_);have hgf:=c8 hgn;have m0:Tryz.f67.results.toList=[.cell 8 65]:=rfl;have ac9:=c8 hfr;have f1:=c7 hfr hd;have f2:=l4 hfr hd;have f3:=c7 hgn bd;have f4:=l4 hgn bd;have e1:=K9 hgn b6;have e2:=G7 hgn b6;have c6:=l7 hd ag hgf (fun r i e=>by rw [e] at bd;rw [hgf] at bd;cases bd);clear hgn X6
  conv=>arg 3;simp only [I5,A7,Tryz.f67,Option.getD_some]
  have zq0:=Tx d;exact I0
def ck1 (l:List Int) (g:List Ty) (t:Ty) (z:Int) (a:Nat) (t':Tm) (a':Nat):Prop :=
 ∀ (d:GoAbs.Id) (h:H) (o:GoAbs.Obj) (g0:G) (w0:World) (gen0 gen:Nat) (σ:St),h d=some o→Rel env g0 w0 h→(∀ id,h id≠none→id.gen<gen0)→cn8 l g t z a d h gen0 σ →
  AR ⟨Tryz.prog,env,Tryz.f67.ntmps,Tryz.f67,g0,w0,h,.agg t'.cells,u9 h d (.box (C1 l a'))⟩ gen
   [.code (I5 [true,true,true] (A7 Tryz.f67))] .normal σ
theorem cK1 (l:List Int) (hl:l.length≤1000) (m:Nat) (ih:bc1 l m) (z:Int) (g:List Ty) (t:Ty) (a:Nat) (hm:43 * z.toNat+tyH t=m)
  (hg:∀ y∈g,TyF y∧tyH y≤40) (ht:TyF t) (hth:tyH t≤40) (hb:g.length+43 * z.toNat+tyH t≤900) (hz:(tyH t:Int)≤z+1000) :
  ∃ t' a',L2 z.toNat g t t'∧ck1 l g t z a t' a':=by
 have hw:IntKind.i64.wrap (z - 1)=z - 1:=w8 rfl om_ om_;have hgl:g.length≤1000:=by omega
 have htw:=ht.W;rcases Int.lt_or_le 0 z with hp|hp
 case inr =>
  have hz0:decide (z>0)=false:=by simp;omega
  obtain ⟨t',a',kt,T3⟩:=cs4 l hl m ih z g t a hm hg ht hth hb hz;clear ih hg;unfold bT0 at T3;refine ⟨_,a',kt,fun d h o g0 w0 gen gen1 σ hd b7 hfr ⟨j0,j1,j3,j6,j8,b6,b8,bd,ag⟩=>?_⟩;refine F9 (fun gn X6 hgn=>?_);have hgf:=c8 hgn;have m0:Tryz.f67.results.toList=[.cell 8 65]:=rfl;have ac9:=c8 hfr;have f1:=c7 hfr hd;have f2:=l4 hfr hd;have f3:=c7 hgn bd;have f4:=l4 hgn bd;have e1:=K9 hgn b6;have e2:=G7 hgn b6;have ap6:gen<gn:=by have:=hgn _ (by rw [b6];simp);simpa using this
  have c6:=l7 hd ag hgf (fun r i e=>by rw [e] at bd;rw [hgf] at bd;cases bd);clear hgn X6;change AR _ _ [.code (.seq (I5 [true,true,true,false] (A7 Tryz.f67)) (I5 [true,true,true,true] (A7 Tryz.f67)))] _ _;refine D6 ?_;generalize I5 [true,true,true,true] (A7 Tryz.f67)=C3 at T3 ⊢
  conv=>arg 3;arg 1;simp only [I5,A7,Tryz.f67,Option.getD_some]
  repeat' (first
   |refine D6 ?_|refine I1 ?_|refine F2 ?_|refine A8 ?_|refine I4 ?_|refine A3 ?_|refine B5 ?_|refine A4 ?_
   |refine A0 (by decide) ?_|refine Q0 ?_|refine K2 ?_
   |(refine ⟨?_,?_⟩;focus ((repeat' (first|refine ⟨?_,?_⟩|refine .inr ?_));all_goals kernel_rfl))
   |refine E3 rfl ?_|refine E4 rfl ?_|(refine H5 rfl (fun hc=>?_) (fun hc=>?_)<;>(try rw [beq_iff_eq] at hc)<;>(try simp only [hc]))
   | ((first|refine B6 ?_|(refine z9 (fun hb=>?_) (fun hb=>?_)<;>(try simp only [Bool.not_true,Bool.not_false] at hb))|refine y9 (D8) ?_)<;>simp only [go_sem, *]))
  refine T3 d h o g0 w0 gen _ _ hd b7 hfr ⟨sg_,sg_,sg_,sg_,sg_,sg_,sg_,sg_,?_⟩;simp only [go_sem, *]
  repeat (first|exact a9.refl _ _|assumption|refine a9.new ?_ (c6 _ _)|refine a9.new ?_ (ac9 _ _)|refine a9.set ?_)
 have hz0:decide (z>0)=true:=by simpa using hp
 have hn1:z.toNat=(z - 1).toNat+1:=by omega
 have hr:=L5 (l:=l) (a:=a) (n:=8) om_ om_;generalize hq:D2 l a 8=q at hr;obtain ⟨c,a1⟩:=q;have hc1:(D2 l a 8).1=c:=by rw [hq]
 have hc2:(D2 l a 8).2=a1:=by rw [hq]
 simp only at hr;obtain rfl|rfl|rfl|rfl|rfl|rfl|hge:c=0∨c=1∨c=2∨c=3∨c=4∨c=5∨6≤c:=by omega
 ·
  have hs:=ah5 (l:=l) 0 a1;have hsT:=bJ4 l hl;have hsH:=hs.H;generalize hq2:mkType l 0 a1=q at hs hsH;obtain ⟨s,a2⟩:=q;have hs1:(mkType l 0 a1).1=s:=by rw [hq2]
  have hs2:(mkType l 0 a1).2=a2:=by rw [hq2]
  simp only at hs hsH;have hsF:=hs.F;have hsW:=hsF.W;have hT0:∀ d,D1 Tryz.prog env 110 [.ptr d 0,.int .i64 0] d (.box (C1 l a1)) (.agg s.cells) (.box (C1 l a2)):=fun d=>by have:=hsT d 0 om_ a1;rw [hs1,hs2] at this;exact this
  clear hsT hs1 hs2 hq2;obtain ⟨b,ab,kb,wb,Tb⟩:=ihT ih (z - 1) (g++[s]) t a2;obtain ⟨x,ax,kx,wx,Tx⟩:=ihT ih (z - 1) g s ab;have hL:=aB4 g [s] om_ sp_;have hN1:=c_T 2 s [b] hsW sp_ (by simp [wb]);have hN2:=c_N 3 [tmT 2 s [b],x] sp_ (by simp [wx,ao6 hsW wb]);simp only [List.map_cons,List.map_nil] at hL hN1 hN2;clear ih hr hq hp hg;refine ⟨_,ax,by rw [hn1];exact .app hs kb kx,fun d h o g0 w0 gen gen1 σ hd b7 hfr ⟨j0,j1,j3,j6,j8,b6,b8,bd,ag⟩=>?_⟩;refine F9 (fun gn X6 hgn=>?_);have hgf:=c8 hgn;have m0:Tryz.f67.results.toList=[.cell 8 65]:=rfl;have ac9:=c8 hfr;have f1:=c7 hfr hd;have f2:=l4 hfr hd;have f3:=c7 hgn bd;have f4:=l4 hgn bd;have e1:=K9 hgn b6;have e2:=G7 hgn b6;have ap6:gen<gn:=by have:=hgn _ (by rw [b6];simp);simpa using this
  have c6:=l7 hd ag hgf (fun r i e=>by rw [e] at bd;rw [hgf] at bd;cases bd);clear hgn X6;change AR _ _ [.code (.seq (I5 [true,true,true,false] (A7 Tryz.f67)) (I5 [true,true,true,true] (A7 Tryz.f67)))] _ _;refine D6 ?_;generalize I5 [true,true,true,true] (A7 Tryz.f67)=C3
  conv=>arg 3;arg 1;simp only [I5,A7,Tryz.f67,Option.getD_some]
  repeat' (first
   |refine D6 ?_|refine I1 ?_|refine F2 ?_|refine A8 ?_|refine I4 ?_|refine A3 ?_|refine B5 ?_|refine A4 ?_
   |refine A0 (by decide) ?_|refine Q0 ?_|refine K2 ?_
   |(refine ⟨?_,?_⟩;focus ((repeat' (first|refine ⟨?_,?_⟩|refine .inr ?_));all_goals kernel_rfl))
   |refine E3 rfl ?_|refine E4 rfl ?_|(refine H5 rfl (fun hc=>?_) (fun hc=>?_)<;>(try rw [beq_iff_eq] at hc)<;>(try simp only [hc]))
   | ((first|refine B6 ?_|(refine z9 (fun hb=>?_) (fun hb=>?_)<;>(try simp only [Bool.not_true,Bool.not_false] at hb))|refine y9 (hL) ?_|refine y9 (hN1) ?_|refine y9 (hN2) ?_|(refine D0 (hT0 d) ?_ ?_;focus ((simp only [go_sem, *]<;>rfl);done))|(refine D0 (Tb d) ?_ ?_;focus ((simp only [go_sem, *]<;>rfl);done))|(refine D0 (Tx d) ?_ ?_;focus ((simp only [go_sem, *]<;>rfl);done))|refine D0 (N7 l hl d _ _) sr_ ?_|refine L4 b7 hd (by simp only [go_sem,and_self]) (by simp only [go_sem,and_self]) (by repeat (first|exact a9.refl _ _|assumption|refine a9.new ?_ (c6 _ _)|refine a9.new ?_ (m6 _ _)|refine a9.new ?_ (ac9 _ _)|refine a9.set ?_)) sg_ ?_)<;>simp only [go_sem, *]))
 ·
  have hs:=ah5 (l:=l) 0 a1;have hsT:=bJ4 l hl;have hsH:=hs.H;generalize hq2:mkType l 0 a1=q at hs hsH;obtain ⟨s,a2⟩:=q;have hs1:(mkType l 0 a1).1=s:=by rw [hq2]
  have hs2:(mkType l 0 a1).2=a2:=by rw [hq2]
  simp only at hs hsH;have hsF:=hs.F;have hsW:=hsF.W;have hT0:∀ d,D1 Tryz.prog env 110 [.ptr d 0,.int .i64 0] d (.box (C1 l a1)) (.agg s.cells) (.box (C1 l a2)):=fun d=>by have:=hsT d 0 om_ a1;rw [hs1,hs2] at this;exact this
  clear hsT hs1 hs2 hq2;obtain ⟨x,ax,kx,wx,Tx⟩:=ihT ih (z - 1) g t a2;obtain ⟨y,ay,ky,wy,Ty⟩:=ihT ih (z - 1) g s ax;have hN1:=c_N 10 [x,y] sp_ (by simp [wx,wy]);have hN2:=c_N 11 [tm0 10 [x,y]] sp_ (by simp [M1 wx wy]);simp only [List.map_cons,List.map_nil] at hN1 hN2;clear ih hr hq hp hg;refine ⟨_,ay,by rw [hn1];exact .fst hs kx ky,fun d h o g0 w0 gen gen1 σ hd b7 hfr ⟨j0,j1,j3,j6,j8,b6,b8,bd,ag⟩=>?_⟩;refine F9 (fun gn X6 hgn=>?_);have hgf:=c8 hgn;have m0:Tryz.f67.results.toList=[.cell 8 65]:=rfl;have ac9:=c8 hfr;have f1:=c7 hfr hd;have f2:=l4 hfr hd;have f3:=c7 hgn bd;have f4:=l4 hgn bd;have e1:=K9 hgn b6;have e2:=G7 hgn b6;have ap6:gen<gn:=by have:=hgn _ (by rw [b6];simp);simpa using this
  have c6:=l7 hd ag hgf (fun r i e=>by rw [e] at bd;rw [hgf] at bd;cases bd);clear hgn X6;change AR _ _ [.code (.seq (I5 [true,true,true,false] (A7 Tryz.f67)) (I5 [true,true,true,true] (A7 Tryz.f67)))] _ _;refine D6 ?_;generalize I5 [true,true,true,true] (A7 Tryz.f67)=C3
  conv=>arg 3;arg 1;simp only [I5,A7,Tryz.f67,Option.getD_some]
  repeat' (first
   |refine D6 ?_|refine I1 ?_|refine F2 ?_|refine A8 ?_|refine I4 ?_|refine A3 ?_|refine B5 ?_|refine A4 ?_
   |refine A0 (by decide) ?_|refine Q0 ?_|refine K2 ?_
   |(refine ⟨?_,?_⟩;focus ((repeat' (first|refine ⟨?_,?_⟩|refine .inr ?_));all_goals kernel_rfl))
   |refine E3 rfl ?_|refine E4 rfl ?_|(refine H5 rfl (fun hc=>?_) (fun hc=>?_)<;>(try rw [beq_iff_eq] at hc)<;>(try simp only [hc]))
   | ((first|refine B6 ?_|(refine z9 (fun hb=>?_) (fun hb=>?_)<;>(try simp only [Bool.not_true,Bool.not_false] at hb))|refine y9 (hN1) ?_|refine y9 (hN2) ?_|(refine D0 (hT0 d) ?_ ?_;focus ((simp only [go_sem, *]<;>rfl);done))|(refine D0 (Tx d) ?_ ?_;focus ((simp only [go_sem, *]<;>rfl);done))|(refine D0 (Ty d) ?_ ?_;focus ((simp only [go_sem, *]<;>rfl);done))|refine D0 (N7 l hl d _ _) sr_ ?_|refine L4 b7 hd (by simp only [go_sem,and_self]) (by simp only [go_sem,and_self]) (by repeat (first|exact a9.refl _ _|assumption|refine a9.new ?_ (c6 _ _)|refine a9.new ?_ (m6 _ _)|refine a9.new ?_ (ac9 _ _)|refine a9.set ?_)) sg_ ?_)<;>simp only [go_sem, *]))
 ·
  obtain ⟨f,af,kf,wf,Tf⟩:=ihT ih (z - 1) (g++[r5,t]) t a1;obtain ⟨b,ab,kb,wb,Tb⟩:=ihT ih (z - 1) g t af;have hr3:=L5 (l:=l) (a:=ab) (n:=3) om_ om_;obtain ⟨k,hk⟩:∃ k:Nat,(D2 l ab 3).1=(k:Int):=⟨(D2 l ab 3).1.toNat,om_⟩;have hk3:k<3:=by omega
  have dg8:=bU6 k om_;clear hr3;have hL:=aB4 g [r5,t] om_ sp_;have w1:=ao6 (k:=2) htw wf;have w2:=ao6 (k:=2) K4 w1;have hN1:=c_T 2 t [f] htw sp_ (by simp [wf]);have hN2:=c_T 2 r5 [tmT 2 t [f]] K4 sp_ (by simp [w1]);have hN3:=c_T 6 t [b,tmT 2 r5 [tmT 2 t [f]],C5 k] htw sp_ (by simp [wb,w2,az7]);simp only [List.map_cons,List.map_nil] at hL hN1 hN2 hN3;clear ih hr hq hp hg;refine ⟨_,(D2 l ab 3).2,by rw [hn1];exact .av8 hk3 kf kb,fun d h o g0 w0 gen gen1 σ hd b7 hfr ⟨j0,j1,j3,j6,j8,b6,b8,bd,ag⟩=>?_⟩;refine F9 (fun gn X6 hgn=>?_);have hgf:=c8 hgn;have m0:Tryz.f67.results.toList=[.cell 8 65]:=rfl;have ac9:=c8 hfr;have f1:=c7 hfr hd;have f2:=l4 hfr hd;have f3:=c7 hgn bd;have f4:=l4 hgn bd;have e1:=K9 hgn b6;have e2:=G7 hgn b6;have ap6:gen<gn:=by have:=hgn _ (by rw [b6];simp);simpa using this
  have c6:=l7 hd ag hgf (fun r i e=>by rw [e] at bd;rw [hgf] at bd;cases bd);clear hgn X6;change AR _ _ [.code (.seq (I5 [true,true,true,false] (A7 Tryz.f67)) (I5 [true,true,true,true] (A7 Tryz.f67)))] _ _;refine D6 ?_;generalize I5 [true,true,true,true] (A7 Tryz.f67)=C3
  conv=>arg 3;arg 1;simp only [I5,A7,Tryz.f67,Option.getD_some]
  repeat' (first
   |refine D6 ?_|refine I1 ?_|refine F2 ?_|refine A8 ?_|refine I4 ?_|refine A3 ?_|refine B5 ?_|refine A4 ?_
   |refine A0 (by decide) ?_|refine Q0 ?_|refine K2 ?_
   |(refine ⟨?_,?_⟩;focus ((repeat' (first|refine ⟨?_,?_⟩|refine .inr ?_));all_goals kernel_rfl))
   |refine E3 rfl ?_|refine E4 rfl ?_|(refine H5 rfl (fun hc=>?_) (fun hc=>?_)<;>(try rw [beq_iff_eq] at hc)<;>(try simp only [hc]))
   | ((first|refine B6 ?_|(refine z9 (fun hb=>?_) (fun hb=>?_)<;>(try simp only [Bool.not_true,Bool.not_false] at hb))|refine y9 (hL) ?_|refine y9 (hN1) ?_|refine y9 (hN2) ?_|refine y9 (hN3) ?_|refine y9 (dg8) ?_|refine y9 (D8) ?_|(refine D0 (Tf d) ?_ ?_;focus ((simp only [go_sem, *]<;>rfl);done))|(refine D0 (Tb d) ?_ ?_;focus ((simp only [go_sem, *]<;>rfl);done))|refine D0 (N7 l hl d _ _) sr_ ?_|refine L4 b7 hd (by simp only [go_sem,and_self]) (by simp only [go_sem,and_self]) (by repeat (first|exact a9.refl _ _|assumption|refine a9.new ?_ (c6 _ _)|refine a9.new ?_ (m6 _ _)|refine a9.new ?_ (ac9 _ _)|refine a9.set ?_)) sg_ ?_)<;>simp only [go_sem, *]))
 ·
  obtain ⟨f,af,kf,wf,Tf⟩:=ihT ih (z - 1) (g++[r5,C8,t]) t a1;obtain ⟨b,ab,kb,wb,Tb⟩:=ihT ih (z - 1) g t af;obtain ⟨x,ax,kx,wx,Tx⟩:=ihT ih (z - 1) g C8 ab;have hL:=aB4 g [r5,C8,t] om_ sp_;have w1:=ao6 (k:=2) htw wf;have w2:=ao6 (k:=2) Z0 w1;have w3:=ao6 (k:=2) K4 w2;have hN1:=c_T 2 t [f] htw sp_ (by simp [wf]);have hN2:=c_T 2 C8 [tmT 2 t [f]] Z0 sp_ (by simp [w1]);have hN3:=c_T 2 r5 [tmT 2 C8 [tmT 2 t [f]]] K4 sp_ (by simp [w2]);have hN4:=c_T 9 t [b,tmT 2 r5 [tmT 2 C8 [tmT 2 t [f]]],x] htw sp_ (by simp [wb,w3,wx]);simp only [List.map_cons,List.map_nil] at hL hN1 hN2 hN3 hN4;clear ih hr hq hp hg;refine ⟨_,ax,by rw [hn1];exact .fold kf kb kx,fun d h o g0 w0 gen gen1 σ hd b7 hfr ⟨j0,j1,j3,j6,j8,b6,b8,bd,ag⟩=>?_⟩;refine F9 (fun gn X6 hgn=>?_);have hgf:=c8 hgn;have m0:Tryz.f67.results.toList=[.cell 8 65]:=rfl;have ac9:=c8 hfr;have f1:=c7 hfr hd;have f2:=l4 hfr hd;have f3:=c7 hgn bd;have f4:=l4 hgn bd;have e1:=K9 hgn b6;have e2:=G7 hgn b6;have ap6:gen<gn:=by have:=hgn _ (by rw [b6];simp);simpa using this
  have c6:=l7 hd ag hgf (fun r i e=>by rw [e] at bd;rw [hgf] at bd;cases bd);clear hgn X6;change AR _ _ [.code (.seq (I5 [true,true,true,false] (A7 Tryz.f67)) (I5 [true,true,true,true] (A7 Tryz.f67)))] _ _;refine D6 ?_;generalize I5 [true,true,true,true] (A7 Tryz.f67)=C3
  conv=>arg 3;arg 1;simp only [I5,A7,Tryz.f67,Option.getD_some]
  repeat' (first
   |refine D6 ?_|refine I1 ?_|refine F2 ?_|refine A8 ?_|refine I4 ?_|refine A3 ?_|refine B5 ?_|refine A4 ?_
   |refine A0 (by decide) ?_|refine Q0 ?_|refine K2 ?_
   |(refine ⟨?_,?_⟩;focus ((repeat' (first|refine ⟨?_,?_⟩|refine .inr ?_));all_goals kernel_rfl))
   |refine E3 rfl ?_|refine E4 rfl ?_|(refine H5 rfl (fun hc=>?_) (fun hc=>?_)<;>(try rw [beq_iff_eq] at hc)<;>(try simp only [hc]))
   | ((first|refine B6 ?_|(refine z9 (fun hb=>?_) (fun hb=>?_)<;>(try simp only [Bool.not_true,Bool.not_false] at hb))|refine y9 (hL) ?_|refine y9 (hN1) ?_|refine y9 (hN2) ?_|refine y9 (hN3) ?_|refine y9 (hN4) ?_|refine y9 (D8) ?_|refine y9 (N2) ?_|(refine D0 (Tf d) ?_ ?_;focus ((simp only [go_sem, *]<;>rfl);done))|(refine D0 (Tb d) ?_ ?_;focus ((simp only [go_sem, *]<;>rfl);done))|(refine D0 (Tx d) ?_ ?_;focus ((simp only [go_sem, *]<;>rfl);done))|refine D0 (N7 l hl d _ _) sr_ ?_|refine L4 b7 hd (by simp only [go_sem,and_self]) (by simp only [go_sem,and_self]) (by repeat (first|exact a9.refl _ _|assumption|refine a9.new ?_ (c6 _ _)|refine a9.new ?_ (m6 _ _)|refine a9.new ?_ (ac9 _ _)|refine a9.set ?_)) sg_ ?_)<;>simp only [go_sem, *]))
 ·
  have hs:=ah5 (l:=l) 0 a1;have hsT:=bJ4 l hl;have hsH:=hs.H;generalize hq2:mkType l 0 a1=q at hs hsH;obtain ⟨s,a2⟩:=q;have hs1:(mkType l 0 a1).1=s:=by rw [hq2]
  have hs2:(mkType l 0 a1).2=a2:=by rw [hq2]
  simp only at hs hsH;have hsF:=hs.F;have hsW:=hsF.W;have hT0:∀ d,D1 Tryz.prog env 110 [.ptr d 0,.int .i64 0] d (.box (C1 l a1)) (.agg s.cells) (.box (C1 l a2)):=fun d=>by have:=hsT d 0 om_ a1;rw [hs1,hs2] at this;exact this
  clear hsT hs1 hs2 hq2;obtain ⟨x,ax,kx,wx,Tx⟩:=ihT ih (z - 1) g s a2;obtain ⟨y,ay,ky,wy,Ty⟩:=ihT ih (z - 1) g t ax;have hN1:=c_N 10 [x,y] sp_ (by simp [wx,wy]);have hN2:=c_N 12 [tm0 10 [x,y]] sp_ (by simp [M1 wx wy]);simp only [List.map_cons,List.map_nil] at hN1 hN2;clear ih hr hq hp hg;refine ⟨_,ay,by rw [hn1];exact .snd hs kx ky,fun d h o g0 w0 gen gen1 σ hd b7 hfr ⟨j0,j1,j3,j6,j8,b6,b8,bd,ag⟩=>?_⟩;refine F9 (fun gn X6 hgn=>?_);have hgf:=c8 hgn;have m0:Tryz.f67.results.toList=[.cell 8 65]:=rfl;have ac9:=c8 hfr;have f1:=c7 hfr hd;have f2:=l4 hfr hd;have f3:=c7 hgn bd;have f4:=l4 hgn bd;have e1:=K9 hgn b6;have e2:=G7 hgn b6;have ap6:gen<gn:=by have:=hgn _ (by rw [b6];simp);simpa using this
  have c6:=l7 hd ag hgf (fun r i e=>by rw [e] at bd;rw [hgf] at bd;cases bd);clear hgn X6;change AR _ _ [.code (.seq (I5 [true,true,true,false] (A7 Tryz.f67)) (I5 [true,true,true,true] (A7 Tryz.f67)))] _ _;refine D6 ?_;generalize I5 [true,true,true,true] (A7 Tryz.f67)=C3
  conv=>arg 3;arg 1;simp only [I5,A7,Tryz.f67,Option.getD_some]
  repeat' (first
   |refine D6 ?_|refine I1 ?_|refine F2 ?_|refine A8 ?_|refine I4 ?_|refine A3 ?_|refine B5 ?_|refine A4 ?_
   |refine A0 (by decide) ?_|refine Q0 ?_|refine K2 ?_
   |(refine ⟨?_,?_⟩;focus ((repeat' (first|refine ⟨?_,?_⟩|refine .inr ?_));all_goals kernel_rfl))
   |refine E3 rfl ?_|refine E4 rfl ?_|(refine H5 rfl (fun hc=>?_) (fun hc=>?_)<;>(try rw [beq_iff_eq] at hc)<;>(try simp only [hc]))
   | ((first|refine B6 ?_|(refine z9 (fun hb=>?_) (fun hb=>?_)<;>(try simp only [Bool.not_true,Bool.not_false] at hb))|refine y9 (hN1) ?_|refine y9 (hN2) ?_|(refine D0 (hT0 d) ?_ ?_;focus ((simp only [go_sem, *]<;>rfl);done))|(refine D0 (Tx d) ?_ ?_;focus ((simp only [go_sem, *]<;>rfl);done))|(refine D0 (Ty d) ?_ ?_;focus ((simp only [go_sem, *]<;>rfl);done))|refine D0 (N7 l hl d _ _) sr_ ?_|refine L4 b7 hd (by simp only [go_sem,and_self]) (by simp only [go_sem,and_self]) (by repeat (first|exact a9.refl _ _|assumption|refine a9.new ?_ (c6 _ _)|refine a9.new ?_ (m6 _ _)|refine a9.new ?_ (ac9 _ _)|refine a9.set ?_)) sg_ ?_)<;>simp only [go_sem, *]))
 ·
  cases bz4:(List.range g.length).find? (aE8 g t) with
  | none =>
   obtain ⟨t',a',kt,T3⟩:=cs4 l hl m ih z g t a1 hm hg ht hth hb hz;clear ih;unfold bT0 at T3;refine ⟨_,a',kt,fun d h o g0 w0 gen gen1 σ hd b7 hfr ⟨j0,j1,j3,j6,j8,b6,b8,bd,ag⟩=>?_⟩;refine F9 (fun gn X6 hgn=>?_);have hgf:=c8 hgn;have m0:Tryz.f67.results.toList=[.cell 8 65]:=rfl;have ac9:=c8 hfr;have f1:=c7 hfr hd;have f2:=l4 hfr hd;have f3:=c7 hgn bd;have f4:=l4 hgn bd;have e1:=K9 hgn b6;have e2:=G7 hgn b6;have ap6:gen<gn:=by have:=hgn _ (by rw [b6];simp);simpa using this
   have c6:=l7 hd ag hgf (fun r i e=>by rw [e] at bd;rw [hgf] at bd;cases bd);clear hgn X6;change AR _ _ [.code (.seq (I5 [true,true,true,false] (A7 Tryz.f67)) (I5 [true,true,true,true] (A7 Tryz.f67)))] _ _;refine D6 ?_;generalize I5 [true,true,true,true] (A7 Tryz.f67)=C3 at T3 ⊢
   conv=>arg 3;arg 1;simp only [I5,A7,Tryz.f67,Option.getD_some]
   repeat' (first
    |refine D6 ?_|refine I1 ?_|refine F2 ?_|refine A8 ?_|refine I4 ?_|refine A3 ?_|refine B5 ?_|refine A4 ?_
    |refine A0 (by decide) ?_|refine Q0 ?_|refine K2 ?_
    |(refine ⟨?_,?_⟩;focus ((repeat' (first|refine ⟨?_,?_⟩|refine .inr ?_));all_goals kernel_rfl))
    |refine E3 rfl ?_|refine E4 rfl ?_|(refine H5 rfl (fun hc=>?_) (fun hc=>?_)<;>(try rw [beq_iff_eq] at hc)<;>(try simp only [hc]))
    | ((first|refine B6 ?_|(refine z9 (fun hb=>?_) (fun hb=>?_)<;>(try simp only [Bool.not_true,Bool.not_false] at hb))|refine D0 (N7 l hl d _ _) sr_ ?_)<;>simp only [go_sem, *]))
   refine ar_ [0,1,3,6,8] [⟨gen,0,0⟩,⟨gen,0,1⟩] (fun i σ=>a9 d h σ.h∧σ.h d=some (.box (C1 l a1))) (g).length ?_ ?_ ?_
   ·
    simp only [go_sem, *]
    repeat (first|exact a9.refl _ _|assumption|refine a9.new ?_ (c6 _ _)|refine a9.new ?_ (ac9 _ _)|refine a9.set ?_)
   ·
    clear T3;intro i σ gr0 l6 hgn hlt jI jN jS ⟨jA,jd⟩;obtain ⟨jT,jB⟩:=jS;simp only [go_sem] at jT jB;have hgf:=c8 hgn;have m6:=l7 hd jA hgf (fun r i e=>by have:=hfr d (by rw [hd];simp);rw [e] at this;simp at this;omega);have az5:=u6 hfr hd (show gen<gr0 by omega);have az2:=B3 hfr hd (show gen<gr0 by omega);have n7:=s8 (show gen<gr0 by omega);have n8:=o9 (show gen<gr0 by omega);have cf2:=s8 (show gn<gr0 by omega);have cb2:=o9 (show gn<gr0 by omega);obtain ⟨x,hx,hxm,hm⟩:=rnx hlt;clear hgn;have hfa:=bJ1 bz4 hlt;have hw1:IntKind.i64.wrap ((g.length:Int) - 1)=((g.length - 1:Nat):Int):=w8 om_ om_ om_;have hw2:IntKind.i64.wrap (((g.length - 1:Nat):Int) - (i:Int))=((g.length - 1 - i:Nat):Int):=w8 om_ om_ om_;obtain ⟨y,hy⟩:∃ y,g[g.length - 1 - i]? = some y:=⟨_,List.getElem?_eq_getElem om_⟩;have hyF:=(hg y (List.mem_of_getElem? hy)).1;clear l6 ap6;unfold aE8 at hfa;rw [hy] at hfa;simp only at hfa;clear hg;cases hk4:(y.kind==4) with
    | false =>
     repeat' (first
      |refine D6 ?_|refine I1 ?_|refine F2 ?_|refine A8 ?_|refine I4 ?_|refine A3 ?_|refine B5 ?_|refine A4 ?_
      |refine A0 (by decide) ?_|refine Q0 ?_|refine K2 ?_
      |(refine ⟨?_,?_⟩;focus ((repeat' (first|refine ⟨?_,?_⟩|refine .inr ?_));all_goals kernel_rfl))
      |refine E3 rfl ?_|refine E4 rfl ?_|(refine H5 rfl (fun hc=>?_) (fun hc=>?_)<;>(try rw [beq_iff_eq] at hc)<;>(try simp only [hc]))
      | ((first|refine B6 ?_|(refine z9 (fun hb=>?_) (fun hb=>?_)<;>(try simp only [Bool.not_true,Bool.not_false] at hb))|refine u7 ?_)<;>simp only [go_sem, *]))
     first|exact (by repeat (first|assumption|refine a9.new ?_ (m6 _ _)))|exact ⟨(by repeat (first|assumption|refine a9.new ?_ (m6 _ _))),hi1⟩
    | true =>
     obtain ⟨p,q,rfl⟩:=cK3 hyF hk4;have hya:(G1 p q).args=[p,q]:=rfl;have hyk:(G1 p q).kind=4:=rfl;simp only [hya,hyk,beq_self_eq_true,Bool.true_and,List.getElem?_cons_succ,List.getElem?_cons_zero] at hfa;have hqW:TyW q:=by cases hyF with|func ha hb=>exact hb.W
     have hS:=ah2 q hqW t htw;rw [hfa] at hS;clear hk4 hyF
     repeat' (first
      |refine D6 ?_|refine I1 ?_|refine F2 ?_|refine A8 ?_|refine I4 ?_|refine A3 ?_|refine B5 ?_|refine A4 ?_
      |refine A0 (by decide) ?_|refine Q0 ?_|refine K2 ?_
      |(refine ⟨?_,?_⟩;focus ((repeat' (first|refine ⟨?_,?_⟩|refine .inr ?_));all_goals kernel_rfl))
      |refine E3 rfl ?_|refine E4 rfl ?_|(refine H5 rfl (fun hc=>?_) (fun hc=>?_)<;>(try rw [beq_iff_eq] at hc)<;>(try simp only [hc]))
      | ((first|refine B6 ?_|(refine z9 (fun hb=>?_) (fun hb=>?_)<;>(try simp only [Bool.not_true,Bool.not_false] at hb))|refine y9 (hS) ?_|refine u7 ?_)<;>simp only [go_sem, *]))
     first|exact (by repeat (first|assumption|refine a9.new ?_ (m6 _ _)))|exact ⟨(by repeat (first|assumption|refine a9.new ?_ (m6 _ _))),hi1⟩
   ·
    intro σ ga0 l9 hgn jS ⟨jA,jd⟩;obtain ⟨jT,jB⟩:=jS;simp only [go_sem] at jT jB;have hgf:=c8 hgn;have m6:=l7 hd jA hgf (fun r i e=>by have:=hfr d (by rw [hd];simp);rw [e] at this;simp at this;omega);have aA6:=u6 hfr hd (show gen<ga0 by omega);have ay9:=B3 hfr hd (show gen<ga0 by omega);have n9:=s8 (show gen<ga0 by omega);have o0:=o9 (show gen<ga0 by omega);have bV2:=s8 (show gn<ga0 by omega);have bZ5:=o9 (show gn<ga0 by omega);clear hgn;clear hg
    repeat' (first
     |refine D6 ?_|refine I1 ?_|refine F2 ?_|refine A8 ?_|refine I4 ?_|refine A3 ?_|refine B5 ?_|refine A4 ?_
     |refine A0 (by decide) ?_|refine Q0 ?_|refine K2 ?_
     |(refine ⟨?_,?_⟩;focus ((repeat' (first|refine ⟨?_,?_⟩|refine .inr ?_));all_goals kernel_rfl))
     |refine E3 rfl ?_|refine E4 rfl ?_|(refine H5 rfl (fun hc=>?_) (fun hc=>?_)<;>(try rw [beq_iff_eq] at hc)<;>(try simp only [hc]))
     | ((first|refine B6 ?_|(refine z9 (fun hb=>?_) (fun hb=>?_)<;>(try simp only [Bool.not_true,Bool.not_false] at hb)))<;>simp only [go_sem, *]))
    refine T3 d h o g0 w0 gen _ _ hd b7 hfr ⟨sg_,sg_,sg_,sg_,sg_,sg_,sg_,sg_,?_⟩;simp only [go_sem, *]
    repeat (first|exact a9.refl _ _|assumption|refine a9.new ?_ (c6 _ _)|refine a9.new ?_ (ac9 _ _)|refine a9.set ?_)
  | some i0 =>
   obtain ⟨hi0,df5,dc4⟩:=bE0 bz4;obtain ⟨p,hp0,hpF,hpm⟩:=bW6 (fun y hy=>(hg y hy).1) df5;have hpH:=(hg _ hpm).2;rw [ai5] at hpH;obtain ⟨x,ax,kx,wx,Tx⟩:=ihT ih (z - 1) g p a1;have hN:=c_N 3 [u5 i0,x] sp_ (by simp [D4,wx]);simp only [List.map_cons,List.map_nil] at hN;clear ih hr hq hp;refine ⟨_,ax,by rw [hn1];exact .fapp hi0 hp0 kx,fun d h o g0 w0 gen gen1 σ hd b7 hfr ⟨j0,j1,j3,j6,j8,b6,b8,bd,ag⟩=>?_⟩;refine F9 (fun gn X6 hgn=>?_);have hgf:=c8 hgn;have m0:Tryz.f67.results.toList=[.cell 8 65]:=rfl;have ac9:=c8 hfr;have f1:=c7 hfr hd;have f2:=l4 hfr hd;have f3:=c7 hgn bd;have f4:=l4 hgn bd;have e1:=K9 hgn b6;have e2:=G7 hgn b6;have ap6:gen<gn:=by have:=hgn _ (by rw [b6];simp);simpa using this
   have c6:=l7 hd ag hgf (fun r i e=>by rw [e] at bd;rw [hgf] at bd;cases bd);clear hgn X6;change AR _ _ [.code (.seq (I5 [true,true,true,false] (A7 Tryz.f67)) (I5 [true,true,true,true] (A7 Tryz.f67)))] _ _;refine D6 ?_;generalize I5 [true,true,true,true] (A7 Tryz.f67)=C3
   conv=>arg 3;arg 1;simp only [I5,A7,Tryz.f67,Option.getD_some]
   repeat' (first
    |refine D6 ?_|refine I1 ?_|refine F2 ?_|refine A8 ?_|refine I4 ?_|refine A3 ?_|refine B5 ?_|refine A4 ?_
    |refine A0 (by decide) ?_|refine Q0 ?_|refine K2 ?_
    |(refine ⟨?_,?_⟩;focus ((repeat' (first|refine ⟨?_,?_⟩|refine .inr ?_));all_goals kernel_rfl))
    |refine E3 rfl ?_|refine E4 rfl ?_|(refine H5 rfl (fun hc=>?_) (fun hc=>?_)<;>(try rw [beq_iff_eq] at hc)<;>(try simp only [hc]))
    | ((first|refine B6 ?_|(refine z9 (fun hb=>?_) (fun hb=>?_)<;>(try simp only [Bool.not_true,Bool.not_false] at hb))|refine D0 (N7 l hl d _ _) sr_ ?_)<;>simp only [go_sem, *]))
   refine ar_ [0,1,3,6,8] [⟨gen,0,0⟩,⟨gen,0,1⟩] (fun i σ=>a9 d h σ.h∧σ.h d=some (.box (C1 l a1))∧i≤i0) (g).length ?_ ?_ ?_
   ·
    simp only [go_sem, *];exact ⟨by repeat (first|exact a9.refl _ _|assumption|refine a9.new ?_ (c6 _ _)|refine a9.new ?_ (ac9 _ _)|refine a9.set ?_),om_⟩
   ·
    intro i σ gr0 l6 hgn hlt jI jN jS ⟨jA,jd,hii⟩;obtain ⟨jT,jB⟩:=jS;simp only [go_sem] at jT jB;have hgf:=c8 hgn;have m6:=l7 hd jA hgf (fun r i e=>by have:=hfr d (by rw [hd];simp);rw [e] at this;simp at this;omega);have az5:=u6 hfr hd (show gen<gr0 by omega);have az2:=B3 hfr hd (show gen<gr0 by omega);have n7:=s8 (show gen<gr0 by omega);have n8:=o9 (show gen<gr0 by omega);have cf2:=s8 (show gn<gr0 by omega);have cb2:=o9 (show gn<gr0 by omega);obtain ⟨x,hx,hxm,hm⟩:=rnx hlt;clear hgn;have jA':=jA;have hw1:IntKind.i64.wrap ((g.length:Int) - 1)=((g.length - 1:Nat):Int):=w8 om_ om_ om_;have hw2:IntKind.i64.wrap (((g.length - 1:Nat):Int) - (i:Int))=((g.length - 1 - i:Nat):Int):=w8 om_ om_ om_;obtain ⟨y,hy⟩:∃ y,g[g.length - 1 - i]? = some y:=⟨_,List.getElem?_eq_getElem om_⟩;have hyF:=(hg y (List.mem_of_getElem? hy)).1;clear l6 ap6;rcases Nat.lt_or_ge i i0 with db5|dq7
    ·
     have hfa:=dc4 i db5;have hi1:i+1≤i0:=db5;unfold aE8 at hfa;rw [hy] at hfa;simp only at hfa;clear hg;cases hk4:(y.kind==4) with
     | false =>
      repeat' (first
       |refine D6 ?_|refine I1 ?_|refine F2 ?_|refine A8 ?_|refine I4 ?_|refine A3 ?_|refine B5 ?_|refine A4 ?_
       |refine A0 (by decide) ?_|refine Q0 ?_|refine K2 ?_
       |(refine ⟨?_,?_⟩;focus ((repeat' (first|refine ⟨?_,?_⟩|refine .inr ?_));all_goals kernel_rfl))
       |refine E3 rfl ?_|refine E4 rfl ?_|(refine H5 rfl (fun hc=>?_) (fun hc=>?_)<;>(try rw [beq_iff_eq] at hc)<;>(try simp only [hc]))
       | ((first|refine B6 ?_|(refine z9 (fun hb=>?_) (fun hb=>?_)<;>(try simp only [Bool.not_true,Bool.not_false] at hb))|refine u7 ?_)<;>simp only [go_sem, *]))
      first|exact (by repeat (first|assumption|refine a9.new ?_ (m6 _ _)))|exact ⟨(by repeat (first|assumption|refine a9.new ?_ (m6 _ _))),hi1⟩
     | true =>
      obtain ⟨p,q,rfl⟩:=cK3 hyF hk4;have hya:(G1 p q).args=[p,q]:=rfl;have hyk:(G1 p q).kind=4:=rfl;simp only [hya,hyk,beq_self_eq_true,Bool.true_and,List.getElem?_cons_succ,List.getElem?_cons_zero] at hfa;have hqW:TyW q:=by cases hyF with|func ha hb=>exact hb.W
      have hS:=ah2 q hqW t htw;rw [hfa] at hS;clear hk4 hyF
      repeat' (first
       |refine D6 ?_|refine I1 ?_|refine F2 ?_|refine A8 ?_|refine I4 ?_|refine A3 ?_|refine B5 ?_|refine A4 ?_
       |refine A0 (by decide) ?_|refine Q0 ?_|refine K2 ?_
       |(refine ⟨?_,?_⟩;focus ((repeat' (first|refine ⟨?_,?_⟩|refine .inr ?_));all_goals kernel_rfl))
       |refine E3 rfl ?_|refine E4 rfl ?_|(refine H5 rfl (fun hc=>?_) (fun hc=>?_)<;>(try rw [beq_iff_eq] at hc)<;>(try simp only [hc]))
       | ((first|refine B6 ?_|(refine z9 (fun hb=>?_) (fun hb=>?_)<;>(try simp only [Bool.not_true,Bool.not_false] at hb))|refine y9 (hS) ?_|refine u7 ?_)<;>simp only [go_sem, *]))
      first|exact (by repeat (first|assumption|refine a9.new ?_ (m6 _ _)))|exact ⟨(by repeat (first|assumption|refine a9.new ?_ (m6 _ _))),hi1⟩
    ·
     obtain rfl:i=i0:=by omega
     rw [hp0] at hy;cases hy;have hya:(G1 p t).args=[p,t]:=rfl;have hyk:(G1 p t).kind=4:=rfl;have hS:=ah2 t htw t htw;rw [Ty.O6] at hS;clear hyF hg dc4 df5 bz4
     repeat' (first
      |refine D6 ?_|refine I1 ?_|refine F2 ?_|refine A8 ?_|refine I4 ?_|refine A3 ?_|refine B5 ?_|refine A4 ?_
      |refine A0 (by decide) ?_|refine Q0 ?_|refine K2 ?_
      |(refine ⟨?_,?_⟩;focus ((repeat' (first|refine ⟨?_,?_⟩|refine .inr ?_));all_goals kernel_rfl))
      |refine E3 rfl ?_|refine E4 rfl ?_|(refine H5 rfl (fun hc=>?_) (fun hc=>?_)<;>(try rw [beq_iff_eq] at hc)<;>(try simp only [hc]))
      | ((first|refine B6 ?_|(refine z9 (fun hb=>?_) (fun hb=>?_)<;>(try simp only [Bool.not_true,Bool.not_false] at hb))|refine y9 (hS) ?_|refine y9 (hN) ?_|refine y9 (aB8 _) ?_|(refine D0 (Tx d) ?_ ?_;focus ((simp only [go_sem, *]<;>rfl);done))|refine L4 b7 hd (by simp only [go_sem,and_self]) (by simp only [go_sem,and_self]) (by repeat (first|exact a9.refl _ _|assumption|refine a9.new ?_ (c6 _ _)|refine a9.new ?_ (m6 _ _)|refine a9.new ?_ (ac9 _ _)|refine a9.set ?_)) sg_ ?_)<;>simp only [go_sem, *]))
   ·
    intro σ ga0 l9 hgn jS ⟨jA,jd,hii⟩;obtain ⟨jT,jB⟩:=jS;simp only [go_sem] at jT jB;have hgf:=c8 hgn;have m6:=l7 hd jA hgf (fun r i e=>by have:=hfr d (by rw [hd];simp);rw [e] at this;simp at this;omega);have aA6:=u6 hfr hd (show gen<ga0 by omega);have ay9:=B3 hfr hd (show gen<ga0 by omega);have n9:=s8 (show gen<ga0 by omega);have o0:=o9 (show gen<ga0 by omega);have bV2:=s8 (show gn<ga0 by omega);have bZ5:=o9 (show gn<ga0 by omega);clear hgn;omega
 ·
  have q0:(c==0)=false:=by simp;omega
  have q1:(c==1)=false:=by simp;omega
  have q2:(c==2)=false:=by simp;omega
  have q3:(c==3)=false:=by simp;omega
  have q4:(c==4)=false:=by simp;omega
  have q5:(c==5)=false:=by simp;omega
  clear hge hr hq;obtain ⟨t',a',kt,T3⟩:=cs4 l hl m ih z g t a1 hm hg ht hth hb hz;clear ih hg;unfold bT0 at T3;refine ⟨_,a',kt,fun d h o g0 w0 gen gen1 σ hd b7 hfr ⟨j0,j1,j3,j6,j8,b6,b8,bd,ag⟩=>?_⟩;refine F9 (fun gn X6 hgn=>?_);have hgf:=c8 hgn;have m0:Tryz.f67.results.toList=[.cell 8 65]:=rfl;have ac9:=c8 hfr;have f1:=c7 hfr hd;have f2:=l4 hfr hd;have f3:=c7 hgn bd;have f4:=l4 hgn bd;have e1:=K9 hgn b6;have e2:=G7 hgn b6;have ap6:gen<gn:=by have:=hgn _ (by rw [b6];simp);simpa using this
  have c6:=l7 hd ag hgf (fun r i e=>by rw [e] at bd;rw [hgf] at bd;cases bd);clear hgn X6;change AR _ _ [.code (.seq (I5 [true,true,true,false] (A7 Tryz.f67)) (I5 [true,true,true,true] (A7 Tryz.f67)))] _ _;refine D6 ?_;generalize I5 [true,true,true,true] (A7 Tryz.f67)=C3 at T3 ⊢
  conv=>arg 3;arg 1;simp only [I5,A7,Tryz.f67,Option.getD_some]
  repeat' (first
   |refine D6 ?_|refine I1 ?_|refine F2 ?_|refine A8 ?_|refine I4 ?_|refine A3 ?_|refine B5 ?_|refine A4 ?_
   |refine A0 (by decide) ?_|refine Q0 ?_|refine K2 ?_
   |(refine ⟨?_,?_⟩;focus ((repeat' (first|refine ⟨?_,?_⟩|refine .inr ?_));all_goals kernel_rfl))
   |refine E3 rfl ?_|refine E4 rfl ?_|(refine H5 rfl (fun hc=>?_) (fun hc=>?_)<;>(try rw [beq_iff_eq] at hc)<;>(try simp only [hc]))
   | ((first|refine B6 ?_|(refine z9 (fun hb=>?_) (fun hb=>?_)<;>(try simp only [Bool.not_true,Bool.not_false] at hb))|refine D0 (N7 l hl d _ _) sr_ ?_)<;>simp only [go_sem, *]))
  refine T3 d h o g0 w0 gen _ _ hd b7 hfr ⟨sg_,sg_,sg_,sg_,sg_,sg_,sg_,sg_,?_⟩;simp only [go_sem, *]
  repeat (first|exact a9.refl _ _|assumption|refine a9.new ?_ (c6 _ _)|refine a9.new ?_ (ac9 _ _)|refine a9.set ?_)
theorem cH7 (l:List Int) (hl:l.length≤1000):∀ m,bc1 l m:=by
 intro m
 induction m with
 | zero=>intro z g t a h;omega
 | succ m ih =>
 intro z g t a hm hg ht hth hb hz;have ih':bc1 l (43 * z.toNat+tyH t):=fun z' g' t' a' h'=>ih z' g' t' a' om_;have hv:=cN9 g t om_ (fun x hx=>(hg x hx).1.W) ht.W;clear ih;generalize hvs:aB3 g t g.length=vs at hv;have hvl:vs.length≤1000:=by have:=be5 (g:=g) (t:=t) (n:=g.length);rw [hvs] at this;omega
 rcases Nat.eq_zero_or_pos vs.length with h0|h0
 ·
  have hc0:decide ((vs.length:Int)>0)=false:=by rw [h0];rfl
  clear h0;obtain ⟨t',a',kt,T2⟩:=cK1 l hl _ ih' z g t a rfl hg ht hth hb hz;refine ⟨t',a',kt,kt.W (fun y hy=>(hg y hy).1) ht,?_⟩;clear ih' hg;unfold ck1 at T2;intro d h hd;have hdd:=hd;refine en_ Tryz.func67 [.cell 8 65] fun g0 w0 gen b7 hfr c6 m0=>?_;have f1:=c7 hfr hd;have f2:=l4 hfr hd;change AR _ _ [.code (.seq (I5 [false] (A7 Tryz.f67)) (.seq (I5 [true,false] (A7 Tryz.f67)) (.seq (I5 [true,true,false] (A7 Tryz.f67)) (I5 [true,true,true] (A7 Tryz.f67)))))] _ _;generalize I5 [true,true,true] (A7 Tryz.f67)=C2 at T2 ⊢
  conv=>arg 3;simp only [I5,A7,Tryz.f67,Option.getD_some]
  repeat' (first
   |refine D6 ?_|refine I1 ?_|refine F2 ?_|refine A8 ?_|refine I4 ?_|refine A3 ?_|refine B5 ?_|refine A4 ?_
   |refine A0 (by decide) ?_|refine Q0 ?_|refine K2 ?_
   |(refine ⟨?_,?_⟩;focus ((repeat' (first|refine ⟨?_,?_⟩|refine .inr ?_));all_goals kernel_rfl))
   |refine E3 rfl ?_|refine E4 rfl ?_|(refine H5 rfl (fun hc=>?_) (fun hc=>?_)<;>(try rw [beq_iff_eq] at hc)<;>(try simp only [hc]))
   | ((first|refine B6 ?_|(refine z9 (fun hb=>?_) (fun hb=>?_)<;>(try simp only [Bool.not_true,Bool.not_false] at hb))|refine y9 (hv) ?_)<;>simp only [go_sem, *]))
  refine T2 d h _ g0 w0 gen _ _ hdd b7 hfr ⟨sg_,sg_,sg_,sg_,sg_,sg_,sg_,sg_,?_⟩;simp only [go_sem, *]
  repeat (first|exact a9.refl _ _|assumption|refine a9.new ?_ (c6 _ _)|refine a9.set ?_)
 have hc0:decide ((vs.length:Int)>0)=true:=by simp;omega
 have hr:=L5 (l:=l) (a:=a) (n:=3) om_ om_;generalize hq:D2 l a 3=q at hr;obtain ⟨c,a1⟩:=q;have hc1:(D2 l a 3).1=c:=by rw [hq]
 have hc2:(D2 l a 3).2=a1:=by rw [hq]
 simp only at hr;rcases Int.lt_or_le 0 c with hp|hp
 case inr =>
  have hd0:decide (c>0)=false:=by simp;omega
  clear hq hr;obtain ⟨t',a',kt,T2⟩:=cK1 l hl _ ih' z g t a1 rfl hg ht hth hb hz;refine ⟨t',a',kt,kt.W (fun y hy=>(hg y hy).1) ht,?_⟩;clear ih' hg;unfold ck1 at T2;intro d h hd;have hdd:=hd;refine en_ Tryz.func67 [.cell 8 65] fun g0 w0 gen b7 hfr c6 m0=>?_;have f1:=c7 hfr hd;have f2:=l4 hfr hd;change AR _ _ [.code (.seq (I5 [false] (A7 Tryz.f67)) (.seq (I5 [true,false] (A7 Tryz.f67)) (.seq (I5 [true,true,false] (A7 Tryz.f67)) (I5 [true,true,true] (A7 Tryz.f67)))))] _ _;generalize I5 [true,true,true] (A7 Tryz.f67)=C2 at T2 ⊢
  conv=>arg 3;simp only [I5,A7,Tryz.f67,Option.getD_some]
  repeat' (first
   |refine D6 ?_|refine I1 ?_|refine F2 ?_|refine A8 ?_|refine I4 ?_|refine A3 ?_|refine B5 ?_|refine A4 ?_
   |refine A0 (by decide) ?_|refine Q0 ?_|refine K2 ?_
   |(refine ⟨?_,?_⟩;focus ((repeat' (first|refine ⟨?_,?_⟩|refine .inr ?_));all_goals kernel_rfl))
   |refine E3 rfl ?_|refine E4 rfl ?_|(refine H5 rfl (fun hc=>?_) (fun hc=>?_)<;>(try rw [beq_iff_eq] at hc)<;>(try simp only [hc]))
   | ((first|refine B6 ?_|(refine z9 (fun hb=>?_) (fun hb=>?_)<;>(try simp only [Bool.not_true,Bool.not_false] at hb))|refine y9 (hv) ?_|refine D0 (N7 l hl d _ _) sr_ ?_)<;>simp only [go_sem, *]))
  refine T2 d h _ g0 w0 gen _ _ hdd b7 hfr ⟨sg_,sg_,sg_,sg_,sg_,sg_,sg_,sg_,?_⟩;simp only [go_sem, *]
  repeat (first|exact a9.refl _ _|assumption|refine a9.new ?_ (c6 _ _)|refine a9.set ?_)
 have hd0:decide (c>0)=true:=by simpa using hp
 have hr2:=L5 (l:=l) (a:=a1) (n:=(vs.length:Int)) om_ om_;obtain ⟨k,hk⟩:∃ k:Nat,(D2 l a1 (vs.length:Int)).1=(k:Int):=⟨(D2 l a1 (vs.length:Int)).1.toNat,om_⟩;have hkl:k<vs.length:=by omega
 obtain ⟨v,hvk⟩:∃ v,vs[k]? = some v:=⟨_,List.getElem?_eq_getElem hkl⟩;obtain ⟨i,rfl,hi,hgi⟩:=bW1 (g:=g) (t:=t) (k:=k) (by rw [hvs];exact hvk);have hix:(ints vs)[k]? = some [.int .i64 (i:Int)]:=by rw [ba4,hvk];rfl
 refine ⟨_,(D2 l a1 (vs.length:Int)).2,.var hi hgi,D4 _,?_⟩;clear ih' hg hr2 hq hr;intro d h hd;have hdd:=hd;refine en_ Tryz.func67 [.cell 8 65] fun g0 w0 gen b7 hfr c6 m0=>?_;have f1:=c7 hfr hd;have f2:=l4 hfr hd;change AR _ _ [.code (.seq (I5 [false] (A7 Tryz.f67)) (.seq (I5 [true,false] (A7 Tryz.f67)) (.seq (I5 [true,true,false] (A7 Tryz.f67)) (I5 [true,true,true] (A7 Tryz.f67)))))] _ _;generalize I5 [true,true,true] (A7 Tryz.f67)=C2
 conv=>arg 3;simp only [I5,A7,Tryz.f67,Option.getD_some]
 repeat' (first
  |refine D6 ?_|refine I1 ?_|refine F2 ?_|refine A8 ?_|refine I4 ?_|refine A3 ?_|refine B5 ?_|refine A4 ?_
  |refine A0 (by decide) ?_|refine Q0 ?_|refine K2 ?_
  |(refine ⟨?_,?_⟩;focus ((repeat' (first|refine ⟨?_,?_⟩|refine .inr ?_));all_goals kernel_rfl))
  |refine E3 rfl ?_|refine E4 rfl ?_|(refine H5 rfl (fun hc=>?_) (fun hc=>?_)<;>(try rw [beq_iff_eq] at hc)<;>(try simp only [hc]))
  | ((first|refine B6 ?_|(refine z9 (fun hb=>?_) (fun hb=>?_)<;>(try simp only [Bool.not_true,Bool.not_false] at hb))|refine y9 (hv) ?_|refine y9 (aB8 _) ?_|refine D0 (N7 l hl d _ _) sr_ ?_|refine L4 b7 hd (by simp only [go_sem,and_self]) (by simp only [go_sem,and_self]) (by repeat (first|exact a9.refl _ _|assumption|refine a9.new ?_ (c6 _ _)|refine a9.new ?_ (m6 _ _)|refine a9.new ?_ (ac9 _ _)|refine a9.set ?_)) sg_ ?_)<;>simp only [go_sem, *]))
theorem cO5 (l:List Int) (hl:l.length≤1000) (z:Int) (g:List Ty) (t:Ty) (a:Nat) (hg:∀ y∈g,TyF y∧tyH y≤40) (ht:TyF t) (hth:tyH t≤40)
  (hb:g.length+43 * z.toNat+tyH t≤900) (hz:(tyH t:Int)≤z+1000) :
  ∃ t' a',L2 z.toNat g t t'∧TmW t'∧∀ d,D1 Tryz.prog env 67 [.ptr d 0,.sl .any (g.map Ty.cells),.agg t.cells,.int .i64 z] d (.box (C1 l a)) (.agg t'.cells) (.box (C1 l a')) :=
 cH7 l hl _ z g t a (Nat.lt_succ_self _) hg ht hth hb hz
end Go.Proofs.YteaijonkbbkkjaaGreatDoor
