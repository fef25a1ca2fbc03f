/-
 Walks: several parts in one text.
-/
import Derived.Test.YteaijonkbbkkjaaGreatDoorBase
import Derived.Test.YteaijonkbbkkjaaGreatDoorAbsB
import Derived.Test.YteaijonkbbkkjaaGreatDoorAbsC
set_option linter.unusedSimpArgs false
set_option linter.unusedVariables false
set_option maxRecDepth 20000
namespace Go.Proofs.YteaijonkbbkkjaaGreatDoor
open Go GoAbs Go.Proofs
def env:Nat→Option (List V)
 | 0=>some [.int .i64 0,.int .i64 0,.int .i64 1,.int .i64 2,.int .i64 0,.int .i64 1,.int .i64 3,.int .i64 0,.int .i64 2,.int .i64 3,.int .i64 2,.int .i64 1,.int .i64 1,.int .i64 0]
 | _=>none
theorem D8:Pure Tryz.prog env 26 [] (.agg r5.cells):=by
 intro h;refine en_ Tryz.func26 [.cell 0 27] fun g0 w0 gen b7 hfr c6 m0=>?_;refine wq_ ?_
 rfl
theorem N2:Pure Tryz.prog env 30 [] (.agg C8.cells):=by
 intro h;refine en_ Tryz.func30 [.cell 0 27] fun g0 w0 gen b7 hfr c6 m0=>?_;refine wq_ ?_
 rfl
theorem aE2:Pure Tryz.prog env 31 [] (.agg S5.cells):=by
 intro h;refine en_ Tryz.func31 [.cell 0 27] fun g0 w0 gen b7 hfr c6 m0=>?_;refine wq_ ?_
 rfl
theorem R9:∀ t:Ty,TyW t→Pure Tryz.prog env 47 [.agg t.cells] (.agg t.cells):=by
 intro t
 induction t using Ty.ind with|h t ih=>?_
 intro ht h;have hlen:=ht.len;have ih':∀ x∈t.args,Pure Tryz.prog env 47 [.agg x.cells] (.agg x.cells):=fun x hx=>ih x hx (ht.arg hx);clear ih;refine en_ Tryz.func47 [.cell 2 27] fun g0 w0 gen b7 hfr c6 m0=>?_;refine wq_ ?_;refine B1 (fun i σ=>σ.tm 9=.int .i64 i∧σ.tm 8=.int .i64 t.args.length∧σ.tm 7=.sl .any (t.args.map Ty.cells)∧σ.tm 1=.ptr ⟨gen,0,0⟩ 0∧σ.tm 2=.ptr ⟨gen,0,1⟩ 0 ∧
  σ.h ⟨gen,0,0⟩=some (.box t.cells)∧σ.h ⟨gen,0,1⟩=some (.box [.int .i64 0,.sl .full []])∧g9 h σ.h∧T7 h σ.h (σ.tm 3) 2 ((t.args.take i).map Ty.cells)) t.args.length ?_ ?_
 ·simp only [go_sem, *]
  exact ⟨rfl,.new (.new (.refl _) (c6 _ _)) (c6 _ _),.inl sp_⟩
 intro i σ hi ⟨j1,j2,j3,j4,j5,j6,j7,j8,j9⟩;refine ak0 (fun gn hgn=>?_);have hgf:=c8 hgn;have m6:∀ r i,h ⟨gn,r,i⟩=none:=fun r i=>s7 j8 (hgf r i);have e1:=K9 hgn j6;have e2:=G7 hgn j6;have hw:=z7 (i:=i) om_;rcases Nat.lt_or_ge i t.args.length with hlt|hge
 ·have hd:=T5 hlt
  obtain ⟨x,hx⟩:∃ x,t.args[i]? = some x:=⟨_,List.getElem?_eq_getElem hlt⟩;have hm:=aG4 hlt;have b1:(i+1) * 32≤140737488355328:=by omega
  have b2:i+1≤140737488355328:=by omega
  have hts:=B4 (f:=Ty.cells) hx;have hc:=ih' x (List.mem_of_getElem? hx);rcases j9 with j9|⟨id,j9,j10,j11⟩
  ·
   clear hgn
   repeat' (first
    | (first|refine wp rfl ?_|refine spt rfl ?_|refine spf rfl ?_|(refine spl (fun hc=>?_) fun hc=>?_)<;>(try rw [beq_iff_eq] at hc)<;>try simp only [hc]|refine cp hc ?_)<;>try simp only [go_sem, *])
   refine u7 ?_;simp only [go_sem, *];exact ⟨by repeat (first|assumption|refine g9.new ?_ (m6 _ _)|refine g9.new ?_ j11),.inr ⟨_,rfl,sg_,by first|exact m6 _ _|assumption⟩⟩
  ·
   have e3:=c7 hgn j10;have e4:=l4 hgn j10;have e5:=am8 j6 j10;have e6:=am8 j7 j10;clear hgn
   repeat' (first
    | (first|refine wp rfl ?_|refine spt rfl ?_|refine spf rfl ?_|(refine spl (fun hc=>?_) fun hc=>?_)<;>(try rw [beq_iff_eq] at hc)<;>try simp only [hc]|refine cp hc ?_)<;>try simp only [go_sem, *])
   refine u7 ?_;simp only [go_sem, *];exact ⟨by repeat (first|assumption|refine g9.new ?_ (m6 _ _)|refine g9.new ?_ j11),.inr ⟨_,rfl,sg_,by first|exact m6 _ _|assumption⟩⟩
 ·have hd:=O2 hge
  clear hgn;obtain rfl:i=t.args.length:=by omega
  rw [List.take_length] at j9;obtain ⟨c,j9⟩:=j9.val;refine wq_ ?_;rw [Ty.m8]
theorem ao2:∀ t:Tm,TmW t→Pure Tryz.prog env 56 [.agg t.cells] (.agg t.cells):=by
 intro t
 induction t using Tm.ind with|h t ih=>?_
 intro ht h;have hlen:=ht.len;have ih':∀ x∈t.args,Pure Tryz.prog env 56 [.agg x.cells] (.agg x.cells):=fun x hx=>ih x hx (ht.arg hx);clear ih;refine en_ Tryz.func56 [.cell 2 65] fun g0 w0 gen b7 hfr c6 m0=>?_;refine wq_ ?_;refine B1 (fun i σ=>σ.tm 9=.int .i64 i∧σ.tm 8=.int .i64 t.args.length∧σ.tm 7=.sl .any (t.args.map Tm.cells)∧σ.tm 1=.ptr ⟨gen,0,0⟩ 0∧σ.tm 2=.ptr ⟨gen,0,1⟩ 0 ∧
  σ.h ⟨gen,0,0⟩=some (.box t.cells)∧σ.h ⟨gen,0,1⟩=some (.box [.int .i64 0,.int .i64 0,.int .i64 0,.sl .full [],.sl .full []])∧g9 h σ.h∧T7 h σ.h (σ.tm 3) 5 ((t.args.take i).map Tm.cells)) t.args.length ?_ ?_
 ·simp only [go_sem, *]
  exact ⟨rfl,.new (.new (.refl _) (c6 _ _)) (c6 _ _),.inl sp_⟩
 intro i σ hi ⟨j1,j2,j3,j4,j5,j6,j7,j8,j9⟩;refine ak0 (fun gn hgn=>?_);have hgf:=c8 hgn;have m6:∀ r i,h ⟨gn,r,i⟩=none:=fun r i=>s7 j8 (hgf r i);have e1:=K9 hgn j6;have e2:=G7 hgn j6;have hw:=z7 (i:=i) om_;rcases Nat.lt_or_ge i t.args.length with hlt|hge
 ·have hd:=T5 hlt
  obtain ⟨x,hx⟩:∃ x,t.args[i]? = some x:=⟨_,List.getElem?_eq_getElem hlt⟩;have hm:=aG4 hlt;have b1:(i+1) * 72≤140737488355328:=by omega
  have b2:i+1≤140737488355328:=by omega
  have hts:=B4 (f:=Tm.cells) hx;have hc:=ih' x (List.mem_of_getElem? hx);rcases j9 with j9|⟨id,j9,j10,j11⟩
  ·
   clear hgn
   repeat' (first
    |(refine ⟨?_,?_⟩;focus ((repeat' (first|refine ⟨?_,?_⟩|refine .inr ?_));all_goals kernel_rfl))
    | (first|refine wp rfl ?_|refine spt rfl ?_|refine spf rfl ?_|(refine spl (fun hc=>?_) fun hc=>?_)<;>(try rw [beq_iff_eq] at hc)<;>try simp only [hc]|refine cp hc ?_)<;>try simp only [go_sem, *])
   refine u7 ?_;simp only [go_sem, *];exact ⟨by repeat (first|assumption|refine g9.new ?_ (m6 _ _)|refine g9.new ?_ j11),.inr ⟨_,rfl,sg_,by first|exact m6 _ _|assumption⟩⟩
  ·
   have e3:=c7 hgn j10;have e4:=l4 hgn j10;have e5:=am8 j6 j10;have e6:=am8 j7 j10;clear hgn
   repeat' (first
    |(refine ⟨?_,?_⟩;focus ((repeat' (first|refine ⟨?_,?_⟩|refine .inr ?_));all_goals kernel_rfl))
    | (first|refine wp rfl ?_|refine spt rfl ?_|refine spf rfl ?_|(refine spl (fun hc=>?_) fun hc=>?_)<;>(try rw [beq_iff_eq] at hc)<;>try simp only [hc]|refine cp hc ?_)<;>try simp only [go_sem, *])
   refine u7 ?_;simp only [go_sem, *];exact ⟨by repeat (first|assumption|refine g9.new ?_ (m6 _ _)|refine g9.new ?_ j11),.inr ⟨_,rfl,sg_,by first|exact m6 _ _|assumption⟩⟩
 ·have hd:=O2 hge
  clear hgn;obtain rfl:i=t.args.length:=by omega
  rw [List.take_length] at j9;obtain ⟨c,j9⟩:=j9.val;have hc:=R9 t.type ht.ty;refine wq_ ?_;rw [Tm.m8]
theorem aj5:∀ f:Fm,FmW f→Pure Tryz.prog env 48 [.agg f.cells] (.agg f.cells):=by
 intro f
 induction f using Fm.ind with|h f ih=>?_
 intro ht h;have hlen:=ht.len;have ch4:=ht.aE3;have ih':∀ x∈f.args,Pure Tryz.prog env 48 [.agg x.cells] (.agg x.cells):=fun x hx=>ih x hx (ht.arg hx);clear ih;have hc0:=R9 f.type ht.ty;refine en_ Tryz.func48 [.cell 2 45] fun g0 w0 gen b7 hfr c6 m0=>?_;refine wq_ ?_;clear hc0;refine B1 (fun i σ=>σ.tm 17=.int .i64 i∧σ.tm 16=.int .i64 f.r8.length∧σ.tm 15=.sl .any (f.r8.map Tm.cells)∧σ.tm 1=.ptr ⟨gen,0,0⟩ 0∧σ.tm 2=.ptr ⟨gen,0,1⟩ 0 ∧
  σ.tm 3=.ptr ⟨gen,1,6⟩ 0∧σ.h ⟨gen,0,0⟩=some (.box f.cells)∧σ.h ⟨gen,0,1⟩=some (.box [.int .i64 0,.int .i64 0,.sl .full [],.sl .full [],.sl .full []])∧g9 h σ.h ∧
  ∃ v,σ.h ⟨gen,1,6⟩=some (.box [.int .i64 f.kind,.int .i64 f.type.kind,.sl .any (f.type.args.map Ty.cells),v,.sl .full []])∧T7 h σ.h v 5 ((f.r8.take i).map Tm.cells)) f.r8.length ?_ ?_
 ·simp only [go_sem, *]
  exact ⟨rfl,by repeat (first|exact g9.refl _|refine g9.new ?_ (c6 _ _)),_,rfl,.inl sp_⟩
 intro i σ hi ⟨j1,j2,j3,j4,j5,j5',j6,j7,j8,v,jv,j9⟩;refine ak0 (fun gn hgn=>?_);have hgf:=c8 hgn;have m6:∀ r i,h ⟨gn,r,i⟩=none:=fun r i=>s7 j8 (hgf r i);have e1:=K9 hgn j6;have e2:=G7 hgn j6;have hw:=z7 (i:=i) om_;rcases Nat.lt_or_ge i f.r8.length with hlt|hge
 ·have hd:=T5 hlt
  obtain ⟨x,hx⟩:∃ x,f.r8[i]? = some x:=⟨_,List.getElem?_eq_getElem hlt⟩;have hm:=aG4 hlt;have b1:(i+1) * 72≤140737488355328:=by omega
  have b2:i+1≤140737488355328:=by omega
  have hts:=B4 (f:=Tm.cells) hx;have hc:=ao2 x (ht.term (List.mem_of_getElem? hx));clear ih';rcases j9 with rfl|⟨id,rfl,j10,j11⟩
  ·
   clear hgn
   repeat' (first
    |(refine ⟨?_,?_⟩;focus ((repeat' (first|refine ⟨?_,?_⟩|refine .inr ?_));all_goals kernel_rfl))
    | (first|refine wp rfl ?_|refine spt rfl ?_|refine spf rfl ?_|(refine spl (fun hc=>?_) fun hc=>?_)<;>(try rw [beq_iff_eq] at hc)<;>try simp only [hc]|refine cp hc ?_)<;>try simp only [go_sem, *])
   refine u7 ?_;simp only [go_sem, *];exact ⟨by repeat (first|assumption|refine g9.new ?_ (m6 _ _)|refine g9.new ?_ (c6 _ _)),_,rfl,.inr ⟨_,rfl,sg_,by first|exact m6 _ _|assumption⟩⟩
  ·
   have e3:=c7 hgn j10;have e4:=l4 hgn j10;have e5:=am8 j6 j10;have e6:=am8 j7 j10;have e7:=am8 jv j10;have e8:=bM7 jv j10;clear hgn
   repeat' (first
    |(refine ⟨?_,?_⟩;focus ((repeat' (first|refine ⟨?_,?_⟩|refine .inr ?_));all_goals kernel_rfl))
    | (first|refine wp rfl ?_|refine spt rfl ?_|refine spf rfl ?_|(refine spl (fun hc=>?_) fun hc=>?_)<;>(try rw [beq_iff_eq] at hc)<;>try simp only [hc]|refine cp hc ?_)<;>try simp only [go_sem, *])
   refine u7 ?_;simp only [go_sem, *];exact ⟨by repeat (first|assumption|refine g9.new ?_ (m6 _ _)|refine g9.new ?_ (c6 _ _)|refine g9.new ?_ j11),_,rfl,.inr ⟨_,rfl,sg_,by first|exact m6 _ _|assumption⟩⟩
 have hd:=O2 hge;clear hgn;obtain rfl:i=f.r8.length:=by omega
 rw [List.take_length] at j9;obtain ⟨c,rfl⟩:=j9.val;clear j9;refine wq_ ?_;refine B1 (fun i σ=>σ.tm 32=.int .i64 i∧σ.tm 31=.int .i64 f.args.length∧σ.tm 30=.sl .any (f.args.map Fm.cells)∧σ.tm 1=.ptr ⟨gen,0,0⟩ 0∧σ.tm 2=.ptr ⟨gen,0,1⟩ 0 ∧
  σ.tm 3=.ptr ⟨gen,1,6⟩ 0∧σ.h ⟨gen,0,0⟩=some (.box f.cells)∧σ.h ⟨gen,0,1⟩=some (.box [.int .i64 0,.int .i64 0,.sl .full [],.sl .full [],.sl .full []])∧g9 h σ.h ∧
  ∃ v,σ.h ⟨gen,1,6⟩=some (.box [.int .i64 f.kind,.int .i64 f.type.kind,.sl .any (f.type.args.map Ty.cells),.sl c (f.r8.map Tm.cells),v])∧T7 h σ.h v 5 ((f.args.take i).map Fm.cells)) f.args.length ?_ ?_
 ·simp only [go_sem, *]
  exact ⟨rfl,_,rfl,.inl sp_⟩
 clear jv j1 j2 j3 j4 j5 j5' j6 j7 j8 hd hge hw hi hgf m6 e1 e2;clear σ;intro i σ hi ⟨j1,j2,j3,j4,j5,j5',j6,j7,j8,v,jv,j9⟩;refine ak0 (fun gn' hgn=>?_);have hgf:=c8 hgn;have m6:∀ r i,h ⟨gn',r,i⟩=none:=fun r i=>s7 j8 (hgf r i);have e1:=K9 hgn j6;have e2:=G7 hgn j6;have hw:=z7 (i:=i) om_;rcases Nat.lt_or_ge i f.args.length with hlt|hge
 ·have hd:=T5 hlt
  obtain ⟨x,hx⟩:∃ x,f.args[i]? = some x:=⟨_,List.getElem?_eq_getElem hlt⟩;have hm:=aG4 hlt;have b1:(i+1) * 88≤140737488355328:=by omega
  have b2:i+1≤140737488355328:=by omega
  have hts:=B4 (f:=Fm.cells) hx;have hc:=ih' x (List.mem_of_getElem? hx);clear ih';rcases j9 with rfl|⟨id,rfl,j10,j11⟩
  ·
   clear hgn
   repeat' (first
    |(refine ⟨?_,?_⟩;focus ((repeat' (first|refine ⟨?_,?_⟩|refine .inr ?_));all_goals kernel_rfl))
    | (first|refine wp rfl ?_|refine spt rfl ?_|refine spf rfl ?_|(refine spl (fun hc=>?_) fun hc=>?_)<;>(try rw [beq_iff_eq] at hc)<;>try simp only [hc]|refine cp hc ?_)<;>try simp only [go_sem, *])
   refine u7 ?_;simp only [go_sem, *];exact ⟨by repeat (first|assumption|refine g9.new ?_ (m6 _ _)|refine g9.new ?_ (c6 _ _)),_,rfl,.inr ⟨_,rfl,sg_,by first|exact m6 _ _|assumption⟩⟩
  ·
   have e3:=c7 hgn j10;have e4:=l4 hgn j10;have e5:=am8 j6 j10;have e6:=am8 j7 j10;have e7:=am8 jv j10;have e8:=bM7 jv j10;clear hgn
   repeat' (first
    |(refine ⟨?_,?_⟩;focus ((repeat' (first|refine ⟨?_,?_⟩|refine .inr ?_));all_goals kernel_rfl))
    | (first|refine wp rfl ?_|refine spt rfl ?_|refine spf rfl ?_|(refine spl (fun hc=>?_) fun hc=>?_)<;>(try rw [beq_iff_eq] at hc)<;>try simp only [hc]|refine cp hc ?_)<;>try simp only [go_sem, *])
   refine u7 ?_;simp only [go_sem, *];exact ⟨by repeat (first|assumption|refine g9.new ?_ (m6 _ _)|refine g9.new ?_ (c6 _ _)|refine g9.new ?_ j11),_,rfl,.inr ⟨_,rfl,sg_,by first|exact m6 _ _|assumption⟩⟩
 have hd:=O2 hge;clear hgn;obtain rfl:i=f.args.length:=by omega
 rw [List.take_length] at j9;obtain ⟨c',rfl⟩:=j9.val;clear j9;refine wq_ ?_;rw [Fm.m8]
theorem Ty.as5:∀ {l l':List Ty},Ty.w6 l l'=true→l.length=l'.length
 | [],[],_=>rfl
 | a::l,b::l',h=>by
  simp only [Ty.w6,Bool.and_eq_true] at h;simp [Ty.as5 h.2]
 | [],_::_,h=>by simp [Ty.w6] at h
 | _::_,[],h=>by simp [Ty.w6] at h
theorem Ty.be6:∀ {l l':List Ty},l.length=l'.length→(∀ (j:Nat) x y,l[j]? = some x→l'[j]? = some y→Ty.same x y=true)→Ty.w6 l l'=true
 | [],[],_,_=>by simp [Ty.w6]
 | a::l,b::l',h,q=>by
  simp only [Ty.w6,Bool.and_eq_true];exact ⟨q 0 a b rfl rfl,Ty.be6 (by simpa using h) fun j x y h1 h2=>q (j+1) x y (by simpa using h1) (by simpa using h2)⟩
 | [],_::_,h,_=>by simp at h
 | _::_,[],h,_=>by simp at h
theorem Ty.bg3:∀ {l l':List Ty},Ty.w6 l l'=true→∀ (j:Nat) x y,l[j]? = some x→l'[j]? = some y→Ty.same x y=true
 | [],_,_,j,x,y,h1,h2=>by simp at h1
 | a::l,b::l',h,0,x,y,h1,h2=>by
  simp only [Ty.w6,Bool.and_eq_true] at h;simp at h1 h2;subst h1;subst h2;exact h.1
 | a::l,b::l',h,j+1,x,y,h1,h2=>by
  simp only [Ty.w6,Bool.and_eq_true] at h;exact Ty.bg3 h.2 j x y (by simpa using h1) (by simpa using h2)
 | _::_,[],h,j,x,y,h1,h2=>by simp at h2
theorem ah2:∀ a:Ty,TyW a→∀ b:Ty,TyW b→Pure Tryz.prog env 13 [.agg a.cells,.agg b.cells] (.bool (Ty.same a b)):=by
 intro a
 induction a using Ty.ind with|h a ih=>?_
 intro ha b hb h;have hlen:=ha.len;have aF5:=hb.len;have ih':∀ x∈a.args,∀ y∈b.args,Pure Tryz.prog env 13 [.agg x.cells,.agg y.cells] (.bool (Ty.same x y)):=fun x hx y hy=>ih x hx (ha.arg hx) y (hb.arg hy);clear ih;refine en_ Tryz.func13 [.tmp 4] fun g0 w0 gen b7 hfr c6 m0=>?_;by_cases hk:a.kind=b.kind
 case neg =>
  have hk1:(a.kind != b.kind)=true:=by simp [hk]
  have hk2:(a.kind==b.kind)=false:=by simp [hk]
  have hs:Ty.same a b=false:=by rw [Ty.ac5,hk2];rfl
  clear ih';exact wk_
 by_cases hl:a.args.length=b.args.length
 case neg =>
  have hk0:(a.kind != b.kind)=false:=by simp [hk]
  have hk1:((a.args.length:Int) != (b.args.length:Int))=true:=by simp;omega
  have hs:Ty.same a b=false:=by
   rw [Ty.ac5];cases e:Ty.w6 a.args b.args with
   | true=>exact absurd (Ty.as5 e) hl
   | false=>simp
  clear ih';exact wk_
 have hk0:(b.kind != b.kind)=false:=by simp
 have hk1:((b.args.length:Int) != (b.args.length:Int))=false:=by simp
 clear aF5;refine wq_ ?_;refine B1 (fun i σ=>σ.tm 23=.int .i64 i∧σ.tm 22=.int .i64 b.args.length∧σ.tm 2=.ptr ⟨gen,0,0⟩ 0∧σ.tm 3=.ptr ⟨gen,0,1⟩ 0 ∧
  σ.h ⟨gen,0,0⟩=some (.box a.cells)∧σ.h ⟨gen,0,1⟩=some (.box b.cells)∧g9 h σ.h∧∀ j x y,j<i→a.args[j]? = some x→b.args[j]? = some y→Ty.same x y=true) b.args.length ?_ ?_
 ·simp only [go_sem, *]
  exact ⟨rfl,.new (.new (.refl _) (c6 _ _)) (c6 _ _),fun j x y hj=>absurd hj om_⟩
 intro i σ hi ⟨j1,j2,j3,j4,j5,j6,j7,j8⟩;refine ak0 (fun gn hgn=>?_);have hw:=z7 (i:=i) om_;clear hgn;have hs0:Ty.same a b=Ty.w6 a.args b.args:=by rw [Ty.ac5,hk];simp
 rcases Nat.lt_or_ge i b.args.length with hlt|hge
 ·have hd:=T5 hlt
  obtain ⟨x,hx⟩:∃ x,a.args[i]? = some x:=⟨_,List.getElem?_eq_getElem om_⟩;obtain ⟨y,hy⟩:∃ y,b.args[i]? = some y:=⟨_,List.getElem?_eq_getElem hlt⟩;have hc:=ih' x (List.mem_of_getElem? hx) y (List.mem_of_getElem? hy);clear ih';cases hxy:Ty.same x y with
  | false =>
   have hs:Ty.same a b=false:=by
    rw [hs0];cases e:Ty.w6 a.args b.args with
    | true=>rw [Ty.bg3 e i x y hx hy] at hxy;cases hxy
    | false=>rfl
   clear j8 hs0;rw [hxy] at hc;exact wk_
  | true =>
   rw [hxy] at hc;have j8':∀ j x y,j<i+1→a.args[j]? = some x→b.args[j]? = some y→Ty.same x y=true:=by
    intro j x' y' hj h1 h2;rcases Nat.lt_or_ge j i with h|h
    ·exact j8 j x' y' h h1 h2
    ·obtain rfl:j=i:=by omega
     rw [hx] at h1;rw [hy] at h2;cases h1;cases h2;exact hxy
   clear j8 hs0
   repeat' (first
    |(refine ⟨?_,?_⟩;focus ((repeat' (first|refine ⟨?_,?_⟩|refine .inr ?_));all_goals kernel_rfl))
    | (first|refine wp rfl ?_|refine spt rfl ?_|refine spf rfl ?_|(refine spl (fun hc=>?_) fun hc=>?_)<;>(try rw [beq_iff_eq] at hc)<;>try simp only [hc]|(refine gs (fun hb=>?_) fun hb=>?_)<;>try simp only [Bool.not_true,Bool.not_false] at hb|refine cp hc ?_)<;>try simp only [go_sem, *])
   refine u7 ?_;simp only [go_sem, *];exact j8'
 ·have hd:=O2 hge
  obtain rfl:i=b.args.length:=by omega
  have hs:Ty.same a b=true:=by
   rw [hs0];refine Ty.be6 hl fun j x y h1 h2=>j8 j x y ?_ h1 h2;have:=(List.getElem?_eq_some_iff.1 h1).1;omega
  clear ih' j8 hs0;exact wk_
theorem aB8 (i:Int):Pure Tryz.prog env 28 [.int .i64 i] (.agg (u5 i).cells):=by
 intro h;refine en_ Tryz.func28 [.cell 2 65] fun g0 w0 gen b7 hfr c6 m0=>?_
 first|refine wq_ ?_|exact wk_
 all_goals simp [u5,Tm.p9,Ty.J5,Ty.J4]
theorem cH6 (a b:Tm) (ha:TmW a) (hb:TmW b):Pure Tryz.prog env 27 [.agg a.cells,.agg b.cells] (.agg (M3 a b).cells):=by
 intro h;refine en_ Tryz.func27 [.cell 4 45] fun g0 w0 gen b7 hfr c6 m0=>?_
 repeat' (first
  |(refine ⟨?_,?_⟩;focus ((repeat' (first|refine ⟨?_,?_⟩|refine .inr ?_));all_goals kernel_rfl))
  |exact hin _|exact agf as_
  | (first|refine wp rfl ?_|refine cp (ao2 _ ha) ?_|refine cp (ao2 _ hb) ?_|refine A9 b7 ?_ ?_ ?_)<;>try simp only [go_sem, *])
 all_goals simp [M3,Fm.p9,Ty.J5,Ty.J4]
theorem aV2 (k:Int) (a b:Fm) (ha:FmW a) (hb:FmW b):Pure Tryz.prog env 65 [.int .i64 k,.agg a.cells,.agg b.cells] (.agg (E8 k a b).cells):=by
 intro h;refine en_ Tryz.func65 [.cell 6 45] fun g0 w0 gen b7 hfr c6 m0=>?_
 repeat' (first
  |(refine ⟨?_,?_⟩;focus ((repeat' (first|refine ⟨?_,?_⟩|refine .inr ?_));all_goals kernel_rfl))
  |exact hin _|exact agf as_
  | (first|refine wp rfl ?_|refine cp (aj5 _ ha) ?_|refine cp (aj5 _ hb) ?_|refine A9 b7 ?_ ?_ ?_)<;>try simp only [go_sem, *])
 all_goals simp [E8,Fm.p9,Ty.J5,Ty.J4]
theorem bz1 (k:Int) (t:Ty) (a:Fm) (ht:TyW t) (ha:FmW a):Pure Tryz.prog env 25 [.int .i64 k,.agg t.cells,.agg a.cells] (.agg (fmQ k t a).cells):=by
 intro h;refine en_ Tryz.func25 [.cell 6 45] fun g0 w0 gen b7 hfr c6 m0=>?_
 repeat' (first
  |(refine ⟨?_,?_⟩;focus ((repeat' (first|refine ⟨?_,?_⟩|refine .inr ?_));all_goals kernel_rfl))
  |exact hin _|exact agf as_
  | (first|refine wp rfl ?_|refine cp (aj5 _ ha) ?_|refine cp (R9 _ ht) ?_|refine A9 b7 ?_ ?_ ?_)<;>try simp only [go_sem, *])
 all_goals simp [fmQ,Fm.p9,Ty.J5,Ty.J4]
theorem aL1 (a b:Ty) (ha:TyW a) (hb:TyW b):Pure Tryz.prog env 32 [.agg a.cells,.agg b.cells] (.agg (E9 a b).cells):=by
 intro h;refine en_ Tryz.func32 [.cell 4 27] fun g0 w0 gen b7 hfr c6 m0=>?_
 repeat' (first
  |(refine ⟨?_,?_⟩;focus ((repeat' (first|refine ⟨?_,?_⟩|refine .inr ?_));all_goals kernel_rfl))
  |exact hin _|exact agf as_
  | (first|refine wp rfl ?_|refine cp (R9 _ ha) ?_|refine cp (R9 _ hb) ?_|refine A9 b7 ?_ ?_ ?_)<;>try simp only [go_sem, *])
 all_goals simp [E9,Ty.p9]
theorem an6 (a b:Ty) (ha:TyW a) (hb:TyW b):Pure Tryz.prog env 159 [.agg a.cells,.agg b.cells] (.agg (G1 a b).cells):=by
 intro h;refine en_ Tryz.func159 [.cell 4 27] fun g0 w0 gen b7 hfr c6 m0=>?_
 repeat' (first
  |(refine ⟨?_,?_⟩;focus ((repeat' (first|refine ⟨?_,?_⟩|refine .inr ?_));all_goals kernel_rfl))
  |exact hin _|exact agf as_
  | (first|refine wp rfl ?_|refine cp (R9 _ ha) ?_|refine cp (R9 _ hb) ?_|refine A9 b7 ?_ ?_ ?_)<;>try simp only [go_sem, *])
 all_goals simp [G1,Ty.p9]
theorem dc7 (l:List Int):Pure Tryz.prog env 8 [.sl .any (ints l)] (.bool (decide ((l.length:Int)≤500))):=by
 intro h;exact ek_ Tryz.func8 [.tmp 2]
theorem dg1 (n k:Int) (hk:k≠0):Pure Tryz.prog env 49 [.int .i64 n,.int .i64 k] (.int .i64 (bH0 n k)):=by
 intro h;refine en_ Tryz.func49 [.tmp 4] fun g0 w0 gen b7 hfr c6 m0=>?_
 first|refine wq_ ?_|exact wk_
 all_goals simp [bH0]
theorem c_N (k:Int) (l:List Tm) (hl:l.length≤1000) (hw0:∀ x∈l,TmW x):Pure Tryz.prog env 111 [.int .i64 k,.sl .any (l.map Tm.cells)] (.agg (tm0 k l).cells):=by
 intro h;have ih':∀ x∈l,Pure Tryz.prog env 56 [.agg x.cells] (.agg x.cells):=fun x hx=>ao2 x (hw0 x hx);clear hw0;refine en_ Tryz.func111 [.cell 4 65] fun g0 w0 gen b7 hfr c6 m0=>?_;refine wq_ ?_;refine B1 (fun i σ=>σ.tm 10=.int .i64 i∧σ.tm 9=.int .i64 l.length∧σ.tm 8=.sl .any (l.map Tm.cells)∧σ.tm 0=.int .i64 k∧σ.tm 4=.ptr ⟨gen,0,0⟩ 0 ∧
  σ.h ⟨gen,0,0⟩=some (.box [.int .i64 0,.int .i64 0,.int .i64 0,.sl .full [],.sl .full []])∧g9 h σ.h∧T7 h σ.h (σ.tm 5) 5 ((l.take i).map Tm.cells)) l.length ?_ ?_
 ·simp only [go_sem, *]
  exact ⟨rfl,.new (.refl _) (c6 _ _),.inl sp_⟩
 intro i σ hi ⟨j1,j2,j3,j4,j5,j6,j8,j9⟩;refine ak0 (fun gn hgn=>?_);have hgf:=c8 hgn;have m6:∀ r i,h ⟨gn,r,i⟩=none:=fun r i=>s7 j8 (hgf r i);have e1:=K9 hgn j6;have e2:=G7 hgn j6;have hw:=z7 (i:=i) om_;rcases Nat.lt_or_ge i l.length with hlt|hge
 ·have hd:=T5 hlt
  obtain ⟨x,hx⟩:∃ x,l[i]? = some x:=⟨_,List.getElem?_eq_getElem hlt⟩;have hm:=aG4 hlt;have b1:(i+1) * 72≤140737488355328:=by omega
  have b2:i+1≤140737488355328:=by omega
  have hts:=B4 (f:=Tm.cells) hx;have hc:=ih' x (List.mem_of_getElem? hx);rcases j9 with j9|⟨id,j9,j10,j11⟩
  ·
   clear hgn
   repeat' (first
    | (first|refine wp rfl ?_|refine spt rfl ?_|refine spf rfl ?_|(refine spl (fun hc=>?_) fun hc=>?_)<;>(try rw [beq_iff_eq] at hc)<;>try simp only [hc]|refine cp hc ?_)<;>try simp only [go_sem, *])
   refine u7 ?_;simp only [go_sem, *];exact ⟨by repeat (first|assumption|refine g9.new ?_ (m6 _ _)|refine g9.new ?_ j11),.inr ⟨_,rfl,sg_,by first|exact m6 _ _|assumption⟩⟩
  ·
   have e3:=c7 hgn j10;have e4:=l4 hgn j10;have e5:=am8 j6 j10;clear hgn
   repeat' (first
    | (first|refine wp rfl ?_|refine spt rfl ?_|refine spf rfl ?_|(refine spl (fun hc=>?_) fun hc=>?_)<;>(try rw [beq_iff_eq] at hc)<;>try simp only [hc]|refine cp hc ?_)<;>try simp only [go_sem, *])
   refine u7 ?_;simp only [go_sem, *];exact ⟨by repeat (first|assumption|refine g9.new ?_ (m6 _ _)|refine g9.new ?_ j11),.inr ⟨_,rfl,sg_,by first|exact m6 _ _|assumption⟩⟩
 ·have hd:=O2 hge
  clear hgn;obtain rfl:i=l.length:=by omega
  rw [List.take_length] at j9;obtain ⟨c,j9⟩:=j9.val;refine wq_ ?_;simp [tm0,Tm.p9,Ty.J5,Ty.J4]
theorem c_T (k:Int) (t:Ty) (l:List Tm) (ht:TyW t) (hl:l.length≤1000) (hw0:∀ x∈l,TmW x) :
  Pure Tryz.prog env 112 [.int .i64 k,.agg t.cells,.sl .any (l.map Tm.cells)] (.agg (tmT k t l).cells):=by
 intro h;have h1:=c_N k l hl hw0;have h2:=R9 t ht;clear hw0;rw [tm0,Tm.p9] at h1;simp only [Ty.J5,Ty.J4,List.map_nil] at h1;refine en_ Tryz.func112 [.cell 6 65] fun g0 w0 gen b7 hfr c6 m0=>?_
 first|refine wq_ ?_|exact wk_
 all_goals simp [tmT,Tm.p9,tm0,Tm.m8,Tm.kind,Tm.index,Tm.type,Tm.args]
theorem aB4 (g l:List Ty) (hg:g.length≤1000) (hl:l.length≤1000) :
  Pure Tryz.prog env 68 [.sl .any (g.map Ty.cells),.sl .any (l.map Ty.cells)] (.sl .any ((g++l).map Ty.cells)):=by
 intro h;have b1:g.length * 32≤140737488355328:=by omega
 have b2:g.length≤140737488355328:=by omega
 have b3:(g.length+l.length) * 32≤140737488355328:=by omega
 have b4:g.length+l.length≤140737488355328:=by omega
 have z:0+g.length=g.length:=by omega
 refine en_ Tryz.func68 [.tmp 4] fun g0 w0 gen b7 hfr c6 m0=>?_
 first|refine wq_ ?_|exact wk_
 all_goals (rw [← List.map_append,H8])
end Go.Proofs.YteaijonkbbkkjaaGreatDoor
