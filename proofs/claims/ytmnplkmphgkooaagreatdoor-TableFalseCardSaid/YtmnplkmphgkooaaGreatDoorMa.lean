/-
 Walks: several parts in one text.
-/
import Derived.Test.YtmnplkmphgkooaaGreatDoorBase
import Derived.Test.YtmnplkmphgkooaaGreatDoorAbsB
import Derived.Test.YtmnplkmphgkooaaGreatDoorAbsC
set_option linter.unusedSimpArgs false
set_option linter.unusedVariables false
set_option maxRecDepth 20000
namespace Go.Proofs.YtmnplkmphgkooaaGreatDoor
open Go GoAbs Go.Proofs
def env:Nat→Option (List V)
 | 0=>some [.int .i64 0,.int .i64 0,.int .i64 1,.int .i64 2,.int .i64 0,.int .i64 1,.int .i64 3,.int .i64 0,.int .i64 2,.int .i64 3,.int .i64 2,.int .i64 1,.int .i64 1,.int .i64 0]
 | _=>none
theorem c_refNat:Pure Tryz.prog env 49 [] (.agg tNat.cells):=by
 intro h
 refine en_ Tryz.func49 [.cell 0 29] fun g0 w0 gen hrel hfr hfr' hres=>?_
 refine wq_ ?_
 rfl
theorem c_refList:Pure Tryz.prog env 51 [] (.agg tList.cells):=by
 intro h
 refine en_ Tryz.func51 [.cell 0 29] fun g0 w0 gen hrel hfr hfr' hres=>?_
 refine wq_ ?_
 rfl
theorem c_refUnit:Pure Tryz.prog env 94 [] (.agg tUnit.cells):=by
 intro h
 refine en_ Tryz.func94 [.cell 0 29] fun g0 w0 gen hrel hfr hfr' hres=>?_
 refine wq_ ?_
 rfl
theorem c_ref23Nat:Pure Tryz.prog env 23 [] (.agg tNat.cells):=by
 intro h
 refine en_ Tryz.func23 [.cell 0 29] fun g0 w0 gen hrel hfr hfr' hres=>?_
 refine wq_ ?_
 rfl
theorem c_playNat:Pure Tryz.prog env 10 [] (.agg tNat.cells):=by
 intro h
 refine en_ Tryz.func10 [.cell 0 29] fun g0 w0 gen hrel hfr hfr' hres=>?_
 have zq0:=c_ref23Nat
 first|refine wq_ ?_|exact wk_
 all_goals simp [tNat,Ty.mk_cells,Ty.mk_kind,Ty.mk_args]
theorem c_refCopy:∀ t:Ty,TyW t→Pure Tryz.prog env 98 [.agg t.cells] (.agg t.cells):=by
 intro t
 induction t using Ty.ind with|h t ih=>?_
 intro ht h
 have hlen:=ht.len
 have ih':∀ x∈t.args,Pure Tryz.prog env 98 [.agg x.cells] (.agg x.cells):=fun x hx=>ih x hx (ht.arg hx)
 clear ih
 refine en_ Tryz.func98 [.cell 2 29] fun g0 w0 gen hrel hfr hfr' hres=>?_
 refine wq_ ?_
 refine AR_loop_nat (fun i σ=>σ.tm 9=.int .i64 i∧σ.tm 8=.int .i64 t.args.length∧σ.tm 7=.sl .any (t.args.map Ty.cells)∧σ.tm 1=.ptr ⟨gen,0,0⟩ 0∧σ.tm 2=.ptr ⟨gen,0,1⟩ 0 ∧
  σ.h ⟨gen,0,0⟩=some (.box t.cells)∧σ.h ⟨gen,0,1⟩=some (.box [.int .i64 0,.sl .full []])∧Agree h σ.h∧OwnS h σ.h (σ.tm 3) 2 ((t.args.take i).map Ty.cells)) t.args.length ?_ ?_
 ·simp only [go_sem, *]
  exact ⟨rfl,.new (.new (.refl _) (hfr' _ _)) (hfr' _ _),.inl (by simp)⟩
 intro i σ hi ⟨j1,j2,j3,j4,j5,j6,j7,j8,j9⟩
 refine AR_gen (fun gn hgn=>?_)
 have hgf:=fresh_of hgn
 have hgf0:∀ r i,h ⟨gn,r,i⟩=none:=fun r i=>agree_fresh j8 (hgf r i)
 have e1:=gen_ne hgn j6
 have e2:=gen_ne' hgn j6
 have hw:=wrap_succ (i:=i) (by omega)
 rcases Nat.lt_or_ge i t.args.length with hlt|hge
 ·have hd:=lt_true hlt
  obtain ⟨x,hx⟩:∃ x,t.args[i]? = some x:=⟨_,List.getElem?_eq_getElem hlt⟩
  have hm:=min_lt hlt
  have b1:(i+1) * 32≤140737488355328:=by omega
  have b2:i+1≤140737488355328:=by omega
  have hts:=map_take_succ (f:=Ty.cells) hx
  have hc:=ih' x (List.mem_of_getElem? hx)
  rcases j9 with j9|⟨id,j9,j10,j11⟩
  ·
   clear hgn
   repeat' (first
    | (first|refine wp rfl ?_|refine spt rfl ?_|refine spf rfl ?_|(refine spl (fun hc=>?_) fun hc=>?_)<;>(try rw [beq_iff_eq] at hc)<;>try simp only [hc]|refine cp hc ?_)<;>try simp only [go_sem, *])
   refine AR_inv ?_
   simp only [go_sem, *]
   exact ⟨by repeat (first|assumption|refine Agree.new ?_ (hgf0 _ _)|refine Agree.new ?_ j11),.inr ⟨_,rfl,by simp only [go_sem, *],by first|exact hgf0 _ _|assumption⟩⟩
  ·
   have e3:=fresh_ne hgn j10
   have e4:=fresh_ne' hgn j10
   have e5:=obj_ne j6 j10
   have e6:=obj_ne j7 j10
   clear hgn
   repeat' (first
    | (first|refine wp rfl ?_|refine spt rfl ?_|refine spf rfl ?_|(refine spl (fun hc=>?_) fun hc=>?_)<;>(try rw [beq_iff_eq] at hc)<;>try simp only [hc]|refine cp hc ?_)<;>try simp only [go_sem, *])
   refine AR_inv ?_
   simp only [go_sem, *]
   exact ⟨by repeat (first|assumption|refine Agree.new ?_ (hgf0 _ _)|refine Agree.new ?_ j11),.inr ⟨_,rfl,by simp only [go_sem, *],by first|exact hgf0 _ _|assumption⟩⟩
 ·have hd:=lt_false hge
  clear hgn
  obtain rfl:i=t.args.length:=by omega
  rw [List.take_length] at j9
  obtain ⟨c,j9⟩:=j9.val
  refine wq_ ?_
  rw [Ty.cells_eq]
theorem c_tmCopy:∀ t:Tm,TmW t→Pure Tryz.prog env 97 [.agg t.cells] (.agg t.cells):=by
 intro t
 induction t using Tm.ind with|h t ih=>?_
 intro ht h
 have hlen:=ht.len
 have ih':∀ x∈t.args,Pure Tryz.prog env 97 [.agg x.cells] (.agg x.cells):=fun x hx=>ih x hx (ht.arg hx)
 clear ih
 refine en_ Tryz.func97 [.cell 2 32] fun g0 w0 gen hrel hfr hfr' hres=>?_
 refine wq_ ?_
 refine AR_loop_nat (fun i σ=>σ.tm 9=.int .i64 i∧σ.tm 8=.int .i64 t.args.length∧σ.tm 7=.sl .any (t.args.map Tm.cells)∧σ.tm 1=.ptr ⟨gen,0,0⟩ 0∧σ.tm 2=.ptr ⟨gen,0,1⟩ 0 ∧
  σ.h ⟨gen,0,0⟩=some (.box t.cells)∧σ.h ⟨gen,0,1⟩=some (.box [.int .i64 0,.int .i64 0,.int .i64 0,.sl .full [],.sl .full []])∧Agree h σ.h∧OwnS h σ.h (σ.tm 3) 5 ((t.args.take i).map Tm.cells)) t.args.length ?_ ?_
 ·simp only [go_sem, *]
  exact ⟨rfl,.new (.new (.refl _) (hfr' _ _)) (hfr' _ _),.inl (by simp)⟩
 intro i σ hi ⟨j1,j2,j3,j4,j5,j6,j7,j8,j9⟩
 refine AR_gen (fun gn hgn=>?_)
 have hgf:=fresh_of hgn
 have hgf0:∀ r i,h ⟨gn,r,i⟩=none:=fun r i=>agree_fresh j8 (hgf r i)
 have e1:=gen_ne hgn j6
 have e2:=gen_ne' hgn j6
 have hw:=wrap_succ (i:=i) (by omega)
 rcases Nat.lt_or_ge i t.args.length with hlt|hge
 ·have hd:=lt_true hlt
  obtain ⟨x,hx⟩:∃ x,t.args[i]? = some x:=⟨_,List.getElem?_eq_getElem hlt⟩
  have hm:=min_lt hlt
  have b1:(i+1) * 72≤140737488355328:=by omega
  have b2:i+1≤140737488355328:=by omega
  have hts:=map_take_succ (f:=Tm.cells) hx
  have hc:=ih' x (List.mem_of_getElem? hx)
  rcases j9 with j9|⟨id,j9,j10,j11⟩
  ·
   clear hgn
   repeat' (first
    |(refine ⟨?_,?_⟩;focus ((repeat' (first|refine ⟨?_,?_⟩|refine .inr ?_));all_goals kernel_rfl))
    | (first|refine wp rfl ?_|refine spt rfl ?_|refine spf rfl ?_|(refine spl (fun hc=>?_) fun hc=>?_)<;>(try rw [beq_iff_eq] at hc)<;>try simp only [hc]|refine cp hc ?_)<;>try simp only [go_sem, *])
   refine AR_inv ?_
   simp only [go_sem, *]
   exact ⟨by repeat (first|assumption|refine Agree.new ?_ (hgf0 _ _)|refine Agree.new ?_ j11),.inr ⟨_,rfl,by simp only [go_sem, *],by first|exact hgf0 _ _|assumption⟩⟩
  ·
   have e3:=fresh_ne hgn j10
   have e4:=fresh_ne' hgn j10
   have e5:=obj_ne j6 j10
   have e6:=obj_ne j7 j10
   clear hgn
   repeat' (first
    |(refine ⟨?_,?_⟩;focus ((repeat' (first|refine ⟨?_,?_⟩|refine .inr ?_));all_goals kernel_rfl))
    | (first|refine wp rfl ?_|refine spt rfl ?_|refine spf rfl ?_|(refine spl (fun hc=>?_) fun hc=>?_)<;>(try rw [beq_iff_eq] at hc)<;>try simp only [hc]|refine cp hc ?_)<;>try simp only [go_sem, *])
   refine AR_inv ?_
   simp only [go_sem, *]
   exact ⟨by repeat (first|assumption|refine Agree.new ?_ (hgf0 _ _)|refine Agree.new ?_ j11),.inr ⟨_,rfl,by simp only [go_sem, *],by first|exact hgf0 _ _|assumption⟩⟩
 ·have hd:=lt_false hge
  clear hgn
  obtain rfl:i=t.args.length:=by omega
  rw [List.take_length] at j9
  obtain ⟨c,j9⟩:=j9.val
  have hc:=c_refCopy t.type ht.ty
  refine wq_ ?_
  rw [Tm.cells_eq]
theorem Ty.sameL_len:∀ {l l':List Ty},Ty.sameL l l'=true→l.length=l'.length
 | [],[],_=>rfl
 | a::l,b::l',h=>by
  simp only [Ty.sameL,Bool.and_eq_true] at h
  simp [Ty.sameL_len h.2]
 | [],_::_,h=>by simp [Ty.sameL] at h
 | _::_,[],h=>by simp [Ty.sameL] at h
theorem Ty.sameL_all:∀ {l l':List Ty},l.length=l'.length→(∀ (j:Nat) x y,l[j]? = some x→l'[j]? = some y→Ty.same x y=true)→Ty.sameL l l'=true
 | [],[],_,_=>by simp [Ty.sameL]
 | a::l,b::l',h,q=>by
  simp only [Ty.sameL,Bool.and_eq_true]
  exact ⟨q 0 a b rfl rfl,Ty.sameL_all (by simpa using h) fun j x y h1 h2=>q (j+1) x y (by simpa using h1) (by simpa using h2)⟩
 | [],_::_,h,_=>by simp at h
 | _::_,[],h,_=>by simp at h
theorem Ty.sameL_get:∀ {l l':List Ty},Ty.sameL l l'=true→∀ (j:Nat) x y,l[j]? = some x→l'[j]? = some y→Ty.same x y=true
 | [],_,_,j,x,y,h1,h2=>by simp at h1
 | a::l,b::l',h,0,x,y,h1,h2=>by
  simp only [Ty.sameL,Bool.and_eq_true] at h
  simp at h1 h2;subst h1;subst h2;exact h.1
 | a::l,b::l',h,j+1,x,y,h1,h2=>by
  simp only [Ty.sameL,Bool.and_eq_true] at h
  exact Ty.sameL_get h.2 j x y (by simpa using h1) (by simpa using h2)
 | _::_,[],h,j,x,y,h1,h2=>by simp at h2
theorem c_refSame:∀ a:Ty,TyW a→∀ b:Ty,TyW b→Pure Tryz.prog env 52 [.agg a.cells,.agg b.cells] (.bool (Ty.same a b)):=by
 intro a
 induction a using Ty.ind with|h a ih=>?_
 intro ha b hb h
 have hlen:=ha.len
 have hlen2:=hb.len
 have ih':∀ x∈a.args,∀ y∈b.args,Pure Tryz.prog env 52 [.agg x.cells,.agg y.cells] (.bool (Ty.same x y)):=fun x hx y hy=>ih x hx (ha.arg hx) y (hb.arg hy)
 clear ih
 refine en_ Tryz.func52 [.tmp 4] fun g0 w0 gen hrel hfr hfr' hres=>?_
 by_cases hk:a.kind=b.kind
 case neg =>
  have hk1:(a.kind != b.kind)=true:=by simp [hk]
  have hk2:(a.kind==b.kind)=false:=by simp [hk]
  have hs:Ty.same a b=false:=by rw [Ty.same_eq,hk2];rfl
  clear ih'
  exact wk_
 by_cases hl:a.args.length=b.args.length
 case neg =>
  have hk0:(a.kind != b.kind)=false:=by simp [hk]
  have hk1:((a.args.length:Int) != (b.args.length:Int))=true:=by simp;omega
  have hs:Ty.same a b=false:=by
   rw [Ty.same_eq]
   cases e:Ty.sameL a.args b.args with
   | true=>exact absurd (Ty.sameL_len e) hl
   | false=>simp
  clear ih'
  exact wk_
 have hk0:(b.kind != b.kind)=false:=by simp
 have hk1:((b.args.length:Int) != (b.args.length:Int))=false:=by simp
 clear hlen2
 refine wq_ ?_
 refine AR_loop_nat (fun i σ=>σ.tm 23=.int .i64 i∧σ.tm 22=.int .i64 b.args.length∧σ.tm 2=.ptr ⟨gen,0,0⟩ 0∧σ.tm 3=.ptr ⟨gen,0,1⟩ 0 ∧
  σ.h ⟨gen,0,0⟩=some (.box a.cells)∧σ.h ⟨gen,0,1⟩=some (.box b.cells)∧Agree h σ.h∧∀ j x y,j<i→a.args[j]? = some x→b.args[j]? = some y→Ty.same x y=true) b.args.length ?_ ?_
 ·simp only [go_sem, *]
  exact ⟨rfl,.new (.new (.refl _) (hfr' _ _)) (hfr' _ _),fun j x y hj=>absurd hj (by omega)⟩
 intro i σ hi ⟨j1,j2,j3,j4,j5,j6,j7,j8⟩
 refine AR_gen (fun gn hgn=>?_)
 have hw:=wrap_succ (i:=i) (by omega)
 clear hgn
 have hs0:Ty.same a b=Ty.sameL a.args b.args:=by rw [Ty.same_eq,hk];simp
 rcases Nat.lt_or_ge i b.args.length with hlt|hge
 ·have hd:=lt_true hlt
  obtain ⟨x,hx⟩:∃ x,a.args[i]? = some x:=⟨_,List.getElem?_eq_getElem (by omega)⟩
  obtain ⟨y,hy⟩:∃ y,b.args[i]? = some y:=⟨_,List.getElem?_eq_getElem hlt⟩
  have hc:=ih' x (List.mem_of_getElem? hx) y (List.mem_of_getElem? hy)
  clear ih'
  cases hxy:Ty.same x y with
  | false =>
   have hs:Ty.same a b=false:=by
    rw [hs0]
    cases e:Ty.sameL a.args b.args with
    | true=>rw [Ty.sameL_get e i x y hx hy] at hxy;cases hxy
    | false=>rfl
   clear j8 hs0
   rw [hxy] at hc
   exact wk_
  | true =>
   rw [hxy] at hc
   have j8':∀ j x y,j<i+1→a.args[j]? = some x→b.args[j]? = some y→Ty.same x y=true:=by
    intro j x' y' hj h1 h2
    rcases Nat.lt_or_ge j i with h|h
    ·exact j8 j x' y' h h1 h2
    ·obtain rfl:j=i:=by omega
     rw [hx] at h1;rw [hy] at h2;cases h1;cases h2;exact hxy
   clear j8 hs0
   repeat' (first
    |(refine ⟨?_,?_⟩;focus ((repeat' (first|refine ⟨?_,?_⟩|refine .inr ?_));all_goals kernel_rfl))
    | (first|refine wp rfl ?_|refine spt rfl ?_|refine spf rfl ?_|(refine spl (fun hc=>?_) fun hc=>?_)<;>(try rw [beq_iff_eq] at hc)<;>try simp only [hc]|(refine gs (fun hb=>?_) fun hb=>?_)<;>try simp only [Bool.not_true,Bool.not_false] at hb|refine cp hc ?_)<;>try simp only [go_sem, *])
   refine AR_inv ?_
   simp only [go_sem, *]
   exact j8'
 ·have hd:=lt_false hge
  obtain rfl:i=b.args.length:=by omega
  have hs:Ty.same a b=true:=by
   rw [hs0]
   refine Ty.sameL_all hl fun j x y h1 h2=>j8 j x y ?_ h1 h2
   have:=(List.getElem?_eq_some_iff.1 h1).1
   omega
  clear ih' j8 hs0
  exact wk_
theorem c_Var (i:Int):Pure Tryz.prog env 44 [.int .i64 i] (.agg (tmVar i).cells):=by
 intro h
 refine en_ Tryz.func44 [.cell 2 32] fun g0 w0 gen hrel hfr hfr' hres=>?_
 first|refine wq_ ?_|exact wk_
 all_goals simp [tmVar,Tm.mk_cells,Ty.mk_kind,Ty.mk_args]
theorem c_refTwo (a b:Ty) (ha:TyW a) (hb:TyW b):Pure Tryz.prog env 95 [.agg a.cells,.agg b.cells] (.agg (tPair a b).cells):=by
 intro h
 refine en_ Tryz.func95 [.cell 4 29] fun g0 w0 gen hrel hfr hfr' hres=>?_
 repeat' (first
  |(refine ⟨?_,?_⟩;focus ((repeat' (first|refine ⟨?_,?_⟩|refine .inr ?_));all_goals kernel_rfl))
  |exact hin _|exact agf (by assumption)
  | (first|refine wp rfl ?_|refine cp (c_refCopy _ ha) ?_|refine cp (c_refCopy _ hb) ?_|refine finF hrel ?_ ?_ ?_)<;>try simp only [go_sem, *])
 all_goals simp [tPair,Ty.mk_cells]
theorem c_refFun (a b:Ty) (ha:TyW a) (hb:TyW b):Pure Tryz.prog env 96 [.agg a.cells,.agg b.cells] (.agg (tFun a b).cells):=by
 intro h
 refine en_ Tryz.func96 [.cell 4 29] fun g0 w0 gen hrel hfr hfr' hres=>?_
 repeat' (first
  |(refine ⟨?_,?_⟩;focus ((repeat' (first|refine ⟨?_,?_⟩|refine .inr ?_));all_goals kernel_rfl))
  |exact hin _|exact agf (by assumption)
  | (first|refine wp rfl ?_|refine cp (c_refCopy _ ha) ?_|refine cp (c_refCopy _ hb) ?_|refine finF hrel ?_ ?_ ?_)<;>try simp only [go_sem, *])
 all_goals simp [tFun,Ty.mk_cells]
theorem c_Few (l:List Int):Pure Tryz.prog env 5 [.sl .any (ints l)] (.bool (decide ((l.length:Int)≤500))):=by
 intro h
 exact ek_ Tryz.func5 [.tmp 2]
theorem c_Mod (n k:Int) (hk:k≠0):Pure Tryz.prog env 56 [.int .i64 n,.int .i64 k] (.int .i64 (modI n k)):=by
 intro h
 refine en_ Tryz.func56 [.tmp 4] fun g0 w0 gen hrel hfr hfr' hres=>?_
 first|refine wq_ ?_|exact wk_
 all_goals simp [modI]
theorem c_N (k:Int) (l:List Tm) (hl:l.length≤1000) (hw0:∀ x∈l,TmW x):Pure Tryz.prog env 46 [.int .i64 k,.sl .any (l.map Tm.cells)] (.agg (tm0 k l).cells):=by
 intro h
 have ih':∀ x∈l,Pure Tryz.prog env 97 [.agg x.cells] (.agg x.cells):=fun x hx=>c_tmCopy x (hw0 x hx)
 clear hw0
 refine en_ Tryz.func46 [.cell 4 32] fun g0 w0 gen hrel hfr hfr' hres=>?_
 refine wq_ ?_
 refine AR_loop_nat (fun i σ=>σ.tm 10=.int .i64 i∧σ.tm 9=.int .i64 l.length∧σ.tm 8=.sl .any (l.map Tm.cells)∧σ.tm 0=.int .i64 k∧σ.tm 4=.ptr ⟨gen,0,0⟩ 0 ∧
  σ.h ⟨gen,0,0⟩=some (.box [.int .i64 0,.int .i64 0,.int .i64 0,.sl .full [],.sl .full []])∧Agree h σ.h∧OwnS h σ.h (σ.tm 5) 5 ((l.take i).map Tm.cells)) l.length ?_ ?_
 ·simp only [go_sem, *]
  exact ⟨rfl,.new (.refl _) (hfr' _ _),.inl (by simp)⟩
 intro i σ hi ⟨j1,j2,j3,j4,j5,j6,j8,j9⟩
 refine AR_gen (fun gn hgn=>?_)
 have hgf:=fresh_of hgn
 have hgf0:∀ r i,h ⟨gn,r,i⟩=none:=fun r i=>agree_fresh j8 (hgf r i)
 have e1:=gen_ne hgn j6
 have e2:=gen_ne' hgn j6
 have hw:=wrap_succ (i:=i) (by omega)
 rcases Nat.lt_or_ge i l.length with hlt|hge
 ·have hd:=lt_true hlt
  obtain ⟨x,hx⟩:∃ x,l[i]? = some x:=⟨_,List.getElem?_eq_getElem hlt⟩
  have hm:=min_lt hlt
  have b1:(i+1) * 72≤140737488355328:=by omega
  have b2:i+1≤140737488355328:=by omega
  have hts:=map_take_succ (f:=Tm.cells) hx
  have hc:=ih' x (List.mem_of_getElem? hx)
  rcases j9 with j9|⟨id,j9,j10,j11⟩
  ·
   clear hgn
   repeat' (first
    | (first|refine wp rfl ?_|refine spt rfl ?_|refine spf rfl ?_|(refine spl (fun hc=>?_) fun hc=>?_)<;>(try rw [beq_iff_eq] at hc)<;>try simp only [hc]|refine cp hc ?_)<;>try simp only [go_sem, *])
   refine AR_inv ?_
   simp only [go_sem, *]
   exact ⟨by repeat (first|assumption|refine Agree.new ?_ (hgf0 _ _)|refine Agree.new ?_ j11),.inr ⟨_,rfl,by simp only [go_sem, *],by first|exact hgf0 _ _|assumption⟩⟩
  ·
   have e3:=fresh_ne hgn j10
   have e4:=fresh_ne' hgn j10
   have e5:=obj_ne j6 j10
   clear hgn
   repeat' (first
    | (first|refine wp rfl ?_|refine spt rfl ?_|refine spf rfl ?_|(refine spl (fun hc=>?_) fun hc=>?_)<;>(try rw [beq_iff_eq] at hc)<;>try simp only [hc]|refine cp hc ?_)<;>try simp only [go_sem, *])
   refine AR_inv ?_
   simp only [go_sem, *]
   exact ⟨by repeat (first|assumption|refine Agree.new ?_ (hgf0 _ _)|refine Agree.new ?_ j11),.inr ⟨_,rfl,by simp only [go_sem, *],by first|exact hgf0 _ _|assumption⟩⟩
 ·have hd:=lt_false hge
  clear hgn
  obtain rfl:i=l.length:=by omega
  rw [List.take_length] at j9
  obtain ⟨c,j9⟩:=j9.val
  refine wq_ ?_
  simp [tm0,Tm.mk_cells,Ty.mk_kind,Ty.mk_args]
theorem c_T (k:Int) (t:Ty) (l:List Tm) (ht:TyW t) (hl:l.length≤1000) (hw0:∀ x∈l,TmW x) :
  Pure Tryz.prog env 47 [.int .i64 k,.agg t.cells,.sl .any (l.map Tm.cells)] (.agg (tmT k t l).cells):=by
 intro h
 have h1:=c_N k l hl hw0
 have h2:=c_refCopy t ht
 clear hw0
 rw [tm0,Tm.mk_cells] at h1
 simp only [Ty.mk_kind,Ty.mk_args,List.map_nil] at h1
 refine en_ Tryz.func47 [.cell 6 32] fun g0 w0 gen hrel hfr hfr' hres=>?_
 first|refine wq_ ?_|exact wk_
 all_goals simp [tmT,Tm.mk_cells,tm0,Tm.cells_eq,Tm.kind,Tm.index,Tm.type,Tm.args]
theorem c_longer (g l:List Ty) (hg:g.length≤1000) (hl:l.length≤1000) :
  Pure Tryz.prog env 48 [.sl .any (g.map Ty.cells),.sl .any (l.map Ty.cells)] (.sl .any ((g++l).map Ty.cells)):=by
 intro h
 have b1:g.length * 32≤140737488355328:=by omega
 have b2:g.length≤140737488355328:=by omega
 have b3:(g.length+l.length) * 32≤140737488355328:=by omega
 have b4:g.length+l.length≤140737488355328:=by omega
 have z:0+g.length=g.length:=by omega
 refine en_ Tryz.func48 [.tmp 4] fun g0 w0 gen hrel hfr hfr' hres=>?_
 first|refine wq_ ?_|exact wk_
 all_goals (rw [← List.map_append,weakLL_Ty])
end Go.Proofs.YtmnplkmphgkooaaGreatDoor
