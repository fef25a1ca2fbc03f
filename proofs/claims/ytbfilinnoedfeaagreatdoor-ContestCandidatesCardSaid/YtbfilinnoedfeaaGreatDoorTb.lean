/-
 Walks: several parts in one text.
-/
import Derived.Test.YtbfilinnoedfeaaGreatDoorTa
set_option linter.unusedSimpArgs false
set_option linter.unusedVariables false
set_option maxRecDepth 20000
set_option maxHeartbeats 4000000
namespace Go.Proofs.YtbfilinnoedfeaaGreatDoor
open Go GoAbs Go.Proofs
theorem c_r05read (hL:∀ l:List Nat,l.length≤1000→(∀ n∈l,n≤4096)→Pure Tryz.prog env 43 [.agg (listT l).cells] (.tup [.agg (listP l).cells,.bool true]))
  {t:Tm} {v:PVl} {b:Bool} (hr:RdT t v b):Pure Tryz.prog env 43 [.agg t.cells] (.tup [.agg v.cells,.bool b]):=by
 induction hr with
 | num n hn =>
  have h1:=c_r05number n (by omega)
  have hk:(numT n).kind=4∨(numT n).kind=5:=by cases n;exact .inl rfl;exact .inr rfl
  clear hL
  intro h
  have hv:(numP n).cells=[.int .i64 1,.int .i64 n,.sl .any [],.sl .any []]:=by rw [numP,PVl.cells_eq];rfl
  rw [hv]
  generalize numT n=t at *
  rcases hk with hk|hk
  ·
   refine en Tryz.func43 [.cell 2 42,.tmp 3] rfl rfl fun g0 w0 gen hrel hfr hfr' hres=>?_
   repeat' (first
    | (refine ⟨?_,?_⟩;focus ((repeat' (first|refine And.intro ?_ ?_|refine Or.inr ?_));all_goals kernel_rfl))
    | exact hin _|exact agf (by assumption)
    | (first|refine wp rfl ?_|refine spt rfl ?_|refine spf rfl ?_|(refine spl (fun hc=>?_) fun hc=>?_)<;>(try rw [beq_iff_eq] at hc)<;>try simp only [hc]|(refine gs (fun hb=>?_) fun hb=>?_)<;>try simp only [Bool.not_true,Bool.not_false] at hb|refine cp (h1) ?_|refine finF hrel ?_ ?_ ?_)<;>try simp only [go_sem, *])
  ·
   refine en Tryz.func43 [.cell 2 42,.tmp 3] rfl rfl fun g0 w0 gen hrel hfr hfr' hres=>?_
   repeat' (first
    | (refine ⟨?_,?_⟩;focus ((repeat' (first|refine And.intro ?_ ?_|refine Or.inr ?_));all_goals kernel_rfl))
    | exact hin _|exact agf (by assumption)
    | (first|refine wp rfl ?_|refine spt rfl ?_|refine spf rfl ?_|(refine spl (fun hc=>?_) fun hc=>?_)<;>(try rw [beq_iff_eq] at hc)<;>try simp only [hc]|(refine gs (fun hb=>?_) fun hb=>?_)<;>try simp only [Bool.not_true,Bool.not_false] at hb|refine cp (h1) ?_|refine finF hrel ?_ ?_ ?_)<;>try simp only [go_sem, *])
 | list l hl hn=>exact hL l hl hn
 | unit =>
  clear hL
  intro h
  have hk:(tm0 13 []).kind=13:=rfl
  have hv:unitP.cells=[.int .i64 4,.int .i64 0,.sl .any [],.sl .any []]:=by rw [unitP,PVl.cells_eq];rfl
  rw [hv]
  generalize tm0 13 []=t at *
  refine en Tryz.func43 [.cell 2 42,.tmp 3] rfl rfl fun g0 w0 gen hrel hfr hfr' hres=>?_
  repeat' (first
   | (refine ⟨?_,?_⟩;focus ((repeat' (first|refine And.intro ?_ ?_|refine Or.inr ?_));all_goals kernel_rfl))
   | exact hin _|exact agf (by assumption)
   | (first|refine wp rfl ?_|refine spt rfl ?_|refine spf rfl ?_|(refine spl (fun hc=>?_) fun hc=>?_)<;>(try rw [beq_iff_eq] at hc)<;>try simp only [hc]|(refine gs (fun hb=>?_) fun hb=>?_)<;>try simp only [Bool.not_true,Bool.not_false] at hb|refine finF hrel ?_ ?_ ?_)<;>try simp only [go_sem, *])
 | lam a x =>
  clear hL
  intro h
  have hk:(tmT 2 a [x]).kind=2:=rfl
  have hv:unitP.cells=[.int .i64 4,.int .i64 0,.sl .any [],.sl .any []]:=by rw [unitP,PVl.cells_eq];rfl
  rw [hv]
  generalize tmT 2 a [x]=t at *
  refine en Tryz.func43 [.cell 2 42,.tmp 3] rfl rfl fun g0 w0 gen hrel hfr hfr' hres=>?_
  repeat' (first
   | (refine ⟨?_,?_⟩;focus ((repeat' (first|refine And.intro ?_ ?_|refine Or.inr ?_));all_goals kernel_rfl))
   | exact hin _|exact agf (by assumption)
   | (first|refine wp rfl ?_|refine spt rfl ?_|refine spf rfl ?_|(refine spl (fun hc=>?_) fun hc=>?_)<;>(try rw [beq_iff_eq] at hc)<;>try simp only [hc]|(refine gs (fun hb=>?_) fun hb=>?_)<;>try simp only [Bool.not_true,Bool.not_false] at hb|refine finF hrel ?_ ?_ ?_)<;>try simp only [go_sem, *])
 | @pair s t v w a b h1 h2 i1 i2 =>
  clear hL h1 h2
  intro h
  have hk:(tm0 10 [s,t]).kind=10:=rfl
  have ha:(tm0 10 [s,t]).args=[s,t]:=rfl
  have hv:(pairP v w).cells=[.int .i64 3,.int .i64 0,.sl .any [],.sl .any [v.cells,w.cells]]:=by rw [pairP,PVl.cells_eq];rfl
  rw [hv]
  generalize tm0 10 [s,t]=t at *
  cases a with
  | true =>
   simp only [Bool.true_and]
   refine en Tryz.func43 [.cell 2 42,.tmp 3] rfl rfl fun g0 w0 gen hrel hfr hfr' hres=>?_
   repeat' (first
    | (refine ⟨?_,?_⟩;focus ((repeat' (first|refine And.intro ?_ ?_|refine Or.inr ?_));all_goals kernel_rfl))
    | exact hin _|exact agf (by assumption)
    | (first|refine wp rfl ?_|refine spt rfl ?_|refine spf rfl ?_|(refine spl (fun hc=>?_) fun hc=>?_)<;>(try rw [beq_iff_eq] at hc)<;>try simp only [hc]|(refine gs (fun hb=>?_) fun hb=>?_)<;>try simp only [Bool.not_true,Bool.not_false] at hb|refine cp (i1) ?_|refine cp (i2) ?_|refine finF hrel ?_ ?_ ?_)<;>try simp only [go_sem, *])
  | false =>
   simp only [Bool.false_and]
   refine en Tryz.func43 [.cell 2 42,.tmp 3] rfl rfl fun g0 w0 gen hrel hfr hfr' hres=>?_
   repeat' (first
    | (refine ⟨?_,?_⟩;focus ((repeat' (first|refine And.intro ?_ ?_|refine Or.inr ?_));all_goals kernel_rfl))
    | exact hin _|exact agf (by assumption)
    | (first|refine wp rfl ?_|refine spt rfl ?_|refine spf rfl ?_|(refine spl (fun hc=>?_) fun hc=>?_)<;>(try rw [beq_iff_eq] at hc)<;>try simp only [hc]|(refine gs (fun hb=>?_) fun hb=>?_)<;>try simp only [Bool.not_true,Bool.not_false] at hb|refine cp (i1) ?_|refine cp (i2) ?_|refine finF hrel ?_ ?_ ?_)<;>try simp only [go_sem, *])
end Go.Proofs.YtbfilinnoedfeaaGreatDoor
namespace Go.Proofs.YtbfilinnoedfeaaGreatDoor
open Go GoAbs Go.Proofs
theorem c_r05readL (l:List Nat) (hl:l.length≤1000) (hn:∀ n∈l,n≤4096):Pure Tryz.prog env 43 [.agg (listT l).cells] (.tup [.agg (listP l).cells,.bool true]):=by
 intro h
 have hk:(listT l).kind=7∨(listT l).kind=8:=by cases l;exact .inl rfl;exact .inr rfl
 have hv:(listP l).cells=[.int .i64 2,.int .i64 0,.sl .any (ints (l.map fun (n:Nat)=>(n:Int))),.sl .any []]:=by rw [listP,PVl.cells_eq];rfl
 rw [hv]
 generalize ht:listT l=t at *
 rcases hk with hk|hk
 ·
  refine en Tryz.func43 [.cell 2 42,.tmp 3] rfl rfl fun g0 w0 gen hrel hfr hfr' hres=>?_
  repeat' (first
   | (refine ⟨?_,?_⟩;focus ((repeat' (first|refine And.intro ?_ ?_|refine Or.inr ?_));all_goals kernel_rfl))
   | exact hin _|exact agf (by assumption)
   | (first|refine wp rfl ?_|refine spt rfl ?_|refine spf rfl ?_|(refine spl (fun hc=>?_) fun hc=>?_)<;>(try rw [beq_iff_eq] at hc)<;>try simp only [hc]|(refine gs (fun hb=>?_) fun hb=>?_)<;>try simp only [Bool.not_true,Bool.not_false] at hb|refine finF hrel ?_ ?_ ?_)<;>try simp only [go_sem, *])
  refine AR_loop_nat (fun i σ=>σ.tm 1=.ptr ⟨gen,0,0⟩ 0∧σ.tm 2=.ptr ⟨gen,0,1⟩ 0∧σ.tm 6=.ptr ⟨gen,8,1⟩ 0∧σ.h ⟨gen,0,1⟩=some (.box [.int .i64 0,.int .i64 0,.sl .full [],.sl .full []]) ∧
   σ.h ⟨gen,0,0⟩=some (.box (listT (l.drop i)).cells)∧Agree h σ.h∧∃ X,σ.h ⟨gen,8,1⟩=some (.box [.int .i64 2,.int .i64 0,X,.sl .full []])∧OwnS h σ.h X 1 (ints ((l.take i).map fun (n:Nat)=>(n:Int)))) l.length ?_ ?_
  ·simp only [go_sem, *]
   exact ⟨(by repeat (first|exact Agree.refl _|assumption|refine Agree.new ?_ (hgf0 _ _)|refine Agree.new ?_ (hfr' _ _))),.sl .full [],rfl,.inl rfl⟩
  clear ht
  intro i σ hi ⟨j1,j2,j3,j4,j5,j6,X,j7,j8⟩
  refine AR_gen (fun gn hgn=>?_)
  have hgf:=fresh_of hgn
  have hgf0:∀ r i,h ⟨gn,r,i⟩=none:=fun r i=>agree_fresh j6 (hgf r i)
  have e1:=gen_ne hgn j5
  have e2:=gen_ne' hgn j5
  clear hgn
  rcases Nat.lt_or_ge i l.length with hlt|hge
  ·obtain ⟨x,hx⟩:∃ x,l[i]? = some x:=⟨_,List.getElem?_eq_getElem hlt⟩
   have hd:l.drop i=x::l.drop (i+1):=drop_get hx
   have h1:=c_r05number x (by have:=hn x (List.mem_of_getElem? hx);omega)
   rw [hd] at j5
   have hk2:(listT (x::l.drop (i+1))).kind=8:=rfl
   have ha:(listT (x::l.drop (i+1))).args=[numT x,listT (l.drop (i+1))]:=rfl
   have htk:(ints ((l.take (i+1)).map fun (n:Nat)=>(n:Int)))=ints ((l.take i).map fun (n:Nat)=>(n:Int))++[[.int .i64 (x:Int)]]:=by rw [List.take_add_one,hx];simp [ints]
   rw [htk]
   generalize listT (x::l.drop (i+1))=t' at *
   generalize numT x=u' at *
   repeat' (first
    | (refine ⟨?_,?_⟩;focus ((repeat' (first|refine And.intro ?_ ?_|refine Or.inr ?_));all_goals kernel_rfl))
    | (refine okE_app_own j8 (by repeat (first|exact Keeps.refl _|refine Keeps.new ?_ (hgf _ _)|refine Keeps.new ?_ (hfr' _ _)|refine Keeps.box ?_ rfl|refine Keeps.box ?_ (by simp only [go_sem, *]))) rfl (by simp only [go_sem, *]<;>omega) (by first|exact hgf0 _ _|exact hfr' _ _) (by simp only [go_sem, *]) (by intro hd;cases hd) ?_;intro v' h' log' jO jK jAg jAb jF;simp only [go_sem, *])
    | (first|refine wp rfl ?_|refine spt rfl ?_|refine spf rfl ?_|(refine spl (fun hc=>?_) fun hc=>?_)<;>(try rw [beq_iff_eq] at hc)<;>try simp only [hc]|(refine gs (fun hb=>?_) fun hb=>?_)<;>try simp only [Bool.not_true,Bool.not_false] at hb|refine cp (h1) ?_|refine AR_inv ?_)<;>try simp only [go_sem, *])
   obtain ⟨cO,rfl⟩:=jO.val
   have k1:h' ⟨gen,8,1⟩=some (.box [.int .i64 2,.int .i64 0,X,.sl .full []]):=by rw [jK _ (by rw [j7];rfl),j7]
   have k2:h' ⟨gen,0,0⟩=some (.box t'.cells):=by rw [jK _ (by rw [j5];rfl),j5]
   have k3:h' ⟨gen,0,1⟩=some (.box [.int .i64 0,.int .i64 0,.sl .full [],.sl .full []]):=by rw [jK _ (by rw [j4];rfl),j4]
   simp only [go_sem, *,k1]
   repeat' (first
    | (refine ⟨?_,?_⟩;focus ((repeat' (first|refine And.intro ?_ ?_|refine Or.inr ?_));all_goals kernel_rfl))
    | (first|refine wp rfl ?_|refine spt rfl ?_|refine spf rfl ?_|(refine spl (fun hc=>?_) fun hc=>?_)<;>(try rw [beq_iff_eq] at hc)<;>try simp only [hc]|(refine gs (fun hb=>?_) fun hb=>?_)<;>try simp only [Bool.not_true,Bool.not_false] at hb|refine AR_inv ?_)<;>try simp only [go_sem, *])
   exact ⟨Agree.new (Agree.new (jAg j6) (hfr' _ _)) (hfr' _ _),_,rfl,jO.keep (Keeps.box (Keeps.box (Keeps.refl _) (by rw [k1];rfl)) (by simp [hset,k2,isBox]))⟩
  ·obtain rfl:i=l.length:=by omega
   have hk2:(listT (l.drop l.length)).kind=7:=by rw [List.drop_length];rfl
   have e3:l.take l.length=l:=List.take_of_length_le (Nat.le_refl _)
   rw [e3] at j8
   obtain ⟨c,j8⟩:=j8.val
   subst j8
   generalize listT (l.drop l.length)=t' at *
   repeat' (first
    | (refine ⟨?_,?_⟩;focus ((repeat' (first|refine And.intro ?_ ?_|refine Or.inr ?_));all_goals kernel_rfl))
    | exact hin _|exact agf (by assumption)
    | (first|refine wp rfl ?_|refine spt rfl ?_|refine spf rfl ?_|(refine spl (fun hc=>?_) fun hc=>?_)<;>(try rw [beq_iff_eq] at hc)<;>try simp only [hc]|(refine gs (fun hb=>?_) fun hb=>?_)<;>try simp only [Bool.not_true,Bool.not_false] at hb|refine finF hrel ?_ ?_ ?_)<;>try simp only [go_sem, *])
 ·
  refine en Tryz.func43 [.cell 2 42,.tmp 3] rfl rfl fun g0 w0 gen hrel hfr hfr' hres=>?_
  repeat' (first
   | (refine ⟨?_,?_⟩;focus ((repeat' (first|refine And.intro ?_ ?_|refine Or.inr ?_));all_goals kernel_rfl))
   | exact hin _|exact agf (by assumption)
   | (first|refine wp rfl ?_|refine spt rfl ?_|refine spf rfl ?_|(refine spl (fun hc=>?_) fun hc=>?_)<;>(try rw [beq_iff_eq] at hc)<;>try simp only [hc]|(refine gs (fun hb=>?_) fun hb=>?_)<;>try simp only [Bool.not_true,Bool.not_false] at hb|refine finF hrel ?_ ?_ ?_)<;>try simp only [go_sem, *])
  refine AR_loop_nat (fun i σ=>σ.tm 1=.ptr ⟨gen,0,0⟩ 0∧σ.tm 2=.ptr ⟨gen,0,1⟩ 0∧σ.tm 6=.ptr ⟨gen,8,1⟩ 0∧σ.h ⟨gen,0,1⟩=some (.box [.int .i64 0,.int .i64 0,.sl .full [],.sl .full []]) ∧
   σ.h ⟨gen,0,0⟩=some (.box (listT (l.drop i)).cells)∧Agree h σ.h∧∃ X,σ.h ⟨gen,8,1⟩=some (.box [.int .i64 2,.int .i64 0,X,.sl .full []])∧OwnS h σ.h X 1 (ints ((l.take i).map fun (n:Nat)=>(n:Int)))) l.length ?_ ?_
  ·simp only [go_sem, *]
   exact ⟨(by repeat (first|exact Agree.refl _|assumption|refine Agree.new ?_ (hgf0 _ _)|refine Agree.new ?_ (hfr' _ _))),.sl .full [],rfl,.inl rfl⟩
  clear ht
  intro i σ hi ⟨j1,j2,j3,j4,j5,j6,X,j7,j8⟩
  refine AR_gen (fun gn hgn=>?_)
  have hgf:=fresh_of hgn
  have hgf0:∀ r i,h ⟨gn,r,i⟩=none:=fun r i=>agree_fresh j6 (hgf r i)
  have e1:=gen_ne hgn j5
  have e2:=gen_ne' hgn j5
  clear hgn
  rcases Nat.lt_or_ge i l.length with hlt|hge
  ·obtain ⟨x,hx⟩:∃ x,l[i]? = some x:=⟨_,List.getElem?_eq_getElem hlt⟩
   have hd:l.drop i=x::l.drop (i+1):=drop_get hx
   have h1:=c_r05number x (by have:=hn x (List.mem_of_getElem? hx);omega)
   rw [hd] at j5
   have hk2:(listT (x::l.drop (i+1))).kind=8:=rfl
   have ha:(listT (x::l.drop (i+1))).args=[numT x,listT (l.drop (i+1))]:=rfl
   have htk:(ints ((l.take (i+1)).map fun (n:Nat)=>(n:Int)))=ints ((l.take i).map fun (n:Nat)=>(n:Int))++[[.int .i64 (x:Int)]]:=by rw [List.take_add_one,hx];simp [ints]
   rw [htk]
   generalize listT (x::l.drop (i+1))=t' at *
   generalize numT x=u' at *
   repeat' (first
    | (refine ⟨?_,?_⟩;focus ((repeat' (first|refine And.intro ?_ ?_|refine Or.inr ?_));all_goals kernel_rfl))
    | (refine okE_app_own j8 (by repeat (first|exact Keeps.refl _|refine Keeps.new ?_ (hgf _ _)|refine Keeps.new ?_ (hfr' _ _)|refine Keeps.box ?_ rfl|refine Keeps.box ?_ (by simp only [go_sem, *]))) rfl (by simp only [go_sem, *]<;>omega) (by first|exact hgf0 _ _|exact hfr' _ _) (by simp only [go_sem, *]) (by intro hd;cases hd) ?_;intro v' h' log' jO jK jAg jAb jF;simp only [go_sem, *])
    | (first|refine wp rfl ?_|refine spt rfl ?_|refine spf rfl ?_|(refine spl (fun hc=>?_) fun hc=>?_)<;>(try rw [beq_iff_eq] at hc)<;>try simp only [hc]|(refine gs (fun hb=>?_) fun hb=>?_)<;>try simp only [Bool.not_true,Bool.not_false] at hb|refine cp (h1) ?_|refine AR_inv ?_)<;>try simp only [go_sem, *])
   obtain ⟨cO,rfl⟩:=jO.val
   have k1:h' ⟨gen,8,1⟩=some (.box [.int .i64 2,.int .i64 0,X,.sl .full []]):=by rw [jK _ (by rw [j7];rfl),j7]
   have k2:h' ⟨gen,0,0⟩=some (.box t'.cells):=by rw [jK _ (by rw [j5];rfl),j5]
   have k3:h' ⟨gen,0,1⟩=some (.box [.int .i64 0,.int .i64 0,.sl .full [],.sl .full []]):=by rw [jK _ (by rw [j4];rfl),j4]
   simp only [go_sem, *,k1]
   repeat' (first
    | (refine ⟨?_,?_⟩;focus ((repeat' (first|refine And.intro ?_ ?_|refine Or.inr ?_));all_goals kernel_rfl))
    | (first|refine wp rfl ?_|refine spt rfl ?_|refine spf rfl ?_|(refine spl (fun hc=>?_) fun hc=>?_)<;>(try rw [beq_iff_eq] at hc)<;>try simp only [hc]|(refine gs (fun hb=>?_) fun hb=>?_)<;>try simp only [Bool.not_true,Bool.not_false] at hb|refine AR_inv ?_)<;>try simp only [go_sem, *])
   exact ⟨Agree.new (Agree.new (jAg j6) (hfr' _ _)) (hfr' _ _),_,rfl,jO.keep (Keeps.box (Keeps.box (Keeps.refl _) (by rw [k1];rfl)) (by simp [hset,k2,isBox]))⟩
  ·obtain rfl:i=l.length:=by omega
   have hk2:(listT (l.drop l.length)).kind=7:=by rw [List.drop_length];rfl
   have e3:l.take l.length=l:=List.take_of_length_le (Nat.le_refl _)
   rw [e3] at j8
   obtain ⟨c,j8⟩:=j8.val
   subst j8
   generalize listT (l.drop l.length)=t' at *
   repeat' (first
    | (refine ⟨?_,?_⟩;focus ((repeat' (first|refine And.intro ?_ ?_|refine Or.inr ?_));all_goals kernel_rfl))
    | exact hin _|exact agf (by assumption)
    | (first|refine wp rfl ?_|refine spt rfl ?_|refine spf rfl ?_|(refine spl (fun hc=>?_) fun hc=>?_)<;>(try rw [beq_iff_eq] at hc)<;>try simp only [hc]|(refine gs (fun hb=>?_) fun hb=>?_)<;>try simp only [Bool.not_true,Bool.not_false] at hb|refine finF hrel ?_ ?_ ?_)<;>try simp only [go_sem, *])
end Go.Proofs.YtbfilinnoedfeaaGreatDoor
