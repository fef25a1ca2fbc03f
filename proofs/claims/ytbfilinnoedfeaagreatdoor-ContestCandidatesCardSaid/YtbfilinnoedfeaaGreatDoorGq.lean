/-
 Walks: the types of terms (references).
-/
import Derived.Test.YtbfilinnoedfeaaGreatDoorMg
import Derived.Test.YtbfilinnoedfeaaGreatDoorMc
import Derived.Test.YtbfilinnoedfeaaGreatDoorAbsD
set_option linter.unusedSimpArgs false
set_option linter.unusedVariables false
set_option maxRecDepth 20000
set_option maxHeartbeats 4000000
namespace Go.Proofs.YtbfilinnoedfeaaGreatDoor
open Go GoAbs Go.Proofs
theorem c_ok (t:Ty) (ht:TyG t):Pure Tryz.prog env 138 [.agg t.cells] (.tup [.agg t.cells,.int .i64 0]):=by
 intro h
 have h1:=c_refTyCheck t ht.1.W
 rw [ht.err] at h1
 have n0:((0:Int) != 0)=false:=rfl
 clear ht
 refine en Tryz.func138 [.cell 2 29,.tmp 3] rfl rfl fun g0 w0 gen hrel hfr hfr' hres=>?_
 repeat' (first
  | exact hin _|exact agf (by assumption)
  | (first|refine wp rfl ?_|refine spt rfl ?_|refine spf rfl ?_|(refine spl (fun hc=>?_) fun hc=>?_)<;>(try rw [beq_iff_eq] at hc)<;>try simp only [hc]|refine cp (h1) ?_|refine finF hrel ?_ ?_ ?_)<;>try simp only [go_sem, *])
theorem c_inferNode (g:List Ty) (k:Int) (ty:Ty) (hty:TyW ty) (l:List Tm) (ts:List Ty) (s:Ty) (hN:NodeTy TyG k ty ts s) (hlen:l.length=ts.length) (hts:∀ y∈ts,TyW y)
  (ih:∀ (j:Nat) (x:Tm) (a:Ty),l[j]? = some x→ts[j]? = some a→Pure Tryz.prog env 83 [.sl .any (g.map Ty.cells),.agg x.cells] (.tup [.agg a.cells,.int .i64 0])) :
  Pure Tryz.prog env 83 [.sl .any (g.map Ty.cells),.agg (tmT k ty l).cells] (.tup [.agg s.cells,.int .i64 0]):=by
 intro h
 have hk1:(k==1)=false:=by cases hN<;>rfl
 have hk2:(k==2)=false:=by cases hN<;>rfl
 have hl3:l.length≤3:=by rw [hlen];cases hN<;>simp
 have e1:(tmT k ty l).kind=k:=rfl
 have e2:(tmT k ty l).type=ty:=rfl
 have e3:(tmT k ty l).args=l:=rfl
 generalize tmT k ty l=t at *
 have n0:((0:Int) != 0)=false:=rfl
 have hget:∀ (i:Nat) (x:Tm),l[i]? = some x→∃ a,ts[i]? = some a:=fun i x hx=>⟨_,List.getElem?_eq_getElem (by have:=(List.getElem?_eq_some_iff.1 hx).1;omega)⟩
 have hlen':ts.take l.length=ts:=by rw [hlen,List.take_length]
 clear hlen
 refine en Tryz.func83 [.cell 4 29,.tmp 5] rfl rfl fun g0 w0 gen hrel hfr hfr' hres=>?_
 repeat' (first
  | (refine ⟨?_,?_⟩;focus ((repeat' (first|refine And.intro ?_ ?_|refine Or.inr ?_));all_goals kernel_rfl))
  | exact hin _|exact agf (by assumption)
  | (first|refine wp rfl ?_|refine spt rfl ?_|refine spf rfl ?_|(refine spl (fun hc=>?_) fun hc=>?_)<;>(try rw [beq_iff_eq] at hc)<;>try simp only [hc]|(refine gs (fun hb=>?_) fun hb=>?_)<;>try simp only [Bool.not_true,Bool.not_false] at hb|refine finF hrel ?_ ?_ ?_)<;>try simp only [go_sem, *])
 refine AR_range [0,3,4,67] [⟨gen,0,0⟩,⟨gen,0,1⟩] (fun i σ=>Agree h σ.h∧OwnS h σ.h (σ.tm 8) 2 ((ts.take i).map Ty.cells)) (l).length (by first|omega|(simp only [go_sem, *]<;>omega)) ⟨rfl,rfl,rfl⟩ rfl (by simp only [go_sem, *]) (by simp only [go_sem, *]) ?_ (by intro i σ t v ht hK;simp only [List.mem_cons,List.not_mem_nil,or_false] at ht;rcases ht with rfl|rfl|rfl<;>exact hK) ?_ ?_
 ·simp only [go_sem, *]
  exact ⟨(by repeat (first|exact Agree.refl _|assumption|refine Agree.new ?_ (hgf0 _ _)|refine Agree.new ?_ (hfr' _ _))),.inl rfl⟩
 ·clear hlen' hN hts
  intro i σ gr0 hgl_gr0 hgn hlt jI jN jS ⟨jA,jO0⟩
  obtain ⟨jT,jB⟩:=jS
  simp only [go_sem] at jT jB
  have hgf:=fresh_of hgn
  have hgf0:∀ r i,h ⟨gr0,r,i⟩=none:=fun r i=>agree_fresh jA (hgf r i)
  have eg_gen_gr0:=gen_lt (show gen<gr0 by omega)
  have eh_gen_gr0:=gen_lt' (show gen<gr0 by omega)
  obtain ⟨x,hx⟩:∃ x,(l)[i]? = some x:=⟨_,List.getElem?_eq_getElem hlt⟩
  have hxm:=List.mem_of_getElem? hx
  have hm:=min_lt hlt
  clear hgn
  obtain ⟨a,ha⟩:=hget i x hx
  have hc:=ih i x a hx ha
  have hts:(ts.take (i+1)).map Ty.cells=(ts.take i).map Ty.cells++[a.cells]:=by rw [map_take_succ ha]
  have htl:(ts.take i).length=i:=by rw [List.length_take];have:=(List.getElem?_eq_some_iff.1 ha).1;omega
  clear ih hget
  repeat' (first
   | (refine ⟨?_,?_⟩;focus ((repeat' (first|refine And.intro ?_ ?_|refine Or.inr ?_));all_goals kernel_rfl))
   | (refine okE_app_own jO0 (by repeat (first|exact Keeps.refl _|refine Keeps.new ?_ (hgf _ _)|refine Keeps.new ?_ (hfr' _ _)|refine Keeps.box ?_ rfl|refine Keeps.box ?_ (by simp only [go_sem, *]))) rfl (by simp only [go_sem, *]<;>omega) (by first|exact hgf0 _ _|exact hfr' _ _) (by simp only [go_sem, *]) (by intro hd;cases hd) ?_;intro v' h' log' jO jK jAg jAb jF;simp only [go_sem, *])
   | (first|refine wp rfl ?_|refine spt rfl ?_|refine spf rfl ?_|(refine spl (fun hc=>?_) fun hc=>?_)<;>(try rw [beq_iff_eq] at hc)<;>try simp only [hc]|(refine gs (fun hb=>?_) fun hb=>?_)<;>try simp only [Bool.not_true,Bool.not_false] at hb|refine cp (hc) ?_|refine AR_inv ?_)<;>try simp only [go_sem, *])
  exact jAg (by repeat (first|exact jA|refine Agree.new ?_ (hgf0 _ _)))
 ·
  intro σ ga0 hgl_ga0 hgn jS ⟨jA,jO0⟩
  obtain ⟨jT,jB⟩:=jS
  simp only [go_sem] at jT jB
  have hgf:=fresh_of hgn
  have hgf0:∀ r i,h ⟨ga0,r,i⟩=none:=fun r i=>agree_fresh jA (hgf r i)
  have eg_gen_ga0:=gen_lt (show gen<ga0 by omega)
  have eh_gen_ga0:=gen_lt' (show gen<ga0 by omega)
  clear hgn
  rw [hlen'] at jO0
  obtain ⟨c,jO0⟩:=jO0.val
  clear ih hget hlen'
  have hS:∀ y,TyW y→Pure Tryz.prog env 13 [.agg y.cells,.agg y.cells] (.bool true):=fun y hy=>by
   have:=c_refSame y hy y hy
   rw [Ty.same_refl] at this;exact this
  have hgen:True:=trivial
  cases hN with
  | @app _ a _ =>
   have wa:=hts a (by simp)
   have s1:=hS a wa
   have f1:(tFun a s).kind=4:=rfl
   have f2:(tFun a s).args=[a,s]:=rfl
   have q4:((4:Int) != 4)=false:=rfl
   clear hS hts
   repeat' (first
    | (refine ⟨?_,?_⟩;focus ((repeat' (first|refine And.intro ?_ ?_|refine Or.inr ?_));all_goals kernel_rfl))
    | exact hin _|exact agf (by assumption)
    | (first|refine wp rfl ?_|refine spt rfl ?_|refine spf rfl ?_|(refine spl (fun hc=>?_) fun hc=>?_)<;>(try rw [beq_iff_eq] at hc)<;>try simp only [hc]|(refine gs (fun hb=>?_) fun hb=>?_)<;>try simp only [Bool.not_true,Bool.not_false] at hb|refine cp (s1) ?_|refine cp (c_refNat) ?_|refine cp (c_refList) ?_|refine finF hrel ?_ ?_ ?_)<;>try simp only [go_sem, *])
  | zero =>
   skip
   clear hS hts
   repeat' (first
    | (refine ⟨?_,?_⟩;focus ((repeat' (first|refine And.intro ?_ ?_|refine Or.inr ?_));all_goals kernel_rfl))
    | exact hin _|exact agf (by assumption)
    | (first|refine wp rfl ?_|refine spt rfl ?_|refine spf rfl ?_|(refine spl (fun hc=>?_) fun hc=>?_)<;>(try rw [beq_iff_eq] at hc)<;>try simp only [hc]|(refine gs (fun hb=>?_) fun hb=>?_)<;>try simp only [Bool.not_true,Bool.not_false] at hb|refine cp (c_refNat) ?_|refine cp (c_refList) ?_|refine finF hrel ?_ ?_ ?_)<;>try simp only [go_sem, *])
  | succ =>
   have s1:=hS tNat tNat_W
   clear hS hts
   repeat' (first
    | (refine ⟨?_,?_⟩;focus ((repeat' (first|refine And.intro ?_ ?_|refine Or.inr ?_));all_goals kernel_rfl))
    | exact hin _|exact agf (by assumption)
    | (first|refine wp rfl ?_|refine spt rfl ?_|refine spf rfl ?_|(refine spl (fun hc=>?_) fun hc=>?_)<;>(try rw [beq_iff_eq] at hc)<;>try simp only [hc]|(refine gs (fun hb=>?_) fun hb=>?_)<;>try simp only [Bool.not_true,Bool.not_false] at hb|refine cp (c_refNat) ?_|refine cp (s1) ?_|refine cp (c_refList) ?_|refine finF hrel ?_ ?_ ?_)<;>try simp only [go_sem, *])
  | recr =>
   have wt:=hts ty (by simp)
   have s1:=hS ty wt
   have w1:=tFun_W wt wt
   have w2:=tFun_W tNat_W w1
   have s2:=hS _ w2
   have s3:=hS _ tNat_W
   have r1:=c_refFun ty ty wt wt
   have r2:=c_refFun tNat _ tNat_W w1
   have r3:=c_refCopy ty wt
   clear hS hts
   repeat' (first
    | (refine ⟨?_,?_⟩;focus ((repeat' (first|refine And.intro ?_ ?_|refine Or.inr ?_));all_goals kernel_rfl))
    | exact hin _|exact agf (by assumption)
    | (first|refine wp rfl ?_|refine spt rfl ?_|refine spf rfl ?_|(refine spl (fun hc=>?_) fun hc=>?_)<;>(try rw [beq_iff_eq] at hc)<;>try simp only [hc]|(refine gs (fun hb=>?_) fun hb=>?_)<;>try simp only [Bool.not_true,Bool.not_false] at hb|refine cp (c_refNat) ?_|refine cp (s1) ?_|refine cp (s2) ?_|refine cp (s3) ?_|refine cp (r1) ?_|refine cp (r2) ?_|refine cp (r3) ?_|refine cp (c_refList) ?_|refine finF hrel ?_ ?_ ?_)<;>try simp only [go_sem, *])
  | nil =>
   skip
   clear hS hts
   repeat' (first
    | (refine ⟨?_,?_⟩;focus ((repeat' (first|refine And.intro ?_ ?_|refine Or.inr ?_));all_goals kernel_rfl))
    | exact hin _|exact agf (by assumption)
    | (first|refine wp rfl ?_|refine spt rfl ?_|refine spf rfl ?_|(refine spl (fun hc=>?_) fun hc=>?_)<;>(try rw [beq_iff_eq] at hc)<;>try simp only [hc]|(refine gs (fun hb=>?_) fun hb=>?_)<;>try simp only [Bool.not_true,Bool.not_false] at hb|refine cp (c_refNat) ?_|refine cp (c_refList) ?_|refine finF hrel ?_ ?_ ?_)<;>try simp only [go_sem, *])
  | cons =>
   have s1:=hS tNat tNat_W
   have s2:=hS tList tList_W
   clear hS hts
   repeat' (first
    | (refine ⟨?_,?_⟩;focus ((repeat' (first|refine And.intro ?_ ?_|refine Or.inr ?_));all_goals kernel_rfl))
    | exact hin _|exact agf (by assumption)
    | (first|refine wp rfl ?_|refine spt rfl ?_|refine spf rfl ?_|(refine spl (fun hc=>?_) fun hc=>?_)<;>(try rw [beq_iff_eq] at hc)<;>try simp only [hc]|(refine gs (fun hb=>?_) fun hb=>?_)<;>try simp only [Bool.not_true,Bool.not_false] at hb|refine cp (c_refNat) ?_|refine cp (c_refList) ?_|refine cp (s1) ?_|refine cp (s2) ?_|refine finF hrel ?_ ?_ ?_)<;>try simp only [go_sem, *])
  | fold =>
   have wt:=hts ty (by simp)
   have s1:=hS ty wt
   have w1:=tFun_W wt wt
   have w2:=tFun_W tList_W w1
   have w3:=tFun_W tNat_W w2
   have s2:=hS _ w3
   have s3:=hS _ tList_W
   have r1:=c_refFun ty ty wt wt
   have r2:=c_refFun tList _ tList_W w1
   have r4:=c_refFun tNat _ tNat_W w2
   have r3:=c_refCopy ty wt
   clear hS hts
   repeat' (first
    | (refine ⟨?_,?_⟩;focus ((repeat' (first|refine And.intro ?_ ?_|refine Or.inr ?_));all_goals kernel_rfl))
    | exact hin _|exact agf (by assumption)
    | (first|refine wp rfl ?_|refine spt rfl ?_|refine spf rfl ?_|(refine spl (fun hc=>?_) fun hc=>?_)<;>(try rw [beq_iff_eq] at hc)<;>try simp only [hc]|(refine gs (fun hb=>?_) fun hb=>?_)<;>try simp only [Bool.not_true,Bool.not_false] at hb|refine cp (c_refNat) ?_|refine cp (c_refList) ?_|refine cp (s1) ?_|refine cp (s2) ?_|refine cp (s3) ?_|refine cp (r1) ?_|refine cp (r2) ?_|refine cp (r3) ?_|refine cp (r4) ?_|refine finF hrel ?_ ?_ ?_)<;>try simp only [go_sem, *])
  | @pair _ a b hp =>
   have wa:=hts a (by simp)
   have wb:=hts b (by simp)
   have r1:=c_refTwo a b wa wb
   have r2:=c_ok _ hp
   clear hS hts
   repeat' (first
    | (refine ⟨?_,?_⟩;focus ((repeat' (first|refine And.intro ?_ ?_|refine Or.inr ?_));all_goals kernel_rfl))
    | exact hin _|exact agf (by assumption)
    | (first|refine wp rfl ?_|refine spt rfl ?_|refine spf rfl ?_|(refine spl (fun hc=>?_) fun hc=>?_)<;>(try rw [beq_iff_eq] at hc)<;>try simp only [hc]|(refine gs (fun hb=>?_) fun hb=>?_)<;>try simp only [Bool.not_true,Bool.not_false] at hb|refine cp (r1) ?_|refine cp (r2) ?_|refine cp (c_refNat) ?_|refine cp (c_refList) ?_|refine finF hrel ?_ ?_ ?_)<;>try simp only [go_sem, *])
  | @fst _ _ b =>
   have f1:(tPair s b).kind=3:=rfl
   have f2:(tPair s b).args=[s,b]:=rfl
   have q3:((3:Int) != 3)=false:=rfl
   clear hS hts
   repeat' (first
    | (refine ⟨?_,?_⟩;focus ((repeat' (first|refine And.intro ?_ ?_|refine Or.inr ?_));all_goals kernel_rfl))
    | exact hin _|exact agf (by assumption)
    | (first|refine wp rfl ?_|refine spt rfl ?_|refine spf rfl ?_|(refine spl (fun hc=>?_) fun hc=>?_)<;>(try rw [beq_iff_eq] at hc)<;>try simp only [hc]|(refine gs (fun hb=>?_) fun hb=>?_)<;>try simp only [Bool.not_true,Bool.not_false] at hb|refine cp (c_refNat) ?_|refine cp (c_refList) ?_|refine finF hrel ?_ ?_ ?_)<;>try simp only [go_sem, *])
  | @snd _ a _ =>
   have f1:(tPair a s).kind=3:=rfl
   have f2:(tPair a s).args=[a,s]:=rfl
   have q3:((3:Int) != 3)=false:=rfl
   clear hS hts
   repeat' (first
    | (refine ⟨?_,?_⟩;focus ((repeat' (first|refine And.intro ?_ ?_|refine Or.inr ?_));all_goals kernel_rfl))
    | exact hin _|exact agf (by assumption)
    | (first|refine wp rfl ?_|refine spt rfl ?_|refine spf rfl ?_|(refine spl (fun hc=>?_) fun hc=>?_)<;>(try rw [beq_iff_eq] at hc)<;>try simp only [hc]|(refine gs (fun hb=>?_) fun hb=>?_)<;>try simp only [Bool.not_true,Bool.not_false] at hb|refine cp (c_refNat) ?_|refine cp (c_refList) ?_|refine finF hrel ?_ ?_ ?_)<;>try simp only [go_sem, *])
  | unit =>
   skip
   clear hS hts
   repeat' (first
    | (refine ⟨?_,?_⟩;focus ((repeat' (first|refine And.intro ?_ ?_|refine Or.inr ?_));all_goals kernel_rfl))
    | exact hin _|exact agf (by assumption)
    | (first|refine wp rfl ?_|refine spt rfl ?_|refine spf rfl ?_|(refine spl (fun hc=>?_) fun hc=>?_)<;>(try rw [beq_iff_eq] at hc)<;>try simp only [hc]|(refine gs (fun hb=>?_) fun hb=>?_)<;>try simp only [Bool.not_true,Bool.not_false] at hb|refine cp (c_refUnit) ?_|refine cp (c_refNat) ?_|refine cp (c_refList) ?_|refine finF hrel ?_ ?_ ?_)<;>try simp only [go_sem, *])
theorem c_infer {g:List Ty} {t:Tm} {s:Ty} (h:HasTy TyG g t s):(∀ y∈g,TyW y)→TmW t→g.length+tmSz t≤1000000 →
  Pure Tryz.prog env 83 [.sl .any (g.map Ty.cells),.agg t.cells] (.tup [.agg s.cells,.int .i64 0]):=by
 induction h with
 | @var g i t hi hg =>
  intro hw _ hb h
  rw [tmSz_v] at hb
  have e1:(tmVar (i:Int)).kind=1:=rfl
  have e2:(tmVar (i:Int)).index=(i:Int):=rfl
  have hc:=c_refCopy t (hw t (List.mem_of_getElem? hg))
  have w1:IntKind.i64.wrap ((g.length:Int) - 1)=((g.length - 1:Nat):Int):=wrap_eq (by omega) (by omega) (by omega)
  have w2:IntKind.i64.wrap (((g.length - 1:Nat):Int) - (i:Int))=((g.length - 1 - i:Nat):Int):=wrap_eq (by omega) (by omega) (by omega)
  have hd:decide ((i:Int)≥(g.length:Int))=false:=by simp;omega
  generalize tmVar (i:Int)=x at *
  clear hw hi
  refine en Tryz.func83 [.cell 4 29,.tmp 5] rfl rfl fun g0 w0 gen hrel hfr hfr' hres=>?_
  repeat' (first
   | (refine ⟨?_,?_⟩;focus ((repeat' (first|refine And.intro ?_ ?_|refine Or.inr ?_));all_goals kernel_rfl))
   | exact hin _|exact agf (by assumption)
   | (first|refine wp rfl ?_|refine spt rfl ?_|refine spf rfl ?_|(refine spl (fun hc=>?_) fun hc=>?_)<;>(try rw [beq_iff_eq] at hc)<;>try simp only [hc]|(refine gs (fun hb=>?_) fun hb=>?_)<;>try simp only [Bool.not_true,Bool.not_false] at hb|refine cp (hc) ?_|refine finF hrel ?_ ?_ ?_)<;>try simp only [go_sem, *])
 | @lam g a b t ht _ ih =>
  intro hw hW hb h
  rw [tmSz_T1] at hb
  have wa:=hW.ty
  have wt:TmW t:=hW.arg (by simp [tmT,Tm.args])
  have hwa:TyW a:=wa
  have hc:=ih (by intro y hy;rcases List.mem_append.1 hy with hy|hy;exact hw y hy;simp at hy;subst hy;exact hwa) wt (by simp;omega)
  have wb:TyW b:=by have:=ht.1.W;exact this.arg (by simp [tFun,Ty.args])
  have r1:=c_refFun a b hwa wb
  have r2:=c_ok _ ht
  have e1:(tmT 2 a [t]).kind=2:=rfl
  have e2:(tmT 2 a [t]).type=a:=rfl
  have e3:(tmT 2 a [t]).args=[t]:=rfl
  have n0:((0:Int) != 0)=false:=rfl
  have hwk:weakLL (g.map Ty.cells++[a.cells])=(g++[a]).map Ty.cells:=by rw [← weakLL_Ty (g++[a])];simp
  have b3:(g.length+1) * 32≤140737488355328:=by omega
  have b4:g.length+1≤140737488355328:=by omega
  have t1:(0:Int)≤(g.length:Int):=by omega
  have t2:((g.length:Int)).toNat=g.length:=Int.toNat_natCast _
  have t3:List.take g.length (g.map Ty.cells)=g.map Ty.cells:=List.take_of_length_le (by simp)
  have t4:0≤g.length:=by omega
  have t5:g.length≤g.length:=Nat.le_refl _
  have mn:∀ (f:Operand→V),Option.map f none=none:=fun _=>rfl
  have ml:(g.map Ty.cells).length=g.length:=by simp
  generalize tmT 2 a [t]=x at *
  clear hw hW ih wa wt wb hwa ht
  refine en Tryz.func83 [.cell 4 29,.tmp 5] rfl rfl fun g0 w0 gen hrel hfr hfr' hres=>?_
  repeat' (first
   | (refine ⟨?_,?_⟩;focus ((repeat' (first|refine And.intro ?_ ?_|refine Or.inr ?_));all_goals kernel_rfl))
   | exact hin _|exact agf (by assumption)
   | (first|refine wp rfl ?_|refine spt rfl ?_|refine spf rfl ?_|(refine spl (fun hc=>?_) fun hc=>?_)<;>(try rw [beq_iff_eq] at hc)<;>try simp only [hc]|(refine gs (fun hb=>?_) fun hb=>?_)<;>try simp only [Bool.not_true,Bool.not_false] at hb|refine cp (hc) ?_|refine cp (r1) ?_|refine cp (r2) ?_|refine finF hrel ?_ ?_ ?_)<;>try simp only [go_sem, *])
 | @n0 g k ty s hN =>
  intro hw hW hb
  exact c_inferNode g k ty hW.ty [] [] s hN rfl (by simp) (by intro j x a hx;simp at hx)
 | @n1 g k ty s a x hN h1 ih1 =>
  intro hw hW hb
  have z:tmSz (tmT k ty [x])=tmSz x+1:=tmSz_T1
  have w1:TmW x:=hW.arg (by simp [tmT,Tm.args])
  refine c_inferNode g k ty hW.ty [x] [a] s hN rfl (by simp [(h1.W hw w1).1]) ?_
  intro j y b hy hb'
  match j with
  | 0=>simp at hy hb';subst hy;subst hb';exact ih1 hw w1 (by omega)
  | j+1=>simp at hy
 | @n2 g k ty s a b x y hN h1 h2 ih1 ih2 =>
  intro hw hW hb
  have z:tmSz (tmT k ty [x,y])=tmSz x+tmSz y+1:=by simp [tmT,tmSz,tmSzL]
  have w1:TmW x:=hW.arg (by simp [tmT,Tm.args])
  have w2:TmW y:=hW.arg (by simp [tmT,Tm.args])
  refine c_inferNode g k ty hW.ty [x,y] [a,b] s hN rfl (by simp [(h1.W hw w1).1,(h2.W hw w2).1]) ?_
  intro j u v hu hv
  match j with
  | 0=>simp at hu hv;subst hu;subst hv;exact ih1 hw w1 (by omega)
  | 1=>simp at hu hv;subst hu;subst hv;exact ih2 hw w2 (by omega)
  | j+2=>simp at hu
 | @n3 g k ty s a b c x y z hN h1 h2 h3 ih1 ih2 ih3 =>
  intro hw hW hb
  have zz:tmSz (tmT k ty [x,y,z])=tmSz x+(tmSz y+tmSz z)+1:=tmSz_T3
  have w1:TmW x:=hW.arg (by simp [tmT,Tm.args])
  have w2:TmW y:=hW.arg (by simp [tmT,Tm.args])
  have w3:TmW z:=hW.arg (by simp [tmT,Tm.args])
  refine c_inferNode g k ty hW.ty [x,y,z] [a,b,c] s hN rfl (by simp [(h1.W hw w1).1,(h2.W hw w2).1,(h3.W hw w3).1]) ?_
  intro j u v hu hv
  match j with
  | 0=>simp at hu hv;subst hu;subst hv;exact ih1 hw w1 (by omega)
  | 1=>simp at hu hv;subst hu;subst hv;exact ih2 hw w2 (by omega)
  | 2=>simp at hu hv;subst hu;subst hv;exact ih3 hw w3 (by omega)
  | j+3=>simp at hu
end Go.Proofs.YtbfilinnoedfeaaGreatDoor
