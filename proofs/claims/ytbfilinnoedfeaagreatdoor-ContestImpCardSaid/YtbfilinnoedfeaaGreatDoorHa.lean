/-
 Walks: the package scope.
-/
import Derived.Test.YtbfilinnoedfeaaGreatDoorMb
import Derived.Test.YtbfilinnoedfeaaGreatDoorAbsD
import Derived.Test.YtbfilinnoedfeaaGreatDoorAbsC
set_option linter.unusedSimpArgs false
set_option linter.unusedVariables false
set_option maxRecDepth 20000
set_option maxHeartbeats 4000000
namespace Go.Proofs.YtbfilinnoedfeaaGreatDoor
open Go GoAbs Go.Proofs
theorem c_Nodes:∀ t:Tm,TmW t→Pure Tryz.prog env 150 [.agg t.cells] (.int .i64 t.szW):=by
 intro t
 induction t using Tm.ind with|h t ih=>?_
 intro ht h
 have hlen:=ht.len
 have ih':∀ x∈t.args,Pure Tryz.prog env 150 [.agg x.cells] (.int .i64 x.szW):=fun x hx=>ih x hx (ht.arg hx)
 clear ih
 have hv0:=t.szW_eq.symm
 generalize hvv:t.szW=v at hv0 ⊢
 clear hvv
 refine en Tryz.func150 [.tmp 2] rfl rfl fun g0 w0 gen hrel hfr hfr' hres=>?_
 repeat' (first
  |exact hin _|exact agf (by assumption)
  | (first|refine wp rfl ?_|refine spt rfl ?_|refine spf rfl ?_|(refine spl (fun hc=>?_) fun hc=>?_)<;>(try rw [beq_iff_eq] at hc)<;>try simp only [hc]|refine finF hrel ?_ ?_ ?_)<;>try simp only [go_sem, *])
 refine AR_range [2,7] [] (fun i σ=>Agree h σ.h∧∃ n,σ.tm 3=.int .i64 n∧Tm.szWL n (t.args.drop i)=v) (t.args).length (by first|omega|(simp only [go_sem, *]<;>omega)) ⟨rfl,rfl,rfl⟩ rfl (by simp only [go_sem, *]) (by simp only [go_sem, *]) ?_ (by intro i σ t v ht hK;simp only [List.mem_cons,List.not_mem_nil,or_false] at ht;rcases ht with rfl|rfl|rfl<;>exact hK) ?_ ?_
 ·simp only [go_sem, *]
  exact ⟨(by repeat (first|exact Agree.refl _|assumption|refine Agree.new ?_ (hgf0 _ _)|refine Agree.new ?_ (hfr' _ _))),_,rfl,hv0⟩
 ·clear hv0
  intro i σ gr0 hgl_gr0 hgn hlt jI jN jS ⟨jA,n,jn,jv⟩
  obtain ⟨jT,jB⟩:=jS
  simp only [go_sem] at jT jB
  have hgf:=fresh_of hgn
  have hgf0:=fun r i=>agree_fresh jA (hgf r i)
  have eg_gen_gr0:=gen_lt (show gen<gr0 by omega)
  have eh_gen_gr0:=gen_lt' (show gen<gr0 by omega)
  obtain ⟨x,hx⟩:∃ x,(t.args)[i]? = some x:=⟨_,List.getElem?_eq_getElem hlt⟩
  have hxm:=List.mem_of_getElem? hx
  have hm:=min_lt hlt
  clear hgn
  rw [drop_get hx,Tm.szWL_cons] at jv
  have hc:=ih' x hxm
  clear ih'
  repeat' (first
   |exact hin _|exact agf (by assumption)
   | (first|refine wp rfl ?_|refine spt rfl ?_|refine spf rfl ?_|(refine spl (fun hc=>?_) fun hc=>?_)<;>(try rw [beq_iff_eq] at hc)<;>try simp only [hc]|refine AR_inv ?_|refine cp hc ?_|refine finF hrel ?_ ?_ ?_)<;>try simp only [go_sem, *])
  exact ⟨(by repeat (first|exact Agree.refl _|assumption|refine Agree.new ?_ (hgf0 _ _)|refine Agree.new ?_ (hfr' _ _))),_,rfl,jv⟩
 ·clear hv0
  intro σ ga0 hgl_ga0 hgn jS ⟨jA,n,jn,jv⟩
  obtain ⟨jT,jB⟩:=jS
  simp only [go_sem] at jT jB
  have hgf:=fresh_of hgn
  have hgf0:=fun r i=>agree_fresh jA (hgf r i)
  have eg_gen_ga0:=gen_lt (show gen<ga0 by omega)
  have eh_gen_ga0:=gen_lt' (show gen<ga0 by omega)
  clear hgn
  rw [List.drop_length,Tm.szWL_nil] at jv
  subst jv
  clear ih'
  repeat' (first
   |exact hin _|exact agf (by assumption)
   | (first|refine wp rfl ?_|refine spt rfl ?_|refine spf rfl ?_|(refine spl (fun hc=>?_) fun hc=>?_)<;>(try rw [beq_iff_eq] at hc)<;>try simp only [hc]|refine finF hrel ?_ ?_ ?_)<;>try simp only [go_sem, *])
theorem c_Size:∀ t:Fm,FmW t→Pure Tryz.prog env 198 [.agg t.cells] (.int .i64 t.szW):=by
 intro t
 induction t using Fm.ind with|h t ih=>?_
 intro ht h
 have hlen:=ht.len
 have hlen2:=ht.tlen
 have ih':∀ x∈t.args,Pure Tryz.prog env 198 [.agg x.cells] (.int .i64 x.szW):=fun x hx=>ih x hx (ht.arg hx)
 clear ih
 have hv0:=t.szW_eq.symm
 generalize hvv:t.szW=v at hv0 ⊢
 clear hvv
 refine en Tryz.func198 [.tmp 2] rfl rfl fun g0 w0 gen hrel hfr hfr' hres=>?_
 repeat' (first
  |exact hin _|exact agf (by assumption)
  | (first|refine wp rfl ?_|refine spt rfl ?_|refine spf rfl ?_|(refine spl (fun hc=>?_) fun hc=>?_)<;>(try rw [beq_iff_eq] at hc)<;>try simp only [hc]|refine finF hrel ?_ ?_ ?_)<;>try simp only [go_sem, *])
 refine AR_range [1,2,9] [⟨gen,0,0⟩] (fun i σ=>Agree h σ.h∧∃ n,σ.tm 3=.int .i64 n∧Fm.szWL (Tm.szWL n (t.terms.drop i)) t.args=v) (t.terms).length (by first|omega|(simp only [go_sem, *]<;>omega)) ⟨rfl,rfl,rfl⟩ rfl (by simp only [go_sem, *]) (by simp only [go_sem, *]) ?_ (by intro i σ t v ht hK;simp only [List.mem_cons,List.not_mem_nil,or_false] at ht;rcases ht with rfl|rfl|rfl<;>exact hK) ?_ ?_
 ·simp only [go_sem, *]
  exact ⟨(by repeat (first|exact Agree.refl _|assumption|refine Agree.new ?_ (hgf0 _ _)|refine Agree.new ?_ (hfr' _ _))),_,rfl,hv0⟩
 ·clear hv0 ih'
  intro i σ gr0 hgl_gr0 hgn hlt jI jN jS ⟨jA,n,jn,jv⟩
  obtain ⟨jT,jB⟩:=jS
  simp only [go_sem] at jT jB
  have hgf:=fresh_of hgn
  have hgf0:=fun r i=>agree_fresh jA (hgf r i)
  have eg_gen_gr0:=gen_lt (show gen<gr0 by omega)
  have eh_gen_gr0:=gen_lt' (show gen<gr0 by omega)
  obtain ⟨x,hx⟩:∃ x,(t.terms)[i]? = some x:=⟨_,List.getElem?_eq_getElem hlt⟩
  have hxm:=List.mem_of_getElem? hx
  have hm:=min_lt hlt
  clear hgn
  rw [drop_get hx,Tm.szWL_cons] at jv
  have hc:=c_Nodes x (ht.term hxm)
  repeat' (first
   |exact hin _|exact agf (by assumption)
   | (first|refine wp rfl ?_|refine spt rfl ?_|refine spf rfl ?_|(refine spl (fun hc=>?_) fun hc=>?_)<;>(try rw [beq_iff_eq] at hc)<;>try simp only [hc]|refine AR_inv ?_|refine cp hc ?_|refine finF hrel ?_ ?_ ?_)<;>try simp only [go_sem, *])
  exact ⟨(by repeat (first|exact Agree.refl _|assumption|refine Agree.new ?_ (hgf0 _ _)|refine Agree.new ?_ (hfr' _ _))),_,rfl,jv⟩
 clear hv0
 intro σ ga0 hgl_ga0 hgn jS ⟨jA,n,jn,jv⟩
 obtain ⟨jT,jB⟩:=jS
 simp only [go_sem] at jT jB
 have hgf:=fresh_of hgn
 have hgf0:=fun r i=>agree_fresh jA (hgf r i)
 have eg_gen_ga0:=gen_lt (show gen<ga0 by omega)
 have eh_gen_ga0:=gen_lt' (show gen<ga0 by omega)
 clear hgn
 rw [List.drop_length,Tm.szWL_nil] at jv
 repeat' (first
  |exact hin _|exact agf (by assumption)
  | (first|refine wp rfl ?_|refine spt rfl ?_|refine spf rfl ?_|(refine spl (fun hc=>?_) fun hc=>?_)<;>(try rw [beq_iff_eq] at hc)<;>try simp only [hc]|refine finF hrel ?_ ?_ ?_)<;>try simp only [go_sem, *])
 refine AR_range [2,21] [] (fun i σ=>Agree h σ.h∧∃ n,σ.tm 3=.int .i64 n∧Fm.szWL n (t.args.drop i)=v) (t.args).length (by first|omega|(simp only [go_sem, *]<;>omega)) ⟨rfl,rfl,rfl⟩ rfl (by simp only [go_sem, *]) (by simp only [go_sem, *]) ?_ (by intro i σ t v ht hK;simp only [List.mem_cons,List.not_mem_nil,or_false] at ht;rcases ht with rfl|rfl|rfl<;>exact hK) ?_ ?_
 ·simp only [go_sem, *]
  first|exact ⟨_,rfl,jv⟩|exact ⟨(by repeat (first|exact Agree.refl _|assumption|refine Agree.new ?_ (hgf0 _ _)|refine Agree.new ?_ (hfr' _ _))),_,rfl,jv⟩
 ·clear jv
  intro i σ gr1 hgl_gr1 hgn hlt jI jN jS ⟨jA,n',jn',jv⟩
  obtain ⟨jT,jB⟩:=jS
  simp only [go_sem] at jT jB
  have hgf:=fresh_of hgn
  have hgf0:=fun r i=>agree_fresh jA (hgf r i)
  have eg_gen_gr1:=gen_lt (show gen<gr1 by omega)
  have eh_gen_gr1:=gen_lt' (show gen<gr1 by omega)
  have eg_ga0_gr1:=gen_lt (show ga0<gr1 by omega)
  have eh_ga0_gr1:=gen_lt' (show ga0<gr1 by omega)
  obtain ⟨x,hx⟩:∃ x,(t.args)[i]? = some x:=⟨_,List.getElem?_eq_getElem hlt⟩
  have hxm:=List.mem_of_getElem? hx
  have hm:=min_lt hlt
  clear hgn
  rw [drop_get hx,Fm.szWL_cons] at jv
  have hc:=ih' x hxm
  clear ih'
  repeat' (first
   |exact hin _|exact agf (by assumption)
   | (first|refine wp rfl ?_|refine spt rfl ?_|refine spf rfl ?_|(refine spl (fun hc=>?_) fun hc=>?_)<;>(try rw [beq_iff_eq] at hc)<;>try simp only [hc]|refine AR_inv ?_|refine cp hc ?_|refine finF hrel ?_ ?_ ?_)<;>try simp only [go_sem, *])
  exact ⟨(by repeat (first|exact Agree.refl _|assumption|refine Agree.new ?_ (hgf0 _ _)|refine Agree.new ?_ (hfr' _ _))),_,rfl,jv⟩
 ·clear jv
  intro σ ga1 hgl_ga1 hgn jS ⟨jA,n',jn',jv⟩
  obtain ⟨jT,jB⟩:=jS
  simp only [go_sem] at jT jB
  have hgf:=fresh_of hgn
  have hgf0:=fun r i=>agree_fresh jA (hgf r i)
  have eg_gen_ga1:=gen_lt (show gen<ga1 by omega)
  have eh_gen_ga1:=gen_lt' (show gen<ga1 by omega)
  have eg_ga0_ga1:=gen_lt (show ga0<ga1 by omega)
  have eh_ga0_ga1:=gen_lt' (show ga0<ga1 by omega)
  clear hgn
  rw [List.drop_length,Fm.szWL_nil] at jv
  subst jv
  clear ih'
  repeat' (first
   |exact hin _|exact agf (by assumption)
   | (first|refine wp rfl ?_|refine spt rfl ?_|refine spf rfl ?_|(refine spl (fun hc=>?_) fun hc=>?_)<;>(try rw [beq_iff_eq] at hc)<;>try simp only [hc]|refine finF hrel ?_ ?_ ?_)<;>try simp only [go_sem, *])
theorem c_Far:∀ t:Tm,TmW t→Pure Tryz.prog env 105 [.agg t.cells] (.bool (!t.least 268435456)):=by
 intro t
 induction t using Tm.ind with|h t ih=>?_
 intro ht h
 have hlen:=ht.len
 have ih':∀ x∈t.args,Pure Tryz.prog env 105 [.agg x.cells] (.bool (!x.least 268435456)):=fun x hx=>ih x hx (ht.arg hx)
 clear ih
 have hv0:(!(decide (t.index≤268435456)&&Tm.leastL 268435456 t.args))=!t.least 268435456:=by rw [t.least_eq]
 generalize hvv:(!t.least 268435456)=v at hv0 ⊢
 clear hvv
 cases hi:decide (t.index>268435456) with
 | true =>
  have:decide (t.index≤268435456)=false:=by simp at hi ⊢;omega
  rw [this,Bool.false_and,Bool.not_false] at hv0
  subst hv0
  clear ih' this
  refine en Tryz.func105 [.tmp 2] rfl rfl fun g0 w0 gen hrel hfr hfr' hres=>?_
  repeat' (first
   |exact hin _|exact agf (by assumption)
   | (first|refine wp rfl ?_|refine spt rfl ?_|refine spf rfl ?_|(refine spl (fun hc=>?_) fun hc=>?_)<;>(try rw [beq_iff_eq] at hc)<;>try simp only [hc]|refine finF hrel ?_ ?_ ?_)<;>try simp only [go_sem, *])
 | false =>
 have:decide (t.index≤268435456)=true:=by simp at hi ⊢;omega
 rw [this,Bool.true_and] at hv0
 clear this
 refine en Tryz.func105 [.tmp 2] rfl rfl fun g0 w0 gen hrel hfr hfr' hres=>?_
 repeat' (first
  |exact hin _|exact agf (by assumption)
  | (first|refine wp rfl ?_|refine spt rfl ?_|refine spf rfl ?_|(refine spl (fun hc=>?_) fun hc=>?_)<;>(try rw [beq_iff_eq] at hc)<;>try simp only [hc]|refine finF hrel ?_ ?_ ?_)<;>try simp only [go_sem, *])
 refine AR_range [9] [] (fun i σ=>Agree h σ.h∧(!Tm.leastL 268435456 (t.args.drop i))=v) (t.args).length (by first|omega|(simp only [go_sem, *]<;>omega)) ⟨rfl,rfl,rfl⟩ rfl (by simp only [go_sem, *]) (by simp only [go_sem, *]) ?_ (by intro i σ t v ht hK;simp only [List.mem_cons,List.not_mem_nil,or_false] at ht;rcases ht with rfl|rfl|rfl<;>exact hK) ?_ ?_
 ·simp only [go_sem, *]
  first|exact (by repeat (first|exact Agree.refl _|assumption|refine Agree.new ?_ (hgf0 _ _)|refine Agree.new ?_ (hfr' _ _)))|exact ⟨(by repeat (first|exact Agree.refl _|assumption|refine Agree.new ?_ (hgf0 _ _)|refine Agree.new ?_ (hfr' _ _))),hv0⟩
 ·clear hv0 hi
  intro i σ gr0 hgl_gr0 hgn hlt jI jN jS ⟨jA,jv⟩
  obtain ⟨jT,jB⟩:=jS
  simp only [go_sem] at jT jB
  have hgf:=fresh_of hgn
  have hgf0:=fun r i=>agree_fresh jA (hgf r i)
  have eg_gen_gr0:=gen_lt (show gen<gr0 by omega)
  have eh_gen_gr0:=gen_lt' (show gen<gr0 by omega)
  obtain ⟨x,hx⟩:∃ x,(t.args)[i]? = some x:=⟨_,List.getElem?_eq_getElem hlt⟩
  have hxm:=List.mem_of_getElem? hx
  have hm:=min_lt hlt
  clear hgn
  rw [drop_get hx,Tm.leastL_cons] at jv
  have hc:=ih' x hxm
  clear ih'
  cases hn:x.least 268435456 with
  | false =>
   rw [hn,Bool.not_false] at hc
   rw [hn,Bool.false_and,Bool.not_false] at jv
   subst jv
   repeat' (first
    |exact hin _|exact agf (by assumption)
    | (first|refine wp rfl ?_|refine spt rfl ?_|refine spf rfl ?_|(refine spl (fun hc=>?_) fun hc=>?_)<;>(try rw [beq_iff_eq] at hc)<;>try simp only [hc]|refine cp hc ?_|refine finF hrel ?_ ?_ ?_)<;>try simp only [go_sem, *])
  | true =>
   rw [hn,Bool.not_true] at hc
   rw [hn,Bool.true_and] at jv
   repeat' (first
    |exact hin _|exact agf (by assumption)
    | (first|refine wp rfl ?_|refine spt rfl ?_|refine spf rfl ?_|(refine spl (fun hc=>?_) fun hc=>?_)<;>(try rw [beq_iff_eq] at hc)<;>try simp only [hc]|refine AR_inv ?_|refine cp hc ?_|refine finF hrel ?_ ?_ ?_)<;>try simp only [go_sem, *])
   first|exact (by repeat (first|exact Agree.refl _|assumption|refine Agree.new ?_ (hgf0 _ _)|refine Agree.new ?_ (hfr' _ _)))|exact ⟨(by repeat (first|exact Agree.refl _|assumption|refine Agree.new ?_ (hgf0 _ _)|refine Agree.new ?_ (hfr' _ _))),jv⟩
 ·clear hv0 hi
  intro σ ga0 hgl_ga0 hgn jS ⟨jA,jv⟩
  obtain ⟨jT,jB⟩:=jS
  simp only [go_sem] at jT jB
  have hgf:=fresh_of hgn
  have hgf0:=fun r i=>agree_fresh jA (hgf r i)
  have eg_gen_ga0:=gen_lt (show gen<ga0 by omega)
  have eh_gen_ga0:=gen_lt' (show gen<ga0 by omega)
  clear hgn
  rw [List.drop_length,Tm.leastL_nil,Bool.not_true] at jv
  subst jv
  clear ih'
  repeat' (first
   |exact hin _|exact agf (by assumption)
   | (first|refine wp rfl ?_|refine spt rfl ?_|refine spf rfl ?_|(refine spl (fun hc=>?_) fun hc=>?_)<;>(try rw [beq_iff_eq] at hc)<;>try simp only [hc]|refine finF hrel ?_ ?_ ?_)<;>try simp only [go_sem, *])
theorem c_uses:∀ t:Tm,TmW t→∀ a:Int,Pure Tryz.prog env 252 [.agg t.cells,.int .i64 a] (.int .i64 (t.us a)):=by
 intro t
 induction t using Tm.ind with|h t ih=>?_
 intro ht a h
 have hlen:=ht.len
 have ih':∀ x∈t.args,∀ a:Int,Pure Tryz.prog env 252 [.agg x.cells,.int .i64 a] (.int .i64 (x.us a)):=fun x hx=>ih x hx (ht.arg hx)
 clear ih
 have hv0:=(t.us_eq a).symm
 generalize hvv:t.us a=v at hv0 ⊢
 clear hvv
 have hw:IntKind.i64.wrap (a+1)=addW a 1:=rfl
 cases hk:(t.kind==1&&t.index==a) with
 | true =>
  have hk1:(t.kind==1)=true:=by cases h1:(t.kind==1)<;>simp_all
  have hk2:(t.index==a)=true:=by cases h1:(t.index==a)<;>simp_all
  rw [hk] at hv0
  simp only [if_true] at hv0
  subst hv0
  clear hk ih'
  refine en Tryz.func252 [.tmp 4] rfl rfl fun g0 w0 gen hrel hfr hfr' hres=>?_
  repeat' (first
   |exact hin _|exact agf (by assumption)
   | (first|refine wp rfl ?_|refine spt rfl ?_|refine spf rfl ?_|(refine spl (fun hc=>?_) fun hc=>?_)<;>(try rw [beq_iff_eq] at hc)<;>try simp only [hc]|(refine gs (fun hb=>?_) fun hb=>?_)<;>try simp only [Bool.not_true,Bool.not_false] at hb|refine finF hrel ?_ ?_ ?_)<;>try simp only [go_sem, *])
 | false =>
  rw [hk] at hv0
  simp only [Bool.false_eq_true,if_false] at hv0
  have hkk:((t.kind==1)=true∧(t.index==a)=false)∨(t.kind==1)=false:=by cases h1:(t.kind==1)<;>cases h2:(t.index==a)<;>simp_all
  clear hk
  generalize ha2:(if (t.kind==2)=true then addW a 1 else a)=a2 at hv0
  rcases hkk with ⟨hk1,hk2⟩|hk1<;>cases hl:(t.kind==2)
  all_goals
   rw [hl] at ha2
   simp only [if_true,Bool.false_eq_true,if_false] at ha2
   first|(obtain rfl:a2=a:=ha2.symm)|skip
   refine en Tryz.func252 [.tmp 4] rfl rfl fun g0 w0 gen hrel hfr hfr' hres=>?_
   repeat' (first
    |exact hin _|exact agf (by assumption)
    | (first|refine wp rfl ?_|refine spt rfl ?_|refine spf rfl ?_|(refine spl (fun hc=>?_) fun hc=>?_)<;>(try rw [beq_iff_eq] at hc)<;>try simp only [hc]|(refine gs (fun hb=>?_) fun hb=>?_)<;>try simp only [Bool.not_true,Bool.not_false] at hb|refine finF hrel ?_ ?_ ?_)<;>try simp only [go_sem, *])
   refine AR_range [1,4,23] [] (fun i σ=>Agree h σ.h∧∃ n,σ.tm 5=.int .i64 n∧Tm.usL a2 n (t.args.drop i)=v) (t.args).length (by first|omega|(simp only [go_sem, *]<;>omega)) ⟨rfl,rfl,rfl⟩ rfl (by simp only [go_sem, *]) (by simp only [go_sem, *]) ?_ (by intro i σ t v ht hK;simp only [List.mem_cons,List.not_mem_nil,or_false] at ht;rcases ht with rfl|rfl|rfl<;>exact hK) ?_ ?_
   ·simp only [go_sem, *]
    first|exact ⟨_,rfl,hv0⟩|exact ⟨(by repeat (first|exact Agree.refl _|assumption|refine Agree.new ?_ (hgf0 _ _)|refine Agree.new ?_ (hfr' _ _))),_,rfl,hv0⟩
   ·clear hv0
    intro i σ gr0 hgl_gr0 hgn hlt jI jN jS ⟨jA,n,jn,jv⟩
    obtain ⟨jT,jB⟩:=jS
    simp only [go_sem] at jT jB
    have hgf:=fresh_of hgn
    have hgf0:=fun r i=>agree_fresh jA (hgf r i)
    have eg_gen_gr0:=gen_lt (show gen<gr0 by omega)
    have eh_gen_gr0:=gen_lt' (show gen<gr0 by omega)
    obtain ⟨x,hx⟩:∃ x,(t.args)[i]? = some x:=⟨_,List.getElem?_eq_getElem hlt⟩
    have hxm:=List.mem_of_getElem? hx
    have hm:=min_lt hlt
    clear hgn
    rw [drop_get hx,Tm.usL_cons] at jv
    have hc:=ih' x hxm a2
    have hw2:IntKind.i64.wrap (n+x.us a2)=addW n (x.us a2):=rfl
    clear ih'
    repeat' (first
     |exact hin _|exact agf (by assumption)
     | (first|refine wp rfl ?_|refine spt rfl ?_|refine spf rfl ?_|(refine spl (fun hc=>?_) fun hc=>?_)<;>(try rw [beq_iff_eq] at hc)<;>try simp only [hc]|(refine gs (fun hb=>?_) fun hb=>?_)<;>try simp only [Bool.not_true,Bool.not_false] at hb|refine AR_inv ?_|refine cp hc ?_|refine finF hrel ?_ ?_ ?_)<;>try simp only [go_sem, *])
    first|exact ⟨_,rfl,jv⟩|exact ⟨(by repeat (first|exact Agree.refl _|assumption|refine Agree.new ?_ (hgf0 _ _)|refine Agree.new ?_ (hfr' _ _))),_,rfl,jv⟩
   ·clear hv0
    intro σ ga0 hgl_ga0 hgn jS ⟨jA,n,jn,jv⟩
    obtain ⟨jT,jB⟩:=jS
    simp only [go_sem] at jT jB
    have hgf:=fresh_of hgn
    have hgf0:=fun r i=>agree_fresh jA (hgf r i)
    have eg_gen_ga0:=gen_lt (show gen<ga0 by omega)
    have eh_gen_ga0:=gen_lt' (show gen<ga0 by omega)
    clear hgn
    rw [List.drop_length,Tm.usL_nil] at jv
    subst jv
    clear ih'
    repeat' (first
     |exact hin _|exact agf (by assumption)
     | (first|refine wp rfl ?_|refine spt rfl ?_|refine spf rfl ?_|(refine spl (fun hc=>?_) fun hc=>?_)<;>(try rw [beq_iff_eq] at hc)<;>try simp only [hc]|(refine gs (fun hb=>?_) fun hb=>?_)<;>try simp only [Bool.not_true,Bool.not_false] at hb|refine finF hrel ?_ ?_ ?_)<;>try simp only [go_sem, *])
theorem c_sLift (b:Int):∀ t:Tm,TmW t→∀ fr:Int,Pure Tryz.prog env 224 [.agg t.cells,.int .i64 fr,.int .i64 b] (.agg (t.sl b fr).cells):=by
 intro t
 induction t using Tm.ind with|h t ih=>?_
 intro ht fr h
 have hlen:=ht.len
 have ih':∀ x∈t.args,∀ fr:Int,Pure Tryz.prog env 224 [.agg x.cells,.int .i64 fr,.int .i64 b] (.agg (x.sl b fr).cells):=fun x hx=>ih x hx (ht.arg hx)
 clear ih
 have hv0:=congrArg (fun t:Tm=>V.agg t.cells) (Tm.sl_eq b t fr).symm
 have hin:∀ S,InV S (V.agg (t.sl b fr).cells):=fun S=>by simp [InV,InL_Tm]
 try simp only at hv0
 generalize hvv:V.agg (t.sl b fr).cells=v at hv0 hin ⊢
 clear hvv
 have hw:IntKind.i64.wrap (fr+1)=addW fr 1:=rfl
 have hw1:IntKind.i64.wrap (t.index+b)=addW t.index b:=rfl
 cases hb:(b==0) with
 | true =>
  rw [hb] at hv0
  simp only [if_true] at hv0
  subst hv0
  clear ih' hin
  refine en Tryz.func224 [.cell 6 36] rfl rfl fun g0 w0 gen hrel hfr hfr' hres=>?_
  repeat' (first
   |(refine ⟨?_,?_⟩;focus ((repeat' (first|refine ⟨?_,?_⟩|refine .inr ?_));all_goals kernel_rfl))
   |exact hin _|exact agf (by assumption)
   | (first|refine wp rfl ?_|refine spt rfl ?_|refine spf rfl ?_|(refine spl (fun hc=>?_) fun hc=>?_)<;>(try rw [beq_iff_eq] at hc)<;>try simp only [hc]|refine finF hrel ?_ ?_ ?_)<;>try simp only [go_sem, *])
 | false =>
 rw [hb] at hv0
 simp only [Bool.false_eq_true,if_false] at hv0
 cases hk:(t.kind==1) with
 | true =>
  rw [hk] at hv0
  simp only [if_true] at hv0
  clear ih'
  cases hi:decide (t.index≥fr)
  all_goals
   rw [hi] at hv0
   simp only [if_true,Bool.false_eq_true,if_false] at hv0
   rw [Tm.mk_cells] at hv0
   subst hv0
   clear hin
   rw [Tm.cells_eq t]
   refine en Tryz.func224 [.cell 6 36] rfl rfl fun g0 w0 gen hrel hfr hfr' hres=>?_
   repeat' (first
    |(refine ⟨?_,?_⟩;focus ((repeat' (first|refine ⟨?_,?_⟩|refine .inr ?_));all_goals kernel_rfl))
    |exact hin _|exact agf (by assumption)
    | (first|refine wp rfl ?_|refine spt rfl ?_|refine spf rfl ?_|(refine spl (fun hc=>?_) fun hc=>?_)<;>(try rw [beq_iff_eq] at hc)<;>try simp only [hc]|refine finF hrel ?_ ?_ ?_)<;>try simp only [go_sem, *])
 | false =>
 rw [hk] at hv0
 simp only [Bool.false_eq_true,if_false] at hv0
 generalize ha2:(if (t.kind==2)=true then addW fr 1 else fr)=a2 at hv0
 cases hl:(t.kind==2)
 all_goals
  rw [hl] at ha2
  simp only [if_true,Bool.false_eq_true,if_false] at ha2
  first|(obtain rfl:a2=fr:=ha2.symm)|skip
  rw [Tm.cells_eq t]
  refine en Tryz.func224 [.cell 6 36] rfl rfl fun g0 w0 gen hrel hfr hfr' hres=>?_
  repeat' (first
   |(refine ⟨?_,?_⟩;focus ((repeat' (first|refine ⟨?_,?_⟩|refine .inr ?_));all_goals kernel_rfl))
   |exact hin _|exact agf (by assumption)
   | (first|refine wp rfl ?_|refine spt rfl ?_|refine spf rfl ?_|(refine spl (fun hc=>?_) fun hc=>?_)<;>(try rw [beq_iff_eq] at hc)<;>try simp only [hc]|refine finF hrel ?_ ?_ ?_)<;>try simp only [go_sem, *])
  refine AR_range [1,2,6,7,34] [⟨gen,0,1⟩] (fun i σ=>Agree h σ.h∧∃ v,σ.h ⟨gen,9,1⟩=some (.box [.int .i64 t.kind,.int .i64 t.index,.int .i64 t.type.kind,.sl .any (t.type.args.map Ty.cells),v])∧OwnS h σ.h v 5 (((t.args.take i).map fun x=>x.sl b a2).map Tm.cells)) (t.args).length (by first|omega|(simp only [go_sem, *]<;>omega)) ⟨rfl,rfl,rfl⟩ rfl (by simp only [go_sem, *]) (by simp only [go_sem, *]) ?_ (by intro i σ t v ht hK;simp only [List.mem_cons,List.not_mem_nil,or_false] at ht;rcases ht with rfl|rfl|rfl<;>exact hK) ?_ ?_
  ·simp only [go_sem, *]
   first|exact ⟨_,rfl,.inl rfl⟩|exact ⟨(by repeat (first|exact Agree.refl _|assumption|refine Agree.new ?_ (hgf0 _ _)|refine Agree.new ?_ (hfr' _ _))),_,rfl,.inl rfl⟩
  ·clear hv0
   intro i σ gr0 hgl_gr0 hgn hlt jI jN jS ⟨jA,v,jb,jO0⟩
   obtain ⟨jT,jB⟩:=jS
   simp only [go_sem] at jT jB
   have hgf:=fresh_of hgn
   have hgf0:=fun r i=>agree_fresh jA (hgf r i)
   have eg_gen_gr0:=gen_lt (show gen<gr0 by omega)
   have eh_gen_gr0:=gen_lt' (show gen<gr0 by omega)
   obtain ⟨x,hx⟩:∃ x,(t.args)[i]? = some x:=⟨_,List.getElem?_eq_getElem hlt⟩
   have hxm:=List.mem_of_getElem? hx
   have hm:=min_lt hlt
   clear hgn
   have hc:=ih' x hxm a2
   have hts:((t.args.take (i+1)).map fun x=>x.sl b a2).map Tm.cells=((t.args.take i).map fun x=>x.sl b a2).map Tm.cells++[(x.sl b a2).cells]:=by rw [map_take_succ hx,List.map_append];rfl
   clear ih'
   repeat' (first
    |(refine ⟨?_,?_⟩;focus ((repeat' (first|refine ⟨?_,?_⟩|refine .inr ?_));all_goals kernel_rfl))
    |(refine okE_app_ownd jO0 (by repeat (first|exact Keeps.refl _|refine Keeps.new ?_ (hgf _ _)|refine Keeps.new ?_ (hfr' _ _)|refine Keeps.box ?_ rfl|refine Keeps.box ?_ (by simp only [go_sem, *]))) rfl (by simp only [go_sem, *]<;>omega) (by first|exact hgf0 _ _|exact hfr' _ _) (by simp only [go_sem, *]) (by intro hd e;simp only [logOk_cons,logOk_nil,and_true];repeat (first|exact trivial|refine ⟨.inr (by kernel_rfl),?_⟩|exact .inr (by kernel_rfl))) ?_;intro v' h' id' jO jK jAg jAb jF;obtain ⟨cO,rfl⟩:=jO.val;simp only [go_sem, *])
    | (first|refine wp rfl ?_|refine spt rfl ?_|refine spf rfl ?_|(refine spl (fun hc=>?_) fun hc=>?_)<;>(try rw [beq_iff_eq] at hc)<;>try simp only [hc]|refine cp hc ?_|refine AR_inv ?_)<;>try simp only [go_sem, *])
   refine ⟨?_,_,rfl,jO.keep (Keeps.box (Keeps.refl _) (by simp only [go_sem, *]))⟩
   exact Agree.new (jAg (by repeat (first|exact Agree.refl _|assumption|refine Agree.new ?_ (hgf0 _ _)|refine Agree.new ?_ (hfr' _ _)))) (hfr' _ _)
  ·
   intro σ ga0 hgl_ga0 hgn jS ⟨jA,v,jb,jO0⟩
   obtain ⟨jT,jB⟩:=jS
   simp only [go_sem] at jT jB
   have hgf:=fresh_of hgn
   have hgf0:=fun r i=>agree_fresh jA (hgf r i)
   have eg_gen_ga0:=gen_lt (show gen<ga0 by omega)
   have eh_gen_ga0:=gen_lt' (show gen<ga0 by omega)
   clear hgn
   rw [List.take_length] at jO0
   obtain ⟨c,rfl⟩:=jO0.val
   clear ih'
   rw [Tm.mk_cells] at hv0
   subst hv0
   repeat' (first
    |(refine ⟨?_,?_⟩;focus ((repeat' (first|refine ⟨?_,?_⟩|refine .inr ?_));all_goals kernel_rfl))
    |exact hin _|exact agf (by assumption)
    | (first|refine wp rfl ?_|refine spt rfl ?_|refine spf rfl ?_|(refine spl (fun hc=>?_) fun hc=>?_)<;>(try rw [beq_iff_eq] at hc)<;>try simp only [hc]|refine finF hrel ?_ ?_ ?_)<;>try simp only [go_sem, *])
theorem sl_W {b:Int}:∀ (t:Tm) (fr:Int),TmW t→TmW (t.sl b fr):=by
 intro t
 induction t using Tm.ind with|h t ih=>?_
 intro fr ht
 rw [Tm.sl_eq]
 repeat' split
 ·exact ht
 all_goals first|exact .mk _ _ _ _ ht.ty ht.len (fun x hx=>ht.arg hx)|skip
 all_goals
  refine .mk _ _ _ _ ht.ty (by rw [List.length_map];exact ht.len) ?_
  intro x hx
  obtain ⟨y,hy,rfl⟩:=List.mem_map.1 hx
  exact ih y hy _ (ht.arg hy)
theorem c_sput (s:Tm) (hs:TmW s) (a:Int):∀ t:Tm,TmW t→∀ d:Int,Pure Tryz.prog env 254 [.agg t.cells,.int .i64 a,.int .i64 d,.agg s.cells] (.agg (tmSp s a t d).cells):=by
 intro t
 induction t using Tm.ind with|h t ih=>?_
 intro ht d h
 have hlen:=ht.len
 have ih':∀ x∈t.args,∀ d:Int,Pure Tryz.prog env 254 [.agg x.cells,.int .i64 a,.int .i64 d,.agg s.cells] (.agg (tmSp s a x d).cells):=fun x hx=>ih x hx (ht.arg hx)
 clear ih
 have hv0:=congrArg (fun t:Tm=>V.agg t.cells) (tmSp_eq s a t d).symm
 have hin:∀ S,InV S (V.agg (tmSp s a t d).cells):=fun S=>by simp [InV,InL_Tm]
 try simp only at hv0
 generalize hvv:V.agg (tmSp s a t d).cells=v at hv0 hin ⊢
 clear hvv
 have hw:IntKind.i64.wrap (d+1)=addW d 1:=rfl
 have hw0:IntKind.i64.wrap (a+d)=addW a d:=rfl
 have hw1:IntKind.i64.wrap (t.index - 1)=subW t.index 1:=rfl
 cases hk:(t.kind==1) with
 | true =>
  rw [hk] at hv0
  simp only [if_true] at hv0
  have hU:=c_sLift (addW a d) s hs 0
  clear ih' hw
  generalize addW a d=a0 at *
  cases hk2:(t.index==a0) with
  | true =>
   rw [hk2] at hv0
   simp only [if_true] at hv0
   subst hv0
   refine en Tryz.func254 [.cell 8 36] rfl rfl fun g0 w0 gen hrel hfr hfr' hres=>?_
   repeat' (first
    |(refine ⟨?_,?_⟩;focus ((repeat' (first|refine ⟨?_,?_⟩|refine .inr ?_));all_goals kernel_rfl))
    |exact hin _|exact agf (by assumption)
    | (first|refine wp rfl ?_|refine spt rfl ?_|refine spf rfl ?_|(refine spl (fun hc=>?_) fun hc=>?_)<;>(try rw [beq_iff_eq] at hc)<;>try simp only [hc]|refine cp hU ?_|refine finF hrel ?_ ?_ ?_)<;>try simp only [go_sem, *])
  | false =>
   rw [hk2] at hv0
   simp only [Bool.false_eq_true,if_false] at hv0
   clear hU
   cases hk3:decide (t.index>a0)
   all_goals
    rw [hk3] at hv0
    simp only [if_true,Bool.false_eq_true,if_false] at hv0
    try rw [Tm.mk_cells] at hv0
    try rw [Tm.cells_eq t] at hv0
    subst hv0
    clear hin
    rw [Tm.cells_eq t]
    refine en Tryz.func254 [.cell 8 36] rfl rfl fun g0 w0 gen hrel hfr hfr' hres=>?_
    repeat' (first
     |(refine ⟨?_,?_⟩;focus ((repeat' (first|refine ⟨?_,?_⟩|refine .inr ?_));all_goals kernel_rfl))
     |exact hin _|exact agf (by assumption)
     | (first|refine wp rfl ?_|refine spt rfl ?_|refine spf rfl ?_|(refine spl (fun hc=>?_) fun hc=>?_)<;>(try rw [beq_iff_eq] at hc)<;>try simp only [hc]|refine finF hrel ?_ ?_ ?_)<;>try simp only [go_sem, *])
 | false =>
 rw [hk] at hv0
 simp only [Bool.false_eq_true,if_false] at hv0
 generalize ha2:(if (t.kind==2)=true then addW d 1 else d)=a2 at hv0
 clear hw0 hw1
 cases hl:(t.kind==2)
 all_goals
  rw [hl] at ha2
  simp only [if_true,Bool.false_eq_true,if_false] at ha2
  first|(obtain rfl:a2=d:=ha2.symm)|skip
  rw [Tm.cells_eq t]
  refine en Tryz.func254 [.cell 8 36] rfl rfl fun g0 w0 gen hrel hfr hfr' hres=>?_
  repeat' (first
   |(refine ⟨?_,?_⟩;focus ((repeat' (first|refine ⟨?_,?_⟩|refine .inr ?_));all_goals kernel_rfl))
   |exact hin _|exact agf (by assumption)
   | (first|refine wp rfl ?_|refine spt rfl ?_|refine spf rfl ?_|(refine spl (fun hc=>?_) fun hc=>?_)<;>(try rw [beq_iff_eq] at hc)<;>try simp only [hc]|refine finF hrel ?_ ?_ ?_)<;>try simp only [go_sem, *])
  refine AR_range [1,2,7,8,9,47] [⟨gen,0,1⟩,⟨gen,0,2⟩] (fun i σ=>Agree h σ.h∧∃ v,σ.h ⟨gen,9,1⟩=some (.box [.int .i64 t.kind,.int .i64 t.index,.int .i64 t.type.kind,.sl .any (t.type.args.map Ty.cells),v])∧OwnS h σ.h v 5 (((t.args.take i).map fun x=>tmSp s a x a2).map Tm.cells)) (t.args).length (by first|omega|(simp only [go_sem, *]<;>omega)) ⟨rfl,rfl,rfl⟩ rfl (by simp only [go_sem, *]) (by simp only [go_sem, *]) ?_ (by intro i σ t v ht hK;simp only [List.mem_cons,List.not_mem_nil,or_false] at ht;rcases ht with rfl|rfl|rfl<;>exact hK) ?_ ?_
  ·simp only [go_sem, *]
   first|exact ⟨_,rfl,.inl rfl⟩|exact ⟨(by repeat (first|exact Agree.refl _|assumption|refine Agree.new ?_ (hgf0 _ _)|refine Agree.new ?_ (hfr' _ _))),_,rfl,.inl rfl⟩
  ·clear hv0
   intro i σ gr0 hgl_gr0 hgn hlt jI jN jS ⟨jA,v,jb,jO0⟩
   obtain ⟨jT,jB⟩:=jS
   simp only [go_sem] at jT jB
   have hgf:=fresh_of hgn
   have hgf0:=fun r i=>agree_fresh jA (hgf r i)
   have eg_gen_gr0:=gen_lt (show gen<gr0 by omega)
   have eh_gen_gr0:=gen_lt' (show gen<gr0 by omega)
   obtain ⟨x,hx⟩:∃ x,(t.args)[i]? = some x:=⟨_,List.getElem?_eq_getElem hlt⟩
   have hxm:=List.mem_of_getElem? hx
   have hm:=min_lt hlt
   clear hgn
   have hc:=ih' x hxm a2
   have hts:((t.args.take (i+1)).map fun x=>tmSp s a x a2).map Tm.cells=((t.args.take i).map fun x=>tmSp s a x a2).map Tm.cells++[(tmSp s a x a2).cells]:=by rw [map_take_succ hx,List.map_append];rfl
   clear ih'
   repeat' (first
    |(refine ⟨?_,?_⟩;focus ((repeat' (first|refine ⟨?_,?_⟩|refine .inr ?_));all_goals kernel_rfl))
    |(refine okE_app_ownd jO0 (by repeat (first|exact Keeps.refl _|refine Keeps.new ?_ (hgf _ _)|refine Keeps.new ?_ (hfr' _ _)|refine Keeps.box ?_ rfl|refine Keeps.box ?_ (by simp only [go_sem, *]))) rfl (by simp only [go_sem, *]<;>omega) (by first|exact hgf0 _ _|exact hfr' _ _) (by simp only [go_sem, *]) (by intro hd e;simp only [logOk_cons,logOk_nil,and_true];repeat (first|exact trivial|refine ⟨.inr (by kernel_rfl),?_⟩|exact .inr (by kernel_rfl))) ?_;intro v' h' id' jO jK jAg jAb jF;obtain ⟨cO,rfl⟩:=jO.val;simp only [go_sem, *])
    | (first|refine wp rfl ?_|refine spt rfl ?_|refine spf rfl ?_|(refine spl (fun hc=>?_) fun hc=>?_)<;>(try rw [beq_iff_eq] at hc)<;>try simp only [hc]|refine cp hc ?_|refine AR_inv ?_)<;>try simp only [go_sem, *])
   refine ⟨?_,_,rfl,jO.keep (Keeps.box (Keeps.refl _) (by simp only [go_sem, *]))⟩
   exact Agree.new (jAg (by repeat (first|exact Agree.refl _|assumption|refine Agree.new ?_ (hgf0 _ _)|refine Agree.new ?_ (hfr' _ _)))) (hfr' _ _)
  ·
   intro σ ga0 hgl_ga0 hgn jS ⟨jA,v,jb,jO0⟩
   obtain ⟨jT,jB⟩:=jS
   simp only [go_sem] at jT jB
   have hgf:=fresh_of hgn
   have hgf0:=fun r i=>agree_fresh jA (hgf r i)
   have eg_gen_ga0:=gen_lt (show gen<ga0 by omega)
   have eh_gen_ga0:=gen_lt' (show gen<ga0 by omega)
   clear hgn
   rw [List.take_length] at jO0
   obtain ⟨c,rfl⟩:=jO0.val
   clear ih'
   rw [Tm.mk_cells] at hv0
   subst hv0
   repeat' (first
    |(refine ⟨?_,?_⟩;focus ((repeat' (first|refine ⟨?_,?_⟩|refine .inr ?_));all_goals kernel_rfl))
    |exact hin _|exact agf (by assumption)
    | (first|refine wp rfl ?_|refine spt rfl ?_|refine spf rfl ?_|(refine spl (fun hc=>?_) fun hc=>?_)<;>(try rw [beq_iff_eq] at hc)<;>try simp only [hc]|refine finF hrel ?_ ?_ ?_)<;>try simp only [go_sem, *])
theorem sp_W {s:Tm} (hs:TmW s) {a:Int}:∀ (t:Tm) (d:Int),TmW t→TmW (tmSp s a t d):=by
 intro t
 induction t using Tm.ind with|h t ih=>?_
 intro d ht
 rw [tmSp_eq]
 repeat' split
 ·exact sl_W _ _ hs
 ·exact .mk _ _ _ _ ht.ty ht.len (fun x hx=>ht.arg hx)
 ·exact ht
 all_goals
  refine .mk _ _ _ _ ht.ty (by rw [List.length_map];exact ht.len) ?_
  intro x hx
  obtain ⟨y,hy,rfl⟩:=List.mem_map.1 hx
  exact ih y hy _ (ht.arg hy)
end Go.Proofs.YtbfilinnoedfeaaGreatDoor
