/-
 Walks: several parts in one text.
-/
import Derived.Test.YtmnplkmphgkooaaGreatDoorMb
import Derived.Test.YtmnplkmphgkooaaGreatDoorAbsD
import Derived.Test.YtmnplkmphgkooaaGreatDoorAbsC
set_option linter.unusedSimpArgs false
set_option linter.unusedVariables false
set_option maxRecDepth 20000
set_option maxHeartbeats 4000000
namespace Go.Proofs.YtmnplkmphgkooaaGreatDoor
open Go GoAbs Go.Proofs
theorem c_Nodes:∀ t:Tm,TmW t→Pure Tryz.prog env 121 [.agg t.cells] (.int .i64 t.szW):=by
 intro t
 induction t using Tm.ind with|h t ih=>?_
 intro ht h
 have hlen:=ht.len
 have ih':∀ x∈t.args,Pure Tryz.prog env 121 [.agg x.cells] (.int .i64 x.szW):=fun x hx=>ih x hx (ht.arg hx)
 clear ih
 have hv0:=t.szW_eq.symm
 generalize hvv:t.szW=v at hv0 ⊢
 clear hvv
 refine en_ Tryz.func121 [.tmp 2] fun g0 w0 gen hrel hfr hfr' hres=>?_
 refine wq_ ?_
 refine ar_ [2,7] [] (fun i σ=>Agree h σ.h∧∃ n,σ.tm 3=.int .i64 n∧Tm.szWL n (t.args.drop i)=v) (t.args).length ?_ ?_ ?_
 ·simp only [go_sem, *]
  exact ⟨ag_,_,rfl,hv0⟩
 ·clear hv0
  intro i σ gr0 hgl_gr0 hgn hlt jI jN jS ⟨jA,n,jn,jv⟩
  obtain ⟨jT,jB⟩:=jS
  simp only [go_sem] at jT jB
  obtain ⟨hgf,hgf0,eg_gen_gr0,eh_gen_gr0⟩:=rnd hgn hgl_gr0 jA
  obtain ⟨x,hx,hxm,hm⟩:=rnx hlt
  clear hgn
  rw [drop_get hx,Tm.szWL_cons] at jv
  have hc:=ih' x hxm
  clear ih'
  refine wq_ ?_
  exact ⟨ag_,_,rfl,jv⟩
 ·clear hv0
  intro σ ga0 hgl_ga0 hgn jS ⟨jA,n,jn,jv⟩
  obtain ⟨jT,jB⟩:=jS
  simp only [go_sem] at jT jB
  obtain ⟨hgf,hgf0,eg_gen_ga0,eh_gen_ga0⟩:=rnd hgn hgl_ga0 jA
  clear hgn
  rw [List.drop_length,Tm.szWL_nil] at jv
  subst jv
  clear ih'
  exact wk_
theorem c_Size:∀ t:Fm,FmW t→Pure Tryz.prog env 165 [.agg t.cells] (.int .i64 t.szW):=by
 intro t
 induction t using Fm.ind with|h t ih=>?_
 intro ht h
 have hlen:=ht.len
 have hlen2:=ht.tlen
 have ih':∀ x∈t.args,Pure Tryz.prog env 165 [.agg x.cells] (.int .i64 x.szW):=fun x hx=>ih x hx (ht.arg hx)
 clear ih
 have hv0:=t.szW_eq.symm
 generalize hvv:t.szW=v at hv0 ⊢
 clear hvv
 refine en_ Tryz.func165 [.tmp 2] fun g0 w0 gen hrel hfr hfr' hres=>?_
 refine wq_ ?_
 refine ar_ [1,2,9] [⟨gen,0,0⟩] (fun i σ=>Agree h σ.h∧∃ n,σ.tm 3=.int .i64 n∧Fm.szWL (Tm.szWL n (t.terms.drop i)) t.args=v) (t.terms).length ?_ ?_ ?_
 ·simp only [go_sem, *]
  exact ⟨ag_,_,rfl,hv0⟩
 ·clear hv0 ih'
  intro i σ gr0 hgl_gr0 hgn hlt jI jN jS ⟨jA,n,jn,jv⟩
  obtain ⟨jT,jB⟩:=jS
  simp only [go_sem] at jT jB
  obtain ⟨hgf,hgf0,eg_gen_gr0,eh_gen_gr0⟩:=rnd hgn hgl_gr0 jA
  obtain ⟨x,hx,hxm,hm⟩:=rnx hlt
  clear hgn
  rw [drop_get hx,Tm.szWL_cons] at jv
  have hc:=c_Nodes x (ht.term hxm)
  refine wq_ ?_
  exact ⟨ag_,_,rfl,jv⟩
 clear hv0
 intro σ ga0 hgl_ga0 hgn jS ⟨jA,n,jn,jv⟩
 obtain ⟨jT,jB⟩:=jS
 simp only [go_sem] at jT jB
 obtain ⟨hgf,hgf0,eg_gen_ga0,eh_gen_ga0⟩:=rnd hgn hgl_ga0 jA
 clear hgn
 rw [List.drop_length,Tm.szWL_nil] at jv
 refine wq_ ?_
 refine ar_ [2,21] [] (fun i σ=>Agree h σ.h∧∃ n,σ.tm 3=.int .i64 n∧Fm.szWL n (t.args.drop i)=v) (t.args).length ?_ ?_ ?_
 ·simp only [go_sem, *]
  first|exact ⟨_,rfl,jv⟩|exact ⟨ag_,_,rfl,jv⟩
 ·clear jv
  intro i σ gr1 hgl_gr1 hgn hlt jI jN jS ⟨jA,n',jn',jv⟩
  obtain ⟨jT,jB⟩:=jS
  simp only [go_sem] at jT jB
  have hgf:=fresh_of hgn
  have hgf0:=fun r i=>agree_fresh jA (hgf r i)
  have eg_gen_gr1:=gen_lt (show gen<gr1 by omega)
  have eh_gen_gr1:=gen_lt' (show gen<gr1 by omega)
  have eg_ga0_gr1:=gen_lt (show ga0<gr1 by omega)
  have eh_ga0_gr1:=gen_lt' (show ga0<gr1 by omega)
  obtain ⟨x,hx,hxm,hm⟩:=rnx hlt
  clear hgn
  rw [drop_get hx,Fm.szWL_cons] at jv
  have hc:=ih' x hxm
  clear ih'
  refine wq_ ?_
  exact ⟨ag_,_,rfl,jv⟩
 ·clear jv
  intro σ ga1 hgl_ga1 hgn jS ⟨jA,n',jn',jv⟩
  obtain ⟨jT,jB⟩:=jS
  simp only [go_sem] at jT jB
  have hgf:=fresh_of hgn
  have hgf0:=fun r i=>agree_fresh jA (hgf r i)
  have eg_gen_ga1:=gen_lt (show gen<ga1 by omega)
  have eh_gen_ga1:=gen_lt' (show gen<ga1 by omega)
  have eg_ga0_ga1:=gen_lt (show ga0<ga1 by omega)
  have eh_ga0_ga1:=gen_lt' (show ga0<ga1 by omega)
  clear hgn
  rw [List.drop_length,Fm.szWL_nil] at jv
  subst jv
  clear ih'
  exact wk_
theorem c_Far:∀ t:Tm,TmW t→Pure Tryz.prog env 76 [.agg t.cells] (.bool (!t.least 268435456)):=by
 intro t
 induction t using Tm.ind with|h t ih=>?_
 intro ht h
 have hlen:=ht.len
 have ih':∀ x∈t.args,Pure Tryz.prog env 76 [.agg x.cells] (.bool (!x.least 268435456)):=fun x hx=>ih x hx (ht.arg hx)
 clear ih
 have hv0:(!(decide (t.index≤268435456)&&Tm.leastL 268435456 t.args))=!t.least 268435456:=by rw [t.least_eq]
 generalize hvv:(!t.least 268435456)=v at hv0 ⊢
 clear hvv
 cases hi:decide (t.index>268435456) with
 | true =>
  have:decide (t.index≤268435456)=false:=by simp at hi ⊢;omega
  rw [this,Bool.false_and,Bool.not_false] at hv0
  subst hv0
  clear ih' this
  exact ek_ Tryz.func76 [.tmp 2]
 | false =>
 have:decide (t.index≤268435456)=true:=by simp at hi ⊢;omega
 rw [this,Bool.true_and] at hv0
 clear this
 refine en_ Tryz.func76 [.tmp 2] fun g0 w0 gen hrel hfr hfr' hres=>?_
 refine wq_ ?_
 refine ar_ [9] [] (fun i σ=>Agree h σ.h∧(!Tm.leastL 268435456 (t.args.drop i))=v) (t.args).length ?_ ?_ ?_
 ·simp only [go_sem, *]
  first|exact ag_|exact ⟨ag_,hv0⟩
 ·clear hv0 hi
  intro i σ gr0 hgl_gr0 hgn hlt jI jN jS ⟨jA,jv⟩
  obtain ⟨jT,jB⟩:=jS
  simp only [go_sem] at jT jB
  obtain ⟨hgf,hgf0,eg_gen_gr0,eh_gen_gr0⟩:=rnd hgn hgl_gr0 jA
  obtain ⟨x,hx,hxm,hm⟩:=rnx hlt
  clear hgn
  rw [drop_get hx,Tm.leastL_cons] at jv
  have hc:=ih' x hxm
  clear ih'
  cases hn:x.least 268435456 with
  | false =>
   rw [hn,Bool.not_false] at hc
   rw [hn,Bool.false_and,Bool.not_false] at jv
   subst jv
   exact wk_
  | true =>
   rw [hn,Bool.not_true] at hc
   rw [hn,Bool.true_and] at jv
   refine wq_ ?_
   first|exact ag_|exact ⟨ag_,jv⟩
 ·clear hv0 hi
  intro σ ga0 hgl_ga0 hgn jS ⟨jA,jv⟩
  obtain ⟨jT,jB⟩:=jS
  simp only [go_sem] at jT jB
  obtain ⟨hgf,hgf0,eg_gen_ga0,eh_gen_ga0⟩:=rnd hgn hgl_ga0 jA
  clear hgn
  rw [List.drop_length,Tm.leastL_nil,Bool.not_true] at jv
  subst jv
  clear ih'
  exact wk_
theorem c_uses:∀ t:Tm,TmW t→∀ a:Int,Pure Tryz.prog env 192 [.agg t.cells,.int .i64 a] (.int .i64 (t.us a)):=by
 intro t
 induction t using Tm.ind with|h t ih=>?_
 intro ht a h
 have hlen:=ht.len
 have ih':∀ x∈t.args,∀ a:Int,Pure Tryz.prog env 192 [.agg x.cells,.int .i64 a] (.int .i64 (x.us a)):=fun x hx=>ih x hx (ht.arg hx)
 clear ih
 have hv0:=(t.us_eq a).symm
 generalize hvv:t.us a=v at hv0 ⊢
 clear hvv
 have hw:IntKind.i64.wrap (a+1)=addW a 1:=rfl
 cases hk:(t.kind==1&&t.index==a) with
 | true =>
  have hk1:(t.kind==1)=true:=by cases h1:(t.kind==1)<;>simp_all
  have hk2:(t.index==a)=true:=by cases h1:(t.index==a)<;>simp_all
  rw [hk] at hv0
  simp only [if_true] at hv0
  subst hv0
  clear hk ih'
  exact ek_ Tryz.func192 [.tmp 4]
 | false =>
  rw [hk] at hv0
  simp only [Bool.false_eq_true,if_false] at hv0
  have hkk:((t.kind==1)=true∧(t.index==a)=false)∨(t.kind==1)=false:=by cases h1:(t.kind==1)<;>cases h2:(t.index==a)<;>simp_all
  clear hk
  generalize ha2:(if (t.kind==2)=true then addW a 1 else a)=a2 at hv0
  rcases hkk with ⟨hk1,hk2⟩|hk1<;>cases hl:(t.kind==2)
  all_goals
   rw [hl] at ha2
   simp only [if_true,Bool.false_eq_true,if_false] at ha2
   first|(obtain rfl:a2=a:=ha2.symm)|skip
   refine en_ Tryz.func192 [.tmp 4] fun g0 w0 gen hrel hfr hfr' hres=>?_
   refine wq_ ?_
   refine ar_ [1,4,23] [] (fun i σ=>Agree h σ.h∧∃ n,σ.tm 5=.int .i64 n∧Tm.usL a2 n (t.args.drop i)=v) (t.args).length ?_ ?_ ?_
   ·simp only [go_sem, *]
    first|exact ⟨_,rfl,hv0⟩|exact ⟨ag_,_,rfl,hv0⟩
   ·clear hv0
    intro i σ gr0 hgl_gr0 hgn hlt jI jN jS ⟨jA,n,jn,jv⟩
    obtain ⟨jT,jB⟩:=jS
    simp only [go_sem] at jT jB
    obtain ⟨hgf,hgf0,eg_gen_gr0,eh_gen_gr0⟩:=rnd hgn hgl_gr0 jA
    obtain ⟨x,hx,hxm,hm⟩:=rnx hlt
    clear hgn
    rw [drop_get hx,Tm.usL_cons] at jv
    have hc:=ih' x hxm a2
    have hw2:IntKind.i64.wrap (n+x.us a2)=addW n (x.us a2):=rfl
    clear ih'
    refine wq_ ?_
    first|exact ⟨_,rfl,jv⟩|exact ⟨ag_,_,rfl,jv⟩
   ·clear hv0
    intro σ ga0 hgl_ga0 hgn jS ⟨jA,n,jn,jv⟩
    obtain ⟨jT,jB⟩:=jS
    simp only [go_sem] at jT jB
    obtain ⟨hgf,hgf0,eg_gen_ga0,eh_gen_ga0⟩:=rnd hgn hgl_ga0 jA
    clear hgn
    rw [List.drop_length,Tm.usL_nil] at jv
    subst jv
    clear ih'
    exact wk_
theorem c_sLift (b:Int):∀ t:Tm,TmW t→∀ fr:Int,Pure Tryz.prog env 125 [.agg t.cells,.int .i64 fr,.int .i64 b] (.agg (t.sl b fr).cells):=by
 intro t
 induction t using Tm.ind with|h t ih=>?_
 intro ht fr h
 have hlen:=ht.len
 have ih':∀ x∈t.args,∀ fr:Int,Pure Tryz.prog env 125 [.agg x.cells,.int .i64 fr,.int .i64 b] (.agg (x.sl b fr).cells):=fun x hx=>ih x hx (ht.arg hx)
 clear ih
 have hv0:=congrArg (fun t:Tm=>V.agg t.cells) (Tm.sl_eq b t fr).symm
 have hin:∀ S,InV S (V.agg (t.sl b fr).cells):=fun S=>by simp [InV,InL_Tm]
 try simp only at hv0
 generalize hvv:V.agg (t.sl b fr).cells=v at hv0 hin ⊢
 clear hvv
 have hw:IntKind.i64.wrap (fr+1)=addW fr 1:=rfl
 have hw1:IntKind.i64.wrap (t.index+b)=addW t.index b:=rfl
 cases hb:(b==0) with
 | true =>
  rw [hb] at hv0
  simp only [if_true] at hv0
  subst hv0
  clear ih' hin
  exact ek_ Tryz.func125 [.cell 6 32]
 | false =>
 rw [hb] at hv0
 simp only [Bool.false_eq_true,if_false] at hv0
 cases hk:(t.kind==1) with
 | true =>
  rw [hk] at hv0
  simp only [if_true] at hv0
  clear ih'
  cases hi:decide (t.index≥fr)
  all_goals
   rw [hi] at hv0
   simp only [if_true,Bool.false_eq_true,if_false] at hv0
   rw [Tm.mk_cells] at hv0
   subst hv0
   clear hin
   rw [Tm.cells_eq t]
   exact ek_ Tryz.func125 [.cell 6 32]
 | false =>
 rw [hk] at hv0
 simp only [Bool.false_eq_true,if_false] at hv0
 generalize ha2:(if (t.kind==2)=true then addW fr 1 else fr)=a2 at hv0
 cases hl:(t.kind==2)
 all_goals
  rw [hl] at ha2
  simp only [if_true,Bool.false_eq_true,if_false] at ha2
  first|(obtain rfl:a2=fr:=ha2.symm)|skip
  rw [Tm.cells_eq t]
  refine en_ Tryz.func125 [.cell 6 32] fun g0 w0 gen hrel hfr hfr' hres=>?_
  refine wq_ ?_
  refine ar_ [1,2,6,7,34] [⟨gen,0,1⟩] (fun i σ=>Agree h σ.h∧∃ v,σ.h ⟨gen,9,1⟩=some (.box [.int .i64 t.kind,.int .i64 t.index,.int .i64 t.type.kind,.sl .any (t.type.args.map Ty.cells),v])∧OwnS h σ.h v 5 (((t.args.take i).map fun x=>x.sl b a2).map Tm.cells)) (t.args).length ?_ ?_ ?_
  ·simp only [go_sem, *]
   first|exact ⟨_,rfl,.inl rfl⟩|exact ⟨ag_,_,rfl,.inl rfl⟩
  ·clear hv0
   intro i σ gr0 hgl_gr0 hgn hlt jI jN jS ⟨jA,v,jb,jO0⟩
   obtain ⟨jT,jB⟩:=jS
   simp only [go_sem] at jT jB
   obtain ⟨hgf,hgf0,eg_gen_gr0,eh_gen_gr0⟩:=rnd hgn hgl_gr0 jA
   obtain ⟨x,hx,hxm,hm⟩:=rnx hlt
   clear hgn
   have hc:=ih' x hxm a2
   have hts:((t.args.take (i+1)).map fun x=>x.sl b a2).map Tm.cells=((t.args.take i).map fun x=>x.sl b a2).map Tm.cells++[(x.sl b a2).cells]:=by rw [map_take_succ hx,List.map_append];rfl
   clear ih'
   repeat' (first
    |(refine ⟨?_,?_⟩;focus ((repeat' (first|refine ⟨?_,?_⟩|refine .inr ?_));all_goals kernel_rfl))
    |(refine okE_app_ownd jO0 (by repeat (first|exact Keeps.refl _|refine Keeps.new ?_ (hgf _ _)|refine Keeps.new ?_ (hfr' _ _)|refine Keeps.box ?_ rfl|refine Keeps.box ?_ (by simp only [go_sem, *]))) rfl (by simp only [go_sem, *]<;>omega) (by first|exact hgf0 _ _|exact hfr' _ _) (by simp only [go_sem, *]) (by intro hd e;simp only [logOk_cons,logOk_nil,and_true];repeat (first|exact trivial|refine ⟨.inr (by kernel_rfl),?_⟩|exact .inr (by kernel_rfl))) ?_;intro v' h' id' jO jK jAg jAb jF;obtain ⟨cO,rfl⟩:=jO.val;simp only [go_sem, *])
    | (first|refine wp rfl ?_|refine spt rfl ?_|refine spf rfl ?_|(refine spl (fun hc=>?_) fun hc=>?_)<;>(try rw [beq_iff_eq] at hc)<;>try simp only [hc]|refine cp hc ?_|refine AR_inv ?_)<;>try simp only [go_sem, *])
   refine ⟨?_,_,rfl,jO.keep (Keeps.box (Keeps.refl _) (by simp only [go_sem, *]))⟩
   exact Agree.new (jAg ag_) (hfr' _ _)
  ·
   intro σ ga0 hgl_ga0 hgn jS ⟨jA,v,jb,jO0⟩
   obtain ⟨jT,jB⟩:=jS
   simp only [go_sem] at jT jB
   obtain ⟨hgf,hgf0,eg_gen_ga0,eh_gen_ga0⟩:=rnd hgn hgl_ga0 jA
   clear hgn
   rw [List.take_length] at jO0
   obtain ⟨c,rfl⟩:=jO0.val
   clear ih'
   rw [Tm.mk_cells] at hv0
   subst hv0
   exact wk_
theorem sl_W {b:Int}:∀ (t:Tm) (fr:Int),TmW t→TmW (t.sl b fr):=by
 intro t
 induction t using Tm.ind with|h t ih=>?_
 intro fr ht
 rw [Tm.sl_eq]
 repeat' split
 ·exact ht
 all_goals first|exact .mk _ _ _ _ ht.ty ht.len (fun x hx=>ht.arg hx)|skip
 all_goals
  refine .mk _ _ _ _ ht.ty (by rw [List.length_map];exact ht.len) ?_
  intro x hx
  obtain ⟨y,hy,rfl⟩:=List.mem_map.1 hx
  exact ih y hy _ (ht.arg hy)
theorem c_sput (s:Tm) (hs:TmW s) (a:Int):∀ t:Tm,TmW t→∀ d:Int,Pure Tryz.prog env 194 [.agg t.cells,.int .i64 a,.int .i64 d,.agg s.cells] (.agg (tmSp s a t d).cells):=by
 intro t
 induction t using Tm.ind with|h t ih=>?_
 intro ht d h
 have hlen:=ht.len
 have ih':∀ x∈t.args,∀ d:Int,Pure Tryz.prog env 194 [.agg x.cells,.int .i64 a,.int .i64 d,.agg s.cells] (.agg (tmSp s a x d).cells):=fun x hx=>ih x hx (ht.arg hx)
 clear ih
 have hv0:=congrArg (fun t:Tm=>V.agg t.cells) (tmSp_eq s a t d).symm
 have hin:∀ S,InV S (V.agg (tmSp s a t d).cells):=fun S=>by simp [InV,InL_Tm]
 try simp only at hv0
 generalize hvv:V.agg (tmSp s a t d).cells=v at hv0 hin ⊢
 clear hvv
 have hw:IntKind.i64.wrap (d+1)=addW d 1:=rfl
 have hw0:IntKind.i64.wrap (a+d)=addW a d:=rfl
 have hw1:IntKind.i64.wrap (t.index - 1)=subW t.index 1:=rfl
 cases hk:(t.kind==1) with
 | true =>
  rw [hk] at hv0
  simp only [if_true] at hv0
  have hU:=c_sLift (addW a d) s hs 0
  clear ih' hw
  generalize addW a d=a0 at *
  cases hk2:(t.index==a0) with
  | true =>
   rw [hk2] at hv0
   simp only [if_true] at hv0
   subst hv0
   exact ek_ Tryz.func194 [.cell 8 32]
  | false =>
   rw [hk2] at hv0
   simp only [Bool.false_eq_true,if_false] at hv0
   clear hU
   cases hk3:decide (t.index>a0)
   all_goals
    rw [hk3] at hv0
    simp only [if_true,Bool.false_eq_true,if_false] at hv0
    try rw [Tm.mk_cells] at hv0
    try rw [Tm.cells_eq t] at hv0
    subst hv0
    clear hin
    rw [Tm.cells_eq t]
    exact ek_ Tryz.func194 [.cell 8 32]
 | false =>
 rw [hk] at hv0
 simp only [Bool.false_eq_true,if_false] at hv0
 generalize ha2:(if (t.kind==2)=true then addW d 1 else d)=a2 at hv0
 clear hw0 hw1
 cases hl:(t.kind==2)
 all_goals
  rw [hl] at ha2
  simp only [if_true,Bool.false_eq_true,if_false] at ha2
  first|(obtain rfl:a2=d:=ha2.symm)|skip
  rw [Tm.cells_eq t]
  refine en_ Tryz.func194 [.cell 8 32] fun g0 w0 gen hrel hfr hfr' hres=>?_
  refine wq_ ?_
  refine ar_ [1,2,7,8,9,47] [⟨gen,0,1⟩,⟨gen,0,2⟩] (fun i σ=>Agree h σ.h∧∃ v,σ.h ⟨gen,9,1⟩=some (.box [.int .i64 t.kind,.int .i64 t.index,.int .i64 t.type.kind,.sl .any (t.type.args.map Ty.cells),v])∧OwnS h σ.h v 5 (((t.args.take i).map fun x=>tmSp s a x a2).map Tm.cells)) (t.args).length ?_ ?_ ?_
  ·simp only [go_sem, *]
   first|exact ⟨_,rfl,.inl rfl⟩|exact ⟨ag_,_,rfl,.inl rfl⟩
  ·clear hv0
   intro i σ gr0 hgl_gr0 hgn hlt jI jN jS ⟨jA,v,jb,jO0⟩
   obtain ⟨jT,jB⟩:=jS
   simp only [go_sem] at jT jB
   obtain ⟨hgf,hgf0,eg_gen_gr0,eh_gen_gr0⟩:=rnd hgn hgl_gr0 jA
   obtain ⟨x,hx,hxm,hm⟩:=rnx hlt
   clear hgn
   have hc:=ih' x hxm a2
   have hts:((t.args.take (i+1)).map fun x=>tmSp s a x a2).map Tm.cells=((t.args.take i).map fun x=>tmSp s a x a2).map Tm.cells++[(tmSp s a x a2).cells]:=by rw [map_take_succ hx,List.map_append];rfl
   clear ih'
   repeat' (first
    |(refine ⟨?_,?_⟩;focus ((repeat' (first|refine ⟨?_,?_⟩|refine .inr ?_));all_goals kernel_rfl))
    |(refine okE_app_ownd jO0 (by repeat (first|exact Keeps.refl _|refine Keeps.new ?_ (hgf _ _)|refine Keeps.new ?_ (hfr' _ _)|refine Keeps.box ?_ rfl|refine Keeps.box ?_ (by simp only [go_sem, *]))) rfl (by simp only [go_sem, *]<;>omega) (by first|exact hgf0 _ _|exact hfr' _ _) (by simp only [go_sem, *]) (by intro hd e;simp only [logOk_cons,logOk_nil,and_true];repeat (first|exact trivial|refine ⟨.inr (by kernel_rfl),?_⟩|exact .inr (by kernel_rfl))) ?_;intro v' h' id' jO jK jAg jAb jF;obtain ⟨cO,rfl⟩:=jO.val;simp only [go_sem, *])
    | (first|refine wp rfl ?_|refine spt rfl ?_|refine spf rfl ?_|(refine spl (fun hc=>?_) fun hc=>?_)<;>(try rw [beq_iff_eq] at hc)<;>try simp only [hc]|refine cp hc ?_|refine AR_inv ?_)<;>try simp only [go_sem, *])
   refine ⟨?_,_,rfl,jO.keep (Keeps.box (Keeps.refl _) (by simp only [go_sem, *]))⟩
   exact Agree.new (jAg ag_) (hfr' _ _)
  ·
   intro σ ga0 hgl_ga0 hgn jS ⟨jA,v,jb,jO0⟩
   obtain ⟨jT,jB⟩:=jS
   simp only [go_sem] at jT jB
   obtain ⟨hgf,hgf0,eg_gen_ga0,eh_gen_ga0⟩:=rnd hgn hgl_ga0 jA
   clear hgn
   rw [List.take_length] at jO0
   obtain ⟨c,rfl⟩:=jO0.val
   clear ih'
   rw [Tm.mk_cells] at hv0
   subst hv0
   exact wk_
theorem sp_W {s:Tm} (hs:TmW s) {a:Int}:∀ (t:Tm) (d:Int),TmW t→TmW (tmSp s a t d):=by
 intro t
 induction t using Tm.ind with|h t ih=>?_
 intro d ht
 rw [tmSp_eq]
 repeat' split
 ·exact sl_W _ _ hs
 ·exact .mk _ _ _ _ ht.ty ht.len (fun x hx=>ht.arg hx)
 ·exact ht
 all_goals
  refine .mk _ _ _ _ ht.ty (by rw [List.length_map];exact ht.len) ?_
  intro x hx
  obtain ⟨y,hy,rfl⟩:=List.mem_map.1 hx
  exact ih y hy _ (ht.arg hy)
theorem c_sEach {α:Type} (enc:α→List V) (F:Tm→Int→Tm) (G:Tm→Int→α→α) (kd:Nat) (cap:List V) (hcap:weakL cap=cap) (henc:∀ s (S:GoAbs.Id→Prop),InL S (enc s))
  (A d:GoAbs.Id) (oA:GoAbs.Obj) (nA:A≠d)
  (hdo:∀ t,TmW t→∀ b s,TurnsE Tryz.prog env kd (.agg t.cells::.int .i64 b::cap) [(A,oA)] d (.box (enc s)) (.agg (F t b).cells) (.box (enc (G t b s)))) :
  ∀ f:Fm,FmW f→∀ (b:Int) (s:α),TurnsE Tryz.prog env 119 [.agg f.cells,.int .i64 b,.fn (.func kd) [] cap] [(A,oA)] d (.box (enc s)) (.agg (f.ev F b).cells) (.box (enc (f.es G b s))):=by
 intro t
 induction t using Fm.ind with|h t ih=>?_
 intro ht b s h he hd
 simp only [List.mem_cons,List.not_mem_nil,or_false,forall_eq] at he
 have hlen:=ht.len
 have hlen2:=ht.tlen
 have ih':∀ x∈t.args,∀ (b:Int) (s:α),TurnsE Tryz.prog env 119 [.agg x.cells,.int .i64 b,.fn (.func kd) [] cap] [(A,oA)] d (.box (enc s)) (.agg (x.ev F b).cells) (.box (enc (x.es G b s))):=fun x hx=>ih x hx (ht.arg hx)
 have ht':∀ x∈t.terms,∀ b s,TurnsE Tryz.prog env kd (.agg x.cells::.int .i64 b::cap) [(A,oA)] d (.box (enc s)) (.agg (F x b).cells) (.box (enc (G x b s))):=fun x hx=>hdo x (ht.term hx)
 clear ih hdo ht
 have n3:(A=d)=False:=by simpa using nA
 clear nA
 have hw:IntKind.i64.wrap (b+1)=addW b 1:=rfl
 have hv0:=congrArg (fun t:Fm=>V.agg t.cells) (Fm.ev_eq F t b).symm
 have hs0:=(Fm.es_eq G t b s).symm
 try simp only at hv0
 have hin:∀ S,InV S (V.agg (t.ev F b).cells):=fun S=>by simp [InV,InL_Fm]
 generalize V.agg (t.ev F b).cells=v at hv0 hin ⊢
 generalize t.es G b s=sN at hs0 ⊢
 unfold evB at hv0 hs0
 generalize hb1:(if (decide (t.kind≥4)&&decide (t.kind≤7))=true then addW b 1 else b)=b1 at hv0 hs0
 have hq:((decide (t.kind≥4)=true∧decide (t.kind≤7)=true)∧addW b 1=b1)∨(decide (t.kind≥4)=true∧decide (t.kind≤7)=false∧b1=b)∨(decide (t.kind≥4)=false∧b1=b):=by
  cases q1:decide (t.kind≥4)<;>cases q2:decide (t.kind≤7)<;>rw [q1,q2] at hb1<;>simp_all
 clear hb1
 rcases hq with ⟨⟨q1,q2⟩,q3⟩|⟨q1,q2,rfl⟩|⟨q1,rfl⟩
 all_goals
  rw [Fm.cells_eq t]
  refine en_ Tryz.func119 [.cell 6 36] fun g0 w0 gen hrel hfr hfr' hres=>?_
  have f1:=fresh_ne hfr hd
  have f2:=fresh_ne' hfr hd
  have f5:=fresh_ne hfr he
  refine wq_ ?_
  refine ar_ [1,2,3,6,7,26] [⟨gen,0,0⟩,⟨gen,0,1⟩] (fun i σ=>AgreeBut d h σ.h∧∃ s' v,σ.h d=some (.box (enc s'))∧Fm.esL G t.args b1 (tmsS G b1 s' (t.terms.drop i))=sN∧σ.h ⟨gen,1,1⟩=some (.box [.int .i64 t.kind,.int .i64 t.type.kind,.sl .any (t.type.args.map Ty.cells),v,.sl .full []])∧OwnS h σ.h v 5 (((t.terms.take i).map fun x=>F x b1).map Tm.cells)) (t.terms).length ?_ ?_ ?_
  ·simp only [go_sem, *]
   exact ⟨by repeat (first|exact AgreeBut.refl _ _|assumption|refine AgreeBut.new ?_ (hfr' _ _)|refine AgreeBut.set ?_),_,_,rfl,hs0,rfl,.inl rfl⟩
  ·clear hv0 hs0 ih'
   intro i σ gr0 hgl_gr0 hgn hlt jI jN jS ⟨jA,s',v1,js,jv,jb,jO⟩
   obtain ⟨jT,jB⟩:=jS
   simp only [go_sem] at jT jB
   have hgf:=fresh_of hgn
   have hgf0:=agreeBut_fresh' hd jA hgf (fun r i e=>by have:=hfr d (by rw [hd];simp);rw [e] at this;simp at this;omega)
   have fd_gr0:=fresh_ne2 hfr hd (show gen<gr0 by omega)
   have fe_gr0:=fresh_ne2' hfr hd (show gen<gr0 by omega)
   have eg_gen_gr0:=gen_lt (show gen<gr0 by omega)
   have eh_gen_gr0:=gen_lt' (show gen<gr0 by omega)
   obtain ⟨x,hx,hxm,hm⟩:=rnx hlt
   clear hgn
   rw [drop_get hx,tmsS_cons] at jv
   have hc:=ht' x hxm b1 s'
   have hA':=(jA A (by simpa using n3) (by rw [he];simp)).trans he
   have g5:=fresh_ne2 hfr he hgl_gr0
   have hts:((t.terms.take (i+1)).map fun x=>F x b1).map Tm.cells=((t.terms.take i).map fun x=>F x b1).map Tm.cells++[(F x b1).cells]:=by rw [map_take_succ hx,List.map_append];rfl
   clear ht' he
   repeat' (first
    |(refine ⟨?_,?_⟩;focus ((repeat' (first|refine ⟨?_,?_⟩|refine .inr ?_));all_goals kernel_rfl))
    |(refine okE_app_owne jO (by repeat (first|exact Keeps.refl _|refine Keeps.new ?_ (hgf _ _)|refine Keeps.new ?_ (hfr' _ _)|refine Keeps.box ?_ rfl|refine Keeps.box ?_ (by simp only [go_sem, *]))) rfl (by simp only [go_sem, *]<;>omega) (by first|exact hgf0 _ _|exact hfr' _ _) (by simp only [go_sem, *]) (by intro hd e;simp only [logOk_cons,logOk_nil,and_true];repeat (first|exact trivial|refine ⟨.inr (by kernel_rfl),?_⟩|exact .inr (by kernel_rfl))) ?_;intro v' h' id' jO jK jAg jAb jF jI;obtain ⟨cO,rfl⟩:=jO.val;simp only [go_sem, *])
    | (first|refine wp rfl ?_|refine spt rfl ?_|refine spf rfl ?_|(refine spl (fun hc=>?_) fun hc=>?_)<;>(try rw [beq_iff_eq] at hc)<;>try simp only [hc]|(refine gs (fun hb=>?_) fun hb=>?_)<;>try simp only [Bool.not_true,Bool.not_false] at hb|(refine Call1_turnE (hc) ?_ ?_ ?_;(focus ((simp only [go_sem, *]<;>(repeat (first|assumption|rfl|refine And.intro ?_ ?_)));done));(focus ((simp only [go_sem, *]<;>first|rfl|assumption);done)))|refine AR_inv ?_)<;>try simp only [go_sem, *])
   exact ⟨AgreeBut.new (jAb d (by repeat (first|assumption|refine AgreeBut.set ?_|refine AgreeBut.new ?_ (hgf0 _ _)))) (hfr' _ _),_,_,rfl,jv,rfl,jO.keep (Keeps.box (Keeps.refl _) (by simp only [go_sem, *]))⟩
  clear ht' hs0
  intro σ ga0 hgl_ga0 hgn jS ⟨jA,s1,v1,js,jv,jb,jO1⟩
  obtain ⟨jT,jB⟩:=jS
  simp only [go_sem] at jT jB
  have hgf:=fresh_of hgn
  have hgf0:=agreeBut_fresh' hd jA hgf (fun r i e=>by have:=hfr d (by rw [hd];simp);rw [e] at this;simp at this;omega)
  have fd_ga0:=fresh_ne2 hfr hd (show gen<ga0 by omega)
  have fe_ga0:=fresh_ne2' hfr hd (show gen<ga0 by omega)
  have eg_gen_ga0:=gen_lt (show gen<ga0 by omega)
  have eh_gen_ga0:=gen_lt' (show gen<ga0 by omega)
  clear hgn
  rw [List.take_length] at jO1
  rw [List.drop_length,tmsS_nil] at jv
  obtain ⟨c1,rfl⟩:=jO1.val
  clear jO1
  refine wq_ ?_
  refine ar_ [1,2,6,7,43] [⟨gen,0,1⟩] (fun i σ=>AgreeBut d h σ.h∧∃ s' v,σ.h d=some (.box (enc s'))∧Fm.esL G (t.args.drop i) b1 s'=sN∧σ.h ⟨gen,1,1⟩=some (.box [.int .i64 t.kind,.int .i64 t.type.kind,.sl .any (t.type.args.map Ty.cells),.sl c1 ((t.terms.map fun x=>F x b1).map Tm.cells),v])∧OwnS h σ.h v 5 (((t.args.take i).map fun x=>x.ev F b1).map Fm.cells)) (t.args).length ?_ ?_ ?_
  ·simp only [go_sem, *]
   first|exact ⟨jA,_,_,rfl,jv,rfl,.inl rfl⟩|exact ⟨_,_,rfl,jv,rfl,.inl rfl⟩
  ·clear hv0 jv
   intro i σ gr1 hgl_gr1 hgn hlt jI jN jS ⟨jA,s',v1,js',jv,jb',jO⟩
   obtain ⟨jT,jB⟩:=jS
   simp only [go_sem] at jT jB
   have hgf:=fresh_of hgn
   have hgf0:=agreeBut_fresh' hd jA hgf (fun r i e=>by have:=hfr d (by rw [hd];simp);rw [e] at this;simp at this;omega)
   have fd_gr1:=fresh_ne2 hfr hd (show gen<gr1 by omega)
   have fe_gr1:=fresh_ne2' hfr hd (show gen<gr1 by omega)
   have eg_gen_gr1:=gen_lt (show gen<gr1 by omega)
   have eh_gen_gr1:=gen_lt' (show gen<gr1 by omega)
   have eg_ga0_gr1:=gen_lt (show ga0<gr1 by omega)
   have eh_ga0_gr1:=gen_lt' (show ga0<gr1 by omega)
   obtain ⟨x,hx,hxm,hm⟩:=rnx hlt
   clear hgn
   rw [drop_get hx,Fm.esL_cons] at jv
   have hc:=ih' x hxm b1 s'
   have hA':=(jA A (by simpa using n3) (by rw [he];simp)).trans he
   have g5:=fresh_ne2 hfr he (show gen<gr1 by omega)
   have hts:((t.args.take (i+1)).map fun x=>x.ev F b1).map Fm.cells=((t.args.take i).map fun x=>x.ev F b1).map Fm.cells++[(x.ev F b1).cells]:=by rw [map_take_succ hx,List.map_append];rfl
   clear ih' he
   repeat' (first
    |(refine ⟨?_,?_⟩;focus ((repeat' (first|refine ⟨?_,?_⟩|refine .inr ?_));all_goals kernel_rfl))
    |(refine okE_app_owne jO (by repeat (first|exact Keeps.refl _|refine Keeps.new ?_ (hgf _ _)|refine Keeps.new ?_ (hfr' _ _)|refine Keeps.box ?_ rfl|refine Keeps.box ?_ (by simp only [go_sem, *]))) rfl (by simp only [go_sem, *]<;>omega) (by first|exact hgf0 _ _|exact hfr' _ _) (by simp only [go_sem, *]) (by intro hd e;simp only [logOk_cons,logOk_nil,and_true];repeat (first|exact trivial|refine ⟨.inr (by kernel_rfl),?_⟩|exact .inr (by kernel_rfl))) ?_;intro v' h' id' jO jK jAg jAb jF jI;obtain ⟨cO,rfl⟩:=jO.val;simp only [go_sem, *])
    | (first|refine wp rfl ?_|refine spt rfl ?_|refine spf rfl ?_|(refine spl (fun hc=>?_) fun hc=>?_)<;>(try rw [beq_iff_eq] at hc)<;>try simp only [hc]|(refine gs (fun hb=>?_) fun hb=>?_)<;>try simp only [Bool.not_true,Bool.not_false] at hb|(refine Call1_turnE (hc) ?_ ?_ ?_;(focus ((simp only [go_sem, *]<;>(repeat (first|assumption|rfl|refine And.intro ?_ ?_)));done));(focus ((simp only [go_sem, *]<;>first|rfl|assumption);done)))|refine AR_inv ?_)<;>try simp only [go_sem, *])
   exact ⟨AgreeBut.new (jAb d (by repeat (first|assumption|refine AgreeBut.set ?_|refine AgreeBut.new ?_ (hgf0 _ _)))) (hfr' _ _),_,_,rfl,jv,rfl,jO.keep (Keeps.box (Keeps.refl _) (by simp only [go_sem, *]))⟩
  ·
   intro σ ga1 hgl_ga1 hgn jS ⟨jA,s2,v2,js2,jv2,jb2,jO2⟩
   obtain ⟨jT,jB⟩:=jS
   simp only [go_sem] at jT jB
   have hgf:=fresh_of hgn
   have hgf0:=agreeBut_fresh' hd jA hgf (fun r i e=>by have:=hfr d (by rw [hd];simp);rw [e] at this;simp at this;omega)
   have fd_ga1:=fresh_ne2 hfr hd (show gen<ga1 by omega)
   have fe_ga1:=fresh_ne2' hfr hd (show gen<ga1 by omega)
   have eg_gen_ga1:=gen_lt (show gen<ga1 by omega)
   have eh_gen_ga1:=gen_lt' (show gen<ga1 by omega)
   have eg_ga0_ga1:=gen_lt (show ga0<ga1 by omega)
   have eh_ga0_ga1:=gen_lt' (show ga0<ga1 by omega)
   clear hgn
   rw [List.take_length] at jO2
   rw [List.drop_length,Fm.esL_nil] at jv2
   obtain ⟨c2,rfl⟩:=jO2.val
   subst jv2
   clear ih' jO2
   rw [Fm.mk_cells] at hv0
   subst hv0
   refine wq_ ?_
   refine AR_fin_turn hrel hd (hin _) (henc _ _) (by repeat (first|assumption|refine AgreeBut.new ?_ (hfr' _ _))) (by simp only [go_sem, *]) ?_
   simp only [go_sem, *]
end Go.Proofs.YtmnplkmphgkooaaGreatDoor
