/-
 Walks: several parts in one text.
-/
import Derived.Test.YtmnplkmphgkooaaGreatDoorNx
import Derived.Test.YtmnplkmphgkooaaGreatDoorAbsD
import Derived.Test.YtmnplkmphgkooaaGreatDoorMb
import Derived.Test.YtmnplkmphgkooaaGreatDoorMa
set_option linter.unusedSimpArgs false
set_option linter.unusedVariables false
set_option maxRecDepth 20000
set_option maxHeartbeats 4000000
namespace Go.Proofs.YtmnplkmphgkooaaGreatDoor
open Go GoAbs Go.Proofs
theorem c_Own1 (t:Tm) (ht:TmW t) (b:Int):Pure Tryz.prog env 184 [.agg t.cells,.int .i64 b] (.agg t.cells):=by
 intro h
 refine en_ Tryz.func184 [.cell 4 32] fun g0 w0 gen hrel hfr hfr' hres=>?_
 repeat' (first
  |exact hin _|exact agf (by assumption)
  | (first|refine wp rfl ?_|refine cp (c_Own _ ht) ?_|refine finF hrel ?_ ?_ ?_)<;>try simp only [go_sem, *])
theorem c_RebuildOwn:∀ f:Fm,FmW f→∀ b:Int,Pure Tryz.prog env 141 [.agg f.cells,.int .i64 b,.fn (.func 184) [] []] (.agg f.cells):=by
 intro t
 induction t using Fm.ind with|h t ih=>?_
 intro ht b h
 have hlen:=ht.len
 have hlen2:=ht.tlen
 have ih':∀ x∈t.args,∀ b:Int,Pure Tryz.prog env 141 [.agg x.cells,.int .i64 b,.fn (.func 184) [] []] (.agg x.cells):=fun x hx=>ih x hx (ht.arg hx)
 have ht':∀ x∈t.terms,∀ b:Int,Pure Tryz.prog env 184 [.agg x.cells,.int .i64 b] (.agg x.cells):=fun x hx b=>c_Own1 x (ht.term hx) b
 have hO:=c_OwnType t.type ht.ty
 have hQ:=c_Quantifier t.kind
 clear ih ht
 refine en_ Tryz.func141 [.cell 6 36] fun g0 w0 gen hrel hfr hfr' hres=>?_
 refine wq_ ?_
 refine ar_ [1,2,3,6,7,19] [⟨gen,0,0⟩,⟨gen,0,1⟩] (fun i σ=>Agree h σ.h∧∃ v,σ.h ⟨gen,1,6⟩=some (.box [.int .i64 t.kind,.int .i64 t.type.kind,.sl .any (t.type.args.map Ty.cells),v,.sl .full []])∧OwnS h σ.h v 5 ((t.terms.take i).map Tm.cells)) (t.terms).length ?_ ?_ ?_
 ·simp only [go_sem, *]
  exact ⟨ag_,_,rfl,.inl rfl⟩
 ·clear ih'
  intro i σ gr0 hgl_gr0 hgn hlt jI jN jS ⟨jA,v,jb,jO0⟩
  obtain ⟨jT,jB⟩:=jS
  simp only [go_sem] at jT jB
  obtain ⟨hgf,hgf0,eg_gen_gr0,eh_gen_gr0⟩:=rnd hgn hgl_gr0 jA
  obtain ⟨x,hx,hxm,hm⟩:=rnx hlt
  clear hgn
  have hc:=ht' x hxm b
  have hts:(t.terms.take (i+1)).map Tm.cells=(t.terms.take i).map Tm.cells++[x.cells]:=by rw [map_take_succ hx]
  clear ht'
  repeat' (first
   |(refine ⟨?_,?_⟩;focus ((repeat' (first|refine ⟨?_,?_⟩|refine .inr ?_));all_goals kernel_rfl))
   |(refine okE_app_ownd jO0 (by repeat (first|exact Keeps.refl _|refine Keeps.new ?_ (hgf _ _)|refine Keeps.new ?_ (hfr' _ _)|refine Keeps.box ?_ rfl|refine Keeps.box ?_ (by simp only [go_sem, *]))) rfl (by simp only [go_sem, *]<;>omega) (by first|exact hgf0 _ _|exact hfr' _ _) (by simp only [go_sem, *]) (by intro hd e;simp only [logOk_cons,logOk_nil,and_true];repeat (first|exact trivial|refine ⟨.inr (by kernel_rfl),?_⟩|exact .inr (by kernel_rfl))) ?_;intro v' h' id' jO jK jAg jAb jF;obtain ⟨cO,rfl⟩:=jO.val;simp only [go_sem, *])
   | (first|refine wp rfl ?_|refine spt rfl ?_|refine spf rfl ?_|(refine spl (fun hc=>?_) fun hc=>?_)<;>(try rw [beq_iff_eq] at hc)<;>try simp only [hc]|refine cp hc ?_|refine AR_inv ?_)<;>try simp only [go_sem, *])
  refine ⟨?_,_,rfl,jO.keep (Keeps.box (Keeps.refl _) (by simp only [go_sem, *]))⟩
  exact Agree.new (jAg ag_) (hfr' _ _)
 clear ht'
 intro σ ga0 hgl_ga0 hgn jS ⟨jA,v1,jb,jO1⟩
 obtain ⟨jT,jB⟩:=jS
 simp only [go_sem] at jT jB
 obtain ⟨hgf,hgf0,eg_gen_ga0,eh_gen_ga0⟩:=rnd hgn hgl_ga0 jA
 clear hgn
 rw [List.take_length] at jO1
 obtain ⟨c1,rfl⟩:=jO1.val
 clear jO1
 cases hq:(decide (t.kind≥4)&&decide (t.kind≤7))
 all_goals
  rw [hq] at hQ
  clear hq
  refine wq_ ?_
  refine ar_ [1,2,6,7,41] [⟨gen,0,1⟩] (fun i σ=>Agree h σ.h∧∃ v,σ.h ⟨gen,1,6⟩=some (.box [.int .i64 t.kind,.int .i64 t.type.kind,.sl .any (t.type.args.map Ty.cells),.sl c1 (t.terms.map Tm.cells),v])∧OwnS h σ.h v 5 ((t.args.take i).map Fm.cells)) (t.args).length ?_ ?_ ?_
  ·simp only [go_sem, *]
   first|exact ⟨_,rfl,.inl rfl⟩|exact ⟨ag_,_,rfl,.inl rfl⟩
  ·
   intro i σ gr1 hgl_gr1 hgn hlt jI jN jS ⟨jA,v,jb',jO0⟩
   obtain ⟨jT,jB⟩:=jS
   simp only [go_sem] at jT jB
   have hgf:=fresh_of hgn
   have hgf0:=fun r i=>agree_fresh jA (hgf r i)
   have eg_gen_gr1:=gen_lt (show gen<gr1 by omega)
   have eh_gen_gr1:=gen_lt' (show gen<gr1 by omega)
   have eg_ga0_gr1:=gen_lt (show ga0<gr1 by omega)
   have eh_ga0_gr1:=gen_lt' (show ga0<gr1 by omega)
   obtain ⟨x,hx,hxm,hm⟩:=rnx hlt
   clear hgn
   have hc:=fun b=>ih' x hxm b
   have hts:(t.args.take (i+1)).map Fm.cells=(t.args.take i).map Fm.cells++[x.cells]:=by rw [map_take_succ hx]
   clear ih'
   repeat' (first
    |(refine ⟨?_,?_⟩;focus ((repeat' (first|refine ⟨?_,?_⟩|refine .inr ?_));all_goals kernel_rfl))
    |(refine okE_app_ownd jO0 (by repeat (first|exact Keeps.refl _|refine Keeps.new ?_ (hgf _ _)|refine Keeps.new ?_ (hfr' _ _)|refine Keeps.box ?_ rfl|refine Keeps.box ?_ (by simp only [go_sem, *]))) rfl (by simp only [go_sem, *]<;>omega) (by first|exact hgf0 _ _|exact hfr' _ _) (by simp only [go_sem, *]) (by intro hd e;simp only [logOk_cons,logOk_nil,and_true];repeat (first|exact trivial|refine ⟨.inr (by kernel_rfl),?_⟩|exact .inr (by kernel_rfl))) ?_;intro v' h' id' jO jK jAg jAb jF;obtain ⟨cO,rfl⟩:=jO.val;simp only [go_sem, *])
    | (first|refine wp rfl ?_|refine spt rfl ?_|refine spf rfl ?_|(refine spl (fun hc=>?_) fun hc=>?_)<;>(try rw [beq_iff_eq] at hc)<;>try simp only [hc]|refine cp (hc _) ?_|refine AR_inv ?_)<;>try simp only [go_sem, *])
   refine ⟨?_,_,rfl,jO.keep (Keeps.box (Keeps.refl _) (by simp only [go_sem, *]))⟩
   exact Agree.new (jAg ag_) (hfr' _ _)
  ·
   intro σ ga1 hgl_ga1 hgn jS ⟨jA,v,jb',jO0⟩
   obtain ⟨jT,jB⟩:=jS
   simp only [go_sem] at jT jB
   have hgf:=fresh_of hgn
   have hgf0:=fun r i=>agree_fresh jA (hgf r i)
   have eg_gen_ga1:=gen_lt (show gen<ga1 by omega)
   have eh_gen_ga1:=gen_lt' (show gen<ga1 by omega)
   have eg_ga0_ga1:=gen_lt (show ga0<ga1 by omega)
   have eh_ga0_ga1:=gen_lt' (show ga0<ga1 by omega)
   clear hgn
   rw [List.take_length] at jO0
   obtain ⟨c,rfl⟩:=jO0.val
   clear ih'
   refine wq_ ?_
   rw [Fm.cells_eq]
theorem c_OwnFormula (f:Fm) (hf:FmW f):Pure Tryz.prog env 155 [.agg f.cells] (.agg f.cells):=by
 intro h
 have zq0:=c_RebuildOwn f hf 0
 exact ek_ Tryz.func155 [.cell 2 36]
theorem c_each1 {α:Type} (enc:α→V) (F:Int→Int→α→α) (kd:Nat) (cap:List V) (hcap:weakL cap=cap) (henc:∀ s (S:GoAbs.Id→Prop),InV S (enc s))
  (D E A d:GoAbs.Id) (oA:GoAbs.Obj) (nD:D≠d) (nE:E≠d) (nA:A≠d)
  (hdo:∀ i b s,TurnsE Tryz.prog env kd (.int .i64 i::.int .i64 b::cap) [(A,oA)] d (.box [enc s]) (.tup []) (.box [enc (F i b s)])) :
  ∀ t:Tm,TmW t→∀ (b:Int) (s:α),TurnsE Tryz.prog env 172 [.agg t.cells,.int .i64 b,.ptr D 0,.ptr E 0]
   [(D,.box [.fn (.func kd) [] cap]),(E,.box [.fn (.func 172) [] [.ptr D 0,.ptr E 0]]),(A,oA)] d (.box [enc s]) (.tup []) (.box [enc (t.eachF F b s)]):=by
 intro t
 induction t using Tm.ind with|h t ih=>?_
 intro ht b s h he hd
 simp only [List.mem_cons,List.not_mem_nil,or_false,forall_eq_or_imp,forall_eq] at he
 obtain ⟨hD,hE,hA⟩:=he
 have hlen:=ht.len
 have ih':∀ x∈t.args,∀ (b:Int) (s:α),TurnsE Tryz.prog env 172 [.agg x.cells,.int .i64 b,.ptr D 0,.ptr E 0]
   [(D,.box [.fn (.func kd) [] cap]),(E,.box [.fn (.func 172) [] [.ptr D 0,.ptr E 0]]),(A,oA)] d (.box [enc s]) (.tup []) (.box [enc (x.eachF F b s)]):=fun x hx=>ih x hx (ht.arg hx)
 clear ih ht
 have n1:(D=d)=False:=by simpa using nD
 have n2:(E=d)=False:=by simpa using nE
 have n3:(A=d)=False:=by simpa using nA
 clear nD nE nA
 have hw:IntKind.i64.wrap (b+1)=addW b 1:=rfl
 have hv0:=(Tm.eachF_eq F t b s).symm
 generalize t.eachF F b s=v at hv0 ⊢
 cases k1:(t.kind==1)
 all_goals
  rw [k1] at hv0
  generalize hb1:(if (t.kind==2)=true then addW b 1 else b)=b1 at hv0
  cases k2:(t.kind==2)
  all_goals
   rw [k2] at hb1
   simp only [if_true,Bool.false_eq_true,if_false] at hb1 hv0
   first|(obtain rfl:b1=b:=hb1.symm)|skip
   refine en_ Tryz.func172 [] fun g0 w0 gen hrel hfr hfr' hres=>?_
   have f1:=fresh_ne hfr hd
   have f2:=fresh_ne' hfr hd
   have f3:=fresh_ne hfr hD
   have f4:=fresh_ne hfr hE
   have f5:=fresh_ne hfr hA
   repeat' (first
    | (first|refine wp rfl ?_|refine spt rfl ?_|refine spf rfl ?_|(refine spl (fun hc=>?_) fun hc=>?_)<;>(try rw [beq_iff_eq] at hc)<;>try simp only [hc]|(refine Call1_turnE (hdo _ _ s) ?_ ?_ ?_;(focus ((simp only [go_sem, *]<;>(repeat (first|assumption|rfl|refine And.intro ?_ ?_)));done));(focus ((simp only [go_sem, *]<;>first|rfl|assumption);done))))<;>try simp only [go_sem, *])
   refine ar_ [1,3,22] [] (fun i σ=>AgreeBut d h σ.h∧∃ s',σ.h d=some (.box [enc s'])∧Tm.eachL F (t.args.drop i) b1 s'=v) (t.args).length ?_ ?_ ?_
   ·simp only [go_sem, *]
    exact ⟨by repeat (first|exact AgreeBut.refl _ _|assumption|refine AgreeBut.new ?_ (hfr' _ _)|refine AgreeBut.set ?_),_,rfl,hv0⟩
   ·clear hv0
    intro i σ gr0 hgl_gr0 hgn hlt jI jN jS ⟨jA,s',js,jv⟩
    obtain ⟨jT,jB⟩:=jS
    simp only [go_sem] at jT jB
    have hgf:=fresh_of hgn
    have hgf0:=agreeBut_fresh' hd jA hgf (fun r i e=>by have:=hfr d (by rw [hd];simp);rw [e] at this;simp at this;omega)
    have fd_gr0:=fresh_ne2 hfr hd (show gen<gr0 by omega)
    have fe_gr0:=fresh_ne2' hfr hd (show gen<gr0 by omega)
    have eg_gen_gr0:=gen_lt (show gen<gr0 by omega)
    have eh_gen_gr0:=gen_lt' (show gen<gr0 by omega)
    obtain ⟨x,hx,hxm,hm⟩:=rnx hlt
    clear hgn
    rw [drop_get hx,Tm.eachL_cons] at jv
    have hc:=fun b s=>ih' x hxm b s
    have hD':=(jA D (by simpa using n1) (by rw [hD];simp)).trans hD
    have hE':=(jA E (by simpa using n2) (by rw [hE];simp)).trans hE
    have hA':=(jA A (by simpa using n3) (by rw [hA];simp)).trans hA
    have g3:=fresh_ne2 hfr hD hgl_gr0
    have g4:=fresh_ne2 hfr hE hgl_gr0
    have g5:=fresh_ne2 hfr hA hgl_gr0
    clear ih' hD hE hA
    repeat' (first
     | (first|refine wp rfl ?_|refine spt rfl ?_|refine spf rfl ?_|(refine spl (fun hc=>?_) fun hc=>?_)<;>(try rw [beq_iff_eq] at hc)<;>try simp only [hc]|(refine Call1_turnE (hc _ s') ?_ ?_ ?_;(focus ((simp only [go_sem, *]<;>(repeat (first|assumption|rfl|refine And.intro ?_ ?_)));done));(focus ((simp only [go_sem, *]<;>first|rfl|assumption);done)))|refine AR_inv ?_)<;>try simp only [go_sem, *])
    exact ⟨by repeat (first|assumption|refine AgreeBut.new ?_ (hgf0 _ _)|refine AgreeBut.set ?_),_,rfl,jv⟩
   ·clear hv0
    intro σ ga0 hgl_ga0 hgn jS ⟨jA,s',js,jv⟩
    obtain ⟨jT,jB⟩:=jS
    simp only [go_sem] at jT jB
    have hgf:=fresh_of hgn
    have hgf0:=agreeBut_fresh' hd jA hgf (fun r i e=>by have:=hfr d (by rw [hd];simp);rw [e] at this;simp at this;omega)
    have fd_ga0:=fresh_ne2 hfr hd (show gen<ga0 by omega)
    have fe_ga0:=fresh_ne2' hfr hd (show gen<ga0 by omega)
    have eg_gen_ga0:=gen_lt (show gen<ga0 by omega)
    have eh_gen_ga0:=gen_lt' (show gen<ga0 by omega)
    clear hgn
    rw [List.drop_length,Tm.eachL_nil] at jv
    subst jv
    clear ih'
    refine wq_ ?_
    refine AR_fin_turn hrel hd (by simp only [go_sem,and_self]) (by simp only [InL,henc,and_self]) jA js ?_
    simp only [go_sem, *]
theorem c_Each {α:Type} (enc:α→V) (F:Int→Int→α→α) (kd:Nat) (cap:List V) (hcap:weakL cap=cap) (henc:∀ s (S:GoAbs.Id→Prop),InV S (enc s))
  (A d:GoAbs.Id) (oA:GoAbs.Obj) (nA:A≠d)
  (hdo:∀ i b s,TurnsE Tryz.prog env kd (.int .i64 i::.int .i64 b::cap) [(A,oA)] d (.box [enc s]) (.tup []) (.box [enc (F i b s)]))
  (t:Tm) (ht:TmW t) (s:α):TurnsE Tryz.prog env 137 [.agg t.cells,.fn (.func kd) [] cap] [(A,oA)] d (.box [enc s]) (.tup []) (.box [enc (t.eachF F 0 s)]):=by
 intro h he hd
 simp only [List.mem_cons,List.not_mem_nil,or_false,forall_eq] at he
 refine en_ Tryz.func137 [] fun g0 w0 gen hrel hfr hfr' hres=>?_
 have f1:=fresh_ne hfr hd
 have f2:=fresh_ne' hfr hd
 have f5:=fresh_ne hfr he
 have hc:=c_each1 enc F kd cap hcap henc ⟨gen,0,1⟩ ⟨gen,1,0⟩ A d oA (by simpa using f2 0 1) (by simpa using f2 1 0) nA hdo t ht 0 s
 have n3:(A=d)=False:=by simpa using nA
 clear hdo nA
 generalize t.eachF F 0 s=v at hc ⊢
 repeat' (first
  | (first|refine wp rfl ?_|(refine Call1_turnE (hc) ?_ ?_ ?_;(focus ((simp only [go_sem, *]<;>(repeat (first|assumption|rfl|refine And.intro ?_ ?_)));done));(focus ((simp only [go_sem, *]<;>first|rfl|assumption);done))))<;>try simp only [go_sem, *])
 refine AR_fin_turn hrel hd (by simp only [go_sem,and_self]) (by simp only [InL,henc,and_self]) ?_ (by simp only [go_sem, *]) ?_
 ·repeat (first|exact AgreeBut.refl _ _|assumption|refine AgreeBut.new ?_ (hfr' _ _)|refine AgreeBut.set ?_)
 ·simp only [go_sem, *]
theorem c_Count1 (a:Int) (A d:GoAbs.Id) (nA:A≠d) (i b n:Int) :
  TurnsE Tryz.prog env 173 (.int .i64 i::.int .i64 b::[.ptr A 0,.ptr d 0]) [(A,.box [.int .i64 a])] d (.box [.int .i64 n]) (.tup []) (.box [.int .i64 (countF a i b n)]):=by
 intro h he hd
 simp only [List.mem_cons,List.not_mem_nil,or_false,forall_eq] at he
 have n3:(A=d)=False:=by simpa using nA
 have hw:IntKind.i64.wrap (i - b)=subW i b:=rfl
 have hw1:IntKind.i64.wrap (n+1)=addW n 1:=rfl
 unfold countF
 generalize subW i b=q at *
 generalize addW n 1=m at *
 clear nA
 cases hq:(q==a)
 all_goals
  simp only [if_true,Bool.false_eq_true,if_false]
  refine en_ Tryz.func173 [] fun g0 w0 gen hrel hfr hfr' hres=>?_
  have f1:=fresh_ne hfr hd
  have f2:=fresh_ne' hfr hd
  exact wkT_
theorem c_tCount (t:Tm) (ht:TmW t) (a:Int):Pure Tryz.prog env 140 [.agg t.cells,.int .i64 a] (.int .i64 (t.count a)):=by
 intro h
 unfold Tm.count
 refine en_ Tryz.func140 [.tmp 4] fun g0 w0 gen hrel hfr hfr' hres=>?_
 have nA:(⟨gen,0,1⟩:GoAbs.Id)≠⟨gen,1,0⟩:=by simp
 have hc:=c_Each (fun n:Int=>V.int .i64 n) (countF a) 173 [.ptr ⟨gen,0,1⟩ 0,.ptr ⟨gen,1,0⟩ 0] rfl (fun _ _=>by simp [InV]) ⟨gen,0,1⟩ ⟨gen,1,0⟩ (.box [.int .i64 a]) nA
  (fun i b n=>c_Count1 a _ _ nA i b n) t ht 0
 clear nA
 generalize t.eachF (countF a) 0 0=v at hc ⊢
 repeat' (first
  |exact hin _|exact agf (by assumption)
  | (first|refine wp rfl ?_|(refine Call1_turnE (hc) ?_ ?_ ?_;(focus ((simp only [go_sem, *]<;>(repeat (first|assumption|rfl|refine And.intro ?_ ?_)));done));(focus ((simp only [go_sem, *]<;>first|rfl|assumption);done)))|refine finF hrel ?_ ?_ ?_)<;>try simp only [go_sem, *])
theorem boundV_no {f:Fm} (h:isBnd f=false):boundV f=.tup [.bool false,.agg zeroT.cells,.agg zeroF.cells,.bool false]:=by unfold boundV;rw [h];rfl
theorem zeroT_cells:zeroT.cells=[.int .i64 0,.int .i64 0,.int .i64 0,.sl .any [],.sl .any []]:=by simp [zeroT,Tm.mk_cells,Ty.mk_kind,Ty.mk_args]
theorem zeroF_cells:zeroF.cells=[.int .i64 0,.int .i64 0,.sl .any [],.sl .any [],.sl .any []]:=by simp [zeroF,Fm.mk_cells,Ty.mk_kind,Ty.mk_args]
theorem c_bound (f:Fm) (hf:FmW f) (hg:f.good=true) (hk0:f.kind=4∨f.kind=5∨f.kind=6∨f.kind=7):Pure Tryz.prog env 151 [.agg f.cells] (boundV f):=by
 intro h
 obtain ⟨a,ha,ga⟩:=Fm.good_q hg hk0
 have wa:FmW a:=hf.arg (by rw [ha];simp)
 have hb4:((4:Int) != 4)=false:=rfl
 have hb5:((5:Int) != 5)=false:=rfl
 have hb6:((6:Int) != 5)=true:=rfl
 have hb7:((7:Int) != 5)=true:=rfl
 have hzt:=zeroT_cells
 have hzf:=zeroF_cells
 obtain hk|hk|hk:f.kind=4∨f.kind=5∨(f.kind=6∨f.kind=7):=by omega
 rotate_left 2
 ·rw [boundV_no (bnd_k hk)]
  have hJ:=c_joint false
  simp only [Bool.false_eq_true,if_false] at hJ
  rcases hk with hk|hk
  all_goals
   clear hk0 ga wa hf hg
   exact ek_ Tryz.func151 [.tmp 2,.cell 3 32,.cell 4 36,.tmp 5]
 ·have hJ:=c_joint true
  simp only [if_true] at hJ
  cases k1:(f.type.kind != 1) with
  | true =>
   rw [boundV_no (bnd_ty k1)]
   clear hk0 ga wa hf hg
   exact ek_ Tryz.func151 [.tmp 2,.cell 3 32,.cell 4 36,.tmp 5]
  | false =>
  cases k2:(a.kind != 3) with
  | true =>
   rw [boundV_no (bnd_a4 hk ha k2)]
   clear hk0 ga wa hf hg
   exact ek_ Tryz.func151 [.tmp 2,.cell 3 32,.cell 4 36,.tmp 5]
  | false =>
  have hka:a.kind=3:=by simpa using k2
  obtain ⟨x,y,hx,gx,gy⟩:=Fm.good_two ga (.inr hka)
  have wx:FmW x:=wa.arg (by rw [hx];simp)
  cases k3:(x.kind != 1) with
  | true =>
   rw [boundV_no (bnd_x ha hx k3)]
   clear hk0 ga wa hf hg gx gy wx hka
   exact ek_ Tryz.func151 [.tmp 2,.cell 3 32,.cell 4 36,.tmp 5]
  | false =>
  have hkx:x.kind=1:=by simpa using k3
  obtain ⟨u,v,hu,gu,gv⟩:=Fm.good_eqn gx hkx
  have wu:TmW u:=wx.term (by rw [hu];simp)
  cases k4:(u.kind != 3) with
  | true =>
   rw [boundV_no (bnd_u ha hx hu k4)]
   clear hk0 ga wa hf hg gx gy wx hka hkx wu gu gv
   exact ek_ Tryz.func151 [.tmp 2,.cell 3 32,.cell 4 36,.tmp 5]
  | false =>
  have hku:u.kind=3:=by simpa using k4
  obtain ⟨p,q,hq,gp,gq⟩:=Tm.good_app gu hku
  have wq:TmW q:=wu.arg (by rw [hq];simp)
  have hC:=c_tCount q wq 0
  have hL:=c_less (tmVar 0) q
  have hV:=c_tVar 0
  have hS:=c_SameFormula x wx _ (lessF_W (tmVar_W 0) wq)
  cases k5:decide (q.count 0>0) with
  | true =>
   rw [boundV_no (bnd_q ha hx hu hq k5)]
   clear hk0 ga wa hf hg gx gy wx hka hkx wu gu gv gp gq hku wq
   exact ek_ Tryz.func151 [.tmp 2,.cell 3 32,.cell 4 36,.tmp 5]
  | false =>
  cases k6:Fm.same x (lessF (tmVar 0) q) with
  | false =>
   rw [boundV_no (bnd_s ha hx hu hq k6)]
   rw [k6] at hS
   clear hk0 ga wa hf hg gx gy wx hka hkx wu gu gv gp gq hku wq k6
   generalize lessF (tmVar 0) q=z at *
   exact ek_ Tryz.func151 [.tmp 2,.cell 3 32,.cell 4 36,.tmp 5]
  | true =>
   obtain ⟨e1,e2,e3⟩:=bnd_yes (.inl ⟨hk,k2⟩) k1 ha hx k3 hu k4 hq k5 k6
   unfold boundV
   rw [e1,e2,e3]
   rw [k6] at hS
   clear hk0 ga wa hf hg gx gy wx hka hkx wu gu gv gp gq hku wq k6 e1 e2 e3
   generalize lessF (tmVar 0) q=z at *
   exact ek_ Tryz.func151 [.tmp 2,.cell 3 32,.cell 4 36,.tmp 5]
 ·have hJ:=c_joint false
  simp only [Bool.false_eq_true,if_false] at hJ
  cases k1:(f.type.kind != 1) with
  | true =>
   rw [boundV_no (bnd_ty k1)]
   clear hk0 ga wa hf hg
   exact ek_ Tryz.func151 [.tmp 2,.cell 3 32,.cell 4 36,.tmp 5]
  | false =>
  cases k2:(a.kind != 2) with
  | true =>
   rw [boundV_no (bnd_a5 hk ha k2)]
   clear hk0 ga wa hf hg
   exact ek_ Tryz.func151 [.tmp 2,.cell 3 32,.cell 4 36,.tmp 5]
  | false =>
  have hka:a.kind=2:=by simpa using k2
  obtain ⟨x,y,hx,gx,gy⟩:=Fm.good_two ga (.inl hka)
  have wx:FmW x:=wa.arg (by rw [hx];simp)
  cases k3:(x.kind != 1) with
  | true =>
   rw [boundV_no (bnd_x ha hx k3)]
   clear hk0 ga wa hf hg gx gy wx hka
   exact ek_ Tryz.func151 [.tmp 2,.cell 3 32,.cell 4 36,.tmp 5]
  | false =>
  have hkx:x.kind=1:=by simpa using k3
  obtain ⟨u,v,hu,gu,gv⟩:=Fm.good_eqn gx hkx
  have wu:TmW u:=wx.term (by rw [hu];simp)
  cases k4:(u.kind != 3) with
  | true =>
   rw [boundV_no (bnd_u ha hx hu k4)]
   clear hk0 ga wa hf hg gx gy wx hka hkx wu gu gv
   exact ek_ Tryz.func151 [.tmp 2,.cell 3 32,.cell 4 36,.tmp 5]
  | false =>
  have hku:u.kind=3:=by simpa using k4
  obtain ⟨p,q,hq,gp,gq⟩:=Tm.good_app gu hku
  have wq:TmW q:=wu.arg (by rw [hq];simp)
  have hC:=c_tCount q wq 0
  have hL:=c_less (tmVar 0) q
  have hV:=c_tVar 0
  have hS:=c_SameFormula x wx _ (lessF_W (tmVar_W 0) wq)
  cases k5:decide (q.count 0>0) with
  | true =>
   rw [boundV_no (bnd_q ha hx hu hq k5)]
   clear hk0 ga wa hf hg gx gy wx hka hkx wu gu gv gp gq hku wq
   exact ek_ Tryz.func151 [.tmp 2,.cell 3 32,.cell 4 36,.tmp 5]
  | false =>
  cases k6:Fm.same x (lessF (tmVar 0) q) with
  | false =>
   rw [boundV_no (bnd_s ha hx hu hq k6)]
   rw [k6] at hS
   clear hk0 ga wa hf hg gx gy wx hka hkx wu gu gv gp gq hku wq k6
   generalize lessF (tmVar 0) q=z at *
   exact ek_ Tryz.func151 [.tmp 2,.cell 3 32,.cell 4 36,.tmp 5]
  | true =>
   obtain ⟨e1,e2,e3⟩:=bnd_yes (.inr ⟨hk,k2⟩) k1 ha hx k3 hu k4 hq k5 k6
   unfold boundV
   rw [e1,e2,e3]
   rw [k6] at hS
   clear hk0 ga wa hf hg gx gy wx hka hkx wu gu gv gp gq hku wq k6 e1 e2 e3
   generalize lessF (tmVar 0) q=z at *
   exact ek_ Tryz.func151 [.tmp 2,.cell 3 32,.cell 4 36,.tmp 5]
theorem c_valOf:∀ (n:Nat) (f:Fm),fmSz f≤n→FmW f→f.good=true→Pure Tryz.prog env 104 [.agg f.cells] (.int .u8 f.fl.n):=by
 intro n
 induction n with
 | zero =>
  intro f hn;have:1≤fmSz f:=by (cases f;rw [fmSz];omega)
  omega
 | succ n ih =>
 intro f hn hf hg h
 have hk:=Fm.good_kind hg
 have hw2:IntKind.i64.wrap (((2:Nat):Int) - 1)=1:=rfl
 have hw2':IntKind.i64.wrap ((2:Int) - 1)=1:=rfl
 have hw1:IntKind.i64.wrap (((1:Nat):Int) - 1)=0:=rfl
 have hw1':IntKind.i64.wrap ((1:Int) - 1)=0:=rfl
 obtain hk|hk|hk:f.kind=1∨(f.kind=2∨f.kind=3)∨(f.kind=4∨f.kind=5∨f.kind=6∨f.kind=7):=by omega
 ·rw [Fm.fl_1 hk,flag_eqn]
  clear ih hf hg hn
  exact ek_ Tryz.func104 [.tmp 2]
 ·obtain ⟨a,b,ha,ga,gb⟩:=Fm.good_two hg hk
  have la:=fmSz_arg (f:=f) (x:=a) (by rw [ha];simp)
  have lb:=fmSz_arg (f:=f) (x:=b) (by rw [ha];simp)
  have h1:=ih a (by omega) (hf.arg (by rw [ha];simp)) ga
  have h2:=ih b (by omega) (hf.arg (by rw [ha];simp)) gb
  rw [Fm.fl_2 hk ha]
  clear ih hf hg hn la lb ga gb
  generalize a.fl=fa at *
  generalize b.fl=fb at *
  rcases hk with hk|hk
  all_goals
   rw [hk]
   have hkk:((2:Int)==2)=true:=rfl
   have hkk':((3:Int)==2)=false:=rfl
   exact ek_ Tryz.func104 [.tmp 2]
 ·obtain ⟨a,ha,ga⟩:=Fm.good_q hg hk
  have la:=fmSz_arg (f:=f) (x:=a) (by rw [ha];simp)
  have wa:FmW a:=hf.arg (by rw [ha];simp)
  have h1:=ih a (by omega) wa ga
  have hB:=c_bound f hf hg hk
  have h4:4≤f.kind:=by omega
  cases hb:isBnd f with
  | false =>
   rw [boundV_no hb,zeroT_cells,zeroF_cells] at hB
   rw [Fm.fl_qn h4 ha hb]
   clear ih hf hg hn la ga wa hb h4
   generalize a.fl=fa at *
   rcases hk with hk|hk|hk|hk
   all_goals
    rw [hk]
    refine en_ Tryz.func104 [.tmp 2] fun g0 w0 gen hrel hfr hfr' hres=>?_
    first|refine wq_ ?_|exact wk_
    all_goals simp
  | true =>
   obtain ⟨x,y,hxy,hbb,gy⟩:=bnd_body ha ga hb
   have ly:=fmSz_arg (f:=a) (x:=y) (by rw [hxy];simp)
   have hy:=ih y (by omega) (wa.arg (by rw [hxy];simp)) gy
   rw [Fm.fl_qb h4 ha hb hxy]
   unfold boundV at hB
   rw [hb,if_pos rfl,hbb] at hB
   have hk':f.kind=4∨f.kind=5:=by
    rcases hk with hk|hk|hk|hk
    ·exact .inl hk
    ·exact .inr hk
    ·rw [bnd_k (.inl hk)] at hb;cases hb
    ·rw [bnd_k (.inr hk)] at hb;cases hb
   clear ih hf hg hn la ga wa hb h4 gy ly hk hxy hbb
   generalize a.fl=fa at *
   generalize y.fl=fy at *
   rcases hk' with hk|hk
   all_goals
    rw [hk] at hB ⊢
    refine en_ Tryz.func104 [.tmp 2] fun g0 w0 gen hrel hfr hfr' hres=>?_
    first|refine wq_ ?_|exact wk_
    all_goals simp
theorem c_has (f:Fm) (hf:FmW f) (k:Int) (hk:k=1∨k=2∨k=4):Pure Tryz.prog env 58 [.agg f.cells,.int .u8 k] (boolErrV (f.has k)):=by
 intro h
 have hC:=c_fmCheck f hf
 unfold boolErrV Fm.has
 cases he:(fmErr f != 0) with
 | true =>
  simp only [if_true]
  clear hf hk
  generalize fmErr f=e at *
  exact ek_ Tryz.func58 [.tmp 4,.tmp 5]
 | false =>
  have h0:fmErr f=0:=by simpa using he
  have hO:=c_valOf _ f (Nat.le_refl _) hf (Fm.ok_good he)
  simp only [Bool.false_eq_true,if_false]
  rw [h0] at hC
  have n0:((0:Int) != 0)=false:=rfl
  clear he h0 hf
  generalize f.fl=x at *
  obtain ⟨x1,x2,x3⟩:=x
  rcases hk with rfl|rfl|rfl
  ·cases x1
   all_goals
    refine en_ Tryz.func58 [.tmp 4,.tmp 5] fun g0 w0 gen hrel hfr hfr' hres=>?_
    first|refine wq_ ?_|exact wk_
    all_goals simp [Fl.n]
  ·cases x2
   all_goals
    refine en_ Tryz.func58 [.tmp 4,.tmp 5] fun g0 w0 gen hrel hfr hfr' hres=>?_
    first|refine wq_ ?_|exact wk_
    all_goals simp [Fl.n]
  ·cases x3
   all_goals
    refine en_ Tryz.func58 [.tmp 4,.tmp 5] fun g0 w0 gen hrel hfr hfr' hres=>?_
    first|refine wq_ ?_|exact wk_
    all_goals simp [Fl.n]
theorem c_Content (f:Fm) (hf:FmW f):Pure Tryz.prog env 25 [.agg f.cells] (boolErrV (f.has 1)):=by
 intro h
 have h1:=c_has f hf 1 (.inl rfl)
 generalize f.has 1=p at *
 exact ek_ Tryz.func25 [.tmp 2,.tmp 3]
theorem c_clsDecidable (f:Fm) (hf:FmW f):Pure Tryz.prog env 27 [.agg f.cells] (boolErrV (f.has 4)):=by
 intro h
 have h1:=c_has f hf 4 (.inr (.inr rfl))
 generalize f.has 4=p at *
 exact ek_ Tryz.func27 [.tmp 2,.tmp 3]
theorem c_Near1 (d:GoAbs.Id) (i b:Int) (s:Bool) (A:GoAbs.Id) (oA:GoAbs.Obj) :
  TurnsE Tryz.prog env 138 (.int .i64 i::.int .i64 b::[.ptr d 0]) [(A,oA)] d (.box [.bool s]) (.tup []) (.box [.bool (nearF i b s)]):=by
 intro h he hd
 unfold nearF
 clear he
 cases s
 all_goals
  cases hq:decide (i≤536870912)
  all_goals
   simp only [Bool.false_and,Bool.true_and]
   refine en_ Tryz.func138 [] fun g0 w0 gen hrel hfr hfr' hres=>?_
   have f1:=fresh_ne hfr hd
   have f2:=fresh_ne' hfr hd
   exact wkT_
theorem c_Near (t:Tm) (ht:TmW t):Pure Tryz.prog env 88 [.agg t.cells] (.bool t.near):=by
 intro h
 unfold Tm.near
 refine en_ Tryz.func88 [.tmp 2] fun g0 w0 gen hrel hfr hfr' hres=>?_
 have nA:(⟨gen,0,0⟩:GoAbs.Id)≠⟨gen,1,0⟩:=by simp
 have hc:=c_Each (fun n:Bool=>V.bool n) nearF 138 [.ptr ⟨gen,1,0⟩ 0] rfl (fun _ _=>by simp [InV]) ⟨gen,0,0⟩ ⟨gen,1,0⟩ (.box t.cells) nA
  (fun i b n=>c_Near1 _ i b n _ _) t ht true
 clear nA
 generalize t.eachF nearF 0 true=v at hc ⊢
 repeat' (first
  |exact hin _|exact agf (by assumption)
  | (first|refine wp rfl ?_|(refine Call1_turnE (hc) ?_ ?_ ?_;(focus ((simp only [go_sem, *]<;>(repeat (first|assumption|rfl|refine And.intro ?_ ?_)));done));(focus ((simp only [go_sem, *]<;>first|rfl|assumption);done)))|refine finF hrel ?_ ?_ ?_)<;>try simp only [go_sem, *])
theorem c_rebuild1 (F:Int→Int→Tm) (kd:Nat) (cap:List V) (hcap:weakL cap=cap)
  (O R A B:GoAbs.Id) (oA oB:GoAbs.Obj)
  (hof:∀ i b,PureE Tryz.prog env kd (.int .i64 i::.int .i64 b::cap) [(A,oA),(B,oB)] (.agg (F i b).cells)) :
  ∀ t:Tm,TmW t→∀ b:Int,PureE Tryz.prog env 196 [.agg t.cells,.int .i64 b,.ptr O 0,.ptr R 0]
   [(O,.box [.fn (.func kd) [] cap]),(R,.box [.fn (.func 196) [] [.ptr O 0,.ptr R 0]]),(A,oA),(B,oB)] (.agg (t.rb F b).cells):=by
 intro t
 induction t using Tm.ind with|h t ih=>?_
 intro ht b h he
 simp only [List.mem_cons,List.not_mem_nil,or_false,forall_eq_or_imp,forall_eq] at he
 obtain ⟨hO,hR,hA,hB⟩:=he
 have hlen:=ht.len
 have ih':∀ x∈t.args,∀ b:Int,PureE Tryz.prog env 196 [.agg x.cells,.int .i64 b,.ptr O 0,.ptr R 0]
   [(O,.box [.fn (.func kd) [] cap]),(R,.box [.fn (.func 196) [] [.ptr O 0,.ptr R 0]]),(A,oA),(B,oB)] (.agg (x.rb F b).cells):=fun x hx=>ih x hx (ht.arg hx)
 have hT:=c_OwnType t.type ht.ty
 clear ih ht
 have hw:IntKind.i64.wrap (b+1)=addW b 1:=rfl
 have hin:∀ S,InV S (V.agg (t.rb F b).cells):=fun S=>by simp [InV,InL_Tm]
 cases k1:(t.kind==1) with
 | true =>
  have hv:t.rb F b=F t.index b:=by rw [Tm.rb_eq,k1];rfl
  rw [hv] at hin ⊢
  clear ih'
  have hc:=hof t.index b
  clear hof hT
  generalize F t.index b=v at *
  refine en_ Tryz.func196 [.cell 6 32] fun g0 w0 gen hrel hfr hfr' hres=>?_
  have f3:=fresh_ne hfr hO
  have f4:=fresh_ne hfr hR
  have f5:=fresh_ne hfr hA
  have f6:=fresh_ne hfr hB
  repeat' (first
   |(refine ⟨?_,?_⟩;focus ((repeat' (first|refine ⟨?_,?_⟩|refine .inr ?_));all_goals kernel_rfl))
   |exact hin _|exact agf (by assumption)
   | (first|refine wp rfl ?_|refine spt rfl ?_|refine spf rfl ?_|(refine spl (fun hc=>?_) fun hc=>?_)<;>(try rw [beq_iff_eq] at hc)<;>try simp only [hc]|(refine Call1_pureE (hc) ?_ ?_;(focus ((simp only [go_sem, *]<;>(repeat (first|assumption|rfl|refine And.intro ?_ ?_)));done)))|refine finF hrel ?_ ?_ ?_)<;>try simp only [go_sem, *])
 | false =>
  have hv0:V.agg (Tm.mk t.kind t.index t.type (t.args.map fun x=>x.rb F (if (t.kind==2)=true then addW b 1 else b))).cells=.agg (t.rb F b).cells:=by rw [Tm.rb_eq F t b,k1];rfl
  generalize hvv:V.agg (t.rb F b).cells=v at hv0 hin ⊢
  clear hvv
  generalize hb1:(if (t.kind==2)=true then addW b 1 else b)=b1 at hv0
  cases k2:(t.kind==2)
  all_goals
   rw [k2] at hb1
   simp only [if_true,Bool.false_eq_true,if_false] at hb1
   first|(obtain rfl:b1=b:=hb1.symm)|skip
   refine en_ Tryz.func196 [.cell 6 32] fun g0 w0 gen hrel hfr hfr' hres=>?_
   have f3:=fresh_ne hfr hO
   have f4:=fresh_ne hfr hR
   have f5:=fresh_ne hfr hA
   have f6:=fresh_ne hfr hB
   clear hof
   refine wq_ ?_
   refine ar_ [1,3,6,7,32] [⟨gen,0,1⟩] (fun i σ=>Agree h σ.h∧∃ v,σ.h ⟨gen,3,8⟩=some (.box [.int .i64 t.kind,.int .i64 t.index,.int .i64 t.type.kind,.sl .any (t.type.args.map Ty.cells),v])∧OwnS h σ.h v 5 (((t.args.take i).map fun x=>x.rb F b1).map Tm.cells)) (t.args).length ?_ ?_ ?_
   ·simp only [go_sem, *]
    exact ⟨ag_,_,rfl,.inl rfl⟩
   ·clear hv0
    intro i σ gr0 hgl_gr0 hgn hlt jI jN jS ⟨jA,v,jb,jO0⟩
    obtain ⟨jT,jB⟩:=jS
    simp only [go_sem] at jT jB
    obtain ⟨hgf,hgf0,eg_gen_gr0,eh_gen_gr0⟩:=rnd hgn hgl_gr0 jA
    obtain ⟨x,hx,hxm,hm⟩:=rnx hlt
    clear hgn
    have hc:=ih' x hxm b1
    have hts:((t.args.take (i+1)).map fun x=>x.rb F b1).map Tm.cells=((t.args.take i).map fun x=>x.rb F b1).map Tm.cells++[(x.rb F b1).cells]:=by rw [map_take_succ hx,List.map_append];rfl
    have hO':=(jA O (by rw [hO];simp)).trans hO
    have hR':=(jA R (by rw [hR];simp)).trans hR
    have hA':=(jA A (by rw [hA];simp)).trans hA
    have hB':=(jA B (by rw [hB];simp)).trans hB
    have g3:=fresh_ne2 hfr hO hgl_gr0
    have g4:=fresh_ne2 hfr hR hgl_gr0
    have g5:=fresh_ne2 hfr hA hgl_gr0
    have g6:=fresh_ne2 hfr hB hgl_gr0
    clear ih' hO hR hA hB hT
    repeat' (first
     |(refine ⟨?_,?_⟩;focus ((repeat' (first|refine ⟨?_,?_⟩|refine .inr ?_));all_goals kernel_rfl))
     |(refine okE_app_ownd jO0 (by repeat (first|exact Keeps.refl _|refine Keeps.new ?_ (hgf _ _)|refine Keeps.new ?_ (hfr' _ _)|refine Keeps.box ?_ rfl|refine Keeps.box ?_ (by simp only [go_sem, *]))) rfl (by simp only [go_sem, *]<;>omega) (by first|exact hgf0 _ _|exact hfr' _ _) (by simp only [go_sem, *]) (by intro hd e;simp only [logOk_cons,logOk_nil,and_true];repeat (first|exact trivial|refine ⟨.inr (by kernel_rfl),?_⟩|exact .inr (by kernel_rfl))) ?_;intro v' h' id' jO jK jAg jAb jF;obtain ⟨cO,rfl⟩:=jO.val;simp only [go_sem, *])
     | (first|refine wp rfl ?_|refine spt rfl ?_|refine spf rfl ?_|(refine spl (fun hc=>?_) fun hc=>?_)<;>(try rw [beq_iff_eq] at hc)<;>try simp only [hc]|(refine Call1_pureE (hc) ?_ ?_;(focus ((simp only [go_sem, *]<;>(repeat (first|assumption|rfl|refine And.intro ?_ ?_)));done)))|refine AR_inv ?_)<;>try simp only [go_sem, *])
    refine ⟨?_,_,rfl,jO.keep (Keeps.box (Keeps.refl _) (by simp only [go_sem, *]))⟩
    exact Agree.new (jAg ag_) (hfr' _ _)
   ·
    intro σ ga0 hgl_ga0 hgn jS ⟨jA,v,jb,jO0⟩
    obtain ⟨jT,jB⟩:=jS
    simp only [go_sem] at jT jB
    obtain ⟨hgf,hgf0,eg_gen_ga0,eh_gen_ga0⟩:=rnd hgn hgl_ga0 jA
    clear hgn
    rw [List.take_length] at jO0
    obtain ⟨c,rfl⟩:=jO0.val
    clear ih' hT
    rw [Tm.mk_cells] at hv0
    subst hv0
    exact wk_
theorem c_Rebuild (F:Int→Int→Tm) (kd:Nat) (cap:List V) (hcap:weakL cap=cap) (A B:GoAbs.Id) (oA oB:GoAbs.Obj)
  (hof:∀ i b,PureE Tryz.prog env kd (.int .i64 i::.int .i64 b::cap) [(A,oA),(B,oB)] (.agg (F i b).cells)) (t:Tm) (ht:TmW t) :
  PureE Tryz.prog env 174 [.agg t.cells,.fn (.func kd) [] cap] [(A,oA),(B,oB)] (.agg (t.rb F 0).cells):=by
 intro h he
 simp only [List.mem_cons,List.not_mem_nil,or_false,forall_eq_or_imp,forall_eq] at he
 obtain ⟨hA,hB⟩:=he
 refine en_ Tryz.func174 [.cell 4 32] fun g0 w0 gen hrel hfr hfr' hres=>?_
 have f5:=fresh_ne hfr hA
 have f6:=fresh_ne hfr hB
 have hc:=c_rebuild1 F kd cap hcap ⟨gen,0,1⟩ ⟨gen,1,0⟩ A B oA oB hof t ht 0
 clear hof
 generalize t.rb F 0=v at *
 repeat' (first
  |exact hin _|exact agf (by assumption)
  | (first|refine wp rfl ?_|(refine Call1_pureE (hc) ?_ ?_;(focus ((simp only [go_sem, *]<;>(repeat (first|assumption|rfl|refine And.intro ?_ ?_)));done)))|refine finF hrel ?_ ?_ ?_)<;>try simp only [go_sem, *])
theorem c_Lift1 (fr by':Int) (A B:GoAbs.Id) (i b:Int):PureE Tryz.prog env 197 (.int .i64 i::.int .i64 b::[.ptr A 0,.ptr B 0])
  [(A,.box [.int .i64 fr]),(B,.box [.int .i64 by'])] (.agg (liftG fr by' i b).cells):=by
 intro h he
 simp only [List.mem_cons,List.not_mem_nil,or_false,forall_eq_or_imp,forall_eq] at he
 obtain ⟨hA,hB⟩:=he
 have hw:IntKind.i64.wrap (i - b)=subW i b:=rfl
 have hw1:IntKind.i64.wrap (i+by')=addW i by':=rfl
 unfold liftG
 generalize subW i b=q at *
 generalize addW i by'=m at *
 cases hq:decide (q≥fr)
 all_goals
  simp only [if_true,Bool.false_eq_true,if_false]
  refine en_ Tryz.func197 [.cell 6 32] fun g0 w0 gen hrel hfr hfr' hres=>?_
  have f5:=fresh_ne hfr hA
  have f6:=fresh_ne hfr hB
  repeat' (first
   |exact hin _|exact agf (by assumption)
   | (first|refine wp rfl ?_|refine spt rfl ?_|refine spf rfl ?_|(refine spl (fun hc=>?_) fun hc=>?_)<;>(try rw [beq_iff_eq] at hc)<;>try simp only [hc]|refine cp (c_tVar _) ?_|refine finF hrel ?_ ?_ ?_)<;>try simp only [go_sem, *])
theorem c_tLift (t:Tm) (ht:TmW t) (fr by':Int):Pure Tryz.prog env 176 [.agg t.cells,.int .i64 fr,.int .i64 by'] (.agg (tLift t fr by').cells):=by
 intro h
 unfold tLift
 refine en_ Tryz.func176 [.cell 6 32] fun g0 w0 gen hrel hfr hfr' hres=>?_
 have hc:=c_Rebuild (liftG fr by') 197 [.ptr ⟨gen,0,1⟩ 0,.ptr ⟨gen,0,2⟩ 0] rfl ⟨gen,0,1⟩ ⟨gen,0,2⟩ _ _ (fun i b=>c_Lift1 fr by' _ _ i b) t ht
 generalize t.rb (liftG fr by') 0=v at *
 repeat' (first
  |exact hin _|exact agf (by assumption)
  | (first|refine wp rfl ?_|(refine Call1_pureE (hc) ?_ ?_;(focus ((simp only [go_sem, *]<;>(repeat (first|assumption|rfl|refine And.intro ?_ ?_)));done)))|refine finF hrel ?_ ?_ ?_)<;>try simp only [go_sem, *])
theorem c_Put1 (a:Int) (s:Tm) (hs:TmW s) (A B:GoAbs.Id) (i b:Int):PureE Tryz.prog env 175 (.int .i64 i::.int .i64 b::[.ptr A 0,.ptr B 0])
  [(A,.box [.int .i64 a]),(B,.box s.cells)] (.agg (putG a s i b).cells):=by
 intro h he
 simp only [List.mem_cons,List.not_mem_nil,or_false,forall_eq_or_imp,forall_eq] at he
 obtain ⟨hA,hB⟩:=he
 have hw:IntKind.i64.wrap (i - b)=subW i b:=rfl
 have hw1:IntKind.i64.wrap (a+b)=addW a b:=rfl
 have hw2:IntKind.i64.wrap (i - 1)=subW i 1:=rfl
 have hL:=c_tLift s hs 0 (addW a b)
 unfold putG
 clear hs
 generalize tLift s 0 (addW a b)=v at *
 generalize subW i b=q at *
 generalize addW a b=m at *
 generalize subW i 1=p at *
 cases hq:(q==a) with
 | true =>
  simp only [if_true]
  refine en_ Tryz.func175 [.cell 6 32] fun g0 w0 gen hrel hfr hfr' hres=>?_
  have f5:=fresh_ne hfr hA
  have f6:=fresh_ne hfr hB
  exact wk_
 | false =>
  cases hq2:decide (q>a)
  all_goals
   simp only [if_true,Bool.false_eq_true,if_false]
   refine en_ Tryz.func175 [.cell 6 32] fun g0 w0 gen hrel hfr hfr' hres=>?_
   have f5:=fresh_ne hfr hA
   have f6:=fresh_ne hfr hB
   repeat' (first
    |exact hin _|exact agf (by assumption)
    | (first|refine wp rfl ?_|refine spt rfl ?_|refine spf rfl ?_|(refine spl (fun hc=>?_) fun hc=>?_)<;>(try rw [beq_iff_eq] at hc)<;>try simp only [hc]|refine cp (c_tVar _) ?_|refine finF hrel ?_ ?_ ?_)<;>try simp only [go_sem, *])
theorem c_tPut (t:Tm) (ht:TmW t) (a:Int) (s:Tm) (hs:TmW s):Pure Tryz.prog env 143 [.agg t.cells,.int .i64 a,.agg s.cells] (.agg (tPut t a s).cells):=by
 intro h
 unfold tPut
 refine en_ Tryz.func143 [.cell 6 32] fun g0 w0 gen hrel hfr hfr' hres=>?_
 have hc:=c_Rebuild (putG a s) 175 [.ptr ⟨gen,0,1⟩ 0,.ptr ⟨gen,0,2⟩ 0] rfl ⟨gen,0,1⟩ ⟨gen,0,2⟩ _ _ (fun i b=>c_Put1 a s hs _ _ i b) t ht
 generalize t.rb (putG a s) 0=v at *
 repeat' (first
  |exact hin _|exact agf (by assumption)
  | (first|refine wp rfl ?_|(refine Call1_pureE (hc) ?_ ?_;(focus ((simp only [go_sem, *]<;>(repeat (first|assumption|rfl|refine And.intro ?_ ?_)));done)))|refine finF hrel ?_ ?_ ?_)<;>try simp only [go_sem, *])
end Go.Proofs.YtmnplkmphgkooaaGreatDoor
