/-
 Walks: several parts in one text.
-/
import Derived.Test.YtmnplkmphgkooaaGreatDoorMf
import Derived.Test.YtmnplkmphgkooaaGreatDoorNz
import Derived.Test.YtmnplkmphgkooaaGreatDoorMn
import Derived.Test.YtmnplkmphgkooaaGreatDoorMh
import Derived.Test.YtmnplkmphgkooaaGreatDoorMb
import Derived.Test.YtmnplkmphgkooaaGreatDoorTe
import Derived.Test.YtmnplkmphgkooaaGreatDoorAbsDc
set_option linter.unusedSimpArgs false
set_option linter.unusedVariables false
set_option maxRecDepth 20000
set_option maxHeartbeats 4000000
namespace Go.Proofs.YtmnplkmphgkooaaGreatDoor
open Go GoAbs Go.Proofs
theorem c_typesContext2 (g:List Ty) (hg:∀ y∈g,TyG y) (hl:g.length≤16):Pure Tryz.prog env 69 [.sl .any (g.map Ty.cells)] (.int .i64 0):=by
 intro h
 have d1:decide ((g.length:Int)>16)=false:=by simp;omega
 have n0:((0:Int) != 0)=false:=rfl
 have hc:∀ y∈g,Pure Tryz.prog env 59 [.agg y.cells] (.int .i64 0):=fun y hy=>by
  have:=c_typesCheck y (hg y hy).1.W
  rw [(hg y hy).err] at this;exact this
 clear hg
 refine en_ Tryz.func69 [.tmp 2] fun g0 w0 gen hrel hfr hfr' hres=>?_
 refine wq_ ?_
 refine ar_ [9] [] (fun i σ=>Agree h σ.h∧True) (g).length ?_ ?_ ?_
 ·simp only [go_sem, *]
  exact ag_
 ·
  intro i σ gr0 hgl_gr0 hgn hlt jI jN jS ⟨jA,_⟩
  obtain ⟨jT,jB⟩:=jS
  simp only [go_sem] at jT jB
  obtain ⟨hgf,hgf0,eg_gen_gr0,eh_gen_gr0⟩:=rnd hgn hgl_gr0 jA
  obtain ⟨x,hx,hxm,hm⟩:=rnx hlt
  clear hgn
  have h1:=hc x hxm
  clear hc
  first|refine wq_ ?_|exact wk_
  all_goals exact Agree.new jA (hgf0 _ _)
 ·clear hc
  intro σ ga0 hgl_ga0 hgn jS ⟨jA,_⟩
  obtain ⟨jT,jB⟩:=jS
  simp only [go_sem] at jT jB
  obtain ⟨hgf,hgf0,eg_gen_ga0,eh_gen_ga0⟩:=rnd hgn hgl_ga0 jA
  clear hgn
  exact wk_
theorem c_ctxNumber {g:List Ty} {t:Tm} (h:HasTy TyG g t tNat) (hg:∀ y∈g,TyW y) (ht:TmW t) (hb:g.length+tmSz t≤1000000) :
  Pure Tryz.prog env 115 [.sl .any (g.map szC),.agg t.cells] (.int .i64 0):=by
 have hc:=c_typeOf h hg ht hb
 have i1:=c_sIs tNat 1
 rw [show (tNat.kind==1)=true from rfl] at i1
 have h0:Pure Tryz.prog env 156 [.sl .any (g.map szC),.agg t.cells,.int .i64 1] (.int .i64 0):=by
  intro h
  clear hg ht hb
  generalize tNat=q at *
  exact ek_ Tryz.func156 [.tmp 6]
 intro h
 clear hc i1 hg ht hb
 exact ek_ Tryz.func115 [.tmp 4]
theorem c_ctxFormula:∀ (n:Nat) (f:Fm) (g:List Ty),fmSz f≤n→FmTy TyG g f→fmSz f≤4096→FmW f→(∀ y∈g,TyW y)→g.length+fmSz f≤5000 →
  Pure Tryz.prog env 71 [.sl .any (g.map szC),.agg f.cells] (.int .i64 0):=by
 intro n
 induction n with
 | zero =>
  intro f g hn;have:1≤fmSz f:=by (cases f;rw [fmSz];omega)
  omega
 | succ n ih =>
 intro f g hn hf zf wf hg hb h
 have hlen:=wf.len
 have htlen:=wf.tlen
 obtain ⟨p1,p2⟩:=fmTy_parts hf
 have sT:∀ x∈f.terms,tmSz x<fmSz f:=by
  intro x hx
  obtain ⟨k,t,l,a⟩:=f
  rw [fmSz]
  have:=tmSzL_mem (show x∈l from hx)
  omega
 have hterm:∀ x∈f.terms,Pure Tryz.prog env 115 [.sl .any (g.map szC),.agg x.cells] (.int .i64 0):=by
  intro x hx
  have hs:=sT x hx
  exact c_ctxNumber (p1 x hx) hg (wf.term hx) (by omega)
 have harg:∀ x∈f.args,Pure Tryz.prog env 71 [.sl .any ((if quant f.kind then g++[f.type] else g).map szC),.agg x.cells] (.int .i64 0):=by
  intro x hx
  have hs:=fmSz_arg hx
  refine ih x _ (by omega) (p2 x hx) (by omega) (wf.arg hx) ?_ ?_
  ·intro y hy
   split at hy
   ·rcases List.mem_append.1 hy with hy|hy
    ·exact hg y hy
    ·simp at hy;subst hy;exact wf.ty
   ·exact hg y hy
  ·split<;>(try simp only [List.length_append,List.length_cons,List.length_nil])<;>omega
 have hwith:=c_ctxWith g f.type wf.ty (by omega)
 have hkind:f.kind=1∨f.kind=2∨f.kind=3∨f.kind=4∨f.kind=5∨f.kind=6∨f.kind=7:=by
  cases hf with
  | eq _ _=>exact .inl rfl
  | two hk _ _=>rcases hk with rfl|rfl<;>simp [fmTwo,Fm.kind]
  | q hk _=>rcases hk with rfl|rfl|rfl|rfl<;>simp [fmQ,Fm.kind]
 clear ih p1 p2 sT hf wf hg hn hb zf
 rcases hkind with hk|hk|hk|hk|hk|hk|hk
 ·clear harg hwith
  refine en_ Tryz.func71 [.tmp 4] fun g0 w0 gen hrel hfr hfr' hres=>?_
  repeat' (first
   | (first|refine wp rfl ?_|refine spt rfl ?_|refine spf rfl ?_|(refine spl (fun hc=>?_) fun hc=>?_)<;>(try rw [beq_iff_eq] at hc)<;>try simp only [hc])<;>try simp only [go_sem, *])
  refine ar_ [0,42] [] (fun i σ=>Agree h σ.h∧True) (f.terms).length ?_ ?_ ?_
  ·simp only [go_sem, *]
   exact ag_
  ·
   intro i σ gr1 hgl_gr1 hgn hlt jI jN jS ⟨jA,_⟩
   obtain ⟨jT,jB⟩:=jS
   simp only [go_sem] at jT jB
   obtain ⟨hgf,hgf0,eg_gen_gr1,eh_gen_gr1⟩:=rnd hgn hgl_gr1 jA
   obtain ⟨x,hx,hxm,hm⟩:=rnx hlt
   clear hgn
   have h1:=hterm x hxm
   clear hterm
   repeat' (first
    | (first|refine wp rfl ?_|refine spt rfl ?_|refine spf rfl ?_|(refine spl (fun hc=>?_) fun hc=>?_)<;>(try rw [beq_iff_eq] at hc)<;>try simp only [hc]|refine cp h1 ?_|refine AR_inv ?_)<;>try simp only [go_sem, *])
   all_goals exact (by repeat (first|exact jA|refine Agree.new ?_ (hgf0 _ _)))
  ·clear hterm
   intro σ ga1 hgl_ga1 hgn jS ⟨jA,_⟩
   obtain ⟨jT,jB⟩:=jS
   simp only [go_sem] at jT jB
   obtain ⟨hgf,hgf0,eg_gen_ga1,eh_gen_ga1⟩:=rnd hgn hgl_ga1 jA
   clear hgn
   repeat' (first
    |exact hin _|exact agf (by assumption)
    | (first|refine wp rfl ?_|refine spt rfl ?_|refine spf rfl ?_|(refine spl (fun hc=>?_) fun hc=>?_)<;>(try rw [beq_iff_eq] at hc)<;>try simp only [hc]|refine finF hrel ?_ ?_ ?_)<;>try simp only [go_sem, *])
 all_goals
  rw [hk] at harg
  clear hterm
  simp only [quant,Int.reduceBEq,Bool.or_true,Bool.true_or,Bool.or_self,Bool.or_false,Bool.false_or,if_true,if_false,Bool.false_eq_true] at harg
  refine en_ Tryz.func71 [.tmp 4] fun g0 w0 gen hrel hfr hfr' hres=>?_
  repeat' (first
   | (first|refine wp rfl ?_|refine spt rfl ?_|refine spf rfl ?_|(refine spl (fun hc=>?_) fun hc=>?_)<;>(try rw [beq_iff_eq] at hc)<;>try simp only [hc]|refine cp hwith ?_)<;>try simp only [go_sem, *])
  refine ar_ [0,3,28] [⟨gen,0,0⟩] (fun i σ=>Agree h σ.h∧True) (f.args).length ?_ ?_ ?_
  ·simp only [go_sem, *]
   exact ag_
  ·
   intro i σ gr0 hgl_gr0 hgn hlt jI jN jS ⟨jA,_⟩
   obtain ⟨jT,jB⟩:=jS
   simp only [go_sem] at jT jB
   obtain ⟨hgf,hgf0,eg_gen_gr0,eh_gen_gr0⟩:=rnd hgn hgl_gr0 jA
   obtain ⟨x,hx,hxm,hm⟩:=rnx hlt
   clear hgn
   have h1:=harg x hxm
   clear harg
   repeat' (first
    | (first|refine wp rfl ?_|refine spt rfl ?_|refine spf rfl ?_|(refine spl (fun hc=>?_) fun hc=>?_)<;>(try rw [beq_iff_eq] at hc)<;>try simp only [hc]|refine cp h1 ?_|refine AR_inv ?_)<;>try simp only [go_sem, *])
   all_goals exact (by repeat (first|exact jA|refine Agree.new ?_ (hgf0 _ _)))
  ·clear harg
   intro σ ga0 hgl_ga0 hgn jS ⟨jA,_⟩
   obtain ⟨jT,jB⟩:=jS
   simp only [go_sem] at jT jB
   obtain ⟨hgf,hgf0,eg_gen_ga0,eh_gen_ga0⟩:=rnd hgn hgl_ga0 jA
   clear hgn
   repeat' (first
    |exact hin _|exact agf (by assumption)
    | (first|refine wp rfl ?_|refine spt rfl ?_|refine spf rfl ?_|(refine spl (fun hc=>?_) fun hc=>?_)<;>(try rw [beq_iff_eq] at hc)<;>try simp only [hc]|refine finF hrel ?_ ?_ ?_)<;>try simp only [go_sem, *])
theorem c_formulaTyped (g:List Ty) (hg:∀ y∈g,TyG y) (hl:g.length≤16) (f:Fm) (hf:FmTy TyG g f) (he:fmErr f=0) (zf:fmSz f≤4096) (wf:FmW f) :
  Pure Tryz.prog env 33 [.sl .any (g.map Ty.cells),.agg f.cells] (.int .i64 0):=by
 intro h
 have h1:=c_typesContext2 g hg hl
 have h2:=c_fmCheck f wf
 rw [he] at h2
 have h3:=c_ctxFrom g (fun y hy=>(hg y hy).1.W) (by omega)
 have h4:=c_ctxFormula _ f g (Nat.le_refl _) hf zf wf (fun y hy=>(hg y hy).1.W) (by omega)
 have n0:((0:Int) != 0)=false:=rfl
 clear hg hl hf he zf wf
 exact ek_ Tryz.func33 [.tmp 4]
theorem c_termsTypeOf (t:Tm) (s:Ty) (h:HasTy TyG [] t s) (ht:TmW t) (he:tmErr t=0) (hb:tmSz t≤1000000) :
  Pure Tryz.prog env 34 [.sl .any [],.agg t.cells] (.tup [.agg s.cells,.int .i64 0]):=by
 have ws:TyW s:=(h.W (by simp) ht).1
 intro hh
 have h1:=c_typesContext2 [] (by simp) (by simp)
 have h2:=c_termsCheck t ht
 rw [he] at h2
 have h3:=c_ctxFrom [] (by simp) (by simp)
 have h4:=c_typeOf h (by simp) ht (by simpa using hb)
 have h5:=c_OwnType s ws
 have n0:((0:Int) != 0)=false:=rfl
 simp only [List.map_nil] at h1 h3 h4
 rw [ty_cells s] at h5
 have ec:=ty_cells s
 clear h ht he hb ws
 generalize s.cells=sc at *
 subst ec
 unfold szC at h4
 exact ek_ Tryz.func34 [.cell 4 29,.tmp 5]
theorem c_NearFormula1 (A d:GoAbs.Id) (oA:GoAbs.Obj) (nA:A≠d) (t:Tm) (ht:TmW t) (hl:t.least 536870912=true) (b:Int) :
  TurnsE Tryz.prog env 136 (.agg t.cells::.int .i64 b::[.ptr d 0]) [(A,oA)] d (.box [.bool true]) (.tup []) (.box [.bool true]):=by
 intro h he hd
 clear he nA
 have hc:=c_Near t ht
 rw [near_ok hl] at hc
 clear hl
 refine en_ Tryz.func136 [] fun g0 w0 gen hrel hfr hfr' hres=>?_
 have f1:=fresh_ne hfr hd
 have f2:=fresh_ne' hfr hd
 exact wkT_
theorem c_eachT (kd:Nat) (cap:List V) (hcap:weakL cap=cap) (A d:GoAbs.Id) (oA:GoAbs.Obj) (nA:A≠d)
  (hdo:∀ x:Tm,TmW x→x.least 536870912=true→∀ b:Int,TurnsE Tryz.prog env kd (.agg x.cells::.int .i64 b::cap) [(A,oA)] d (.box [.bool true]) (.tup []) (.box [.bool true])) :
  ∀ f:Fm,FmW f→f.least 536870912=true→∀ b:Int,TurnsE Tryz.prog env 135 [.agg f.cells,.int .i64 b,.fn (.func kd) [] cap] [(A,oA)] d (.box [.bool true]) (.tup []) (.box [.bool true]):=by
 intro t
 induction t using Fm.ind with|h t ih=>?_
 intro ht hl b h he hd
 simp only [List.mem_cons,List.not_mem_nil,or_false,forall_eq] at he
 have hlen:=ht.len
 have hlen2:=ht.tlen
 have ih':∀ x∈t.args,∀ b:Int,TurnsE Tryz.prog env 135 [.agg x.cells,.int .i64 b,.fn (.func kd) [] cap] [(A,oA)] d (.box [.bool true]) (.tup []) (.box [.bool true]):=fun x hx=>ih x hx (ht.arg hx) (least_args hl hx)
 have ht':∀ x∈t.terms,∀ b:Int,TurnsE Tryz.prog env kd (.agg x.cells::.int .i64 b::cap) [(A,oA)] d (.box [.bool true]) (.tup []) (.box [.bool true]):=fun x hx=>hdo x (ht.term hx) (least_terms hl hx)
 have hQ:=c_Quantifier t.kind
 clear ih hdo ht hl
 have n3:(A=d)=False:=by simpa using nA
 clear nA
 have hw:IntKind.i64.wrap (b+1)=addW b 1:=rfl
 refine en_ Tryz.func135 [] fun g0 w0 gen hrel hfr hfr' hres=>?_
 have f1:=fresh_ne hfr hd
 have f2:=fresh_ne' hfr hd
 have f5:=fresh_ne hfr he
 refine wq_ ?_
 refine ar_ [1,2,3,11] [⟨gen,0,0⟩] (fun i σ=>AgreeBut d h σ.h∧σ.h d=some (.box [.bool true])) (t.terms).length ?_ ?_ ?_
 ·simp only [go_sem, *]
  first|exact ⟨by repeat (first|exact AgreeBut.refl _ _|assumption|refine AgreeBut.new ?_ (hfr' _ _)|refine AgreeBut.set ?_),rfl⟩|(repeat (first|exact AgreeBut.refl _ _|assumption|refine AgreeBut.new ?_ (hfr' _ _)|refine AgreeBut.set ?_))
 ·clear ih'
  intro i σ gr0 hgl_gr0 hgn hlt jI jN jS ⟨jA,js⟩
  obtain ⟨jT,jB⟩:=jS
  simp only [go_sem] at jT jB
  have hgf:=fresh_of hgn
  have hgf0:=agreeBut_fresh' hd jA hgf (fun r i e=>by have:=hfr d (by rw [hd];simp);rw [e] at this;simp at this;omega)
  have fd_gr0:=fresh_ne2 hfr hd (show gen<gr0 by omega)
  have fe_gr0:=fresh_ne2' hfr hd (show gen<gr0 by omega)
  have eg_gen_gr0:=gen_lt (show gen<gr0 by omega)
  have eh_gen_gr0:=gen_lt' (show gen<gr0 by omega)
  obtain ⟨x,hx,hxm,hm⟩:=rnx hlt
  clear hgn
  have hc:=ht' x hxm
  have hA':=(jA A (by simpa using n3) (by rw [he];simp)).trans he
  have g5:=fresh_ne2 hfr he hgl_gr0
  clear ht' he
  repeat' (first
   | (first|refine wp rfl ?_|refine spt rfl ?_|refine spf rfl ?_|(refine spl (fun hc=>?_) fun hc=>?_)<;>(try rw [beq_iff_eq] at hc)<;>try simp only [hc]|(refine Call1_turnE (hc _) ?_ ?_ ?_;(focus ((simp only [go_sem, *]<;>(repeat (first|assumption|rfl|refine And.intro ?_ ?_)));done));(focus ((simp only [go_sem, *]<;>first|rfl|assumption);done)))|refine AR_inv ?_)<;>try simp only [go_sem, *])
  first|exact ⟨by repeat (first|assumption|refine AgreeBut.new ?_ (hgf0 _ _)|refine AgreeBut.set ?_),rfl⟩|(repeat (first|assumption|refine AgreeBut.new ?_ (hgf0 _ _)|refine AgreeBut.set ?_))
 clear ht'
 intro σ ga0 hgl_ga0 hgn jS ⟨jA,js⟩
 obtain ⟨jT,jB⟩:=jS
 simp only [go_sem] at jT jB
 have hgf:=fresh_of hgn
 have hgf0:=agreeBut_fresh' hd jA hgf (fun r i e=>by have:=hfr d (by rw [hd];simp);rw [e] at this;simp at this;omega)
 have fd_ga0:=fresh_ne2 hfr hd (show gen<ga0 by omega)
 have fe_ga0:=fresh_ne2' hfr hd (show gen<ga0 by omega)
 have eg_gen_ga0:=gen_lt (show gen<ga0 by omega)
 have eh_gen_ga0:=gen_lt' (show gen<ga0 by omega)
 clear hgn
 cases hq:(decide (t.kind≥4)&&decide (t.kind≤7))
 all_goals
  rw [hq] at hQ
  clear hq
  refine wq_ ?_
  refine ar_ [1,2,28] [] (fun i σ=>AgreeBut d h σ.h∧σ.h d=some (.box [.bool true])) (t.args).length ?_ ?_ ?_
  ·simp only [go_sem, *]
   first|exact ⟨jA,rfl⟩|exact jA|trace_state
  ·
   intro i σ gr1 hgl_gr1 hgn hlt jI jN jS ⟨jA,js'⟩
   obtain ⟨jT,jB⟩:=jS
   simp only [go_sem] at jT jB
   have hgf:=fresh_of hgn
   have hgf0:=agreeBut_fresh' hd jA hgf (fun r i e=>by have:=hfr d (by rw [hd];simp);rw [e] at this;simp at this;omega)
   have fd_gr1:=fresh_ne2 hfr hd (show gen<gr1 by omega)
   have fe_gr1:=fresh_ne2' hfr hd (show gen<gr1 by omega)
   have eg_gen_gr1:=gen_lt (show gen<gr1 by omega)
   have eh_gen_gr1:=gen_lt' (show gen<gr1 by omega)
   have eg_ga0_gr1:=gen_lt (show ga0<gr1 by omega)
   have eh_ga0_gr1:=gen_lt' (show ga0<gr1 by omega)
   obtain ⟨x,hx,hxm,hm⟩:=rnx hlt
   clear hgn
   have hc:=ih' x hxm
   have hA':=(jA A (by simpa using n3) (by rw [he];simp)).trans he
   have g5:=fresh_ne2 hfr he (show gen<gr1 by omega)
   clear ih' he
   repeat' (first
    | (first|refine wp rfl ?_|refine spt rfl ?_|refine spf rfl ?_|(refine spl (fun hc=>?_) fun hc=>?_)<;>(try rw [beq_iff_eq] at hc)<;>try simp only [hc]|(refine Call1_turnE (hc _) ?_ ?_ ?_;(focus ((simp only [go_sem, *]<;>(repeat (first|assumption|rfl|refine And.intro ?_ ?_)));done));(focus ((simp only [go_sem, *]<;>first|rfl|assumption);done)))|refine AR_inv ?_)<;>try simp only [go_sem, *])
   first|exact ⟨by repeat (first|assumption|refine AgreeBut.new ?_ (hgf0 _ _)|refine AgreeBut.set ?_),rfl⟩|(repeat (first|assumption|refine AgreeBut.new ?_ (hgf0 _ _)|refine AgreeBut.set ?_))
  ·
   intro σ ga1 hgl_ga1 hgn jS ⟨jA,js2⟩
   obtain ⟨jT,jB⟩:=jS
   simp only [go_sem] at jT jB
   have hgf:=fresh_of hgn
   have hgf0:=agreeBut_fresh' hd jA hgf (fun r i e=>by have:=hfr d (by rw [hd];simp);rw [e] at this;simp at this;omega)
   have fd_ga1:=fresh_ne2 hfr hd (show gen<ga1 by omega)
   have fe_ga1:=fresh_ne2' hfr hd (show gen<ga1 by omega)
   have eg_gen_ga1:=gen_lt (show gen<ga1 by omega)
   have eh_gen_ga1:=gen_lt' (show gen<ga1 by omega)
   have eg_ga0_ga1:=gen_lt (show ga0<ga1 by omega)
   have eh_ga0_ga1:=gen_lt' (show ga0<ga1 by omega)
   clear hgn
   clear ih'
   refine wq_ ?_
   refine AR_fin_turn hrel hd (by simp only [go_sem,and_self]) (by simp only [go_sem,and_self]) (by repeat (first|assumption|refine AgreeBut.new ?_ (hfr' _ _))) (by simp only [go_sem, *]) ?_
   simp only [go_sem, *]
theorem c_NearFormula (f:Fm) (hf:FmW f) (hl:f.least 536870912=true):Pure Tryz.prog env 87 [.agg f.cells] (.bool true):=by
 intro h
 refine en_ Tryz.func87 [.tmp 2] fun g0 w0 gen hrel hfr hfr' hres=>?_
 have nA:(⟨gen,0,0⟩:GoAbs.Id)≠⟨gen,1,0⟩:=by simp
 have hc:=c_eachT 136 [.ptr ⟨gen,1,0⟩ 0] rfl ⟨gen,0,0⟩ ⟨gen,1,0⟩ (.box f.cells) nA (fun x hx hl b=>c_NearFormula1 _ _ _ nA x hx hl b) f hf hl 0
 clear nA hl
 repeat' (first
  |exact hin _|exact agf (by assumption)
  | (first|refine wp rfl ?_|(refine Call1_turnE (hc) ?_ ?_ ?_;(focus ((simp only [go_sem, *]<;>(repeat (first|assumption|rfl|refine And.intro ?_ ?_)));done));(focus ((simp only [go_sem, *]<;>first|rfl|assumption);done)))|refine finF hrel ?_ ?_ ?_)<;>try simp only [go_sem, *])
theorem c_RebuildF (F:Tm→Int→Tm) (kd:Nat) (cap:List V) (hcap:weakL cap=cap) (A B:GoAbs.Id) (oA oB:GoAbs.Obj)
  (hof:∀ x:Tm,TmW x→∀ b:Int,PureE Tryz.prog env kd (.agg x.cells::.int .i64 b::cap) [(A,oA),(B,oB)] (.agg (F x b).cells)) :
  ∀ f:Fm,FmW f→∀ b:Int,PureE Tryz.prog env 141 [.agg f.cells,.int .i64 b,.fn (.func kd) [] cap] [(A,oA),(B,oB)] (.agg (f.rv F b).cells):=by
 intro t
 induction t using Fm.ind with|h t ih=>?_
 intro ht b h he
 simp only [List.mem_cons,List.not_mem_nil,or_false,forall_eq_or_imp,forall_eq] at he
 obtain ⟨hA,hB⟩:=he
 have hlen:=ht.len
 have hlen2:=ht.tlen
 have ih':∀ x∈t.args,∀ b:Int,PureE Tryz.prog env 141 [.agg x.cells,.int .i64 b,.fn (.func kd) [] cap] [(A,oA),(B,oB)] (.agg (x.rv F b).cells):=fun x hx=>ih x hx (ht.arg hx)
 have ht':∀ x∈t.terms,∀ b:Int,PureE Tryz.prog env kd (.agg x.cells::.int .i64 b::cap) [(A,oA),(B,oB)] (.agg (F x b).cells):=fun x hx=>hof x (ht.term hx)
 have hO:=c_OwnType t.type ht.ty
 have hQ:=c_Quantifier t.kind
 clear ih ht hof
 have hw:IntKind.i64.wrap (b+1)=addW b 1:=rfl
 have hv0:=congrArg (fun t:Fm=>V.agg t.cells) (Fm.rv_eq F t b).symm
 try simp only at hv0
 have hin:∀ S,InV S (V.agg (t.rv F b).cells):=fun S=>by simp [InV,InL_Fm]
 generalize V.agg (t.rv F b).cells=v at hv0 hin ⊢
 unfold evB at hv0
 generalize hb1:(if (decide (t.kind≥4)&&decide (t.kind≤7))=true then addW b 1 else b)=b1 at hv0
 refine en_ Tryz.func141 [.cell 6 36] fun g0 w0 gen hrel hfr hfr' hres=>?_
 have f5:=fresh_ne hfr hA
 have f6:=fresh_ne hfr hB
 refine wq_ ?_
 refine ar_ [1,2,3,6,7,19] [⟨gen,0,0⟩,⟨gen,0,1⟩] (fun i σ=>Agree h σ.h∧∃ v,σ.h ⟨gen,1,6⟩=some (.box [.int .i64 t.kind,.int .i64 t.type.kind,.sl .any (t.type.args.map Ty.cells),v,.sl .full []])∧OwnS h σ.h v 5 (((t.terms.take i).map fun x=>F x b).map Tm.cells)) (t.terms).length ?_ ?_ ?_
 ·simp only [go_sem, *]
  exact ⟨ag_,_,rfl,.inl rfl⟩
 ·clear ih' hv0 hb1
  intro i σ gr0 hgl_gr0 hgn hlt jI jN jS ⟨jA,v,jb,jO0⟩
  obtain ⟨jT,jB⟩:=jS
  simp only [go_sem] at jT jB
  obtain ⟨hgf,hgf0,eg_gen_gr0,eh_gen_gr0⟩:=rnd hgn hgl_gr0 jA
  obtain ⟨x,hx,hxm,hm⟩:=rnx hlt
  clear hgn
  have hc:=ht' x hxm b
  have hts:((t.terms.take (i+1)).map fun x=>F x b).map Tm.cells=((t.terms.take i).map fun x=>F x b).map Tm.cells++[(F x b).cells]:=by rw [map_take_succ hx,List.map_append];rfl
  have hA':=(jA A (by rw [hA];simp)).trans hA
  have hB':=(jA B (by rw [hB];simp)).trans hB
  have g5:=fresh_ne2 hfr hA hgl_gr0
  have g6:=fresh_ne2 hfr hB hgl_gr0
  clear ht' hA hB
  repeat' (first
   |(refine ⟨?_,?_⟩;focus ((repeat' (first|refine ⟨?_,?_⟩|refine .inr ?_));all_goals kernel_rfl))
   |(refine okE_app_ownd jO0 (by repeat (first|exact Keeps.refl _|refine Keeps.new ?_ (hgf _ _)|refine Keeps.new ?_ (hfr' _ _)|refine Keeps.box ?_ rfl|refine Keeps.box ?_ (by simp only [go_sem, *]))) rfl (by simp only [go_sem, *]<;>omega) (by first|exact hgf0 _ _|exact hfr' _ _) (by simp only [go_sem, *]) (by intro hd e;simp only [logOk_cons,logOk_nil,and_true];repeat (first|exact trivial|refine ⟨.inr (by kernel_rfl),?_⟩|exact .inr (by kernel_rfl))) ?_;intro v' h' id' jO jK jAg jAb jF;obtain ⟨cO,rfl⟩:=jO.val;simp only [go_sem, *])
   | (first|refine wp rfl ?_|refine spt rfl ?_|refine spf rfl ?_|(refine spl (fun hc=>?_) fun hc=>?_)<;>(try rw [beq_iff_eq] at hc)<;>try simp only [hc]|(refine Call1_pureE (hc) ?_ ?_;(focus ((simp only [go_sem, *]<;>(repeat (first|assumption|rfl|refine And.intro ?_ ?_)));done)))|refine AR_inv ?_)<;>try simp only [go_sem, *])
  refine ⟨?_,_,rfl,jO.keep (Keeps.box (Keeps.refl _) (by simp only [go_sem, *]))⟩
  exact Agree.new (jAg ag_) (hfr' _ _)
 clear ht'
 intro σ ga0 hgl_ga0 hgn jS ⟨jA,v1,jb,jO1⟩
 obtain ⟨jT,jB⟩:=jS
 simp only [go_sem] at jT jB
 obtain ⟨hgf,hgf0,eg_gen_ga0,eh_gen_ga0⟩:=rnd hgn hgl_ga0 jA
 clear hgn
 rw [List.take_length] at jO1
 obtain ⟨c1,rfl⟩:=jO1.val
 clear jO1
 cases hq:(decide (t.kind≥4)&&decide (t.kind≤7)) with
 | true =>
  rw [hq] at hQ hb1
  clear hq
  simp only [if_true,Bool.false_eq_true,if_false] at hb1
  refine wq_ ?_
  refine ar_ [1,2,6,7,41] [⟨gen,0,1⟩] (fun i σ=>Agree h σ.h∧∃ v,σ.h ⟨gen,1,6⟩=some (.box [.int .i64 t.kind,.int .i64 t.type.kind,.sl .any (t.type.args.map Ty.cells),.sl c1 ((t.terms.map fun x=>F x b).map Tm.cells),v])∧OwnS h σ.h v 5 (((t.args.take i).map fun x=>x.rv F b1).map Fm.cells)) (t.args).length ?_ ?_ ?_
  ·simp only [go_sem, *]
   first|exact ⟨_,rfl,.inl rfl⟩|exact ⟨ag_,_,rfl,.inl rfl⟩
  ·clear hv0
   intro i σ gr1 hgl_gr1 hgn hlt jI jN jS ⟨jA,v,jb',jO0⟩
   obtain ⟨jT,jB⟩:=jS
   simp only [go_sem] at jT jB
   have hgf:=fresh_of hgn
   have hgf0:=fun r i=>agree_fresh jA (hgf r i)
   have eg_gen_gr1:=gen_lt (show gen<gr1 by omega)
   have eh_gen_gr1:=gen_lt' (show gen<gr1 by omega)
   have eg_ga0_gr1:=gen_lt (show ga0<gr1 by omega)
   have eh_ga0_gr1:=gen_lt' (show ga0<gr1 by omega)
   obtain ⟨x,hx,hxm,hm⟩:=rnx hlt
   clear hgn
   have hc:=ih' x hxm b1
   have hts:((t.args.take (i+1)).map fun x=>x.rv F b1).map Fm.cells=((t.args.take i).map fun x=>x.rv F b1).map Fm.cells++[(x.rv F b1).cells]:=by rw [map_take_succ hx,List.map_append];rfl
   have hA':=(jA A (by rw [hA];simp)).trans hA
   have hB':=(jA B (by rw [hB];simp)).trans hB
   have g5:=fresh_ne2 hfr hA (show gen<gr1 by omega)
   have g6:=fresh_ne2 hfr hB (show gen<gr1 by omega)
   clear ih' hA hB
   repeat' (first
    |(refine ⟨?_,?_⟩;focus ((repeat' (first|refine ⟨?_,?_⟩|refine .inr ?_));all_goals kernel_rfl))
    |(refine okE_app_ownd jO0 (by repeat (first|exact Keeps.refl _|refine Keeps.new ?_ (hgf _ _)|refine Keeps.new ?_ (hfr' _ _)|refine Keeps.box ?_ rfl|refine Keeps.box ?_ (by simp only [go_sem, *]))) rfl (by simp only [go_sem, *]<;>omega) (by first|exact hgf0 _ _|exact hfr' _ _) (by simp only [go_sem, *]) (by intro hd e;simp only [logOk_cons,logOk_nil,and_true];repeat (first|exact trivial|refine ⟨.inr (by kernel_rfl),?_⟩|exact .inr (by kernel_rfl))) ?_;intro v' h' id' jO jK jAg jAb jF;obtain ⟨cO,rfl⟩:=jO.val;simp only [go_sem, *])
    | (first|refine wp rfl ?_|refine spt rfl ?_|refine spf rfl ?_|(refine spl (fun hc=>?_) fun hc=>?_)<;>(try rw [beq_iff_eq] at hc)<;>try simp only [hc]|(refine Call1_pureE (hc) ?_ ?_;(focus ((simp only [go_sem, *]<;>(repeat (first|assumption|rfl|refine And.intro ?_ ?_)));done)))|refine AR_inv ?_)<;>try simp only [go_sem, *])
   refine ⟨?_,_,rfl,jO.keep (Keeps.box (Keeps.refl _) (by simp only [go_sem, *]))⟩
   exact Agree.new (jAg ag_) (hfr' _ _)
  ·
   intro σ ga1 hgl_ga1 hgn jS ⟨jA,v,jb',jO0⟩
   obtain ⟨jT,jB⟩:=jS
   simp only [go_sem] at jT jB
   have hgf:=fresh_of hgn
   have hgf0:=fun r i=>agree_fresh jA (hgf r i)
   have eg_gen_ga1:=gen_lt (show gen<ga1 by omega)
   have eh_gen_ga1:=gen_lt' (show gen<ga1 by omega)
   have eg_ga0_ga1:=gen_lt (show ga0<ga1 by omega)
   have eh_ga0_ga1:=gen_lt' (show ga0<ga1 by omega)
   clear hgn
   rw [List.take_length] at jO0
   obtain ⟨c,rfl⟩:=jO0.val
   clear ih'
   rw [Fm.mk_cells] at hv0
   subst hv0
   exact wk_
 | false =>
  rw [hq] at hQ hb1
  clear hq
  simp only [if_true,Bool.false_eq_true,if_false] at hb1
  subst hb1
  refine wq_ ?_
  refine ar_ [1,2,6,7,41] [⟨gen,0,1⟩] (fun i σ=>Agree h σ.h∧∃ v,σ.h ⟨gen,1,6⟩=some (.box [.int .i64 t.kind,.int .i64 t.type.kind,.sl .any (t.type.args.map Ty.cells),.sl c1 ((t.terms.map fun x=>F x b).map Tm.cells),v])∧OwnS h σ.h v 5 (((t.args.take i).map fun x=>x.rv F b).map Fm.cells)) (t.args).length ?_ ?_ ?_
  ·simp only [go_sem, *]
   first|exact ⟨_,rfl,.inl rfl⟩|exact ⟨ag_,_,rfl,.inl rfl⟩
  ·clear hv0
   intro i σ gr1 hgl_gr1 hgn hlt jI jN jS ⟨jA,v,jb',jO0⟩
   obtain ⟨jT,jB⟩:=jS
   simp only [go_sem] at jT jB
   have hgf:=fresh_of hgn
   have hgf0:=fun r i=>agree_fresh jA (hgf r i)
   have eg_gen_gr1:=gen_lt (show gen<gr1 by omega)
   have eh_gen_gr1:=gen_lt' (show gen<gr1 by omega)
   have eg_ga0_gr1:=gen_lt (show ga0<gr1 by omega)
   have eh_ga0_gr1:=gen_lt' (show ga0<gr1 by omega)
   obtain ⟨x,hx,hxm,hm⟩:=rnx hlt
   clear hgn
   have hc:=ih' x hxm b
   have hts:((t.args.take (i+1)).map fun x=>x.rv F b).map Fm.cells=((t.args.take i).map fun x=>x.rv F b).map Fm.cells++[(x.rv F b).cells]:=by rw [map_take_succ hx,List.map_append];rfl
   have hA':=(jA A (by rw [hA];simp)).trans hA
   have hB':=(jA B (by rw [hB];simp)).trans hB
   have g5:=fresh_ne2 hfr hA (show gen<gr1 by omega)
   have g6:=fresh_ne2 hfr hB (show gen<gr1 by omega)
   clear ih' hA hB
   repeat' (first
    |(refine ⟨?_,?_⟩;focus ((repeat' (first|refine ⟨?_,?_⟩|refine .inr ?_));all_goals kernel_rfl))
    |(refine okE_app_ownd jO0 (by repeat (first|exact Keeps.refl _|refine Keeps.new ?_ (hgf _ _)|refine Keeps.new ?_ (hfr' _ _)|refine Keeps.box ?_ rfl|refine Keeps.box ?_ (by simp only [go_sem, *]))) rfl (by simp only [go_sem, *]<;>omega) (by first|exact hgf0 _ _|exact hfr' _ _) (by simp only [go_sem, *]) (by intro hd e;simp only [logOk_cons,logOk_nil,and_true];repeat (first|exact trivial|refine ⟨.inr (by kernel_rfl),?_⟩|exact .inr (by kernel_rfl))) ?_;intro v' h' id' jO jK jAg jAb jF;obtain ⟨cO,rfl⟩:=jO.val;simp only [go_sem, *])
    | (first|refine wp rfl ?_|refine spt rfl ?_|refine spf rfl ?_|(refine spl (fun hc=>?_) fun hc=>?_)<;>(try rw [beq_iff_eq] at hc)<;>try simp only [hc]|(refine Call1_pureE (hc) ?_ ?_;(focus ((simp only [go_sem, *]<;>(repeat (first|assumption|rfl|refine And.intro ?_ ?_)));done)))|refine AR_inv ?_)<;>try simp only [go_sem, *])
   refine ⟨?_,_,rfl,jO.keep (Keeps.box (Keeps.refl _) (by simp only [go_sem, *]))⟩
   exact Agree.new (jAg ag_) (hfr' _ _)
  ·
   intro σ ga1 hgl_ga1 hgn jS ⟨jA,v,jb',jO0⟩
   obtain ⟨jT,jB⟩:=jS
   simp only [go_sem] at jT jB
   have hgf:=fresh_of hgn
   have hgf0:=fun r i=>agree_fresh jA (hgf r i)
   have eg_gen_ga1:=gen_lt (show gen<ga1 by omega)
   have eh_gen_ga1:=gen_lt' (show gen<ga1 by omega)
   have eg_ga0_ga1:=gen_lt (show ga0<ga1 by omega)
   have eh_ga0_ga1:=gen_lt' (show ga0<ga1 by omega)
   clear hgn
   rw [List.take_length] at jO0
   obtain ⟨c,rfl⟩:=jO0.val
   clear ih'
   rw [Fm.mk_cells] at hv0
   subst hv0
   exact wk_
theorem c_fwithin (n:Int):Pure Tryz.prog env 85 [.int .i64 n] (.bool (decide (n≥0)&&decide (n≤4096))):=by
 intro h
 cases q1:decide (n≥0)<;>cases q2:decide (n≤4096)<;>simp only [Bool.false_and,Bool.true_and]
 all_goals
  exact ek_ Tryz.func85 [.tmp 2]
end Go.Proofs.YtmnplkmphgkooaaGreatDoor
