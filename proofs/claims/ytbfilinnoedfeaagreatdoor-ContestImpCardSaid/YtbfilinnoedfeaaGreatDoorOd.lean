/-
 Walks: formulas that are typed.
-/
import Derived.Test.YtbfilinnoedfeaaGreatDoorMf
import Derived.Test.YtbfilinnoedfeaaGreatDoorNz
import Derived.Test.YtbfilinnoedfeaaGreatDoorMn
set_option linter.unusedSimpArgs false
set_option linter.unusedVariables false
set_option maxRecDepth 20000
set_option maxHeartbeats 4000000
namespace Go.Proofs.YtbfilinnoedfeaaGreatDoor
open Go GoAbs Go.Proofs
theorem c_typesContext2 (g:List Ty) (hg:∀ y∈g,TyG y) (hl:g.length≤16):Pure Tryz.prog env 166 [.sl .any (g.map Ty.cells)] (.int .i64 0):=by
 intro h
 have d1:decide ((g.length:Int)>16)=false:=by simp;omega
 have n0:((0:Int) != 0)=false:=rfl
 have hc:∀ y∈g,Pure Tryz.prog env 38 [.agg y.cells] (.int .i64 0):=fun y hy=>by
  have:=c_typesCheck y (hg y hy).1.W
  rw [(hg y hy).err] at this;exact this
 clear hg
 refine en Tryz.func166 [.tmp 2] rfl rfl fun g0 w0 gen hrel hfr hfr' hres=>?_
 repeat' (first
  |exact hin _|exact agf (by assumption)
  | (first|refine wp rfl ?_|refine spt rfl ?_|refine spf rfl ?_|(refine spl (fun hc=>?_) fun hc=>?_)<;>(try rw [beq_iff_eq] at hc)<;>try simp only [hc]|refine finF hrel ?_ ?_ ?_)<;>try simp only [go_sem, *])
 refine AR_range [9] [] (fun i σ=>Agree h σ.h∧True) (g).length (by first|omega|(simp only [go_sem, *]<;>omega)) ⟨rfl,rfl,rfl⟩ rfl (by simp only [go_sem, *]) (by simp only [go_sem, *]) ?_ (by intro i σ t v ht hK;simp only [List.mem_cons,List.not_mem_nil,or_false] at ht;rcases ht with rfl|rfl|rfl<;>exact hK) ?_ ?_
 ·simp only [go_sem, *]
  exact (by repeat (first|exact Agree.refl _|assumption|refine Agree.new ?_ (hgf0 _ _)|refine Agree.new ?_ (hfr' _ _)))
 ·
  intro i σ gr0 hgl_gr0 hgn hlt jI jN jS ⟨jA,_⟩
  obtain ⟨jT,jB⟩:=jS
  simp only [go_sem] at jT jB
  have hgf:=fresh_of hgn
  have hgf0:=fun r i=>agree_fresh jA (hgf r i)
  have eg_gen_gr0:=gen_lt (show gen<gr0 by omega)
  have eh_gen_gr0:=gen_lt' (show gen<gr0 by omega)
  obtain ⟨x,hx⟩:∃ x,(g)[i]? = some x:=⟨_,List.getElem?_eq_getElem hlt⟩
  have hxm:=List.mem_of_getElem? hx
  have hm:=min_lt hlt
  clear hgn
  have h1:=hc x hxm
  clear hc
  repeat' (first
   | (first|refine wp rfl ?_|refine spt rfl ?_|refine spf rfl ?_|(refine spl (fun hc=>?_) fun hc=>?_)<;>(try rw [beq_iff_eq] at hc)<;>try simp only [hc]|refine cp h1 ?_|refine AR_inv ?_)<;>try simp only [go_sem, *])
  all_goals exact Agree.new jA (hgf0 _ _)
 ·clear hc
  intro σ ga0 hgl_ga0 hgn jS ⟨jA,_⟩
  obtain ⟨jT,jB⟩:=jS
  simp only [go_sem] at jT jB
  have hgf:=fresh_of hgn
  have hgf0:=fun r i=>agree_fresh jA (hgf r i)
  have eg_gen_ga0:=gen_lt (show gen<ga0 by omega)
  have eh_gen_ga0:=gen_lt' (show gen<ga0 by omega)
  clear hgn
  repeat' (first
   |exact hin _|exact agf (by assumption)
   | (first|refine wp rfl ?_|refine spt rfl ?_|refine spf rfl ?_|(refine spl (fun hc=>?_) fun hc=>?_)<;>(try rw [beq_iff_eq] at hc)<;>try simp only [hc]|refine finF hrel ?_ ?_ ?_)<;>try simp only [go_sem, *])
theorem c_ctxNumber {g:List Ty} {t:Tm} (h:HasTy TyG g t tNat) (hg:∀ y∈g,TyW y) (ht:TmW t) (hb:g.length+tmSz t≤1000000) :
  Pure Tryz.prog env 218 [.sl .any (g.map szC),.agg t.cells] (.int .i64 0):=by
 have hc:=c_typeOf h hg ht hb
 have i1:=c_sIs tNat 1
 rw [show (tNat.kind==1)=true from rfl] at i1
 have h0:Pure Tryz.prog env 266 [.sl .any (g.map szC),.agg t.cells,.int .i64 1] (.int .i64 0):=by
  intro h
  clear hg ht hb
  generalize tNat=q at *
  refine en Tryz.func266 [.tmp 6] rfl rfl fun g0 w0 gen hrel hfr hfr' hres=>?_
  repeat' (first
   |exact hin _|exact agf (by assumption)
   | (first|refine wp rfl ?_|refine spt rfl ?_|refine spf rfl ?_|(refine spl (fun hc=>?_) fun hc=>?_)<;>(try rw [beq_iff_eq] at hc)<;>try simp only [hc]|(refine gs (fun hb=>?_) fun hb=>?_)<;>try simp only [Bool.not_true,Bool.not_false] at hb|refine cp hc ?_|refine cp i1 ?_|refine finF hrel ?_ ?_ ?_)<;>try simp only [go_sem, *])
 intro h
 clear hc i1 hg ht hb
 refine en Tryz.func218 [.tmp 4] rfl rfl fun g0 w0 gen hrel hfr hfr' hres=>?_
 repeat' (first
  |exact hin _|exact agf (by assumption)
  | (first|refine wp rfl ?_|refine cp h0 ?_|refine finF hrel ?_ ?_ ?_)<;>try simp only [go_sem, *])
theorem c_ctxFormula:∀ (n:Nat) (f:Fm) (g:List Ty),fmSz f≤n→FmTy TyG g f→fmSz f≤4096→FmW f→(∀ y∈g,TyW y)→g.length+fmSz f≤5000 →
  Pure Tryz.prog env 168 [.sl .any (g.map szC),.agg f.cells] (.int .i64 0):=by
 intro n
 induction n with
 | zero =>
  intro f g hn;have:1≤fmSz f:=by (cases f;rw [fmSz];omega)
  omega
 | succ n ih =>
 intro f g hn hf zf wf hg hb h
 have hlen:=wf.len
 have htlen:=wf.tlen
 obtain ⟨p1,p2⟩:=fmTy_parts hf
 have sT:∀ x∈f.terms,tmSz x<fmSz f:=by
  intro x hx
  obtain ⟨k,t,l,a⟩:=f
  rw [fmSz]
  have:=tmSzL_mem (show x∈l from hx)
  omega
 have hterm:∀ x∈f.terms,Pure Tryz.prog env 218 [.sl .any (g.map szC),.agg x.cells] (.int .i64 0):=by
  intro x hx
  have hs:=sT x hx
  exact c_ctxNumber (p1 x hx) hg (wf.term hx) (by omega)
 have harg:∀ x∈f.args,Pure Tryz.prog env 168 [.sl .any ((if quant f.kind then g++[f.type] else g).map szC),.agg x.cells] (.int .i64 0):=by
  intro x hx
  have hs:=fmSz_arg hx
  refine ih x _ (by omega) (p2 x hx) (by omega) (wf.arg hx) ?_ ?_
  ·intro y hy
   split at hy
   ·rcases List.mem_append.1 hy with hy|hy
    ·exact hg y hy
    ·simp at hy;subst hy;exact wf.ty
   ·exact hg y hy
  ·split<;>(try simp only [List.length_append,List.length_cons,List.length_nil])<;>omega
 have hwith:=c_ctxWith g f.type wf.ty (by omega)
 have hkind:f.kind=1∨f.kind=2∨f.kind=3∨f.kind=4∨f.kind=5∨f.kind=6∨f.kind=7:=by
  cases hf with
  | eq _ _=>exact .inl rfl
  | two hk _ _=>rcases hk with rfl|rfl<;>simp [fmTwo,Fm.kind]
  | q hk _=>rcases hk with rfl|rfl|rfl|rfl<;>simp [fmQ,Fm.kind]
 clear ih p1 p2 sT hf wf hg hn hb zf
 rcases hkind with hk|hk|hk|hk|hk|hk|hk
 ·clear harg hwith
  refine en Tryz.func168 [.tmp 4] rfl rfl fun g0 w0 gen hrel hfr hfr' hres=>?_
  repeat' (first
   | (first|refine wp rfl ?_|refine spt rfl ?_|refine spf rfl ?_|(refine spl (fun hc=>?_) fun hc=>?_)<;>(try rw [beq_iff_eq] at hc)<;>try simp only [hc])<;>try simp only [go_sem, *])
  refine AR_range [0,42] [] (fun i σ=>Agree h σ.h∧True) (f.terms).length (by first|omega|(simp only [go_sem, *]<;>omega)) ⟨rfl,rfl,rfl⟩ rfl (by simp only [go_sem, *]) (by simp only [go_sem, *]) ?_ (by intro i σ t v ht hK;simp only [List.mem_cons,List.not_mem_nil,or_false] at ht;rcases ht with rfl|rfl|rfl<;>exact hK) ?_ ?_
  ·simp only [go_sem, *]
   exact (by repeat (first|exact Agree.refl _|assumption|refine Agree.new ?_ (hgf0 _ _)|refine Agree.new ?_ (hfr' _ _)))
  ·
   intro i σ gr1 hgl_gr1 hgn hlt jI jN jS ⟨jA,_⟩
   obtain ⟨jT,jB⟩:=jS
   simp only [go_sem] at jT jB
   have hgf:=fresh_of hgn
   have hgf0:=fun r i=>agree_fresh jA (hgf r i)
   have eg_gen_gr1:=gen_lt (show gen<gr1 by omega)
   have eh_gen_gr1:=gen_lt' (show gen<gr1 by omega)
   obtain ⟨x,hx⟩:∃ x,(f.terms)[i]? = some x:=⟨_,List.getElem?_eq_getElem hlt⟩
   have hxm:=List.mem_of_getElem? hx
   have hm:=min_lt hlt
   clear hgn
   have h1:=hterm x hxm
   clear hterm
   repeat' (first
    | (first|refine wp rfl ?_|refine spt rfl ?_|refine spf rfl ?_|(refine spl (fun hc=>?_) fun hc=>?_)<;>(try rw [beq_iff_eq] at hc)<;>try simp only [hc]|refine cp h1 ?_|refine AR_inv ?_)<;>try simp only [go_sem, *])
   all_goals exact (by repeat (first|exact jA|refine Agree.new ?_ (hgf0 _ _)))
  ·clear hterm
   intro σ ga1 hgl_ga1 hgn jS ⟨jA,_⟩
   obtain ⟨jT,jB⟩:=jS
   simp only [go_sem] at jT jB
   have hgf:=fresh_of hgn
   have hgf0:=fun r i=>agree_fresh jA (hgf r i)
   have eg_gen_ga1:=gen_lt (show gen<ga1 by omega)
   have eh_gen_ga1:=gen_lt' (show gen<ga1 by omega)
   clear hgn
   repeat' (first
    |exact hin _|exact agf (by assumption)
    | (first|refine wp rfl ?_|refine spt rfl ?_|refine spf rfl ?_|(refine spl (fun hc=>?_) fun hc=>?_)<;>(try rw [beq_iff_eq] at hc)<;>try simp only [hc]|refine finF hrel ?_ ?_ ?_)<;>try simp only [go_sem, *])
 all_goals
  rw [hk] at harg
  clear hterm
  simp only [quant,Int.reduceBEq,Bool.or_true,Bool.true_or,Bool.or_self,Bool.or_false,Bool.false_or,if_true,if_false,Bool.false_eq_true] at harg
  refine en Tryz.func168 [.tmp 4] rfl rfl fun g0 w0 gen hrel hfr hfr' hres=>?_
  repeat' (first
   | (first|refine wp rfl ?_|refine spt rfl ?_|refine spf rfl ?_|(refine spl (fun hc=>?_) fun hc=>?_)<;>(try rw [beq_iff_eq] at hc)<;>try simp only [hc]|refine cp hwith ?_)<;>try simp only [go_sem, *])
  refine AR_range [0,3,28] [⟨gen,0,0⟩] (fun i σ=>Agree h σ.h∧True) (f.args).length (by first|omega|(simp only [go_sem, *]<;>omega)) ⟨rfl,rfl,rfl⟩ rfl (by simp only [go_sem, *]) (by simp only [go_sem, *]) ?_ (by intro i σ t v ht hK;simp only [List.mem_cons,List.not_mem_nil,or_false] at ht;rcases ht with rfl|rfl|rfl<;>exact hK) ?_ ?_
  ·simp only [go_sem, *]
   exact (by repeat (first|exact Agree.refl _|assumption|refine Agree.new ?_ (hgf0 _ _)|refine Agree.new ?_ (hfr' _ _)))
  ·
   intro i σ gr0 hgl_gr0 hgn hlt jI jN jS ⟨jA,_⟩
   obtain ⟨jT,jB⟩:=jS
   simp only [go_sem] at jT jB
   have hgf:=fresh_of hgn
   have hgf0:=fun r i=>agree_fresh jA (hgf r i)
   have eg_gen_gr0:=gen_lt (show gen<gr0 by omega)
   have eh_gen_gr0:=gen_lt' (show gen<gr0 by omega)
   obtain ⟨x,hx⟩:∃ x,(f.args)[i]? = some x:=⟨_,List.getElem?_eq_getElem hlt⟩
   have hxm:=List.mem_of_getElem? hx
   have hm:=min_lt hlt
   clear hgn
   have h1:=harg x hxm
   clear harg
   repeat' (first
    | (first|refine wp rfl ?_|refine spt rfl ?_|refine spf rfl ?_|(refine spl (fun hc=>?_) fun hc=>?_)<;>(try rw [beq_iff_eq] at hc)<;>try simp only [hc]|refine cp h1 ?_|refine AR_inv ?_)<;>try simp only [go_sem, *])
   all_goals exact (by repeat (first|exact jA|refine Agree.new ?_ (hgf0 _ _)))
  ·clear harg
   intro σ ga0 hgl_ga0 hgn jS ⟨jA,_⟩
   obtain ⟨jT,jB⟩:=jS
   simp only [go_sem] at jT jB
   have hgf:=fresh_of hgn
   have hgf0:=fun r i=>agree_fresh jA (hgf r i)
   have eg_gen_ga0:=gen_lt (show gen<ga0 by omega)
   have eh_gen_ga0:=gen_lt' (show gen<ga0 by omega)
   clear hgn
   repeat' (first
    |exact hin _|exact agf (by assumption)
    | (first|refine wp rfl ?_|refine spt rfl ?_|refine spf rfl ?_|(refine spl (fun hc=>?_) fun hc=>?_)<;>(try rw [beq_iff_eq] at hc)<;>try simp only [hc]|refine finF hrel ?_ ?_ ?_)<;>try simp only [go_sem, *])
theorem c_formulaTyped (g:List Ty) (hg:∀ y∈g,TyG y) (hl:g.length≤16) (f:Fm) (hf:FmTy TyG g f) (he:fmErr f=0) (zf:fmSz f≤4096) (wf:FmW f) :
  Pure Tryz.prog env 121 [.sl .any (g.map Ty.cells),.agg f.cells] (.int .i64 0):=by
 intro h
 have h1:=c_typesContext2 g hg hl
 have h2:=c_fmCheck f wf
 rw [he] at h2
 have h3:=c_ctxFrom g (fun y hy=>(hg y hy).1.W) (by omega)
 have h4:=c_ctxFormula _ f g (Nat.le_refl _) hf zf wf (fun y hy=>(hg y hy).1.W) (by omega)
 have n0:((0:Int) != 0)=false:=rfl
 clear hg hl hf he zf wf
 refine en Tryz.func121 [.tmp 4] rfl rfl fun g0 w0 gen hrel hfr hfr' hres=>?_
 repeat' (first
  |(refine ⟨?_,?_⟩;focus ((repeat' (first|refine ⟨?_,?_⟩|refine .inr ?_));all_goals kernel_rfl))
  |exact hin _|exact agf (by assumption)
  | (first|refine wp rfl ?_|refine spt rfl ?_|refine spf rfl ?_|(refine spl (fun hc=>?_) fun hc=>?_)<;>(try rw [beq_iff_eq] at hc)<;>try simp only [hc]|refine cp h1 ?_|refine cp h2 ?_|refine cp h3 ?_|refine cp h4 ?_|refine finF hrel ?_ ?_ ?_)<;>try simp only [go_sem, *])
theorem c_termsTypeOf (t:Tm) (s:Ty) (h:HasTy TyG [] t s) (ht:TmW t) (he:tmErr t=0) (hb:tmSz t≤1000000) :
  Pure Tryz.prog env 122 [.sl .any [],.agg t.cells] (.tup [.agg s.cells,.int .i64 0]):=by
 have ws:TyW s:=(h.W (by simp) ht).1
 intro hh
 have h1:=c_typesContext2 [] (by simp) (by simp)
 have h2:=c_termsCheck t ht
 rw [he] at h2
 have h3:=c_ctxFrom [] (by simp) (by simp)
 have h4:=c_typeOf h (by simp) ht (by simpa using hb)
 have h5:=c_OwnType s ws
 have n0:((0:Int) != 0)=false:=rfl
 simp only [List.map_nil] at h1 h3 h4
 rw [ty_cells s] at h5
 have ec:=ty_cells s
 clear h ht he hb ws
 generalize s.cells=sc at *
 subst ec
 unfold szC at h4
 refine en Tryz.func122 [.cell 4 29,.tmp 5] rfl rfl fun g0 w0 gen hrel hfr hfr' hres=>?_
 repeat' (first
  |(refine ⟨?_,?_⟩;focus ((repeat' (first|refine ⟨?_,?_⟩|refine .inr ?_));all_goals kernel_rfl))
  |exact hin _|exact agf (by assumption)
  | (first|refine wp rfl ?_|refine spt rfl ?_|refine spf rfl ?_|(refine spl (fun hc=>?_) fun hc=>?_)<;>(try rw [beq_iff_eq] at hc)<;>try simp only [hc]|refine cp h1 ?_|refine cp h2 ?_|refine cp h3 ?_|refine cp h4 ?_|refine cp h5 ?_|refine finF hrel ?_ ?_ ?_)<;>try simp only [go_sem, *])
end Go.Proofs.YtbfilinnoedfeaaGreatDoor
