/-
 Walks: sameness of types, terms and formulas (tree).
-/
import Derived.Test.YteaijonkbbkkjaaGreatDoorMa
import Derived.Test.YteaijonkbbkkjaaGreatDoorAbsD
set_option linter.unusedSimpArgs false
set_option linter.unusedVariables false
set_option maxRecDepth 20000
set_option maxHeartbeats 4000000
namespace Go.Proofs.YteaijonkbbkkjaaGreatDoor
open Go GoAbs Go.Proofs
theorem ne_of_beq {a b:Int} {r:Bool} (h:(a==b)=r):(a != b)=!r:=by simp [bne,h]
theorem sameTyL_len:∀ {l l':List Ty},Ty.sameL l l'=true→l.length=l'.length
 | [],[],_=>rfl
 | a::l,b::l',h=>by simp only [Ty.sameL,Bool.and_eq_true] at h;simp [sameTyL_len h.2]
 | [],_::_,h=>by simp [Ty.sameL] at h
 | _::_,[],h=>by simp [Ty.sameL] at h
theorem sameTmL_len:∀ {l l':List Tm},Tm.sameL l l'=true→l.length=l'.length
 | [],[],_=>rfl
 | a::l,b::l',h=>by simp only [Tm.sameL,Bool.and_eq_true] at h;simp [sameTmL_len h.2]
 | [],_::_,h=>by simp [Tm.sameL] at h
 | _::_,[],h=>by simp [Tm.sameL] at h
theorem sameFmL_len:∀ {l l':List Fm},Fm.sameL l l'=true→l.length=l'.length
 | [],[],_=>rfl
 | a::l,b::l',h=>by simp only [Fm.sameL,Bool.and_eq_true] at h;simp [sameFmL_len h.2]
 | [],_::_,h=>by simp [Fm.sameL] at h
 | _::_,[],h=>by simp [Fm.sameL] at h
theorem sameTyL_ne {l l':List Ty} (h:((l.length:Int)==(l'.length:Int))=false):Ty.sameL l l'=false:=by
 cases e:Ty.sameL l l' with
 | true=>rw [sameTyL_len e] at h;simp at h
 | false=>rfl
theorem sameTmL_ne {l l':List Tm} (h:((l.length:Int)==(l'.length:Int))=false):Tm.sameL l l'=false:=by
 cases e:Tm.sameL l l' with
 | true=>rw [sameTmL_len e] at h;simp at h
 | false=>rfl
theorem sameFmL_ne {l l':List Fm} (h:((l.length:Int)==(l'.length:Int))=false):Fm.sameL l l'=false:=by
 cases e:Fm.sameL l l' with
 | true=>rw [sameFmL_len e] at h;simp at h
 | false=>rfl
theorem get_same {α β:Type} {l:List α} {l':List β} (h:((l.length:Int)==(l'.length:Int))=true):∀ (i:Nat) (x:α),l[i]? = some x→∃ y,l'[i]? = some y:=by
 intro i x hx
 have:=(List.getElem?_eq_some_iff.1 hx).1
 simp at h
 exact ⟨_,List.getElem?_eq_getElem (by omega)⟩
theorem c_SameType:∀ a:Ty,TyW a→∀ b:Ty,TyW b→Pure Tryz.prog env 78 [.agg a.cells,.agg b.cells] (.bool (Ty.same a b)):=by
 intro a
 induction a using Ty.ind with|h a ih=>?_
 intro ha b hb h
 have hlen:=ha.len
 have ih':∀ x∈a.args,∀ y∈b.args,Pure Tryz.prog env 78 [.agg x.cells,.agg y.cells] (.bool (Ty.same x y)):=fun x hx y hy=>ih x hx (ha.arg hx) y (hb.arg hy)
 clear ih ha hb
 have hse:=(Ty.same_eq a b).symm
 generalize Ty.same a b=v at hse ⊢
 cases k1:(a.kind==b.kind) with
 | false =>
  rw [k1] at hse
  simp only [Bool.false_and] at hse
  subst hse
  have k1':=ne_of_beq k1
  clear k1 ih'
  exact ek_ Tryz.func78 [.tmp 4]
 | true =>
 have k1':=ne_of_beq k1
 cases k2:((a.args.length:Int)==(b.args.length:Int)) with
 | false =>
  rw [k1,sameTyL_ne k2] at hse
  simp only [Bool.and_false] at hse
  subst hse
  have k2':=ne_of_beq k2
  clear k1 k2 ih'
  exact ek_ Tryz.func78 [.tmp 4]
 | true =>
  have k2':=ne_of_beq k2
  have hget:=get_same k2
  rw [k1] at hse
  simp only [Bool.true_and] at hse
  have hln:a.args.length≤b.args.length∧b.args.length≤a.args.length:=by simp at k2;omega
  clear k1 k2
  simp only [Bool.not_true] at k1' k2'
  refine en_ Tryz.func78 [.tmp 4] fun g0 w0 gen hrel hfr hfr' hres=>?_
  refine wq_ ?_
  refine ar_ [3,22] [⟨gen,0,1⟩] (fun i σ=>Agree h σ.h∧Ty.sameL (a.args.drop i) (b.args.drop i)=v) (a.args).length ?_ ?_ ?_
  ·simp only [go_sem, *]
   first|done|exact ag_|exact ⟨ag_,hse⟩|exact hse
  ·clear hse
   intro i σ gr0 hgl_gr0 hgn hlt jI jN jS ⟨jA,jv⟩
   obtain ⟨jT,jB⟩:=jS
   simp only [go_sem] at jT jB
   obtain ⟨hgf,hgf0,eg_gen_gr0,eh_gen_gr0⟩:=rnd hgn hgl_gr0 jA
   obtain ⟨x,hx,hxm,hm⟩:=rnx hlt
   clear hgn
   obtain ⟨y,hy⟩:=hget i x hx
   rw [drop_get hx,drop_get hy,Ty.sameL] at jv
   have hc:=ih' x hxm y (List.mem_of_getElem? hy)
   clear ih' hget
   cases hxy:Ty.same x y with
   | false =>
    rw [hxy] at hc jv
    simp only [Bool.false_and] at jv
    subst jv
    exact wk_
   | true =>
    rw [hxy] at hc jv
    simp only [Bool.true_and] at jv
    refine wq_ ?_
    first|done|exact ag_|exact ⟨ag_,jv⟩|exact jv
  ·clear hse
   intro σ ga0 hgl_ga0 hgn jS ⟨jA,jv⟩
   obtain ⟨jT,jB⟩:=jS
   simp only [go_sem] at jT jB
   obtain ⟨hgf,hgf0,eg_gen_ga0,eh_gen_ga0⟩:=rnd hgn hgl_ga0 jA
   clear hgn
   have hq:a.args.length=b.args.length:=by omega
   rw [List.drop_length,hq,List.drop_length,Ty.sameL] at jv
   subst jv
   clear ih' hget hq hln
   exact wk_
theorem c_SameTerm:∀ a:Tm,TmW a→∀ b:Tm,TmW b→Pure Tryz.prog env 206 [.agg a.cells,.agg b.cells] (.bool (Tm.same a b)):=by
 intro a
 induction a using Tm.ind with|h a ih=>?_
 intro ha b hb h
 have hlen:=ha.len
 have ih':∀ x∈a.args,∀ y∈b.args,Pure Tryz.prog env 206 [.agg x.cells,.agg y.cells] (.bool (Tm.same x y)):=fun x hx y hy=>ih x hx (ha.arg hx) y (hb.arg hy)
 have hT:=c_SameType a.type ha.ty b.type hb.ty
 clear ih ha hb
 have hse:=(Tm.same_eq a b).symm
 generalize Tm.same a b=v at hse ⊢
 cases k1:(a.kind==b.kind) with
 | false =>
  rw [k1] at hse
  simp only [Bool.false_and] at hse
  subst hse
  have k1':=ne_of_beq k1
  clear k1 ih'
  exact ek_ Tryz.func206 [.tmp 4]
 | true =>
 have k1':=ne_of_beq k1
 rw [k1] at hse
 simp only [Bool.true_and] at hse
 cases k3:(a.index==b.index) with
 | false =>
  rw [k3] at hse
  simp only [Bool.false_and] at hse
  subst hse
  have k3':=ne_of_beq k3
  clear k1 k3 ih'
  exact ek_ Tryz.func206 [.tmp 4]
 | true =>
 have k3':=ne_of_beq k3
 rw [k3] at hse
 simp only [Bool.true_and] at hse
 cases k4:Ty.same a.type b.type with
 | false =>
  rw [k4] at hse hT
  simp only [Bool.false_and] at hse
  subst hse
  clear k1 k3 k4 ih'
  exact ek_ Tryz.func206 [.tmp 4]
 | true =>
 rw [k4] at hse hT
 simp only [Bool.true_and] at hse
 clear k1 k3 k4
 cases k2:((a.args.length:Int)==(b.args.length:Int)) with
 | false =>
  rw [sameTmL_ne k2] at hse
  subst hse
  have k2':=ne_of_beq k2
  clear k2 ih'
  exact ek_ Tryz.func206 [.tmp 4]
 | true =>
  have k2':=ne_of_beq k2
  have hget:=get_same k2
  have hln:a.args.length≤b.args.length∧b.args.length≤a.args.length:=by simp at k2;omega
  clear k2
  simp only [Bool.not_true] at k1' k2' k3'
  refine en_ Tryz.func206 [.tmp 4] fun g0 w0 gen hrel hfr hfr' hres=>?_
  refine wq_ ?_
  refine ar_ [3,37] [⟨gen,0,1⟩] (fun i σ=>Agree h σ.h∧Tm.sameL (a.args.drop i) (b.args.drop i)=v) (a.args).length ?_ ?_ ?_
  ·simp only [go_sem, *]
   first|done|exact ag_|exact ⟨ag_,hse⟩|exact hse
  ·clear hse
   intro i σ gr0 hgl_gr0 hgn hlt jI jN jS ⟨jA,jv⟩
   obtain ⟨jT,jB⟩:=jS
   simp only [go_sem] at jT jB
   obtain ⟨hgf,hgf0,eg_gen_gr0,eh_gen_gr0⟩:=rnd hgn hgl_gr0 jA
   obtain ⟨x,hx,hxm,hm⟩:=rnx hlt
   clear hgn
   obtain ⟨y,hy⟩:=hget i x hx
   rw [drop_get hx,drop_get hy,Tm.sameL] at jv
   have hc:=ih' x hxm y (List.mem_of_getElem? hy)
   clear ih' hget
   cases hxy:Tm.same x y with
   | false =>
    rw [hxy] at hc jv
    simp only [Bool.false_and] at jv
    subst jv
    exact wk_
   | true =>
    rw [hxy] at hc jv
    simp only [Bool.true_and] at jv
    refine wq_ ?_
    first|done|exact ag_|exact ⟨ag_,jv⟩|exact jv
  ·clear hse
   intro σ ga0 hgl_ga0 hgn jS ⟨jA,jv⟩
   obtain ⟨jT,jB⟩:=jS
   simp only [go_sem] at jT jB
   obtain ⟨hgf,hgf0,eg_gen_ga0,eh_gen_ga0⟩:=rnd hgn hgl_ga0 jA
   clear hgn
   have hq:a.args.length=b.args.length:=by omega
   rw [List.drop_length,hq,List.drop_length,Tm.sameL] at jv
   subst jv
   clear ih' hget hq hln
   exact wk_
theorem c_SameFormula:∀ a:Fm,FmW a→∀ b:Fm,FmW b→Pure Tryz.prog env 186 [.agg a.cells,.agg b.cells] (.bool (Fm.same a b)):=by
 intro a
 induction a using Fm.ind with|h a ih=>?_
 intro ha b hb h
 have hlen:=ha.len
 have htlen:=ha.tlen
 have ih':∀ x∈a.args,∀ y∈b.args,Pure Tryz.prog env 186 [.agg x.cells,.agg y.cells] (.bool (Fm.same x y)):=fun x hx y hy=>ih x hx (ha.arg hx) y (hb.arg hy)
 have hT:=c_SameType a.type ha.ty b.type hb.ty
 have ht':∀ x∈a.terms,∀ y∈b.terms,Pure Tryz.prog env 206 [.agg x.cells,.agg y.cells] (.bool (Tm.same x y)):=fun x hx y hy=>c_SameTerm x (ha.term hx) y (hb.term hy)
 clear ih ha hb
 have hse:=(Fm.same_eq a b).symm
 generalize Fm.same a b=v at hse ⊢
 cases k1:(a.kind==b.kind) with
 | false =>
  rw [k1] at hse
  simp only [Bool.false_and] at hse
  subst hse
  have k1':=ne_of_beq k1
  clear k1 ih' ht'
  exact ek_ Tryz.func186 [.tmp 4]
 | true =>
 have k1':=ne_of_beq k1
 rw [k1] at hse
 simp only [Bool.true_and] at hse
 cases k4:Ty.same a.type b.type with
 | false =>
  rw [k4] at hse hT
  simp only [Bool.false_and] at hse
  subst hse
  clear k1 k4 ih' ht'
  exact ek_ Tryz.func186 [.tmp 4]
 | true =>
 rw [k4] at hse hT
 simp only [Bool.true_and] at hse
 clear k1 k4
 cases k3:((a.terms.length:Int)==(b.terms.length:Int)) with
 | false =>
  rw [sameTmL_ne k3] at hse
  simp only [Bool.false_and] at hse
  subst hse
  have k3':=ne_of_beq k3
  clear k3 ih' ht'
  exact ek_ Tryz.func186 [.tmp 4]
 | true =>
 have k3':=ne_of_beq k3
 have hget3:=get_same k3
 have hln3:a.terms.length≤b.terms.length∧b.terms.length≤a.terms.length:=by simp at k3;omega
 clear k3
 cases k2:((a.args.length:Int)==(b.args.length:Int)) with
 | false =>
  rw [sameFmL_ne k2] at hse
  simp only [Bool.and_false] at hse
  subst hse
  have k2':=ne_of_beq k2
  clear k2 ih' ht' hget3 hln3
  exact ek_ Tryz.func186 [.tmp 4]
 | true =>
  have k2':=ne_of_beq k2
  have hget:=get_same k2
  have hln:a.args.length≤b.args.length∧b.args.length≤a.args.length:=by simp at k2;omega
  clear k2
  simp only [Bool.not_true] at k1' k2' k3'
  refine en_ Tryz.func186 [.tmp 4] fun g0 w0 gen hrel hfr hfr' hres=>?_
  refine wq_ ?_
  refine ar_ [2,3,41] [⟨gen,0,0⟩,⟨gen,0,1⟩] (fun i σ=>Agree h σ.h∧(Tm.sameL (a.terms.drop i) (b.terms.drop i)&&Fm.sameL a.args b.args)=v) (a.terms).length ?_ ?_ ?_
  ·simp only [go_sem, *]
   first|done|exact ag_|exact ⟨ag_,hse⟩|exact hse
  ·clear hse ih' hget
   intro i σ gr0 hgl_gr0 hgn hlt jI jN jS ⟨jA,jv⟩
   obtain ⟨jT,jB⟩:=jS
   simp only [go_sem] at jT jB
   obtain ⟨hgf,hgf0,eg_gen_gr0,eh_gen_gr0⟩:=rnd hgn hgl_gr0 jA
   obtain ⟨x,hx,hxm,hm⟩:=rnx hlt
   clear hgn
   obtain ⟨y,hy⟩:=hget3 i x hx
   rw [drop_get hx,drop_get hy,Tm.sameL] at jv
   have hc:=ht' x hxm y (List.mem_of_getElem? hy)
   clear ht' hget3
   cases hxy:Tm.same x y with
   | false =>
    rw [hxy] at hc jv
    simp only [Bool.false_and] at jv
    subst jv
    exact wk_
   | true =>
    rw [hxy] at hc jv
    simp only [Bool.true_and] at jv
    refine wq_ ?_
    first|done|exact ag_|exact ⟨ag_,jv⟩|exact jv
  clear hse ht' hget3
  intro σ ga0 hgl_ga0 hgn jS ⟨jA,jv0⟩
  obtain ⟨jT,jB⟩:=jS
  simp only [go_sem] at jT jB
  obtain ⟨hgf,hgf0,eg_gen_ga0,eh_gen_ga0⟩:=rnd hgn hgl_ga0 jA
  clear hgn
  have hq:a.terms.length=b.terms.length:=by omega
  rw [List.drop_length,hq,List.drop_length,Tm.sameL] at jv0
  simp only [Bool.true_and] at jv0
  clear hq hln3
  refine wq_ ?_
  refine ar_ [3,58] [⟨gen,0,1⟩] (fun i σ=>Agree h σ.h∧Fm.sameL (a.args.drop i) (b.args.drop i)=v) (a.args).length ?_ ?_ ?_
  ·simp only [go_sem, *]
   first|done|exact ag_|exact ⟨ag_,jv0⟩|exact jv0
  ·clear jv0
   intro i σ gr1 hgl_gr1 hgn hlt jI jN jS ⟨jA,jv⟩
   obtain ⟨jT,jB⟩:=jS
   simp only [go_sem] at jT jB
   have hgf:=fresh_of hgn
   have hgf0:=fun r i=>agree_fresh jA (hgf r i)
   have eg_gen_gr1:=gen_lt (show gen<gr1 by omega)
   have eh_gen_gr1:=gen_lt' (show gen<gr1 by omega)
   have eg_ga0_gr1:=gen_lt (show ga0<gr1 by omega)
   have eh_ga0_gr1:=gen_lt' (show ga0<gr1 by omega)
   obtain ⟨x,hx,hxm,hm⟩:=rnx hlt
   clear hgn
   obtain ⟨y,hy⟩:=hget i x hx
   rw [drop_get hx,drop_get hy,Fm.sameL] at jv
   have hc:=ih' x hxm y (List.mem_of_getElem? hy)
   clear ih' hget
   cases hxy:Fm.same x y with
   | false =>
    rw [hxy] at hc jv
    simp only [Bool.false_and] at jv
    subst jv
    exact wk_
   | true =>
    rw [hxy] at hc jv
    simp only [Bool.true_and] at jv
    refine wq_ ?_
    first|done|exact ag_|exact ⟨ag_,jv⟩|exact jv
  ·clear jv0
   intro σ ga1 hgl_ga1 hgn jS ⟨jA,jv⟩
   obtain ⟨jT,jB⟩:=jS
   simp only [go_sem] at jT jB
   have hgf:=fresh_of hgn
   have hgf0:=fun r i=>agree_fresh jA (hgf r i)
   have eg_gen_ga1:=gen_lt (show gen<ga1 by omega)
   have eh_gen_ga1:=gen_lt' (show gen<ga1 by omega)
   have eg_ga0_ga1:=gen_lt (show ga0<ga1 by omega)
   have eh_ga0_ga1:=gen_lt' (show ga0<ga1 by omega)
   clear hgn
   have hq:a.args.length=b.args.length:=by omega
   rw [List.drop_length,hq,List.drop_length,Fm.sameL] at jv
   subst jv
   clear ih' hget hq hln
   exact wk_
end Go.Proofs.YteaijonkbbkkjaaGreatDoor
