/-
 Walks: several parts in one text.
-/
import Derived.Test.YtmnplkmphgkooaaGreatDoorMa
import Derived.Test.YtmnplkmphgkooaaGreatDoorAbsD
import Derived.Test.YtmnplkmphgkooaaGreatDoorMc
import Derived.Test.YtmnplkmphgkooaaGreatDoorAbsC
set_option linter.unusedSimpArgs false
set_option linter.unusedVariables false
set_option maxRecDepth 20000
set_option maxHeartbeats 4000000
namespace Go.Proofs.YtmnplkmphgkooaaGreatDoor
open Go GoAbs Go.Proofs
theorem ne_of_beq {a b:Int} {r:Bool} (h:(a==b)=r):(a != b)=!r:=by simp [bne,h]
theorem sameTyL_len:∀ {l l':List Ty},Ty.sameL l l'=true→l.length=l'.length
 | [],[],_=>rfl
 | a::l,b::l',h=>by simp only [Ty.sameL,Bool.and_eq_true] at h;simp [sameTyL_len h.2]
 | [],_::_,h=>by simp [Ty.sameL] at h
 | _::_,[],h=>by simp [Ty.sameL] at h
theorem sameTmL_len:∀ {l l':List Tm},Tm.sameL l l'=true→l.length=l'.length
 | [],[],_=>rfl
 | a::l,b::l',h=>by simp only [Tm.sameL,Bool.and_eq_true] at h;simp [sameTmL_len h.2]
 | [],_::_,h=>by simp [Tm.sameL] at h
 | _::_,[],h=>by simp [Tm.sameL] at h
theorem sameFmL_len:∀ {l l':List Fm},Fm.sameL l l'=true→l.length=l'.length
 | [],[],_=>rfl
 | a::l,b::l',h=>by simp only [Fm.sameL,Bool.and_eq_true] at h;simp [sameFmL_len h.2]
 | [],_::_,h=>by simp [Fm.sameL] at h
 | _::_,[],h=>by simp [Fm.sameL] at h
theorem sameTyL_ne {l l':List Ty} (h:((l.length:Int)==(l'.length:Int))=false):Ty.sameL l l'=false:=by
 cases e:Ty.sameL l l' with
 | true=>rw [sameTyL_len e] at h;simp at h
 | false=>rfl
theorem sameTmL_ne {l l':List Tm} (h:((l.length:Int)==(l'.length:Int))=false):Tm.sameL l l'=false:=by
 cases e:Tm.sameL l l' with
 | true=>rw [sameTmL_len e] at h;simp at h
 | false=>rfl
theorem sameFmL_ne {l l':List Fm} (h:((l.length:Int)==(l'.length:Int))=false):Fm.sameL l l'=false:=by
 cases e:Fm.sameL l l' with
 | true=>rw [sameFmL_len e] at h;simp at h
 | false=>rfl
theorem get_same {α β:Type} {l:List α} {l':List β} (h:((l.length:Int)==(l'.length:Int))=true):∀ (i:Nat) (x:α),l[i]? = some x→∃ y,l'[i]? = some y:=by
 intro i x hx
 have:=(List.getElem?_eq_some_iff.1 hx).1
 simp at h
 exact ⟨_,List.getElem?_eq_getElem (by omega)⟩
theorem c_SameType:∀ a:Ty,TyW a→∀ b:Ty,TyW b→Pure Tryz.prog env 61 [.agg a.cells,.agg b.cells] (.bool (Ty.same a b)):=by
 intro a
 induction a using Ty.ind with|h a ih=>?_
 intro ha b hb h
 have hlen:=ha.len
 have ih':∀ x∈a.args,∀ y∈b.args,Pure Tryz.prog env 61 [.agg x.cells,.agg y.cells] (.bool (Ty.same x y)):=fun x hx y hy=>ih x hx (ha.arg hx) y (hb.arg hy)
 clear ih ha hb
 have hse:=(Ty.same_eq a b).symm
 generalize Ty.same a b=v at hse ⊢
 cases k1:(a.kind==b.kind) with
 | false =>
  rw [k1] at hse
  simp only [Bool.false_and] at hse
  subst hse
  have k1':=ne_of_beq k1
  clear k1 ih'
  exact ek_ Tryz.func61 [.tmp 4]
 | true =>
 have k1':=ne_of_beq k1
 cases k2:((a.args.length:Int)==(b.args.length:Int)) with
 | false =>
  rw [k1,sameTyL_ne k2] at hse
  simp only [Bool.and_false] at hse
  subst hse
  have k2':=ne_of_beq k2
  clear k1 k2 ih'
  exact ek_ Tryz.func61 [.tmp 4]
 | true =>
  have k2':=ne_of_beq k2
  have hget:=get_same k2
  rw [k1] at hse
  simp only [Bool.true_and] at hse
  have hln:a.args.length≤b.args.length∧b.args.length≤a.args.length:=by simp at k2;omega
  clear k1 k2
  simp only [Bool.not_true] at k1' k2'
  refine en_ Tryz.func61 [.tmp 4] fun g0 w0 gen hrel hfr hfr' hres=>?_
  refine wq_ ?_
  refine ar_ [3,22] [⟨gen,0,1⟩] (fun i σ=>Agree h σ.h∧Ty.sameL (a.args.drop i) (b.args.drop i)=v) (a.args).length ?_ ?_ ?_
  ·simp only [go_sem, *]
   first|done|exact ag_|exact ⟨ag_,hse⟩|exact hse
  ·clear hse
   intro i σ gr0 hgl_gr0 hgn hlt jI jN jS ⟨jA,jv⟩
   obtain ⟨jT,jB⟩:=jS
   simp only [go_sem] at jT jB
   obtain ⟨hgf,hgf0,eg_gen_gr0,eh_gen_gr0⟩:=rnd hgn hgl_gr0 jA
   obtain ⟨x,hx,hxm,hm⟩:=rnx hlt
   clear hgn
   obtain ⟨y,hy⟩:=hget i x hx
   rw [drop_get hx,drop_get hy,Ty.sameL] at jv
   have hc:=ih' x hxm y (List.mem_of_getElem? hy)
   clear ih' hget
   cases hxy:Ty.same x y with
   | false =>
    rw [hxy] at hc jv
    simp only [Bool.false_and] at jv
    subst jv
    exact wk_
   | true =>
    rw [hxy] at hc jv
    simp only [Bool.true_and] at jv
    refine wq_ ?_
    first|done|exact ag_|exact ⟨ag_,jv⟩|exact jv
  ·clear hse
   intro σ ga0 hgl_ga0 hgn jS ⟨jA,jv⟩
   obtain ⟨jT,jB⟩:=jS
   simp only [go_sem] at jT jB
   obtain ⟨hgf,hgf0,eg_gen_ga0,eh_gen_ga0⟩:=rnd hgn hgl_ga0 jA
   clear hgn
   have hq:a.args.length=b.args.length:=by omega
   rw [List.drop_length,hq,List.drop_length,Ty.sameL] at jv
   subst jv
   clear ih' hget hq hln
   exact wk_
theorem c_SameTerm:∀ a:Tm,TmW a→∀ b:Tm,TmW b→Pure Tryz.prog env 198 [.agg a.cells,.agg b.cells] (.bool (Tm.same a b)):=by
 intro a
 induction a using Tm.ind with|h a ih=>?_
 intro ha b hb h
 have hlen:=ha.len
 have ih':∀ x∈a.args,∀ y∈b.args,Pure Tryz.prog env 198 [.agg x.cells,.agg y.cells] (.bool (Tm.same x y)):=fun x hx y hy=>ih x hx (ha.arg hx) y (hb.arg hy)
 have hT:=c_SameType a.type ha.ty b.type hb.ty
 clear ih ha hb
 have hse:=(Tm.same_eq a b).symm
 generalize Tm.same a b=v at hse ⊢
 cases k1:(a.kind==b.kind) with
 | false =>
  rw [k1] at hse
  simp only [Bool.false_and] at hse
  subst hse
  have k1':=ne_of_beq k1
  clear k1 ih'
  exact ek_ Tryz.func198 [.tmp 4]
 | true =>
 have k1':=ne_of_beq k1
 rw [k1] at hse
 simp only [Bool.true_and] at hse
 cases k3:(a.index==b.index) with
 | false =>
  rw [k3] at hse
  simp only [Bool.false_and] at hse
  subst hse
  have k3':=ne_of_beq k3
  clear k1 k3 ih'
  exact ek_ Tryz.func198 [.tmp 4]
 | true =>
 have k3':=ne_of_beq k3
 rw [k3] at hse
 simp only [Bool.true_and] at hse
 cases k4:Ty.same a.type b.type with
 | false =>
  rw [k4] at hse hT
  simp only [Bool.false_and] at hse
  subst hse
  clear k1 k3 k4 ih'
  exact ek_ Tryz.func198 [.tmp 4]
 | true =>
 rw [k4] at hse hT
 simp only [Bool.true_and] at hse
 clear k1 k3 k4
 cases k2:((a.args.length:Int)==(b.args.length:Int)) with
 | false =>
  rw [sameTmL_ne k2] at hse
  subst hse
  have k2':=ne_of_beq k2
  clear k2 ih'
  exact ek_ Tryz.func198 [.tmp 4]
 | true =>
  have k2':=ne_of_beq k2
  have hget:=get_same k2
  have hln:a.args.length≤b.args.length∧b.args.length≤a.args.length:=by simp at k2;omega
  clear k2
  simp only [Bool.not_true] at k1' k2' k3'
  refine en_ Tryz.func198 [.tmp 4] fun g0 w0 gen hrel hfr hfr' hres=>?_
  refine wq_ ?_
  refine ar_ [3,37] [⟨gen,0,1⟩] (fun i σ=>Agree h σ.h∧Tm.sameL (a.args.drop i) (b.args.drop i)=v) (a.args).length ?_ ?_ ?_
  ·simp only [go_sem, *]
   first|done|exact ag_|exact ⟨ag_,hse⟩|exact hse
  ·clear hse
   intro i σ gr0 hgl_gr0 hgn hlt jI jN jS ⟨jA,jv⟩
   obtain ⟨jT,jB⟩:=jS
   simp only [go_sem] at jT jB
   obtain ⟨hgf,hgf0,eg_gen_gr0,eh_gen_gr0⟩:=rnd hgn hgl_gr0 jA
   obtain ⟨x,hx,hxm,hm⟩:=rnx hlt
   clear hgn
   obtain ⟨y,hy⟩:=hget i x hx
   rw [drop_get hx,drop_get hy,Tm.sameL] at jv
   have hc:=ih' x hxm y (List.mem_of_getElem? hy)
   clear ih' hget
   cases hxy:Tm.same x y with
   | false =>
    rw [hxy] at hc jv
    simp only [Bool.false_and] at jv
    subst jv
    exact wk_
   | true =>
    rw [hxy] at hc jv
    simp only [Bool.true_and] at jv
    refine wq_ ?_
    first|done|exact ag_|exact ⟨ag_,jv⟩|exact jv
  ·clear hse
   intro σ ga0 hgl_ga0 hgn jS ⟨jA,jv⟩
   obtain ⟨jT,jB⟩:=jS
   simp only [go_sem] at jT jB
   obtain ⟨hgf,hgf0,eg_gen_ga0,eh_gen_ga0⟩:=rnd hgn hgl_ga0 jA
   clear hgn
   have hq:a.args.length=b.args.length:=by omega
   rw [List.drop_length,hq,List.drop_length,Tm.sameL] at jv
   subst jv
   clear ih' hget hq hln
   exact wk_
theorem c_SameFormula:∀ a:Fm,FmW a→∀ b:Fm,FmW b→Pure Tryz.prog env 181 [.agg a.cells,.agg b.cells] (.bool (Fm.same a b)):=by
 intro a
 induction a using Fm.ind with|h a ih=>?_
 intro ha b hb h
 have hlen:=ha.len
 have htlen:=ha.tlen
 have ih':∀ x∈a.args,∀ y∈b.args,Pure Tryz.prog env 181 [.agg x.cells,.agg y.cells] (.bool (Fm.same x y)):=fun x hx y hy=>ih x hx (ha.arg hx) y (hb.arg hy)
 have hT:=c_SameType a.type ha.ty b.type hb.ty
 have ht':∀ x∈a.terms,∀ y∈b.terms,Pure Tryz.prog env 198 [.agg x.cells,.agg y.cells] (.bool (Tm.same x y)):=fun x hx y hy=>c_SameTerm x (ha.term hx) y (hb.term hy)
 clear ih ha hb
 have hse:=(Fm.same_eq a b).symm
 generalize Fm.same a b=v at hse ⊢
 cases k1:(a.kind==b.kind) with
 | false =>
  rw [k1] at hse
  simp only [Bool.false_and] at hse
  subst hse
  have k1':=ne_of_beq k1
  clear k1 ih' ht'
  exact ek_ Tryz.func181 [.tmp 4]
 | true =>
 have k1':=ne_of_beq k1
 rw [k1] at hse
 simp only [Bool.true_and] at hse
 cases k4:Ty.same a.type b.type with
 | false =>
  rw [k4] at hse hT
  simp only [Bool.false_and] at hse
  subst hse
  clear k1 k4 ih' ht'
  exact ek_ Tryz.func181 [.tmp 4]
 | true =>
 rw [k4] at hse hT
 simp only [Bool.true_and] at hse
 clear k1 k4
 cases k3:((a.terms.length:Int)==(b.terms.length:Int)) with
 | false =>
  rw [sameTmL_ne k3] at hse
  simp only [Bool.false_and] at hse
  subst hse
  have k3':=ne_of_beq k3
  clear k3 ih' ht'
  exact ek_ Tryz.func181 [.tmp 4]
 | true =>
 have k3':=ne_of_beq k3
 have hget3:=get_same k3
 have hln3:a.terms.length≤b.terms.length∧b.terms.length≤a.terms.length:=by simp at k3;omega
 clear k3
 cases k2:((a.args.length:Int)==(b.args.length:Int)) with
 | false =>
  rw [sameFmL_ne k2] at hse
  simp only [Bool.and_false] at hse
  subst hse
  have k2':=ne_of_beq k2
  clear k2 ih' ht' hget3 hln3
  exact ek_ Tryz.func181 [.tmp 4]
 | true =>
  have k2':=ne_of_beq k2
  have hget:=get_same k2
  have hln:a.args.length≤b.args.length∧b.args.length≤a.args.length:=by simp at k2;omega
  clear k2
  simp only [Bool.not_true] at k1' k2' k3'
  refine en_ Tryz.func181 [.tmp 4] fun g0 w0 gen hrel hfr hfr' hres=>?_
  refine wq_ ?_
  refine ar_ [2,3,41] [⟨gen,0,0⟩,⟨gen,0,1⟩] (fun i σ=>Agree h σ.h∧(Tm.sameL (a.terms.drop i) (b.terms.drop i)&&Fm.sameL a.args b.args)=v) (a.terms).length ?_ ?_ ?_
  ·simp only [go_sem, *]
   first|done|exact ag_|exact ⟨ag_,hse⟩|exact hse
  ·clear hse ih' hget
   intro i σ gr0 hgl_gr0 hgn hlt jI jN jS ⟨jA,jv⟩
   obtain ⟨jT,jB⟩:=jS
   simp only [go_sem] at jT jB
   obtain ⟨hgf,hgf0,eg_gen_gr0,eh_gen_gr0⟩:=rnd hgn hgl_gr0 jA
   obtain ⟨x,hx,hxm,hm⟩:=rnx hlt
   clear hgn
   obtain ⟨y,hy⟩:=hget3 i x hx
   rw [drop_get hx,drop_get hy,Tm.sameL] at jv
   have hc:=ht' x hxm y (List.mem_of_getElem? hy)
   clear ht' hget3
   cases hxy:Tm.same x y with
   | false =>
    rw [hxy] at hc jv
    simp only [Bool.false_and] at jv
    subst jv
    exact wk_
   | true =>
    rw [hxy] at hc jv
    simp only [Bool.true_and] at jv
    refine wq_ ?_
    first|done|exact ag_|exact ⟨ag_,jv⟩|exact jv
  clear hse ht' hget3
  intro σ ga0 hgl_ga0 hgn jS ⟨jA,jv0⟩
  obtain ⟨jT,jB⟩:=jS
  simp only [go_sem] at jT jB
  obtain ⟨hgf,hgf0,eg_gen_ga0,eh_gen_ga0⟩:=rnd hgn hgl_ga0 jA
  clear hgn
  have hq:a.terms.length=b.terms.length:=by omega
  rw [List.drop_length,hq,List.drop_length,Tm.sameL] at jv0
  simp only [Bool.true_and] at jv0
  clear hq hln3
  refine wq_ ?_
  refine ar_ [3,58] [⟨gen,0,1⟩] (fun i σ=>Agree h σ.h∧Fm.sameL (a.args.drop i) (b.args.drop i)=v) (a.args).length ?_ ?_ ?_
  ·simp only [go_sem, *]
   first|done|exact ag_|exact ⟨ag_,jv0⟩|exact jv0
  ·clear jv0
   intro i σ gr1 hgl_gr1 hgn hlt jI jN jS ⟨jA,jv⟩
   obtain ⟨jT,jB⟩:=jS
   simp only [go_sem] at jT jB
   have hgf:=fresh_of hgn
   have hgf0:=fun r i=>agree_fresh jA (hgf r i)
   have eg_gen_gr1:=gen_lt (show gen<gr1 by omega)
   have eh_gen_gr1:=gen_lt' (show gen<gr1 by omega)
   have eg_ga0_gr1:=gen_lt (show ga0<gr1 by omega)
   have eh_ga0_gr1:=gen_lt' (show ga0<gr1 by omega)
   obtain ⟨x,hx,hxm,hm⟩:=rnx hlt
   clear hgn
   obtain ⟨y,hy⟩:=hget i x hx
   rw [drop_get hx,drop_get hy,Fm.sameL] at jv
   have hc:=ih' x hxm y (List.mem_of_getElem? hy)
   clear ih' hget
   cases hxy:Fm.same x y with
   | false =>
    rw [hxy] at hc jv
    simp only [Bool.false_and] at jv
    subst jv
    exact wk_
   | true =>
    rw [hxy] at hc jv
    simp only [Bool.true_and] at jv
    refine wq_ ?_
    first|done|exact ag_|exact ⟨ag_,jv⟩|exact jv
  ·clear jv0
   intro σ ga1 hgl_ga1 hgn jS ⟨jA,jv⟩
   obtain ⟨jT,jB⟩:=jS
   simp only [go_sem] at jT jB
   have hgf:=fresh_of hgn
   have hgf0:=fun r i=>agree_fresh jA (hgf r i)
   have eg_gen_ga1:=gen_lt (show gen<ga1 by omega)
   have eh_gen_ga1:=gen_lt' (show gen<ga1 by omega)
   have eg_ga0_ga1:=gen_lt (show ga0<ga1 by omega)
   have eh_ga0_ga1:=gen_lt' (show ga0<ga1 by omega)
   clear hgn
   have hq:a.args.length=b.args.length:=by omega
   rw [List.drop_length,hq,List.drop_length,Fm.sameL] at jv
   subst jv
   clear ih' hget hq hln
   exact wk_
theorem c_OwnType:∀ t:Ty,TyW t→Pure Tryz.prog env 74 [.agg t.cells] (.agg t.cells):=by
 intro t
 induction t using Ty.ind with|h t ih=>?_
 intro ht h
 have hlen:=ht.len
 have ih':∀ x∈t.args,Pure Tryz.prog env 74 [.agg x.cells] (.agg x.cells):=fun x hx=>ih x hx (ht.arg hx)
 clear ih
 refine en_ Tryz.func74 [.cell 2 29] fun g0 w0 gen hrel hfr hfr' hres=>?_
 refine wq_ ?_
 refine ar_ [2,3,10] [⟨gen,0,1⟩] (fun i σ=>Agree h σ.h∧∃ v,σ.h ⟨gen,1,3⟩=some (.box [.int .i64 t.kind,v])∧OwnS h σ.h v 2 ((t.args.take i).map Ty.cells)) (t.args).length ?_ ?_ ?_
 ·simp only [go_sem, *]
  exact ⟨ag_,_,rfl,.inl rfl⟩
 ·
  intro i σ gr0 hgl_gr0 hgn hlt jI jN jS ⟨jA,v,jb,jO0⟩
  obtain ⟨jT,jB⟩:=jS
  simp only [go_sem] at jT jB
  obtain ⟨hgf,hgf0,eg_gen_gr0,eh_gen_gr0⟩:=rnd hgn hgl_gr0 jA
  obtain ⟨x,hx,hxm,hm⟩:=rnx hlt
  clear hgn
  have hc:=ih' x hxm
  have hts:(t.args.take (i+1)).map Ty.cells=(t.args.take i).map Ty.cells++[x.cells]:=by rw [map_take_succ hx]
  clear ih'
  repeat' (first
   |(refine ⟨?_,?_⟩;focus ((repeat' (first|refine ⟨?_,?_⟩|refine .inr ?_));all_goals kernel_rfl))
   |(refine okE_app_ownd jO0 (by repeat (first|exact Keeps.refl _|refine Keeps.new ?_ (hgf _ _)|refine Keeps.new ?_ (hfr' _ _)|refine Keeps.box ?_ rfl|refine Keeps.box ?_ (by simp only [go_sem, *]))) rfl (by simp only [go_sem, *]<;>omega) (by first|exact hgf0 _ _|exact hfr' _ _) (by simp only [go_sem, *]) (by intro hd e;simp only [logOk_cons,logOk_nil,and_true];repeat (first|exact trivial|refine ⟨.inr (by kernel_rfl),?_⟩|exact .inr (by kernel_rfl))) ?_;intro v' h' id' jO jK jAg jAb jF;obtain ⟨cO,rfl⟩:=jO.val;simp only [go_sem, *])
   | (first|refine wp rfl ?_|refine spt rfl ?_|refine spf rfl ?_|(refine spl (fun hc=>?_) fun hc=>?_)<;>(try rw [beq_iff_eq] at hc)<;>try simp only [hc]|refine cp hc ?_|refine AR_inv ?_)<;>try simp only [go_sem, *])
  refine ⟨?_,_,rfl,jO.keep (Keeps.box (Keeps.refl _) (by simp only [go_sem, *]))⟩
  exact Agree.new (jAg ag_) (hfr' _ _)
 ·
  intro σ ga0 hgl_ga0 hgn jS ⟨jA,v,jb,jO0⟩
  obtain ⟨jT,jB⟩:=jS
  simp only [go_sem] at jT jB
  obtain ⟨hgf,hgf0,eg_gen_ga0,eh_gen_ga0⟩:=rnd hgn hgl_ga0 jA
  clear hgn
  rw [List.take_length] at jO0
  obtain ⟨c,rfl⟩:=jO0.val
  clear ih'
  refine wq_ ?_
  rw [Ty.cells_eq]
theorem c_Own:∀ t:Tm,TmW t→Pure Tryz.prog env 185 [.agg t.cells] (.agg t.cells):=by
 intro t
 induction t using Tm.ind with|h t ih=>?_
 intro ht h
 have hlen:=ht.len
 have ih':∀ x∈t.args,Pure Tryz.prog env 185 [.agg x.cells] (.agg x.cells):=fun x hx=>ih x hx (ht.arg hx)
 have hO:=c_OwnType t.type ht.ty
 clear ih
 refine en_ Tryz.func185 [.cell 2 32] fun g0 w0 gen hrel hfr hfr' hres=>?_
 refine wq_ ?_
 refine ar_ [2,3,15] [⟨gen,0,1⟩] (fun i σ=>Agree h σ.h∧∃ v,σ.h ⟨gen,1,8⟩=some (.box [.int .i64 t.kind,.int .i64 t.index,.int .i64 t.type.kind,.sl .any (t.type.args.map Ty.cells),v])∧OwnS h σ.h v 5 ((t.args.take i).map Tm.cells)) (t.args).length ?_ ?_ ?_
 ·simp only [go_sem, *]
  exact ⟨ag_,_,rfl,.inl rfl⟩
 ·
  intro i σ gr0 hgl_gr0 hgn hlt jI jN jS ⟨jA,v,jb,jO0⟩
  obtain ⟨jT,jB⟩:=jS
  simp only [go_sem] at jT jB
  obtain ⟨hgf,hgf0,eg_gen_gr0,eh_gen_gr0⟩:=rnd hgn hgl_gr0 jA
  obtain ⟨x,hx,hxm,hm⟩:=rnx hlt
  clear hgn
  have hc:=ih' x hxm
  have hts:(t.args.take (i+1)).map Tm.cells=(t.args.take i).map Tm.cells++[x.cells]:=by rw [map_take_succ hx]
  clear ih'
  repeat' (first
   |(refine ⟨?_,?_⟩;focus ((repeat' (first|refine ⟨?_,?_⟩|refine .inr ?_));all_goals kernel_rfl))
   |(refine okE_app_ownd jO0 (by repeat (first|exact Keeps.refl _|refine Keeps.new ?_ (hgf _ _)|refine Keeps.new ?_ (hfr' _ _)|refine Keeps.box ?_ rfl|refine Keeps.box ?_ (by simp only [go_sem, *]))) rfl (by simp only [go_sem, *]<;>omega) (by first|exact hgf0 _ _|exact hfr' _ _) (by simp only [go_sem, *]) (by intro hd e;simp only [logOk_cons,logOk_nil,and_true];repeat (first|exact trivial|refine ⟨.inr (by kernel_rfl),?_⟩|exact .inr (by kernel_rfl))) ?_;intro v' h' id' jO jK jAg jAb jF;obtain ⟨cO,rfl⟩:=jO.val;simp only [go_sem, *])
   | (first|refine wp rfl ?_|refine spt rfl ?_|refine spf rfl ?_|(refine spl (fun hc=>?_) fun hc=>?_)<;>(try rw [beq_iff_eq] at hc)<;>try simp only [hc]|refine cp hc ?_|refine AR_inv ?_)<;>try simp only [go_sem, *])
  refine ⟨?_,_,rfl,jO.keep (Keeps.box (Keeps.refl _) (by simp only [go_sem, *]))⟩
  exact Agree.new (jAg ag_) (hfr' _ _)
 ·
  intro σ ga0 hgl_ga0 hgn jS ⟨jA,v,jb,jO0⟩
  obtain ⟨jT,jB⟩:=jS
  simp only [go_sem] at jT jB
  obtain ⟨hgf,hgf0,eg_gen_ga0,eh_gen_ga0⟩:=rnd hgn hgl_ga0 jA
  clear hgn
  rw [List.take_length] at jO0
  obtain ⟨c,rfl⟩:=jO0.val
  clear ih'
  refine wq_ ?_
  rw [Tm.cells_eq]
theorem c_tOf (k:Int) (l:List Tm):Pure Tryz.prog env 131 [.int .i64 k,.sl .any (l.map Tm.cells)] (.agg (tm0 k l).cells):=by
 intro h
 refine en_ Tryz.func131 [.cell 4 32] fun g0 w0 gen hrel hfr hfr' hres=>?_
 first|refine wq_ ?_|exact wk_
 all_goals simp [tm0,Tm.mk_cells,Ty.mk_kind,Ty.mk_args]
theorem c_tVar (i:Int):Pure Tryz.prog env 177 [.int .i64 i] (.agg (tmVar i).cells):=by
 intro h
 refine en_ Tryz.func177 [.cell 2 32] fun g0 w0 gen hrel hfr hfr' hres=>?_
 first|refine wq_ ?_|exact wk_
 all_goals simp [tmVar,Tm.mk_cells,Ty.mk_kind,Ty.mk_args]
theorem c_tNat:Pure Tryz.prog env 134 [] (.agg tNat.cells):=by
 intro h
 refine en_ Tryz.func134 [.cell 0 29] fun g0 w0 gen hrel hfr hfr' hres=>?_
 refine wq_ ?_
 rfl
theorem c_tApp (f:Tm) (l:List Tm) (hl:l.length≤1000) :
  Pure Tryz.prog env 200 [.agg f.cells,.sl .any (l.map Tm.cells)] (.agg (appTm f l).cells):=by
 intro h
 have hin:∀ S,InV S (.agg (appTm f l).cells):=fun S=>by simp [InV,InL_Tm]
 generalize hv:V.agg (appTm f l).cells=v at hin ⊢
 refine en_ Tryz.func200 [.cell 4 32] fun g0 w0 gen hrel hfr hfr' hres=>?_
 refine wq_ ?_
 refine ar_ [2,4,7] [⟨gen,0,1⟩] (fun i σ=>Agree h σ.h∧∃ f':Tm,σ.h ⟨gen,0,0⟩=some (.box f'.cells)∧V.agg (appTm f' (l.drop i)).cells=v) (l).length ?_ ?_ ?_
 ·simp only [go_sem, *]
  exact ⟨ag_,f,rfl,hv⟩
 ·
  intro i σ gr0 hgl_gr0 hgn hlt jI jN jS ⟨jA,f',jf,jv⟩
  obtain ⟨jT,jB⟩:=jS
  simp only [go_sem] at jT jB
  obtain ⟨hgf,hgf0,eg_gen_gr0,eh_gen_gr0⟩:=rnd hgn hgl_gr0 jA
  obtain ⟨x,hx,hxm,hm⟩:=rnx hlt
  clear hgn
  rw [drop_get hx,appTm_cons] at jv
  have hc:=c_tOf 3 [f',x]
  simp only [List.map_cons,List.map_nil] at hc
  refine wq_ ?_
  exact ⟨ag_,_,rfl,jv⟩
 ·
  intro σ ga0 hgl_ga0 hgn jS ⟨jA,f',jf,jv⟩
  obtain ⟨jT,jB⟩:=jS
  simp only [go_sem] at jT jB
  obtain ⟨hgf,hgf0,eg_gen_ga0,eh_gen_ga0⟩:=rnd hgn hgl_ga0 jA
  clear hgn
  rw [List.drop_length,appTm_nil] at jv
  subst jv
  exact wk_
def lamT (l:List Ty) (b:Tm):Tm:=l.foldr (fun t b=>tmT 2 t [b]) b
theorem lamT_step {l:List Ty} {b:Tm} {j:Nat} {x:Ty} (h:l[j]? = some x):tmT 2 x [lamT (l.drop (j+1)) b]=lamT (l.drop j) b:=by
 rw [drop_get h];rfl
theorem c_tLam (b:Tm) (l:List Ty) (hl:l.length≤1000) :
  Pure Tryz.prog env 205 [.agg b.cells,.sl .any (l.map Ty.cells)] (.agg (lamT l b).cells):=by
 intro h
 have hw0:IntKind.i64.wrap ((l.length:Int) - 1)=(l.length:Int) - 1:=wrap_eq rfl (by omega) (by omega)
 refine en_ Tryz.func205 [.cell 4 32] fun g0 w0 gen hrel hfr hfr' hres=>?_
 refine wq_ ?_
 refine AR_loop_nat (fun i σ=>σ.tm 5=.int .i64 ((l.length:Int) - 1 - i)∧σ.tm 1=.sl .any (l.map Ty.cells)∧σ.tm 2=.ptr ⟨gen,0,0⟩ 0∧σ.tm 4=.ptr ⟨gen,0,1⟩ 0 ∧
  σ.h ⟨gen,0,0⟩=some (.box (lamT (l.drop (l.length - i)) b).cells)∧σ.h ⟨gen,0,1⟩=some (.box [.int .i64 0,.int .i64 0,.int .i64 0,.sl .full [],.sl .full []])∧Agree h σ.h∧i≤l.length) l.length ?_ ?_
 ·have e:(l.drop (l.length - 0))=[]:=by simp
  simp only [go_sem, *,e]
  exact ⟨by simp,rfl,ag_,by omega⟩
 intro i σ hi ⟨j1,j2,j3,j4,j5,j6,j7,j8⟩
 clear j8
 have hw1:IntKind.i64.wrap ((l.length:Int) - 1 - (i:Int) - 1)=(l.length:Int) - 1 - (i:Int) - 1:=wrap_eq rfl (by omega) (by omega)
 rcases Nat.lt_or_ge i l.length with hlt|hge
 ·have hd:decide ((l.length:Int) - 1 - (i:Int)≥0)=true:=by simp;omega
  have e0:l.length - (i+1)+1=l.length - i:=by omega
  obtain ⟨x,hx⟩:∃ x,l[l.length - (i+1)]? = some x:=⟨_,List.getElem?_eq_getElem (by omega)⟩
  have hst:=lamT_step (b:=b) hx
  rw [e0] at hst
  rw [← hst]
  have e2:((l.length:Int) - 1 - (i:Int)).toNat=l.length - (i+1):=by omega
  have e3:0≤(l.length:Int) - 1 - (i:Int):=by omega
  have e4:(l.length:Int) - 1 - ((i+1:Nat):Int)=(l.length:Int) - 1 - (i:Int) - 1:=by omega
  have e5:i+1≤l.length:=by omega
  clear hst
  generalize lamT (l.drop (l.length - i)) b=b' at *
  have hcell:(tmT 2 x [b']).cells=[.int .i64 2,.int .i64 0,.int .i64 x.kind,.sl .any (x.args.map Ty.cells),.sl .any [b'.cells]]:=by simp [tmT,Tm.mk_cells,Ty.mk_kind,Ty.mk_args]
  clear hi
  repeat' (first
   |(refine ⟨?_,?_⟩;focus ((repeat' (first|refine ⟨?_,?_⟩|refine .inr ?_));all_goals kernel_rfl))
   | (first|refine wp rfl ?_|refine spt rfl ?_|refine spf rfl ?_|(refine spl (fun hc=>?_) fun hc=>?_)<;>(try rw [beq_iff_eq] at hc)<;>try simp only [hc])<;>try simp only [go_sem, *])
  refine AR_weakBox ⟨gen,0,0⟩ (by simp only [go_sem, *]<;>rfl) ?_
  refine AR_inv ?_
  simp only [go_sem, *]
  exact ag_
 ·have hd:decide ((l.length:Int) - 1 - (i:Int)≥0)=false:=by simp;omega
  obtain rfl:i=l.length:=by omega
  have e6:l.drop (l.length - l.length)=l:=by simp
  rw [e6] at j5
  exact wk_
theorem c_tRec (k:Int) (t:Ty) (a b c:Tm):Pure Tryz.prog env 206 [.int .i64 k,.agg t.cells,.agg a.cells,.agg b.cells,.agg c.cells] (.agg (tmT k t [a,b,c]).cells):=by
 intro h
 refine en_ Tryz.func206 [.cell 10 32] fun g0 w0 gen hrel hfr hfr' hres=>?_
 first|refine wq_ ?_|exact wk_
 all_goals simp [tmT,Tm.mk_cells,Ty.mk_kind,Ty.mk_args]
theorem c_tEq (a b:Tm):Pure Tryz.prog env 199 [.agg a.cells,.agg b.cells] (.agg (fmEq a b).cells):=by
 intro h
 refine en_ Tryz.func199 [.cell 4 36] fun g0 w0 gen hrel hfr hfr' hres=>?_
 first|refine wq_ ?_|exact wk_
 all_goals simp [fmEq,Fm.mk_cells,Ty.mk_kind,Ty.mk_args]
theorem c_Quantifier (k:Int):Pure Tryz.prog env 171 [.int .i64 k] (.bool (decide (k≥4)&&decide (k≤7))):=by
 intro h
 refine en_ Tryz.func171 [.tmp 2] fun g0 w0 gen hrel hfr hfr' hres=>?_
 first|refine wq_ ?_|exact wk_
 all_goals simp [*]
theorem c_vRec (a b c:Tm):Pure Tryz.prog env 203 [.agg a.cells,.agg b.cells,.agg c.cells] (.agg (recN a (lamN (lamN b)) c).cells):=by
 intro h
 have h1:=c_tLam b [tNat,tNat] (by simp)
 simp only [List.map_cons,List.map_nil] at h1
 have h2:=c_tRec 6 tNat a (lamN (lamN b)) c
 have e:lamT [tNat,tNat] b=lamN (lamN b):=rfl
 rw [e] at h1
 refine en_ Tryz.func203 [.cell 6 32] fun g0 w0 gen hrel hfr hfr' hres=>?_
 have zq0:=c_tNat
 refine wq_ ?_
 rfl
theorem c_vTwo (b:Tm):Pure Tryz.prog env 202 [.agg b.cells] (.agg (lamN (lamN b)).cells):=by
 intro h
 have h1:=c_tLam b [tNat,tNat] (by simp)
 simp only [List.map_cons,List.map_nil] at h1
 have e:lamT [tNat,tNat] b=lamN (lamN b):=rfl
 rw [e] at h1
 have zq0:=c_tNat
 exact ek_ Tryz.func202 [.cell 2 32]
theorem c_vPred:Pure Tryz.prog env 204 [] (.agg predT.cells):=by
 intro h
 have h0:=c_tOf 4 []
 have h1:=c_tLam (recN (tm0 4 []) (lamN (lamN (tmVar 1))) (tmVar 0)) [tNat] (by simp)
 simp only [List.map_cons,List.map_nil] at h0 h1
 have e:lamT [tNat] (recN (tm0 4 []) (lamN (lamN (tmVar 1))) (tmVar 0))=predT:=rfl
 rw [e] at h1
 refine en_ Tryz.func204 [.cell 0 32] fun g0 w0 gen hrel hfr hfr' hres=>?_
 repeat' (first
  |exact hin _|exact agf (by assumption)
  | (first|refine wp rfl ?_|refine cp h0 ?_|refine cp (c_tVar _) ?_|refine cp (c_vRec _ _ _) ?_|refine cp c_tNat ?_|refine cp h1 ?_|refine finF hrel ?_ ?_ ?_)<;>try simp only [go_sem, *])
theorem c_vSub:Pure Tryz.prog env 201 [] (.agg subT.cells):=by
 intro h
 have h0:=c_tApp predT [tmVar 0] (by simp)
 simp only [List.map_cons,List.map_nil] at h0
 have e:appTm predT [tmVar 0]=tm0 3 [predT,tmVar 0]:=rfl
 rw [e] at h0
 refine en_ Tryz.func201 [.cell 0 32] fun g0 w0 gen hrel hfr hfr' hres=>?_
 repeat' (first
  |exact hin _|exact agf (by assumption)
  | (first|refine wp rfl ?_|refine cp c_vPred ?_|refine cp h0 ?_|refine cp (c_tVar _) ?_|refine cp (c_vRec _ _ _) ?_|refine cp (c_vTwo _) ?_|refine finF hrel ?_ ?_ ?_)<;>try simp only [go_sem, *])
 rfl
theorem c_less (s t:Tm):Pure Tryz.prog env 182 [.agg s.cells,.agg t.cells] (.agg (lessF s t).cells):=by
 intro h
 have h0:=c_tApp subT [tm0 5 [s],t] (by simp)
 have h1:=c_tOf 5 [s]
 have h2:=c_tOf 4 []
 simp only [List.map_cons,List.map_nil] at h0 h1 h2
 have e:appTm subT [tm0 5 [s],t]=tm0 3 [tm0 3 [subT,tm0 5 [s]],t]:=rfl
 rw [e] at h0
 refine en_ Tryz.func182 [.cell 4 36] fun g0 w0 gen hrel hfr hfr' hres=>?_
 repeat' (first
  |(refine ⟨?_,?_⟩;focus ((repeat' (first|refine ⟨?_,?_⟩|refine .inr ?_));all_goals kernel_rfl))
  |exact hin _|exact agf (by assumption)
  | (first|refine wp rfl ?_|refine cp c_vSub ?_|refine cp h0 ?_|refine cp h1 ?_|refine cp h2 ?_|refine cp (c_tEq _ _) ?_|refine finF hrel ?_ ?_ ?_)<;>try simp only [go_sem, *])
 rfl
theorem c_joint (all:Bool):Pure Tryz.prog env 180 [.bool all] (.tup [.int .i64 (if all then 4 else 5),.int .i64 (if all then 3 else 2)]):=by
 intro h
 cases all
 all_goals
  exact ek_ Tryz.func180 [.tmp 2,.tmp 3]
end Go.Proofs.YtmnplkmphgkooaaGreatDoor
