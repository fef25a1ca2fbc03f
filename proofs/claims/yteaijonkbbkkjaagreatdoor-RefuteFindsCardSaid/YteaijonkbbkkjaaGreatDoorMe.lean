/-
 Walks: several parts in one text.
-/
import Derived.Test.YteaijonkbbkkjaaGreatDoorMa
import Derived.Test.YteaijonkbbkkjaaGreatDoorAbsDb
import Derived.Test.YteaijonkbbkkjaaGreatDoorAbsC
set_option linter.unusedSimpArgs false
set_option linter.unusedVariables false
set_option maxRecDepth 20000
set_option maxHeartbeats 4000000
namespace Go.Proofs.YteaijonkbbkkjaaGreatDoor
open Go GoAbs Go.Proofs
attribute [go_sem] List.drop_zero Nat.zero_le Nat.le_refl Option.map_some
def kt:Tys:=⟨3,267,270,274,277⟩
@[go_sem] theorem kt_int:kt.int=3:=rfl
@[go_sem] theorem kt_cell:kt.cell=267:=rfl
@[go_sem] theorem kt_both:kt.both=270:=rfl
@[go_sem] theorem kt_unit:kt.unit=274:=rfl
@[go_sem] theorem kt_clo:kt.clo=277:=rfl
theorem atV_succ {m:Nat} {ve v:V} (h:atV (m+1) ve=some v):∃ x n,ve=.el [x,n] 0∧atV m n=some v:=by
 unfold atV at h
 split at h
 ·exact absurd ‹_› (by omega)
 ·rename_i i x n e
  cases e
  exact ⟨x,n,rfl,h⟩
 ·cases h
theorem atV_zero {ve v:V} (h:atV 0 ve=some v):∃ n,ve=.el [v,n] 0:=by
 unfold atV at h
 split at h
 ·rename_i x n _;cases h;exact ⟨n,rfl⟩
 ·exfalso;omega
 ·cases h
theorem c_envAt {ve v:V} (i:Nat) (hi:i≤100000) (ha:atV i ve=some v) (hw:weak v=v) (hin:∀ S,InV S v):Pure Tryz.prog env 267 [ve,.int .i64 i] v:=by
 intro h
 refine en_ Tryz.func267 [.tmp 4] fun g0 w0 gen hrel hfr hfr' hres=>?_
 refine wq_ ?_
 refine AR_loop_nat (fun j σ=>σ.tm 1=.int .i64 ((i:Int) - j)∧Agree h σ.h∧atV (i - j) (σ.tm 0)=some v) i ?_ ?_
 ·simp only [go_sem, *]
  exact ⟨by simp,ag_,ha⟩
 clear ha
 intro j σ hj ⟨j1,jA,ja⟩
 refine AR_gen2 (fun gn hgl hgn=>?_)
 have hgf:=fresh_of hgn
 have hgf0:=fun r i=>agree_fresh jA (hgf r i)
 clear hgn
 rcases Nat.lt_or_ge j i with hlt|hge
 ·have hd:decide ((i:Int) - (j:Int)>0)=true:=by simp;omega
  have hw1:IntKind.i64.wrap ((i:Int) - (j:Int) - 1)=(i:Int) - ((j+1:Nat):Int):=wrap_eq (by omega) (by omega) (by omega)
  rw [show i - j=(i - (j+1))+1 by omega] at ja
  obtain ⟨x,n,e,ja⟩:=atV_succ ja
  repeat' (first
   | (first|refine wp rfl ?_|refine spt rfl ?_|refine spf rfl ?_|(refine spl (fun hc=>?_) fun hc=>?_)<;>(try rw [beq_iff_eq] at hc)<;>try simp only [hc]|refine AR_inv ?_)<;>try simp only [go_sem, *])
  all_goals exact ⟨by omega,rfl,jA,ja⟩
 ·have hd:decide ((i:Int) - (j:Int)>0)=false:=by simp;omega
  rw [show i - j=0 by omega] at ja
  obtain ⟨n,e⟩:=atV_zero ja
  clear ja
  exact wk_
def mb (u most:Nat):GoAbs.Obj:=.box [.int .i64 u,.int .i64 most]
def outV (o:Bool) (v:V):V:=if o then .nili else v
def evR (o:Bool) (v:V):V:=.tup [outV o v,.bool (!o)]
def EvT2 (d:GoAbs.Id) (most u u':Nat) (o:Bool) (t:Tm) (ve v:V):Prop :=
 Turns Tryz.prog env 263 [.ptr d 0,.agg t.cells,ve] d (mb u most) (evR o v) (mb u' most)
def cloV (t:Tm) (ve:V):V:=.iface 277 (.el (t.cells++[ve]) 0)
inductive CallS (d:GoAbs.Id) (most:Nat):Nat→V→List V→Nat→Bool→V→Prop
 | nil {u:Nat} {fv:V}:CallS d most u fv [] u false fv
 | stop {u u':Nat} {t:Tm} {ve a w:V} {l:List V}:EvT2 d most u u' true t (.el [a,ve] 0) w→IsI a→IsE ve→CallS d most u (cloV t ve) (a::l) u' true w
 | step {u u1 u':Nat} {t:Tm} {ve a fv w:V} {l:List V} {o:Bool}:EvT2 d most u u1 false t (.el [a,ve] 0) fv→IsI a→IsE ve→weak fv=fv→CallS d most u1 fv l u' o w→CallS d most u (cloV t ve) (a::l) u' o w
theorem CallS.cons {d:GoAbs.Id} {most u u':Nat} {fv a w:V} {l:List V} {o:Bool} (h:CallS d most u fv (a::l) u' o w) :
  ∃ (t:Tm) (ve:V),fv=cloV t ve∧IsI a∧IsE ve∧((o=true∧EvT2 d most u u' true t (.el [a,ve] 0) w)∨∃ u1 fv1,EvT2 d most u u1 false t (.el [a,ve] 0) fv1∧weak fv1=fv1∧CallS d most u1 fv1 l u' o w):=by
 cases h with
 | stop h1 h2 h3=>exact ⟨_,_,rfl,h2,h3,.inl ⟨rfl,h1⟩⟩
 | step h1 h2 h3 h4 h5=>exact ⟨_,_,rfl,h2,h3,.inr ⟨_,_,h1,h4,h5⟩⟩
theorem CallS.none {d:GoAbs.Id} {most u u':Nat} {fv w:V} {o:Bool} (h:CallS d most u fv [] u' o w):u'=u∧o=false∧w=fv:=by cases h;exact ⟨rfl,rfl,rfl⟩
theorem c_callS {d:GoAbs.Id} {most u u':Nat} {fv w:V} {l:List V} {o:Bool} (h0:CallS d most u fv l u' o w) (hl:l.length≤100) (hin:∀ S,InV S w) (hw:weak w=w) (hwf:weak fv=fv) :
  Turns Tryz.prog env 264 [.ptr d 0,fv,.sl .any (l.map fun v=>[v])] d (mb u most) (evR o w) (mb u' most):=by
 intro h hd
 unfold mb at hd ⊢
 refine en_ Tryz.func264 [.tmp 6,.tmp 7] fun g0 w0 gen hrel hfr hfr' hres=>?_
 have f1:=fresh_ne hfr hd
 have f2:=fresh_ne' hfr hd
 refine wq_ ?_
 refine ar_ [0,13] [] (fun i σ=>AgreeBut d h σ.h∧∃ (ui:Nat) (fi:V),σ.tm 1=fi∧weak fi=fi∧σ.h d=some (mb ui most)∧CallS d most ui fi (l.drop i) u' o w) (l).length ?_ ?_ ?_
 ·simp only [go_sem, *]
  exact ⟨AgreeBut.refl _ _,u,fv,rfl,hwf,rfl,h0⟩
 ·clear h0
  intro i σ gr0 hgl_gr0 hgn hlt jI jN jS ⟨jA,ui,fi,jf,jw,js,jk⟩
  obtain ⟨jT,jB⟩:=jS
  simp only [go_sem] at jT jB
  have hgf:=fresh_of hgn
  have hgf0:=agreeBut_fresh' hd jA hgf (fun r i e=>by have:=hfr d (by rw [hd];simp);rw [e] at this;simp at this;omega)
  have fd_gr0:=fresh_ne2 hfr hd (show gen<gr0 by omega)
  have fe_gr0:=fresh_ne2' hfr hd (show gen<gr0 by omega)
  have eg_gen_gr0:=gen_lt (show gen<gr0 by omega)
  have eh_gen_gr0:=gen_lt' (show gen<gr0 by omega)
  obtain ⟨x,hx,hxm,hm⟩:=rnx hlt
  clear hgn
  rw [drop_get hx] at jk
  obtain ⟨t,ve,rfl,⟨xt,xv,rfl,wa,ia⟩,we,hk⟩:=jk.cons
  have hc:=Tm.cells_eq t
  unfold mb at js
  unfold cloV at jf
  rw [hc] at jf
  simp only [List.cons_append,List.nil_append] at jf
  clear jk hw hin
  rcases hk with ⟨rfl,hE⟩|⟨u1,fv1,hE,wf1,hk⟩
  ·unfold EvT2 mb evR outV at hE
   simp only [if_true,Bool.not_true] at hE
   rw [hc] at hE
   unfold evR outV
   simp only [if_true,Bool.not_true]
   clear hc
   generalize t.kind=k1 at *
   generalize t.index=k2 at *
   generalize t.type=k3 at *
   generalize t.args=k4 at *
   rcases we with rfl|⟨vc,rfl,we,ie⟩
   all_goals
    exact wkT_
  ·unfold EvT2 mb evR outV at hE
   simp only [Bool.false_eq_true,if_false,Bool.not_false] at hE
   rw [hc] at hE
   clear hc
   generalize t.kind=k1 at *
   generalize t.index=k2 at *
   generalize t.type=k3 at *
   generalize t.args=k4 at *
   rcases we with rfl|⟨vc,rfl,we,ie⟩
   all_goals
    refine wq_ ?_
    exact ⟨by repeat (first|exact jA|refine AgreeBut.new ?_ (hgf0 _ _)|refine AgreeBut.set ?_),u1,fv1,rfl,wf1,rfl,hk⟩
 ·clear h0
  intro σ ga0 hgl_ga0 hgn jS ⟨jA,ui,fi,jf,jw,js,jk⟩
  obtain ⟨jT,jB⟩:=jS
  simp only [go_sem] at jT jB
  have hgf:=fresh_of hgn
  have hgf0:=agreeBut_fresh' hd jA hgf (fun r i e=>by have:=hfr d (by rw [hd];simp);rw [e] at this;simp at this;omega)
  have fd_ga0:=fresh_ne2 hfr hd (show gen<ga0 by omega)
  have fe_ga0:=fresh_ne2' hfr hd (show gen<ga0 by omega)
  have eg_gen_ga0:=gen_lt (show gen<ga0 by omega)
  have eh_gen_ga0:=gen_lt' (show gen<ga0 by omega)
  clear hgn
  rw [List.drop_length] at jk
  obtain ⟨rfl,rfl,rfl⟩:=jk.none
  unfold mb at js
  unfold evR outV
  simp only [Bool.false_eq_true,if_false,Bool.not_false]
  have hin':=hin (fun id=>hset h d (.box [.int .i64 u',.int .i64 most]) id≠none)
  exact wkT_
def pad3 (vs:List V):List V:=vs++List.replicate (3 - vs.length) .nili
inductive AllS (d:GoAbs.Id) (most:Nat) (ve:V):Nat→List Tm→Nat→Bool→List V→Prop
 | nil {u:Nat}:AllS d most ve u [] u false []
 | stop {u u':Nat} {t:Tm} {w:V} {l:List Tm}:EvT2 d most u u' true t ve w→AllS d most ve u (t::l) u' true []
 | step {u u1 u':Nat} {t:Tm} {v:V} {l:List Tm} {o:Bool} {vs:List V}:EvT2 d most u u1 false t ve v→IsI v→AllS d most ve u1 l u' o vs→AllS d most ve u (t::l) u' o (v::vs)
theorem AllS.cons {d:GoAbs.Id} {most u u':Nat} {ve:V} {t:Tm} {l:List Tm} {o:Bool} {vs:List V} (h:AllS d most ve u (t::l) u' o vs) :
  (o=true∧vs=[]∧∃ w,EvT2 d most u u' true t ve w)∨∃ u1 v vs',vs=v::vs'∧EvT2 d most u u1 false t ve v∧IsI v∧AllS d most ve u1 l u' o vs':=by
 cases h with
 | stop h1=>exact .inl ⟨rfl,rfl,_,h1⟩
 | step h1 h2 h3=>exact .inr ⟨_,_,_,rfl,h1,h2,h3⟩
theorem AllS.none {d:GoAbs.Id} {most u u':Nat} {ve:V} {o:Bool} {vs:List V} (h:AllS d most ve u [] u' o vs):u'=u∧o=false∧vs=[]:=by cases h;exact ⟨rfl,rfl,rfl⟩
theorem pad3_0:pad3 []=[.nili,.nili,.nili]:=rfl
theorem pad3_1 {a:V}:pad3 [a]=[a,.nili,.nili]:=rfl
theorem pad3_2 {a b:V}:pad3 [a,b]=[a,b,.nili]:=rfl
theorem pad3_3 {a b c:V}:pad3 [a,b,c]=[a,b,c]:=rfl
theorem c_allS {d:GoAbs.Id} {most u u':Nat} {ve:V} {l:List Tm} {o:Bool} {vs:List V} (h0:AllS d most ve u l u' o vs) (hl:l.length≤3) (hve:IsE ve) :
  Turns Tryz.prog env 268 [.ptr d 0,.sl .any (l.map Tm.cells),ve] d (mb u most) (.tup [.agg (pad3 vs),.bool (!o)]) (mb u' most):=by
 intro h hd
 unfold mb at hd ⊢
 refine en_ Tryz.func268 [.cell 6 280,.tmp 7] fun g0 w0 gen hrel hfr hfr' hres=>?_
 have f1:=fresh_ne hfr hd
 have f2:=fresh_ne' hfr hd
 have wve:weak ve=ve:=by
  rcases hve with rfl|⟨c,rfl,h,_⟩
  ·rfl
  ·simp [weak,h]
 refine wq_ ?_
 refine ar_ [0,2,6,8,13] [⟨gen,0,0⟩] (fun i σ=>AgreeBut d h σ.h∧∃ (ui:Nat) (vi rest:List V),σ.h d=some (mb ui most)∧σ.h ⟨gen,1,0⟩=some (.box (pad3 vi))∧vi.length=i∧(∀ v∈vi,IsI v)∧vs=vi++rest∧AllS d most ve ui (l.drop i) u' o rest) (l).length ?_ ?_ ?_
 ·simp only [go_sem, *]
  exact ⟨by repeat (first|exact AgreeBut.refl _ _|assumption|refine AgreeBut.new ?_ (hfr' _ _)|refine AgreeBut.set ?_),u,[],vs,rfl,rfl,rfl,by simp,rfl,h0⟩
 ·clear h0
  intro i σ gr0 hgl_gr0 hgn hlt jI jN jS ⟨jA,ui,vi,rest,js,jb,jn,jw,jv,jk⟩
  obtain ⟨jT,jB⟩:=jS
  simp only [go_sem] at jT jB
  have hgf:=fresh_of hgn
  have hgf0:=agreeBut_fresh' hd jA hgf (fun r i e=>by have:=hfr d (by rw [hd];simp);rw [e] at this;simp at this;omega)
  have fd_gr0:=fresh_ne2 hfr hd (show gen<gr0 by omega)
  have fe_gr0:=fresh_ne2' hfr hd (show gen<gr0 by omega)
  have eg_gen_gr0:=gen_lt (show gen<gr0 by omega)
  have eh_gen_gr0:=gen_lt' (show gen<gr0 by omega)
  obtain ⟨x,hx,hxm,hm⟩:=rnx hlt
  clear hgn
  rw [drop_get hx] at jk
  unfold mb at js
  rcases jk.cons with ⟨rfl,rfl,w,hE⟩|⟨u1,v,vs',rfl,hE,wv,hk⟩
  ·unfold EvT2 mb evR outV at hE
   simp only [if_true,Bool.not_true] at hE ⊢
   rw [List.append_nil] at jv
   subst jv
   clear jk
   match vs,jn with
   | [],e =>
    obtain rfl:i=0:=by simpa using e.symm
    rw [pad3_0] at jb ⊢
    exact wkT_
   | [a],e =>
    obtain rfl:i=1:=by simpa using e.symm
    obtain ⟨a1,a2,rfl,wa,ia⟩:=jw a (by simp)
    clear jw
    rw [pad3_1] at jb ⊢
    exact wkT_
   | [a,b],e =>
    obtain rfl:i=2:=by simpa using e.symm
    obtain ⟨a1,a2,rfl,wa,ia⟩:=jw a (by simp)
    obtain ⟨b1,b2,rfl,wb,ib⟩:=jw b (by simp)
    clear jw
    rw [pad3_2] at jb ⊢
    exact wkT_
   | _::_::_::_,e=>simp at e;omega
  ·unfold EvT2 mb evR outV at hE
   simp only [Bool.false_eq_true,if_false,Bool.not_false] at hE
   obtain ⟨c1,c2,rfl,wc,ic⟩:=wv
   clear jk
   match vi,jn with
   | [],e =>
    obtain rfl:i=0:=by simpa using e.symm
    rw [pad3_0] at jb
    have z1:((0:Int)<((3:Nat):Int))=True:=by simp
    replace jI:σ.tm 15=.int .i64 0:=jI
    clear jw
    repeat' (first
     | (first|refine wp rfl ?_|refine spt rfl ?_|refine spf rfl ?_|(refine spl (fun hc=>?_) fun hc=>?_)<;>(try rw [beq_iff_eq] at hc)<;>try simp only [hc]|(refine ct (hE) ?_ ?_;focus ((simp only [go_sem, *]<;>rfl);done))|refine AR_inv ?_)<;>try simp only [go_sem, *])
    exact ⟨by rfl,by repeat (first|exact jA|refine AgreeBut.new ?_ (hgf0 _ _)|refine AgreeBut.new ?_ (hfr' _ _)|refine AgreeBut.set ?_),u1,[.iface c1 c2],vs',rfl,rfl,rfl,fun v hv=>by simp at hv;subst hv;exact ⟨_,_,rfl,wc,ic⟩,rfl,hk⟩
   | [a],e =>
    obtain rfl:i=1:=by simpa using e.symm
    obtain ⟨a1,a2,rfl,wa,ia⟩:=jw a (by simp)
    rw [pad3_1] at jb
    have z1:((1:Int)<((3:Nat):Int))=True:=by simp
    replace jI:σ.tm 15=.int .i64 1:=jI
    clear jw
    repeat' (first
     | (first|refine wp rfl ?_|refine spt rfl ?_|refine spf rfl ?_|(refine spl (fun hc=>?_) fun hc=>?_)<;>(try rw [beq_iff_eq] at hc)<;>try simp only [hc]|(refine ct (hE) ?_ ?_;focus ((simp only [go_sem, *]<;>rfl);done))|refine AR_inv ?_)<;>try simp only [go_sem, *])
    exact ⟨by rfl,by repeat (first|exact jA|refine AgreeBut.new ?_ (hgf0 _ _)|refine AgreeBut.new ?_ (hfr' _ _)|refine AgreeBut.set ?_),u1,[.iface a1 a2,.iface c1 c2],vs',rfl,rfl,rfl,fun v hv=>by
     simp at hv
     rcases hv with rfl|rfl
     ·exact ⟨_,_,rfl,wa,ia⟩
     ·exact ⟨_,_,rfl,wc,ic⟩,rfl,hk⟩
   | [a,b],e =>
    obtain rfl:i=2:=by simpa using e.symm
    obtain ⟨a1,a2,rfl,wa,ia⟩:=jw a (by simp)
    obtain ⟨b1,b2,rfl,wb,ib⟩:=jw b (by simp)
    rw [pad3_2] at jb
    have z1:((2:Int)<((3:Nat):Int))=True:=by simp
    replace jI:σ.tm 15=.int .i64 2:=jI
    clear jw
    repeat' (first
     | (first|refine wp rfl ?_|refine spt rfl ?_|refine spf rfl ?_|(refine spl (fun hc=>?_) fun hc=>?_)<;>(try rw [beq_iff_eq] at hc)<;>try simp only [hc]|(refine ct (hE) ?_ ?_;focus ((simp only [go_sem, *]<;>rfl);done))|refine AR_inv ?_)<;>try simp only [go_sem, *])
    exact ⟨by rfl,by repeat (first|exact jA|refine AgreeBut.new ?_ (hgf0 _ _)|refine AgreeBut.new ?_ (hfr' _ _)|refine AgreeBut.set ?_),u1,[.iface a1 a2,.iface b1 b2,.iface c1 c2],vs',rfl,rfl,rfl,fun v hv=>by
     simp at hv
     rcases hv with rfl|rfl|rfl
     ·exact ⟨_,_,rfl,wa,ia⟩
     ·exact ⟨_,_,rfl,wb,ib⟩
     ·exact ⟨_,_,rfl,wc,ic⟩,rfl,hk⟩
   | _::_::_::_,e=>simp at e;omega
 ·clear h0
  intro σ ga0 hgl_ga0 hgn jS ⟨jA,ui,vi,rest,js,jb,jn,jw,jv,jk⟩
  obtain ⟨jT,jB⟩:=jS
  simp only [go_sem] at jT jB
  have hgf:=fresh_of hgn
  have hgf0:=agreeBut_fresh' hd jA hgf (fun r i e=>by have:=hfr d (by rw [hd];simp);rw [e] at this;simp at this;omega)
  have fd_ga0:=fresh_ne2 hfr hd (show gen<ga0 by omega)
  have fe_ga0:=fresh_ne2' hfr hd (show gen<ga0 by omega)
  have eg_gen_ga0:=gen_lt (show gen<ga0 by omega)
  have eh_gen_ga0:=gen_lt' (show gen<ga0 by omega)
  clear hgn
  rw [List.drop_length] at jk
  obtain ⟨rfl,rfl,rfl⟩:=jk.none
  rw [List.append_nil] at jv
  subst jv
  unfold mb at js
  simp only [Bool.not_false]
  clear jk
  match vs,jn,hl with
  | [],e,_ =>
   clear e
   rw [pad3_0] at jb ⊢
   exact wkT_
  | [a],e,_ =>
   obtain ⟨a1,a2,rfl,wa,ia⟩:=jw a (by simp)
   clear jw
   clear e
   rw [pad3_1] at jb ⊢
   exact wkT_
  | [a,b],e,_ =>
   obtain ⟨a1,a2,rfl,wa,ia⟩:=jw a (by simp)
   obtain ⟨b1,b2,rfl,wb,ib⟩:=jw b (by simp)
   clear jw
   clear e
   rw [pad3_2] at jb ⊢
   exact wkT_
  | [a,b,c],e,_ =>
   obtain ⟨a1,a2,rfl,wa,ia⟩:=jw a (by simp)
   obtain ⟨b1,b2,rfl,wb,ib⟩:=jw b (by simp)
   obtain ⟨c1,c2,rfl,wc,ic⟩:=jw c (by simp)
   clear jw
   clear e
   rw [pad3_3] at jb ⊢
   exact wkT_
  | _::_::_::_::_,e,hl=>simp at e;omega
def intV (n:Nat):V:=.iface 3 (.int .i64 n)
inductive RecS (d:GoAbs.Id) (most:Nat) (sv:V):Nat→Nat→Nat→V→Nat→Bool→V→Prop
 | nil {k u:Nat} {rv:V}:RecS d most sv k 0 u rv u false rv
 | stop {k m u u':Nat} {rv w:V}:CallS d most u sv [intV k,rv] u' true w→RecS d most sv k (m+1) u rv u' true w
 | step {k m u u1 u':Nat} {rv rv1 w:V} {o:Bool}:CallS d most u sv [intV k,rv] u1 false rv1→IsI rv1→RecS d most sv (k+1) m u1 rv1 u' o w→RecS d most sv k (m+1) u rv u' o w
theorem RecS.cons {d:GoAbs.Id} {most k m u u':Nat} {sv rv w:V} {o:Bool} (h:RecS d most sv k (m+1) u rv u' o w) :
  (o=true∧CallS d most u sv [intV k,rv] u' true w)∨∃ u1 rv1,CallS d most u sv [intV k,rv] u1 false rv1∧IsI rv1∧RecS d most sv (k+1) m u1 rv1 u' o w:=by
 cases h with
 | stop h=>exact .inl ⟨rfl,h⟩
 | step h1 h2 h3=>exact .inr ⟨_,_,h1,h2,h3⟩
theorem RecS.none {d:GoAbs.Id} {most k u u':Nat} {sv rv w:V} {o:Bool} (h:RecS d most sv k 0 u rv u' o w):u'=u∧o=false∧w=rv:=by cases h;exact ⟨rfl,rfl,rfl⟩
theorem CallS.dead {d:GoAbs.Id} {most u u':Nat} {fv w w':V} {l:List V} (h:CallS d most u fv l u' true w) (hh:∀ (t:Tm) (ve v:V) (u u':Nat),EvT2 d most u u' true t ve v→EvT2 d most u u' true t ve w'):CallS d most u fv l u' true w':=by
 generalize ho:true=o at h
 induction h with
 | nil=>cases ho
 | stop h1 h2 h3=>exact .stop (hh _ _ _ _ _ h1) h2 h3
 | step h1 h2 h3 h4 _ ih=>exact .step h1 h2 h3 h4 (ih ho)
theorem c_callS' {d:GoAbs.Id} {most u u':Nat} {fv w:V} {l:List V} {o:Bool} (h0:CallS d most u fv l u' o w) (hl:l.length≤100) (hw:o=false→IsI w) (hf:IsI fv) :
  Turns Tryz.prog env 264 [.ptr d 0,fv,.sl .any (l.map fun v=>[v])] d (mb u most) (evR o w) (mb u' most):=by
 obtain ⟨f1,f2,rfl,f3,_⟩:=hf
 have wf:weak (.iface f1 f2)=.iface f1 f2:=by simp [weak,f3]
 cases o with
 | false =>
  obtain ⟨t,x,rfl,h1,h2⟩:=hw rfl
  exact c_callS h0 hl (fun S=>by simp [InV,h2]) (by simp [weak,h1]) wf
 | true =>
  have:=c_callS (h0.dead (w':=.nili) (fun _ _ _ _ _ h=>h)) hl (fun S=>by simp [InV]) rfl wf
  exact this
theorem c_recS {d:GoAbs.Id} {most u u' N:Nat} {zv sv w:V} {o:Bool} (h0:RecS d most sv 0 N u zv u' o w) (hz:IsI zv) (hs:IsI sv) (hN:N≤100000) :
  Turns Tryz.prog env 269 [.ptr d 0,.agg [zv,sv,intV N]] d (mb u most) (evR o w) (mb u' most):=by
 intro h hd
 unfold mb at hd ⊢
 have x0:((0:Int)<((3:Nat):Int))=True:=by simp
 have x1:((1:Int)<((3:Nat):Int))=True:=by simp
 have x2:((2:Int)<((3:Nat):Int))=True:=by simp
 have hsI:=hs
 obtain ⟨s1,s2,rfl,ws,is⟩:=hs
 refine en_ Tryz.func269 [.tmp 4,.tmp 5] fun g0 w0 gen hrel hfr hfr' hres=>?_
 have f1:=fresh_ne hfr hd
 have f2:=fresh_ne' hfr hd
 unfold intV
 obtain ⟨z1,z2,rfl,wz,iz⟩:=id hz
 refine wq_ ?_
 refine AR_loop_nat (fun i σ2=>σ2.tm 8=.int .i64 i∧σ2.tm 0=.ptr d 0∧σ2.tm 3=.ptr ⟨gen,0,0⟩ 0∧σ2.h ⟨gen,0,0⟩=some (.box [.iface z1 z2,.iface s1 s2,.iface 3 (.int .i64 N)])∧AgreeBut d h σ2.h∧i≤N ∧
  ∃ (uj:Nat) (rj:V) (oj:Bool),σ2.h d=some (.box [.int .i64 uj,.int .i64 most])∧σ2.tm 6=rj∧σ2.tm 7=.bool (!oj)∧(oj=true→rj=.nili∧u'=uj∧o=true) ∧
   (oj=false→IsI rj∧RecS d most (.iface s1 s2) i (N - i) uj rj u' o w)) N ?_ ?_
 ·simp only [go_sem, *]
  exact ⟨rfl,by repeat (first|exact AgreeBut.refl _ _|refine AgreeBut.new ?_ (hfr' _ _)),u,_,false,rfl,rfl,rfl,(fun e=>by cases e),fun _=>⟨hz,h0⟩⟩
 clear h0 hz
 intro i σ2 hi ⟨j1,j2,j3,j4,jA,j5,uj,rj,oj,j6,j7,j8,j9,j10⟩
 refine AR_gen2 (fun gn hgl hgn=>?_)
 have hgf:=fresh_of hgn
 have hgf0:=agreeBut_fresh' hd jA hgf (fun r i e=>by have:=hfr d (by rw [hd];simp);rw [e] at this;simp at this;omega)
 have eg1:=gen_lt hgl
 have eg2:=gen_lt' hgl
 have fd:=fresh_ne2 hfr hd hgl
 have fe:=fresh_ne2' hfr hd hgl
 clear hgn
 cases oj with
 | true =>
  obtain ⟨rfl,rfl,rfl⟩:=j9 rfl
  clear j9 j10
  simp only [Bool.not_true] at j8
  unfold evR outV
  simp only [if_true,Bool.not_true]
  exact wkT_
 | false =>
 obtain ⟨jI,jr⟩:=j10 rfl
 clear j9 j10
 simp only [Bool.not_false] at j8
 rcases Nat.lt_or_ge i N with hlt|hge
 ·have hlt':=lt_true hlt
  have hsu:=wrap_succ (i:=i) (by omega)
  rw [show N - i=(N - (i+1))+1 by omega] at jr
  obtain ⟨r1,r2,rfl,wr,ir⟩:=id jI
  rcases jr.cons with ⟨rfl,hk⟩|⟨u1,rv1,hk,hI1,hr1⟩
  ·have hT:=c_callS' hk (by simp) (fun e=>by cases e) hsI
   unfold evR outV mb intV at hT
   simp only [if_true,Bool.not_true,List.map_cons,List.map_nil] at hT
   clear jr hk hsI jI
   refine wq_ ?_
   exact ⟨by repeat (first|exact jA|refine AgreeBut.new ?_ (hgf0 _ _)|refine AgreeBut.set ?_),by omega,u',_,true,rfl,rfl,rfl,(fun _=>by simp),fun e=>by cases e⟩
  ·have hT:=c_callS' hk (by simp) (fun _=>hI1) hsI
   unfold evR outV mb intV at hT
   simp only [Bool.false_eq_true,if_false,Bool.not_false,List.map_cons,List.map_nil] at hT
   clear jr hk hsI jI
   obtain ⟨q1,q2,rfl,wq,iq⟩:=id hI1
   repeat' (first
    | (first|refine wp rfl ?_|refine spt rfl ?_|refine spf rfl ?_|(refine spl (fun hc=>?_) fun hc=>?_)<;>(try rw [beq_iff_eq] at hc)<;>try simp only [hc]|(refine gs (fun hb=>?_) fun hb=>?_)<;>try simp only [Bool.not_true,Bool.not_false] at hb|(refine ct (hT) ?_ ?_;focus ((simp only [go_sem, *]<;>rfl);done))|refine AR_inv ?_)<;>try simp only [go_sem, *])
   exact ⟨by repeat (first|exact jA|refine AgreeBut.new ?_ (hgf0 _ _)|refine AgreeBut.set ?_),by omega,u1,_,false,rfl,rfl,rfl,(fun e=>by cases e),fun _=>⟨hI1,hr1⟩⟩
 ·have hlt':=lt_false hge
  rw [show N - i=0 by omega] at jr
  obtain ⟨rfl,rfl,rfl⟩:=jr.none
  obtain ⟨q1,q2,rfl,wq,iq⟩:=id jI
  unfold evR outV
  simp only [Bool.false_eq_true,if_false,Bool.not_false]
  clear jr jI hsI
  exact wkT_
end Go.Proofs.YteaijonkbbkkjaaGreatDoor
