/-
 Walks: several parts in one text.
-/
import Derived.Test.YtmnplkmphgkooaaGreatDoorMa
import Derived.Test.YtmnplkmphgkooaaGreatDoorAbsDb
import Derived.Test.YtmnplkmphgkooaaGreatDoorAbsC
import Derived.Shelf.Abstract
import Derived.OwnWalkIn
import Derived.TacticsInMore
import Derived.LoopNIn
import Derived.LoopIn
set_option linter.unusedSimpArgs false
set_option linter.unusedVariables false
set_option maxRecDepth 20000
set_option maxHeartbeats 4000000
set_option maxRecDepth 100000
namespace Go.Proofs.YtmnplkmphgkooaaGreatDoor
open Go GoAbs Go.Proofs
attribute [go_sem] List.drop_zero Nat.zero_le Nat.le_refl Option.map_some
def kt:Tys:=⟨3,156,162,166,169⟩
@[go_sem] theorem kt_int:kt.int=3:=rfl
@[go_sem] theorem kt_cell:kt.cell=156:=rfl
@[go_sem] theorem kt_both:kt.both=162:=rfl
@[go_sem] theorem kt_unit:kt.unit=166:=rfl
@[go_sem] theorem kt_clo:kt.clo=169:=rfl
theorem atV_succ {m:Nat} {ve v:V} (h:atV (m+1) ve=some v):∃ x n,ve=.el [x,n] 0∧atV m n=some v:=by
 unfold atV at h
 split at h
 ·exact absurd ‹_› (by omega)
 ·rename_i i x n e
  cases e
  exact ⟨x,n,rfl,h⟩
 ·cases h
theorem atV_zero {ve v:V} (h:atV 0 ve=some v):∃ n,ve=.el [v,n] 0:=by
 unfold atV at h
 split at h
 ·rename_i x n _;cases h;exact ⟨n,rfl⟩
 ·exfalso;omega
 ·cases h
theorem c_envAt {ve v:V} (i:Nat) (hi:i≤100000) (ha:atV i ve=some v) (hw:weak v=v) (hin:∀ S,InV S v):Pure Tryz.prog env 108 [ve,.int .i64 i] v:=by
 intro h
 refine en_ Tryz.func108 [.tmp 4] fun g0 w0 gen hrel hfr hfr' hres=>?_
 refine wq_ ?_
 refine AR_loop_nat (fun j σ=>σ.tm 1=.int .i64 ((i:Int) - j)∧Agree h σ.h∧atV (i - j) (σ.tm 0)=some v) i ?_ ?_
 ·simp only [go_sem, *]
  exact ⟨by simp,ag_,ha⟩
 clear ha
 intro j σ hj ⟨j1,jA,ja⟩
 refine AR_gen2 (fun gn hgl hgn=>?_)
 have hgf:=fresh_of hgn
 have hgf0:=fun r i=>agree_fresh jA (hgf r i)
 clear hgn
 rcases Nat.lt_or_ge j i with hlt|hge
 ·have hd:decide ((i:Int) - (j:Int)>0)=true:=by simp;omega
  have hw1:IntKind.i64.wrap ((i:Int) - (j:Int) - 1)=(i:Int) - ((j+1:Nat):Int):=wrap_eq (by omega) (by omega) (by omega)
  rw [show i - j=(i - (j+1))+1 by omega] at ja
  obtain ⟨x,n,e,ja⟩:=atV_succ ja
  repeat' (first
   | (first|refine wp rfl ?_|refine spt rfl ?_|refine spf rfl ?_|(refine spl (fun hc=>?_) fun hc=>?_)<;>(try rw [beq_iff_eq] at hc)<;>try simp only [hc]|refine AR_inv ?_)<;>try simp only [go_sem, *])
  all_goals exact ⟨by omega,rfl,jA,ja⟩
 ·have hd:decide ((i:Int) - (j:Int)>0)=false:=by simp;omega
  rw [show i - j=0 by omega] at ja
  obtain ⟨n,e⟩:=atV_zero ja
  clear ja
  exact wk_
def mb (u most:Nat):GoAbs.Obj:=.box [.int .i64 u,.int .i64 most]
def outV (o:Bool) (v:V):V:=if o then .nili else v
def evR (o:Bool) (v:V):V:=.tup [outV o v,.bool (!o)]
def EvT2 (d:GoAbs.Id) (most u u':Nat) (o:Bool) (t:Tm) (ve v:V):Prop :=
 Turns Tryz.prog env 63 [.ptr d 0,.agg t.cells,ve] d (mb u most) (evR o v) (mb u' most)
def cloV (t:Tm) (ve:V):V:=.iface 169 (.el (t.cells++[ve]) 0)
inductive CallS (d:GoAbs.Id) (most:Nat):Nat→V→List V→Nat→Bool→V→Prop
 | nil {u:Nat} {fv:V}:CallS d most u fv [] u false fv
 | stop {u u':Nat} {t:Tm} {ve a w:V} {l:List V}:EvT2 d most u u' true t (.el [a,ve] 0) w→IsI a→IsE ve→CallS d most u (cloV t ve) (a::l) u' true w
 | step {u u1 u':Nat} {t:Tm} {ve a fv w:V} {l:List V} {o:Bool}:EvT2 d most u u1 false t (.el [a,ve] 0) fv→IsI a→IsE ve→weak fv=fv→CallS d most u1 fv l u' o w→CallS d most u (cloV t ve) (a::l) u' o w
theorem CallS.cons {d:GoAbs.Id} {most u u':Nat} {fv a w:V} {l:List V} {o:Bool} (h:CallS d most u fv (a::l) u' o w) :
  ∃ (t:Tm) (ve:V),fv=cloV t ve∧IsI a∧IsE ve∧((o=true∧EvT2 d most u u' true t (.el [a,ve] 0) w)∨∃ u1 fv1,EvT2 d most u u1 false t (.el [a,ve] 0) fv1∧weak fv1=fv1∧CallS d most u1 fv1 l u' o w):=by
 cases h with
 | stop h1 h2 h3=>exact ⟨_,_,rfl,h2,h3,.inl ⟨rfl,h1⟩⟩
 | step h1 h2 h3 h4 h5=>exact ⟨_,_,rfl,h2,h3,.inr ⟨_,_,h1,h4,h5⟩⟩
theorem CallS.none {d:GoAbs.Id} {most u u':Nat} {fv w:V} {o:Bool} (h:CallS d most u fv [] u' o w):u'=u∧o=false∧w=fv:=by cases h;exact ⟨rfl,rfl,rfl⟩
theorem c_callS {d:GoAbs.Id} {most u u':Nat} {fv w:V} {l:List V} {o:Bool} (h0:CallS d most u fv l u' o w) (hl:l.length≤100) (hin:∀ S,InV S w) (hw:weak w=w) (hwf:weak fv=fv) :
  Turns Tryz.prog env 64 [.ptr d 0,fv,.sl .any (l.map fun v=>[v])] d (mb u most) (evR o w) (mb u' most):=by
 intro h hd
 unfold mb at hd ⊢
 refine en_ Tryz.func64 [.tmp 6,.tmp 7] fun g0 w0 gen hrel hfr hfr' hres=>?_
 have f1:=fresh_ne hfr hd
 have f2:=fresh_ne' hfr hd
 refine wq_ ?_
 refine ar_ [0,13] [] (fun i σ=>AgreeBut d h σ.h∧∃ (ui:Nat) (fi:V),σ.tm 1=fi∧weak fi=fi∧σ.h d=some (mb ui most)∧CallS d most ui fi (l.drop i) u' o w) (l).length ?_ ?_ ?_
 ·simp only [go_sem, *]
  exact ⟨AgreeBut.refl _ _,u,fv,rfl,hwf,rfl,h0⟩
 ·clear h0
  intro i σ gr0 hgl_gr0 hgn hlt jI jN jS ⟨jA,ui,fi,jf,jw,js,jk⟩
  obtain ⟨jT,jB⟩:=jS
  simp only [go_sem] at jT jB
  have hgf:=fresh_of hgn
  have hgf0:=agreeBut_fresh' hd jA hgf (fun r i e=>by have:=hfr d (by rw [hd];simp);rw [e] at this;simp at this;omega)
  have fd_gr0:=fresh_ne2 hfr hd (show gen<gr0 by omega)
  have fe_gr0:=fresh_ne2' hfr hd (show gen<gr0 by omega)
  have eg_gen_gr0:=gen_lt (show gen<gr0 by omega)
  have eh_gen_gr0:=gen_lt' (show gen<gr0 by omega)
  obtain ⟨x,hx,hxm,hm⟩:=rnx hlt
  clear hgn
  rw [drop_get hx] at jk
  obtain ⟨t,ve,rfl,⟨xt,xv,rfl,wa,ia⟩,we,hk⟩:=jk.cons
  have hc:=Tm.cells_eq t
  unfold mb at js
  unfold cloV at jf
  rw [hc] at jf
  simp only [List.cons_append,List.nil_append] at jf
  clear jk hw hin
  rcases hk with ⟨rfl,hE⟩|⟨u1,fv1,hE,wf1,hk⟩
  ·unfold EvT2 mb evR outV at hE
   simp only [if_true,Bool.not_true] at hE
   rw [hc] at hE
   unfold evR outV
   simp only [if_true,Bool.not_true]
   clear hc
   generalize t.kind=k1 at *
   generalize t.index=k2 at *
   generalize t.type=k3 at *
   generalize t.args=k4 at *
   rcases we with rfl|⟨vc,rfl,we,ie⟩
   all_goals
    exact wkT_
  ·unfold EvT2 mb evR outV at hE
   simp only [Bool.false_eq_true,if_false,Bool.not_false] at hE
   rw [hc] at hE
   clear hc
   generalize t.kind=k1 at *
   generalize t.index=k2 at *
   generalize t.type=k3 at *
   generalize t.args=k4 at *
   rcases we with rfl|⟨vc,rfl,we,ie⟩
   all_goals
    refine wq_ ?_
    exact ⟨by repeat (first|exact jA|refine AgreeBut.new ?_ (hgf0 _ _)|refine AgreeBut.set ?_),u1,fv1,rfl,wf1,rfl,hk⟩
 ·clear h0
  intro σ ga0 hgl_ga0 hgn jS ⟨jA,ui,fi,jf,jw,js,jk⟩
  obtain ⟨jT,jB⟩:=jS
  simp only [go_sem] at jT jB
  have hgf:=fresh_of hgn
  have hgf0:=agreeBut_fresh' hd jA hgf (fun r i e=>by have:=hfr d (by rw [hd];simp);rw [e] at this;simp at this;omega)
  have fd_ga0:=fresh_ne2 hfr hd (show gen<ga0 by omega)
  have fe_ga0:=fresh_ne2' hfr hd (show gen<ga0 by omega)
  have eg_gen_ga0:=gen_lt (show gen<ga0 by omega)
  have eh_gen_ga0:=gen_lt' (show gen<ga0 by omega)
  clear hgn
  rw [List.drop_length] at jk
  obtain ⟨rfl,rfl,rfl⟩:=jk.none
  unfold mb at js
  unfold evR outV
  simp only [Bool.false_eq_true,if_false,Bool.not_false]
  have hin':=hin (fun id=>hset h d (.box [.int .i64 u',.int .i64 most]) id≠none)
  exact wkT_
def pad3 (vs:List V):List V:=vs++List.replicate (3 - vs.length) .nili
inductive AllS (d:GoAbs.Id) (most:Nat) (ve:V):Nat→List Tm→Nat→Bool→List V→Prop
 | nil {u:Nat}:AllS d most ve u [] u false []
 | stop {u u':Nat} {t:Tm} {w:V} {l:List Tm}:EvT2 d most u u' true t ve w→AllS d most ve u (t::l) u' true []
 | step {u u1 u':Nat} {t:Tm} {v:V} {l:List Tm} {o:Bool} {vs:List V}:EvT2 d most u u1 false t ve v→IsI v→AllS d most ve u1 l u' o vs→AllS d most ve u (t::l) u' o (v::vs)
theorem AllS.cons {d:GoAbs.Id} {most u u':Nat} {ve:V} {t:Tm} {l:List Tm} {o:Bool} {vs:List V} (h:AllS d most ve u (t::l) u' o vs) :
  (o=true∧vs=[]∧∃ w,EvT2 d most u u' true t ve w)∨∃ u1 v vs',vs=v::vs'∧EvT2 d most u u1 false t ve v∧IsI v∧AllS d most ve u1 l u' o vs':=by
 cases h with
 | stop h1=>exact .inl ⟨rfl,rfl,_,h1⟩
 | step h1 h2 h3=>exact .inr ⟨_,_,_,rfl,h1,h2,h3⟩
theorem AllS.none {d:GoAbs.Id} {most u u':Nat} {ve:V} {o:Bool} {vs:List V} (h:AllS d most ve u [] u' o vs):u'=u∧o=false∧vs=[]:=by cases h;exact ⟨rfl,rfl,rfl⟩
theorem pad3_0:pad3 []=[.nili,.nili,.nili]:=rfl
theorem pad3_1 {a:V}:pad3 [a]=[a,.nili,.nili]:=rfl
theorem pad3_2 {a b:V}:pad3 [a,b]=[a,b,.nili]:=rfl
theorem pad3_3 {a b c:V}:pad3 [a,b,c]=[a,b,c]:=rfl
theorem c_allS {d:GoAbs.Id} {most u u':Nat} {ve:V} {l:List Tm} {o:Bool} {vs:List V} (h0:AllS d most ve u l u' o vs) (hl:l.length≤3) (hve:IsE ve) :
  Turns Tryz.prog env 109 [.ptr d 0,.sl .any (l.map Tm.cells),ve] d (mb u most) (.tup [.agg (pad3 vs),.bool (!o)]) (mb u' most):=by
 intro h hd
 unfold mb at hd ⊢
 refine en_ Tryz.func109 [.cell 6 172,.tmp 7] fun g0 w0 gen hrel hfr hfr' hres=>?_
 have f1:=fresh_ne hfr hd
 have f2:=fresh_ne' hfr hd
 have wve:weak ve=ve:=by
  rcases hve with rfl|⟨c,rfl,h,_⟩
  ·rfl
  ·simp [weak,h]
 refine wq_ ?_
 refine ar_ [0,2,6,8,13] [⟨gen,0,0⟩] (fun i σ=>AgreeBut d h σ.h∧∃ (ui:Nat) (vi rest:List V),σ.h d=some (mb ui most)∧σ.h ⟨gen,1,0⟩=some (.box (pad3 vi))∧vi.length=i∧(∀ v∈vi,IsI v)∧vs=vi++rest∧AllS d most ve ui (l.drop i) u' o rest) (l).length ?_ ?_ ?_
 ·simp only [go_sem, *]
  exact ⟨by repeat (first|exact AgreeBut.refl _ _|assumption|refine AgreeBut.new ?_ (hfr' _ _)|refine AgreeBut.set ?_),u,[],vs,rfl,rfl,rfl,by simp,rfl,h0⟩
 ·clear h0
  intro i σ gr0 hgl_gr0 hgn hlt jI jN jS ⟨jA,ui,vi,rest,js,jb,jn,jw,jv,jk⟩
  obtain ⟨jT,jB⟩:=jS
  simp only [go_sem] at jT jB
  have hgf:=fresh_of hgn
  have hgf0:=agreeBut_fresh' hd jA hgf (fun r i e=>by have:=hfr d (by rw [hd];simp);rw [e] at this;simp at this;omega)
  have fd_gr0:=fresh_ne2 hfr hd (show gen<gr0 by omega)
  have fe_gr0:=fresh_ne2' hfr hd (show gen<gr0 by omega)
  have eg_gen_gr0:=gen_lt (show gen<gr0 by omega)
  have eh_gen_gr0:=gen_lt' (show gen<gr0 by omega)
  obtain ⟨x,hx,hxm,hm⟩:=rnx hlt
  clear hgn
  rw [drop_get hx] at jk
  unfold mb at js
  rcases jk.cons with ⟨rfl,rfl,w,hE⟩|⟨u1,v,vs',rfl,hE,wv,hk⟩
  ·unfold EvT2 mb evR outV at hE
   simp only [if_true,Bool.not_true] at hE ⊢
   rw [List.append_nil] at jv
   subst jv
   clear jk
   match vs,jn with
   | [],e =>
    obtain rfl:i=0:=by simpa using e.symm
    rw [pad3_0] at jb ⊢
    exact wkT_
   | [a],e =>
    obtain rfl:i=1:=by simpa using e.symm
    obtain ⟨a1,a2,rfl,wa,ia⟩:=jw a (by simp)
    clear jw
    rw [pad3_1] at jb ⊢
    exact wkT_
   | [a,b],e =>
    obtain rfl:i=2:=by simpa using e.symm
    obtain ⟨a1,a2,rfl,wa,ia⟩:=jw a (by simp)
    obtain ⟨b1,b2,rfl,wb,ib⟩:=jw b (by simp)
    clear jw
    rw [pad3_2] at jb ⊢
    exact wkT_
   | _::_::_::_,e=>simp at e;omega
  ·unfold EvT2 mb evR outV at hE
   simp only [Bool.false_eq_true,if_false,Bool.not_false] at hE
   obtain ⟨c1,c2,rfl,wc,ic⟩:=wv
   clear jk
   match vi,jn with
   | [],e =>
    obtain rfl:i=0:=by simpa using e.symm
    rw [pad3_0] at jb
    have z1:((0:Int)<((3:Nat):Int))=True:=by simp
    replace jI:σ.tm 15=.int .i64 0:=jI
    clear jw
    repeat' (first
     | (first|refine wp rfl ?_|refine spt rfl ?_|refine spf rfl ?_|(refine spl (fun hc=>?_) fun hc=>?_)<;>(try rw [beq_iff_eq] at hc)<;>try simp only [hc]|(refine ct (hE) ?_ ?_;focus ((simp only [go_sem, *]<;>rfl);done))|refine AR_inv ?_)<;>try simp only [go_sem, *])
    exact ⟨by rfl,by repeat (first|exact jA|refine AgreeBut.new ?_ (hgf0 _ _)|refine AgreeBut.new ?_ (hfr' _ _)|refine AgreeBut.set ?_),u1,[.iface c1 c2],vs',rfl,rfl,rfl,fun v hv=>by simp at hv;subst hv;exact ⟨_,_,rfl,wc,ic⟩,rfl,hk⟩
   | [a],e =>
    obtain rfl:i=1:=by simpa using e.symm
    obtain ⟨a1,a2,rfl,wa,ia⟩:=jw a (by simp)
    rw [pad3_1] at jb
    have z1:((1:Int)<((3:Nat):Int))=True:=by simp
    replace jI:σ.tm 15=.int .i64 1:=jI
    clear jw
    repeat' (first
     | (first|refine wp rfl ?_|refine spt rfl ?_|refine spf rfl ?_|(refine spl (fun hc=>?_) fun hc=>?_)<;>(try rw [beq_iff_eq] at hc)<;>try simp only [hc]|(refine ct (hE) ?_ ?_;focus ((simp only [go_sem, *]<;>rfl);done))|refine AR_inv ?_)<;>try simp only [go_sem, *])
    exact ⟨by rfl,by repeat (first|exact jA|refine AgreeBut.new ?_ (hgf0 _ _)|refine AgreeBut.new ?_ (hfr' _ _)|refine AgreeBut.set ?_),u1,[.iface a1 a2,.iface c1 c2],vs',rfl,rfl,rfl,fun v hv=>by
     simp at hv
     rcases hv with rfl|rfl
     ·exact ⟨_,_,rfl,wa,ia⟩
     ·exact ⟨_,_,rfl,wc,ic⟩,rfl,hk⟩
   | [a,b],e =>
    obtain rfl:i=2:=by simpa using e.symm
    obtain ⟨a1,a2,rfl,wa,ia⟩:=jw a (by simp)
    obtain ⟨b1,b2,rfl,wb,ib⟩:=jw b (by simp)
    rw [pad3_2] at jb
    have z1:((2:Int)<((3:Nat):Int))=True:=by simp
    replace jI:σ.tm 15=.int .i64 2:=jI
    clear jw
    repeat' (first
     | (first|refine wp rfl ?_|refine spt rfl ?_|refine spf rfl ?_|(refine spl (fun hc=>?_) fun hc=>?_)<;>(try rw [beq_iff_eq] at hc)<;>try simp only [hc]|(refine ct (hE) ?_ ?_;focus ((simp only [go_sem, *]<;>rfl);done))|refine AR_inv ?_)<;>try simp only [go_sem, *])
    exact ⟨by rfl,by repeat (first|exact jA|refine AgreeBut.new ?_ (hgf0 _ _)|refine AgreeBut.new ?_ (hfr' _ _)|refine AgreeBut.set ?_),u1,[.iface a1 a2,.iface b1 b2,.iface c1 c2],vs',rfl,rfl,rfl,fun v hv=>by
     simp at hv
     rcases hv with rfl|rfl|rfl
     ·exact ⟨_,_,rfl,wa,ia⟩
     ·exact ⟨_,_,rfl,wb,ib⟩
     ·exact ⟨_,_,rfl,wc,ic⟩,rfl,hk⟩
   | _::_::_::_,e=>simp at e;omega
 ·clear h0
  intro σ ga0 hgl_ga0 hgn jS ⟨jA,ui,vi,rest,js,jb,jn,jw,jv,jk⟩
  obtain ⟨jT,jB⟩:=jS
  simp only [go_sem] at jT jB
  have hgf:=fresh_of hgn
  have hgf0:=agreeBut_fresh' hd jA hgf (fun r i e=>by have:=hfr d (by rw [hd];simp);rw [e] at this;simp at this;omega)
  have fd_ga0:=fresh_ne2 hfr hd (show gen<ga0 by omega)
  have fe_ga0:=fresh_ne2' hfr hd (show gen<ga0 by omega)
  have eg_gen_ga0:=gen_lt (show gen<ga0 by omega)
  have eh_gen_ga0:=gen_lt' (show gen<ga0 by omega)
  clear hgn
  rw [List.drop_length] at jk
  obtain ⟨rfl,rfl,rfl⟩:=jk.none
  rw [List.append_nil] at jv
  subst jv
  unfold mb at js
  simp only [Bool.not_false]
  clear jk
  match vs,jn,hl with
  | [],e,_ =>
   clear e
   rw [pad3_0] at jb ⊢
   exact wkT_
  | [a],e,_ =>
   obtain ⟨a1,a2,rfl,wa,ia⟩:=jw a (by simp)
   clear jw
   clear e
   rw [pad3_1] at jb ⊢
   exact wkT_
  | [a,b],e,_ =>
   obtain ⟨a1,a2,rfl,wa,ia⟩:=jw a (by simp)
   obtain ⟨b1,b2,rfl,wb,ib⟩:=jw b (by simp)
   clear jw
   clear e
   rw [pad3_2] at jb ⊢
   exact wkT_
  | [a,b,c],e,_ =>
   obtain ⟨a1,a2,rfl,wa,ia⟩:=jw a (by simp)
   obtain ⟨b1,b2,rfl,wb,ib⟩:=jw b (by simp)
   obtain ⟨c1,c2,rfl,wc,ic⟩:=jw c (by simp)
   clear jw
   clear e
   rw [pad3_3] at jb ⊢
   exact wkT_
  | _::_::_::_::_,e,hl=>simp at e;omega
def intV (n:Nat):V:=.iface 3 (.int .i64 n)
inductive RecS (d:GoAbs.Id) (most:Nat) (sv:V):Nat→Nat→Nat→V→Nat→Bool→V→Prop
 | nil {k u:Nat} {rv:V}:RecS d most sv k 0 u rv u false rv
 | stop {k m u u':Nat} {rv w:V}:CallS d most u sv [intV k,rv] u' true w→RecS d most sv k (m+1) u rv u' true w
 | step {k m u u1 u':Nat} {rv rv1 w:V} {o:Bool}:CallS d most u sv [intV k,rv] u1 false rv1→IsI rv1→RecS d most sv (k+1) m u1 rv1 u' o w→RecS d most sv k (m+1) u rv u' o w
theorem RecS.cons {d:GoAbs.Id} {most k m u u':Nat} {sv rv w:V} {o:Bool} (h:RecS d most sv k (m+1) u rv u' o w) :
  (o=true∧CallS d most u sv [intV k,rv] u' true w)∨∃ u1 rv1,CallS d most u sv [intV k,rv] u1 false rv1∧IsI rv1∧RecS d most sv (k+1) m u1 rv1 u' o w:=by
 cases h with
 | stop h=>exact .inl ⟨rfl,h⟩
 | step h1 h2 h3=>exact .inr ⟨_,_,h1,h2,h3⟩
theorem RecS.none {d:GoAbs.Id} {most k u u':Nat} {sv rv w:V} {o:Bool} (h:RecS d most sv k 0 u rv u' o w):u'=u∧o=false∧w=rv:=by cases h;exact ⟨rfl,rfl,rfl⟩
theorem CallS.dead {d:GoAbs.Id} {most u u':Nat} {fv w w':V} {l:List V} (h:CallS d most u fv l u' true w) (hh:∀ (t:Tm) (ve v:V) (u u':Nat),EvT2 d most u u' true t ve v→EvT2 d most u u' true t ve w'):CallS d most u fv l u' true w':=by
 generalize ho:true=o at h
 induction h with
 | nil=>cases ho
 | stop h1 h2 h3=>exact .stop (hh _ _ _ _ _ h1) h2 h3
 | step h1 h2 h3 h4 _ ih=>exact .step h1 h2 h3 h4 (ih ho)
theorem c_callS' {d:GoAbs.Id} {most u u':Nat} {fv w:V} {l:List V} {o:Bool} (h0:CallS d most u fv l u' o w) (hl:l.length≤100) (hw:o=false→IsI w) (hf:IsI fv) :
  Turns Tryz.prog env 64 [.ptr d 0,fv,.sl .any (l.map fun v=>[v])] d (mb u most) (evR o w) (mb u' most):=by
 obtain ⟨f1,f2,rfl,f3,_⟩:=hf
 have wf:weak (.iface f1 f2)=.iface f1 f2:=by simp [weak,f3]
 cases o with
 | false =>
  obtain ⟨t,x,rfl,h1,h2⟩:=hw rfl
  exact c_callS h0 hl (fun S=>by simp [InV,h2]) (by simp [weak,h1]) wf
 | true =>
  have:=c_callS (h0.dead (w':=.nili) (fun _ _ _ _ _ h=>h)) hl (fun S=>by simp [InV]) rfl wf
  exact this
theorem c_recS {d:GoAbs.Id} {most u u' N:Nat} {zv sv w:V} {o:Bool} (h0:RecS d most sv 0 N u zv u' o w) (hz:IsI zv) (hs:IsI sv) (hN:N≤100000) :
  Turns Tryz.prog env 110 [.ptr d 0,.agg [zv,sv,intV N]] d (mb u most) (evR o w) (mb u' most):=by
 intro h hd
 unfold mb at hd ⊢
 have x0:((0:Int)<((3:Nat):Int))=True:=by simp
 have x1:((1:Int)<((3:Nat):Int))=True:=by simp
 have x2:((2:Int)<((3:Nat):Int))=True:=by simp
 have hsI:=hs
 obtain ⟨s1,s2,rfl,ws,is⟩:=hs
 refine en_ Tryz.func110 [.tmp 4,.tmp 5] fun g0 w0 gen hrel hfr hfr' hres=>?_
 have f1:=fresh_ne hfr hd
 have f2:=fresh_ne' hfr hd
 unfold intV
 obtain ⟨z1,z2,rfl,wz,iz⟩:=id hz
 refine wq_ ?_
 refine AR_loop_nat (fun i σ2=>σ2.tm 8=.int .i64 i∧σ2.tm 0=.ptr d 0∧σ2.tm 3=.ptr ⟨gen,0,0⟩ 0∧σ2.h ⟨gen,0,0⟩=some (.box [.iface z1 z2,.iface s1 s2,.iface 3 (.int .i64 N)])∧AgreeBut d h σ2.h∧i≤N ∧
  ∃ (uj:Nat) (rj:V) (oj:Bool),σ2.h d=some (.box [.int .i64 uj,.int .i64 most])∧σ2.tm 6=rj∧σ2.tm 7=.bool (!oj)∧(oj=true→rj=.nili∧u'=uj∧o=true) ∧
   (oj=false→IsI rj∧RecS d most (.iface s1 s2) i (N - i) uj rj u' o w)) N ?_ ?_
 ·simp only [go_sem, *]
  exact ⟨rfl,by repeat (first|exact AgreeBut.refl _ _|refine AgreeBut.new ?_ (hfr' _ _)),u,_,false,rfl,rfl,rfl,(fun e=>by cases e),fun _=>⟨hz,h0⟩⟩
 clear h0 hz
 intro i σ2 hi ⟨j1,j2,j3,j4,jA,j5,uj,rj,oj,j6,j7,j8,j9,j10⟩
 refine AR_gen2 (fun gn hgl hgn=>?_)
 have hgf:=fresh_of hgn
 have hgf0:=agreeBut_fresh' hd jA hgf (fun r i e=>by have:=hfr d (by rw [hd];simp);rw [e] at this;simp at this;omega)
 have eg1:=gen_lt hgl
 have eg2:=gen_lt' hgl
 have fd:=fresh_ne2 hfr hd hgl
 have fe:=fresh_ne2' hfr hd hgl
 clear hgn
 cases oj with
 | true =>
  obtain ⟨rfl,rfl,rfl⟩:=j9 rfl
  clear j9 j10
  simp only [Bool.not_true] at j8
  unfold evR outV
  simp only [if_true,Bool.not_true]
  exact wkT_
 | false =>
 obtain ⟨jI,jr⟩:=j10 rfl
 clear j9 j10
 simp only [Bool.not_false] at j8
 rcases Nat.lt_or_ge i N with hlt|hge
 ·have hlt':=lt_true hlt
  have hsu:=wrap_succ (i:=i) (by omega)
  rw [show N - i=(N - (i+1))+1 by omega] at jr
  obtain ⟨r1,r2,rfl,wr,ir⟩:=id jI
  rcases jr.cons with ⟨rfl,hk⟩|⟨u1,rv1,hk,hI1,hr1⟩
  ·have hT:=c_callS' hk (by simp) (fun e=>by cases e) hsI
   unfold evR outV mb intV at hT
   simp only [if_true,Bool.not_true,List.map_cons,List.map_nil] at hT
   clear jr hk hsI jI
   refine wq_ ?_
   exact ⟨by repeat (first|exact jA|refine AgreeBut.new ?_ (hgf0 _ _)|refine AgreeBut.set ?_),by omega,u',_,true,rfl,rfl,rfl,(fun _=>by simp),fun e=>by cases e⟩
  ·have hT:=c_callS' hk (by simp) (fun _=>hI1) hsI
   unfold evR outV mb intV at hT
   simp only [Bool.false_eq_true,if_false,Bool.not_false,List.map_cons,List.map_nil] at hT
   clear jr hk hsI jI
   obtain ⟨q1,q2,rfl,wq,iq⟩:=id hI1
   repeat' (first
    | (first|refine wp rfl ?_|refine spt rfl ?_|refine spf rfl ?_|(refine spl (fun hc=>?_) fun hc=>?_)<;>(try rw [beq_iff_eq] at hc)<;>try simp only [hc]|(refine gs (fun hb=>?_) fun hb=>?_)<;>try simp only [Bool.not_true,Bool.not_false] at hb|(refine ct (hT) ?_ ?_;focus ((simp only [go_sem, *]<;>rfl);done))|refine AR_inv ?_)<;>try simp only [go_sem, *])
   exact ⟨by repeat (first|exact jA|refine AgreeBut.new ?_ (hgf0 _ _)|refine AgreeBut.set ?_),by omega,u1,_,false,rfl,rfl,rfl,(fun e=>by cases e),fun _=>⟨hI1,hr1⟩⟩
 ·have hlt':=lt_false hge
  rw [show N - i=0 by omega] at jr
  obtain ⟨rfl,rfl,rfl⟩:=jr.none
  obtain ⟨q1,q2,rfl,wq,iq⟩:=id jI
  unfold evR outV
  simp only [Bool.false_eq_true,if_false,Bool.not_false]
  clear jr jI hsI
  exact wkT_
theorem c_evLim {d:GoAbs.Id} {most:Nat} {t:Tm} {ve w:V}:EvT2 d most most most true t ve w:=by
 unfold EvT2 evR outV mb
 simp only [if_true,Bool.not_true]
 intro h hd
 have k0:decide ((most:Int)≥(most:Int))=true:=by simp
 refine en_ Tryz.func63 [.tmp 6,.tmp 7] fun g0 w0 gen hrel hfr hfr' hres=>?_
 have f1:=fresh_ne hfr hd
 have f2:=fresh_ne' hfr hd
 exact wkT_
theorem c_evVar {d:GoAbs.Id} {most u i:Nat} {t:Tm} {ve v:V} (hu:u<most) (hm:most≤65536) (hk:t.kind=1) (hi:t.index=(i:Int)) (hv:IsI v)
  (hA:Pure Tryz.prog env 108 [ve,.int .i64 i] v) (hE:IsE ve):EvT2 d most u (u+1) false t ve v:=by
 unfold EvT2 evR outV mb
 simp only [Bool.false_eq_true,if_false,Bool.not_false]
 obtain ⟨v1,v2,rfl,wv,iv⟩:=hv
 intro h hd
 have k0:decide ((u:Int)≥(most:Int))=false:=by simp;omega
 have w0:=wrap_succ (i:=u) (by omega)
 clear hu hm
 refine en_ Tryz.func63 [.tmp 6,.tmp 7] fun g0 w0 gen hrel hfr hfr' hres=>?_
 have f1:=fresh_ne hfr hd
 have f2:=fresh_ne' hfr hd
 rcases hE with rfl|⟨vc,rfl,we,ie⟩
 all_goals
  exact wkT_
theorem c_evLam {d:GoAbs.Id} {most u:Nat} {t b:Tm} {ve:V} (hu:u<most) (hm:most≤65536) (hk:t.kind=2) (hb:t.args=[b]) (hE:IsE ve):EvT2 d most u (u+1) false t ve (cloV b ve):=by
 unfold EvT2 evR outV mb cloV
 simp only [Bool.false_eq_true,if_false,Bool.not_false]
 intro h hd
 have k0:decide ((u:Int)≥(most:Int))=false:=by simp;omega
 have w0:=wrap_succ (i:=u) (by omega)
 have hbc:=Tm.cells_eq b
 rw [hbc]
 simp only [List.cons_append,List.nil_append]
 clear hu hm
 refine en_ Tryz.func63 [.tmp 6,.tmp 7] fun g0 w0 gen hrel hfr hfr' hres=>?_
 have f1:=fresh_ne hfr hd
 have f2:=fresh_ne' hfr hd
 rcases hE with rfl|⟨vc,rfl,we,ie⟩
 all_goals
  exact wkT_
theorem c_evStop {d:GoAbs.Id} {most u u1:Nat} {t:Tm} {ve w:V} {vs:List V} (hu:u<most) (hm:most≤65536) (hk1:(t.kind==1)=false) (hk2:(t.kind==2)=false) (hE:IsE ve)
  (hl:vs.length≤2) (hv:∀ v∈vs,IsI v)
  (hA:Turns Tryz.prog env 109 [.ptr d 0,.sl .any (t.args.map Tm.cells),ve] d (mb (u+1) most) (.tup [.agg (pad3 vs),.bool false]) (mb u1 most)):EvT2 d most u u1 true t ve w:=by
 unfold EvT2 evR outV mb
 unfold mb at hA
 simp only [if_true,Bool.not_true]
 have k0:decide ((u:Int)≥(most:Int))=false:=by simp;omega
 have w0:=wrap_succ (i:=u) (by omega)
 clear hu hm
 match vs,hl with
 | [],_ =>
  rw [pad3_0] at hA
  clear hv
  intro h hd
  refine en_ Tryz.func63 [.tmp 6,.tmp 7] fun g0 w0 gen hrel hfr hfr' hres=>?_
  have f1:=fresh_ne hfr hd
  have f2:=fresh_ne' hfr hd
  rcases hE with rfl|⟨vc,rfl,we,ie⟩
  all_goals
   exact wkT_
 | [a],_ =>
  obtain ⟨a1,a2,rfl,aw,ai⟩:=hv a (by simp)
  rw [pad3_1] at hA
  clear hv
  intro h hd
  refine en_ Tryz.func63 [.tmp 6,.tmp 7] fun g0 w0 gen hrel hfr hfr' hres=>?_
  have f1:=fresh_ne hfr hd
  have f2:=fresh_ne' hfr hd
  rcases hE with rfl|⟨vc,rfl,we,ie⟩
  all_goals
   exact wkT_
 | [a,b],_ =>
  obtain ⟨a1,a2,rfl,aw,ai⟩:=hv a (by simp)
  obtain ⟨b1,b2,rfl,bw,bi⟩:=hv b (by simp)
  rw [pad3_2] at hA
  clear hv
  intro h hd
  refine en_ Tryz.func63 [.tmp 6,.tmp 7] fun g0 w0 gen hrel hfr hfr' hres=>?_
  have f1:=fresh_ne hfr hd
  have f2:=fresh_ne' hfr hd
  rcases hE with rfl|⟨vc,rfl,we,ie⟩
  all_goals
   exact wkT_
 | _::_::_::_,hl=>simp at hl
theorem c_ev3 {d:GoAbs.Id} {most u u1 u2:Nat} {t:Tm} {ve w:V} {a b c:V} (hu:u<most) (hm:most≤65536) (hk:t.kind=3) (hE:IsE ve) (haI:IsI a) (hbI:IsI b)
  (hA:Turns Tryz.prog env 109 [.ptr d 0,.sl .any (t.args.map Tm.cells),ve] d (mb (u+1) most) (.tup [.agg [a,b,.nili],.bool true]) (mb u1 most)) {o:Bool} (hw:o=false→IsI w) (hT:Turns Tryz.prog env 64 [.ptr d 0,a,.sl .any [[b]]] d (mb u1 most) (evR o w) (mb u2 most)):EvT2 d most u u2 o t ve (w):=by
 unfold EvT2 evR mb
 unfold mb at hA
 unfold mb evR at hT
 have xw:weak (outV o w)=outV o w:=by
  cases o with
  | true=>rfl
  | false=>obtain ⟨q1,q2,rfl,q3,_⟩:=hw rfl;simp [outV,weak,q3]
 have xi:∀ S,InV S (outV o w)=True:=by
  intro S
  cases o with
  | true=>simp [outV,InV]
  | false=>obtain ⟨q1,q2,rfl,_,q3⟩:=hw rfl;simp [outV,InV,q3]
 generalize outV o w=x at *
 clear hw
 obtain ⟨a1,a2,rfl,aw,ai⟩:=haI
 obtain ⟨b1,b2,rfl,bw,bi⟩:=hbI
 intro h hd
 have k0:decide ((u:Int)≥(most:Int))=false:=by simp;omega
 have w0:=wrap_succ (i:=u) (by omega)
 have x0:((0:Int)<((3:Nat):Int))=True:=by simp
 have x1:((1:Int)<((3:Nat):Int))=True:=by simp
 have x2:((2:Int)<((3:Nat):Int))=True:=by simp
 clear hu hm
 refine en_ Tryz.func63 [.tmp 6,.tmp 7] fun g0 w0 gen hrel hfr hfr' hres=>?_
 have f1:=fresh_ne hfr hd
 have f2:=fresh_ne' hfr hd
 rcases hE with rfl|⟨vc,rfl,we,ie⟩
 all_goals
  exact wkT_
theorem c_ev4 {d:GoAbs.Id} {most u u1:Nat} {t:Tm} {ve w:V} {a b c:V} (hu:u<most) (hm:most≤65536) (hk:t.kind=4) (hE:IsE ve)
  (hA:Turns Tryz.prog env 109 [.ptr d 0,.sl .any (t.args.map Tm.cells),ve] d (mb (u+1) most) (.tup [.agg [.nili,.nili,.nili],.bool true]) (mb u1 most)):EvT2 d most u u1 false t ve (intV 0):=by
 unfold EvT2 evR mb
 unfold mb at hA
 simp only [intV] at *
 unfold outV
 simp only [Bool.false_eq_true,if_false,Bool.not_false]
 intro h hd
 have k0:decide ((u:Int)≥(most:Int))=false:=by simp;omega
 have w0:=wrap_succ (i:=u) (by omega)
 have x0:((0:Int)<((3:Nat):Int))=True:=by simp
 have x1:((1:Int)<((3:Nat):Int))=True:=by simp
 have x2:((2:Int)<((3:Nat):Int))=True:=by simp
 clear hu hm
 refine en_ Tryz.func63 [.tmp 6,.tmp 7] fun g0 w0 gen hrel hfr hfr' hres=>?_
 have f1:=fresh_ne hfr hd
 have f2:=fresh_ne' hfr hd
 rcases hE with rfl|⟨vc,rfl,we,ie⟩
 all_goals
  first|refine wqT_ ?_|exact wkT_
 all_goals rfl
theorem c_ev5 {d:GoAbs.Id} {most u u1 n:Nat} {t:Tm} {ve w:V} {a b c:V} (hu:u<most) (hm:most≤65536) (hk:t.kind=5) (hE:IsE ve)
  (hA:Turns Tryz.prog env 109 [.ptr d 0,.sl .any (t.args.map Tm.cells),ve] d (mb (u+1) most) (.tup [.agg [intV n,.nili,.nili],.bool true]) (mb u1 most)) (hn:n≤100000):EvT2 d most u u1 false t ve (intV (n+1)):=by
 unfold EvT2 evR mb
 unfold mb at hA
 simp only [intV] at *
 unfold outV
 simp only [Bool.false_eq_true,if_false,Bool.not_false]
 have wn:=wrap_succ (i:=n) (by omega)
 intro h hd
 have k0:decide ((u:Int)≥(most:Int))=false:=by simp;omega
 have w0:=wrap_succ (i:=u) (by omega)
 have x0:((0:Int)<((3:Nat):Int))=True:=by simp
 have x1:((1:Int)<((3:Nat):Int))=True:=by simp
 have x2:((2:Int)<((3:Nat):Int))=True:=by simp
 clear hu hm
 refine en_ Tryz.func63 [.tmp 6,.tmp 7] fun g0 w0 gen hrel hfr hfr' hres=>?_
 have f1:=fresh_ne hfr hd
 have f2:=fresh_ne' hfr hd
 rcases hE with rfl|⟨vc,rfl,we,ie⟩
 all_goals
  exact wkT_
theorem c_ev6 {d:GoAbs.Id} {most u u1 u2:Nat} {t:Tm} {ve w:V} {a b c:V} (hu:u<most) (hm:most≤65536) (hk:t.kind=6) (hE:IsE ve) (haI:IsI a) (hbI:IsI b) (hcI:IsI c)
  (hA:Turns Tryz.prog env 109 [.ptr d 0,.sl .any (t.args.map Tm.cells),ve] d (mb (u+1) most) (.tup [.agg [a,b,c],.bool true]) (mb u1 most)) {o:Bool} (hw:o=false→IsI w) (hT:Turns Tryz.prog env 110 [.ptr d 0,.agg [a,b,c]] d (mb u1 most) (evR o w) (mb u2 most)):EvT2 d most u u2 o t ve (w):=by
 unfold EvT2 evR mb
 unfold mb at hA
 unfold mb evR at hT
 have xw:weak (outV o w)=outV o w:=by
  cases o with
  | true=>rfl
  | false=>obtain ⟨q1,q2,rfl,q3,_⟩:=hw rfl;simp [outV,weak,q3]
 have xi:∀ S,InV S (outV o w)=True:=by
  intro S
  cases o with
  | true=>simp [outV,InV]
  | false=>obtain ⟨q1,q2,rfl,_,q3⟩:=hw rfl;simp [outV,InV,q3]
 generalize outV o w=x at *
 clear hw
 obtain ⟨a1,a2,rfl,aw,ai⟩:=haI
 obtain ⟨b1,b2,rfl,bw,bi⟩:=hbI
 obtain ⟨c1,c2,rfl,cw,ci⟩:=hcI
 intro h hd
 have k0:decide ((u:Int)≥(most:Int))=false:=by simp;omega
 have w0:=wrap_succ (i:=u) (by omega)
 have x0:((0:Int)<((3:Nat):Int))=True:=by simp
 have x1:((1:Int)<((3:Nat):Int))=True:=by simp
 have x2:((2:Int)<((3:Nat):Int))=True:=by simp
 clear hu hm
 refine en_ Tryz.func63 [.tmp 6,.tmp 7] fun g0 w0 gen hrel hfr hfr' hres=>?_
 have f1:=fresh_ne hfr hd
 have f2:=fresh_ne' hfr hd
 rcases hE with rfl|⟨vc,rfl,we,ie⟩
 all_goals
  exact wkT_
theorem c_ev7 {d:GoAbs.Id} {most u u1:Nat} {t:Tm} {ve w:V} {a b c:V} (hu:u<most) (hm:most≤65536) (hk:t.kind=7) (hE:IsE ve)
  (hA:Turns Tryz.prog env 109 [.ptr d 0,.sl .any (t.args.map Tm.cells),ve] d (mb (u+1) most) (.tup [.agg [.nili,.nili,.nili],.bool true]) (mb u1 most)):EvT2 d most u u1 false t ve (.iface 156 .nilp):=by
 unfold EvT2 evR mb
 unfold mb at hA
 unfold outV
 simp only [Bool.false_eq_true,if_false,Bool.not_false]
 intro h hd
 have k0:decide ((u:Int)≥(most:Int))=false:=by simp;omega
 have w0:=wrap_succ (i:=u) (by omega)
 have x0:((0:Int)<((3:Nat):Int))=True:=by simp
 have x1:((1:Int)<((3:Nat):Int))=True:=by simp
 have x2:((2:Int)<((3:Nat):Int))=True:=by simp
 clear hu hm
 refine en_ Tryz.func63 [.tmp 6,.tmp 7] fun g0 w0 gen hrel hfr hfr' hres=>?_
 have f1:=fresh_ne hfr hd
 have f2:=fresh_ne' hfr hd
 rcases hE with rfl|⟨vc,rfl,we,ie⟩
 all_goals
  exact wkT_
theorem c_ev8 {d:GoAbs.Id} {most u u1 n:Nat} {t:Tm} {ve w:V} {a b c:V} (hu:u<most) (hm:most≤65536) (hk:t.kind=8) (hE:IsE ve) {l:List Nat}
  (hA:Turns Tryz.prog env 109 [.ptr d 0,.sl .any (t.args.map Tm.cells),ve] d (mb (u+1) most) (.tup [.agg [intV n,.iface 156 (cellV l),.nili],.bool true]) (mb u1 most)):EvT2 d most u u1 false t ve (.iface 156 (.el [.int .i64 n,cellV l] 0)):=by
 unfold EvT2 evR mb
 unfold mb at hA
 simp only [intV] at *
 unfold outV
 simp only [Bool.false_eq_true,if_false,Bool.not_false]
 have hl1:=cellV_weak l
 have hl2:∀ S,InV S (cellV l)=True:=fun S=>eq_true (cellV_in l)
 have hl3:cellV l=.nilp∨∃ c,cellV l=.el c 0∧weakL c=c:=by
  cases l with
  | nil=>exact .inl rfl
  | cons x l=>exact .inr ⟨_,rfl,by simp [weakL,weak,cellV_weak]⟩
 generalize cellV l=cv at *
 intro h hd
 have k0:decide ((u:Int)≥(most:Int))=false:=by simp;omega
 have w0:=wrap_succ (i:=u) (by omega)
 have x0:((0:Int)<((3:Nat):Int))=True:=by simp
 have x1:((1:Int)<((3:Nat):Int))=True:=by simp
 have x2:((2:Int)<((3:Nat):Int))=True:=by simp
 clear hu hm
 refine en_ Tryz.func63 [.tmp 6,.tmp 7] fun g0 w0 gen hrel hfr hfr' hres=>?_
 have f1:=fresh_ne hfr hd
 have f2:=fresh_ne' hfr hd
 rcases hE with rfl|⟨vc,rfl,we,ie⟩
 all_goals rcases hl3 with rfl|⟨q,rfl,qw⟩
 all_goals try (have hl4:∀ S,InL S q=True:=fun S=>by have:=hl2 S;rwa [InV] at this)
 all_goals try clear hl1 hl2
 all_goals
  exact wkT_
theorem c_ev9 {d:GoAbs.Id} {most u u1 u2:Nat} {t:Tm} {ve w:V} {a b c:V} (hu:u<most) (hm:most≤65536) (hk:t.kind=9) (hE:IsE ve) (haI:IsI a) (hbI:IsI b) (hcI:IsI c)
  (hA:Turns Tryz.prog env 109 [.ptr d 0,.sl .any (t.args.map Tm.cells),ve] d (mb (u+1) most) (.tup [.agg [a,b,c],.bool true]) (mb u1 most)) {o:Bool} (hw:o=false→IsI w) (hT:Turns Tryz.prog env 111 [.ptr d 0,.agg [a,b,c]] d (mb u1 most) (evR o w) (mb u2 most)):EvT2 d most u u2 o t ve (w):=by
 unfold EvT2 evR mb
 unfold mb at hA
 unfold mb evR at hT
 have xw:weak (outV o w)=outV o w:=by
  cases o with
  | true=>rfl
  | false=>obtain ⟨q1,q2,rfl,q3,_⟩:=hw rfl;simp [outV,weak,q3]
 have xi:∀ S,InV S (outV o w)=True:=by
  intro S
  cases o with
  | true=>simp [outV,InV]
  | false=>obtain ⟨q1,q2,rfl,_,q3⟩:=hw rfl;simp [outV,InV,q3]
 generalize outV o w=x at *
 clear hw
 obtain ⟨a1,a2,rfl,aw,ai⟩:=haI
 obtain ⟨b1,b2,rfl,bw,bi⟩:=hbI
 obtain ⟨c1,c2,rfl,cw,ci⟩:=hcI
 intro h hd
 have k0:decide ((u:Int)≥(most:Int))=false:=by simp;omega
 have w0:=wrap_succ (i:=u) (by omega)
 have x0:((0:Int)<((3:Nat):Int))=True:=by simp
 have x1:((1:Int)<((3:Nat):Int))=True:=by simp
 have x2:((2:Int)<((3:Nat):Int))=True:=by simp
 clear hu hm
 refine en_ Tryz.func63 [.tmp 6,.tmp 7] fun g0 w0 gen hrel hfr hfr' hres=>?_
 have f1:=fresh_ne hfr hd
 have f2:=fresh_ne' hfr hd
 rcases hE with rfl|⟨vc,rfl,we,ie⟩
 all_goals
  exact wkT_
theorem c_ev10 {d:GoAbs.Id} {most u u1:Nat} {t:Tm} {ve w:V} {a b c:V} (hu:u<most) (hm:most≤65536) (hk:t.kind=10) (hE:IsE ve) (haI:IsI a) (hbI:IsI b)
  (hA:Turns Tryz.prog env 109 [.ptr d 0,.sl .any (t.args.map Tm.cells),ve] d (mb (u+1) most) (.tup [.agg [a,b,.nili],.bool true]) (mb u1 most)):EvT2 d most u u1 false t ve (.iface 162 (.el [a,b] 0)):=by
 unfold EvT2 evR mb
 unfold mb at hA
 unfold outV
 simp only [Bool.false_eq_true,if_false,Bool.not_false]
 obtain ⟨a1,a2,rfl,aw,ai⟩:=haI
 obtain ⟨b1,b2,rfl,bw,bi⟩:=hbI
 intro h hd
 have k0:decide ((u:Int)≥(most:Int))=false:=by simp;omega
 have w0:=wrap_succ (i:=u) (by omega)
 have x0:((0:Int)<((3:Nat):Int))=True:=by simp
 have x1:((1:Int)<((3:Nat):Int))=True:=by simp
 have x2:((2:Int)<((3:Nat):Int))=True:=by simp
 clear hu hm
 refine en_ Tryz.func63 [.tmp 6,.tmp 7] fun g0 w0 gen hrel hfr hfr' hres=>?_
 have f1:=fresh_ne hfr hd
 have f2:=fresh_ne' hfr hd
 rcases hE with rfl|⟨vc,rfl,we,ie⟩
 all_goals
  exact wkT_
theorem c_ev11 {d:GoAbs.Id} {most u u1:Nat} {t:Tm} {ve w:V} {a b c:V} (hu:u<most) (hm:most≤65536) (hk:t.kind=11) (hE:IsE ve) (haI:IsI a) (hbI:IsI b)
  (hA:Turns Tryz.prog env 109 [.ptr d 0,.sl .any (t.args.map Tm.cells),ve] d (mb (u+1) most) (.tup [.agg [.iface 162 (.el [a,b] 0),.nili,.nili],.bool true]) (mb u1 most)):EvT2 d most u u1 false t ve (a):=by
 unfold EvT2 evR mb
 unfold mb at hA
 unfold outV
 simp only [Bool.false_eq_true,if_false,Bool.not_false]
 obtain ⟨a1,a2,rfl,aw,ai⟩:=haI
 obtain ⟨b1,b2,rfl,bw,bi⟩:=hbI
 intro h hd
 have k0:decide ((u:Int)≥(most:Int))=false:=by simp;omega
 have w0:=wrap_succ (i:=u) (by omega)
 have x0:((0:Int)<((3:Nat):Int))=True:=by simp
 have x1:((1:Int)<((3:Nat):Int))=True:=by simp
 have x2:((2:Int)<((3:Nat):Int))=True:=by simp
 clear hu hm
 refine en_ Tryz.func63 [.tmp 6,.tmp 7] fun g0 w0 gen hrel hfr hfr' hres=>?_
 have f1:=fresh_ne hfr hd
 have f2:=fresh_ne' hfr hd
 rcases hE with rfl|⟨vc,rfl,we,ie⟩
 all_goals
  exact wkT_
theorem c_ev12 {d:GoAbs.Id} {most u u1:Nat} {t:Tm} {ve w:V} {a b c:V} (hu:u<most) (hm:most≤65536) (hk:t.kind=12) (hE:IsE ve) (haI:IsI a) (hbI:IsI b)
  (hA:Turns Tryz.prog env 109 [.ptr d 0,.sl .any (t.args.map Tm.cells),ve] d (mb (u+1) most) (.tup [.agg [.iface 162 (.el [a,b] 0),.nili,.nili],.bool true]) (mb u1 most)):EvT2 d most u u1 false t ve (b):=by
 unfold EvT2 evR mb
 unfold mb at hA
 unfold outV
 simp only [Bool.false_eq_true,if_false,Bool.not_false]
 obtain ⟨a1,a2,rfl,aw,ai⟩:=haI
 obtain ⟨b1,b2,rfl,bw,bi⟩:=hbI
 intro h hd
 have k0:decide ((u:Int)≥(most:Int))=false:=by simp;omega
 have w0:=wrap_succ (i:=u) (by omega)
 have x0:((0:Int)<((3:Nat):Int))=True:=by simp
 have x1:((1:Int)<((3:Nat):Int))=True:=by simp
 have x2:((2:Int)<((3:Nat):Int))=True:=by simp
 clear hu hm
 refine en_ Tryz.func63 [.tmp 6,.tmp 7] fun g0 w0 gen hrel hfr hfr' hres=>?_
 have f1:=fresh_ne hfr hd
 have f2:=fresh_ne' hfr hd
 rcases hE with rfl|⟨vc,rfl,we,ie⟩
 all_goals
  exact wkT_
theorem c_ev13 {d:GoAbs.Id} {most u u1:Nat} {t:Tm} {ve w:V} {a b c:V} (hu:u<most) (hm:most≤65536) (hk:t.kind=13) (hE:IsE ve)
  (hA:Turns Tryz.prog env 109 [.ptr d 0,.sl .any (t.args.map Tm.cells),ve] d (mb (u+1) most) (.tup [.agg [.nili,.nili,.nili],.bool true]) (mb u1 most)):EvT2 d most u u1 false t ve (.iface 166 (.agg [])):=by
 unfold EvT2 evR mb
 unfold mb at hA
 unfold outV
 simp only [Bool.false_eq_true,if_false,Bool.not_false]
 intro h hd
 have k0:decide ((u:Int)≥(most:Int))=false:=by simp;omega
 have w0:=wrap_succ (i:=u) (by omega)
 have x0:((0:Int)<((3:Nat):Int))=True:=by simp
 have x1:((1:Int)<((3:Nat):Int))=True:=by simp
 have x2:((2:Int)<((3:Nat):Int))=True:=by simp
 clear hu hm
 refine en_ Tryz.func63 [.tmp 6,.tmp 7] fun g0 w0 gen hrel hfr hfr' hres=>?_
 have f1:=fresh_ne hfr hd
 have f2:=fresh_ne' hfr hd
 rcases hE with rfl|⟨vc,rfl,we,ie⟩
 all_goals
  exact wkT_
open Go.RowKit Go.Shelf
theorem back_go (l pb po b off len cap:Nat) (elm:Nat→Value) (hreach:len * 8≤140737488351232) (K:Nat→World→Prop) (Kx:World→Prop)
  (hr:∀ i W,i≤len→K i W→W.cell? ⟨pb,po,none⟩=some (.slice (some ⟨b,off,none⟩) len cap)∧∀ j,j<len→W.cell? ⟨b,off+j,none⟩=some (elm j))
  (hY:∀ (i:Nat) W,i<len→K (i+1) W→YieldAt Fence.wide (0 - 1) Tryz.prog l #[.int .i64 (i:Int),elm i] W fun e W'=>(e=.returned (.bool true)∧K i W')∨(e=.returned (.bool false)∧Kx W'))
  (W:World) (h0:K len W) :
  CallsIn Fence.wide 0 Tryz.prog 183 #[.func (.yield l) #[] #[],.pointer (some ⟨pb,po,none⟩)] W fun e W'=>(∃ v,e=.returned v)∧(K 0 W'∨Kx W'):=by
 refine callsIn_of_wp Tryz.func183 rfl trivial ?_ rfl
 simp only [Tryz.ntmps183,List.size_toArray,List.length_cons,List.length_nil,Nat.reduceAdd,Nat.reduceSub,Array.replicate_succ,Array.replicate_zero,List.push_toArray,List.append_toArray,List.nil_append,List.cons_append]
 obtain ⟨hBs,hc⟩:=hr _ _ (Nat.le_refl _) h0
 gi_wp2
 gi_loopw [3] (fun i wr=>∃ k:Nat,k≤len∧i=.int .i64 ((k:Int) - 1)∧K k wr) (fun i _=>(intOf i+1).toNat)
 case atStart=>exact ⟨len,Nat.le_refl _,rfl,h0⟩
 case round =>
  obtain ⟨k,hk,rfl,hJs⟩:=hrel
  obtain ⟨hBs',hc'⟩:=hr _ _ hk hJs
  rcases k with _|k
  ·gi_wp2
   go_end0
   exact ⟨⟨_,rfl⟩,.inl hJs⟩
  ·have hcx:=hc' k (by omega)
   obtain ⟨fn,tmps,assign,body,hy,hR⟩:=hY k wr (by omega) hJs
   rw [show (((k+1:Nat):Int) - 1)=(k:Int) by omega]
   gi_wp2
   refine ⟨rfl,hR.mono ?_⟩
   rintro e W3 (⟨rfl,hJ3⟩|⟨rfl,hJx3⟩)
   ·gi_wp2
    go_roundw
    case rel=>exact ⟨k,by omega,rfl,hJ3⟩
    case measure=>simp [intOf]
   ·gi_wp2
    refine bodyPost_ret (results_none rfl _ _ _) rfl ?_
    exact ⟨⟨_,rfl⟩,.inr hJx3⟩
theorem back_nil (l pb po:Nat) (a:Option Addr) (cap:Nat) (W:World) (Q:World→Prop) (hBs:W.cell? ⟨pb,po,none⟩=some (.slice a 0 cap)) (h0:Q W) :
  CallsIn Fence.wide 0 Tryz.prog 183 #[.func (.yield l) #[] #[],.pointer (some ⟨pb,po,none⟩)] W fun e W'=>(∃ v,e=.returned v)∧Q W':=by
 refine callsIn_of_wp Tryz.func183 rfl trivial ?_ rfl
 simp only [Tryz.ntmps183,List.size_toArray,List.length_cons,List.length_nil,Nat.reduceAdd,Nat.reduceSub,Array.replicate_succ,Array.replicate_zero,List.push_toArray,List.append_toArray,List.nil_append,List.cons_append]
 gi_wp2
 gi_loopw [3] (fun i wr=>i=.int .i64 (-1)∧Q wr) (fun _ _=>0)
 case atStart=>exact ⟨rfl,h0⟩
 case round =>
  obtain ⟨rfl,hJs⟩:=hrel
  gi_wp2
  go_end0
  exact ⟨⟨_,rfl⟩,hJs⟩
theorem back_ok:BackOk Tryz.prog 183 where
 call:=⟨_,Tryz.func183,rfl,by kernel_rfl⟩
 go:=fun l pb po a len cap elm K Kx hreach ha hr hY W h0=>by
  by_cases hl:len=0
  ·subst hl
   exact (back_nil l pb po a cap W (K 0) (hr 0 W (Nat.le_refl _) h0).1 h0).mono fun e w' h=>⟨h.1,.inl h.2⟩
  ·obtain ⟨b,off,rfl⟩:=ha hl
   exact back_go l pb po b off len cap elm hreach K Kx (fun i W hi hK=>⟨(hr i W hi hK).1,fun j hj=>(hr i W hi hK).2 b off rfl j hj⟩) hY W h0
theorem c_backward {c:Cap} {es:List (List V)}:Pure Tryz.prog env 154 [.sl c es] (.fn (.func 183) [] [.el [.sl .any es] 0]):=by
 refine pure_boxFn (ty:=216) ⟨_,Tryz.func154,rfl,by kernel_rfl⟩ fun a len cap w=>callsIn_wide.1 (?_:CallsIn Fence.wide 0 _ _ _ _ _)
 refine callsIn_of_wp (n:=0) Tryz.func154 rfl trivial ?_ rfl
 simp only [Tryz.ntmps154,List.size_toArray,List.length_cons,List.length_nil,Nat.reduceAdd,Nat.reduceSub,Array.replicate_succ,Array.replicate_zero,List.push_toArray,List.append_toArray,List.nil_append,List.cons_append]
 gi_wp2
 go_ret
 exact ⟨rfl,rfl⟩
def cellI (l:List Nat):V:=.iface 156 (cellV l)
def sufV:List Nat→List V
 | []=>[]
 | x::l=>cellV (x::l)::sufV l
theorem sufV_len:∀ l,(sufV l).length=l.length
 | []=>rfl
 | x::l=>by simp [sufV,sufV_len l]
theorem sufV_get:∀ (l:List Nat) (i:Nat),i<l.length→(sufV l)[i]? = some (cellV (l.drop i))
 | [],i,h=>by simp at h
 | x::l,0,_=>rfl
 | x::l,i+1,h=>by simp only [sufV,List.getElem?_cons_succ,List.drop_succ_cons];exact sufV_get l i (by simpa using h)
theorem sufV_w:∀ l,weakL (sufV l)=sufV l
 | []=>rfl
 | x::l=>by simp [sufV,weakL,cellV_weak,sufV_w l]
theorem sufV_rows (l:List Nat):weakLL ((sufV l).map fun v=>[v])=(sufV l).map fun v=>[v]:=by
 have h:=sufV_w l
 rw [weakL_eq] at h
 rw [weakLL_eq,List.map_map]
 conv=>rhs;rw [← h]
 simp [weakL]
theorem cell_split {l:List Nat} {i:Nat} (h:i<l.length):∃ x,l.drop i=x::l.drop (i+1)∧l.getD i 0=x∧cellV (l.drop i)=.el [.int .i64 x,cellV (l.drop (i+1))] 0:=by
 refine ⟨l[i],List.drop_eq_getElem_cons h,by simp [h],?_⟩
 rw [List.drop_eq_getElem_cons h,cellV]
theorem cellV_cases (l:List Nat):cellV l=.nilp∨∃ c,cellV l=.el c 0∧weakL c=c∧∀ S,InL S c=True:=by
 cases l with
 | nil=>exact .inl rfl
 | cons x l=>exact .inr ⟨_,rfl,by simp [weakL,weak,cellV_weak],fun S=>by simp [InL,InV,cellV_in]⟩
inductive FoldS (d:GoAbs.Id) (most:Nat) (sv:V) (l:List Nat):Nat→Nat→V→Nat→Bool→V→Prop
 | nil {u:Nat} {rv:V}:FoldS d most sv l 0 u rv u false rv
 | stop {i u u':Nat} {rv w:V}:CallS d most u sv [intV (l.getD i 0),cellI (l.drop (i+1)),rv] u' true w→FoldS d most sv l (i+1) u rv u' true w
 | step {i u u1 u':Nat} {rv rv1 w:V} {o:Bool}:CallS d most u sv [intV (l.getD i 0),cellI (l.drop (i+1)),rv] u1 false rv1→IsI rv1→FoldS d most sv l i u1 rv1 u' o w→FoldS d most sv l (i+1) u rv u' o w
theorem FoldS.cons {d:GoAbs.Id} {most i u u':Nat} {sv rv w:V} {l:List Nat} {o:Bool} (h:FoldS d most sv l (i+1) u rv u' o w) :
  (o=true∧CallS d most u sv [intV (l.getD i 0),cellI (l.drop (i+1)),rv] u' true w) ∨
  ∃ u1 rv1,CallS d most u sv [intV (l.getD i 0),cellI (l.drop (i+1)),rv] u1 false rv1∧IsI rv1∧FoldS d most sv l i u1 rv1 u' o w:=by
 cases h with
 | stop h=>exact .inl ⟨rfl,h⟩
 | step h1 h2 h3=>exact .inr ⟨_,_,h1,h2,h3⟩
theorem FoldS.none {d:GoAbs.Id} {most u u':Nat} {sv rv w:V} {l:List Nat} {o:Bool} (h:FoldS d most sv l 0 u rv u' o w):u'=u∧o=false∧w=rv:=by cases h;exact ⟨rfl,rfl,rfl⟩
theorem c_foldS {d:GoAbs.Id} {most u u':Nat} {zv sv w:V} {l:List Nat} {o:Bool} (h0:FoldS d most sv l l.length u zv u' o w) (hz:IsI zv) (hs:IsI sv) (hl:l.length≤100000) :
  Turns Tryz.prog env 111 [.ptr d 0,.agg [zv,sv,cellI l]] d (mb u most) (evR o w) (mb u' most):=by
 intro h hd
 unfold mb at hd ⊢
 have x0:((0:Int)<((3:Nat):Int))=True:=by simp
 have x1:((1:Int)<((3:Nat):Int))=True:=by simp
 have x2:((2:Int)<((3:Nat):Int))=True:=by simp
 have hsI:=hs
 have hzI:=hz
 obtain ⟨s1,s2,rfl,ws,is⟩:=hs
 obtain ⟨z1,z2,rfl,wz,iz⟩:=hz
 unfold cellI
 refine ret_of_walkX Tryz.func111 rfl (by kernel_rfl) fun g0 w0 gen hrel hfr=>?_
 have hfr':∀ r i,h ⟨gen,r,i⟩=none:=fresh_of hfr
 have hres:Tryz.f111.results.toList=[.tmp 4,.tmp 5]:=rfl
 have hl0:∀ b,w0.heap.size≤b→g0.lim b=0:=hrel.limnew
 have f1:=fresh_ne hfr hd
 have f2:=fresh_ne' hfr hd
 refine ARX_pieces ?_
 simp only [flatC_seq,flatC_region,flatC_block,flatC_ret,List.append_assoc,List.cons_append,List.nil_append,List.map_cons,List.map_nil,List.append_nil]
 refine ARX_of_AR (J:=fun σ=>∃ gn,gen<gn∧σ.tm 2=.ptr ⟨gen,0,0⟩ 0∧σ.tm 3=.ptr ⟨gen,0,1⟩ 0∧σ.tm 8=.ptr ⟨gn,6,2⟩ 0∧σ.tm 9=.ptr ⟨gn,6,3⟩ 0 ∧
  σ.tm 28=.fn (.func 183) [] [.el [.sl .any ((sufV l).map fun v=>[v])] 0]∧AgreeBut d h σ.h∧σ.h d=some (.box [.int .i64 u,.int .i64 most]) ∧
  σ.h ⟨gen,0,0⟩=some (.box [.ptr d 0])∧σ.h ⟨gen,0,1⟩=some (.box [.iface z1 z2,.iface s1 s2,.iface 156 (cellV l)])∧σ.h ⟨gn,6,2⟩=some (.box [.iface z1 z2])∧σ.h ⟨gn,6,3⟩=some (.box [.bool true]))
  [_,_,_,_,_,_] (by kernel_rfl) follows ?_ ?_
 ·clear h0 hsI hzI
  simp only [List.map_cons,List.map_nil,List.cons_append,List.nil_append]
  have hcl:=cellV_cases l
  refine wq_ ?_
  refine AR_loop_nat (fun i σ=>σ.tm 2=.ptr ⟨gen,0,0⟩ 0∧σ.tm 3=.ptr ⟨gen,0,1⟩ 0∧σ.tm 7=cellV (l.drop i)∧i≤l.length∧AgreeBut d h σ.h∧σ.h d=some (.box [.int .i64 u,.int .i64 most]) ∧
   σ.h ⟨gen,0,0⟩=some (.box [.ptr d 0])∧σ.h ⟨gen,0,1⟩=some (.box [.iface z1 z2,.iface s1 s2,.iface 156 (cellV l)])∧OwnS h σ.h (σ.tm 6) 1 (((sufV l).take i).map fun v=>[v])) l.length ?_ ?_
  ·simp only [go_sem, *]
   exact ⟨by repeat (first|exact AgreeBut.refl _ _|refine AgreeBut.new ?_ (hfr' _ _)),.inl rfl⟩
  intro i σ hi ⟨j2,j3,j7,ji,jA,jd,jb0,jb1,j6⟩
  refine AR_gen2 (fun gn hgl hgn=>?_)
  have hgf:=fresh_of hgn
  have hgf0:=agreeBut_fresh' hd jA hgf (fun r i e=>by have:=hfr d (by rw [hd];simp);rw [e] at this;simp at this;omega)
  have eg1:=gen_lt hgl
  have eg2:=gen_lt' hgl
  have fd:=fresh_ne2 hfr hd hgl
  have fe:=fresh_ne2' hfr hd hgl
  clear hgn hcl
  rcases Nat.lt_or_ge i l.length with hlt|hge
  ·obtain ⟨x,hx1,hx2,hx3⟩:=cell_split hlt
   have hcl:=cellV_cases (l.drop (i+1))
   rw [hx3] at j7
   have hse:((sufV l).take (i+1)).map (fun v=>[v])=((sufV l).take i).map (fun v=>[v])++[[.el [.int .i64 x,cellV (l.drop (i+1))] 0]]:=by
    rw [List.take_add_one,sufV_get l i hlt,hx3];simp
   generalize hes:((sufV l).take i).map (fun v=>[v])=es at j6 hse
   have hel:es.length=i:=by rw [← hes];simp [sufV_len];omega
   have hal:es.all (fun e=>e.length==1)=true:=by rw [← hes,List.all_eq_true];intro e he;obtain ⟨v,_,rfl⟩:=List.mem_map.1 he;rfl
   clear hes hx3 hx1 hx2
   repeat' (first
    |(refine ⟨?_,?_⟩;focus ((repeat' (first|refine ⟨?_,?_⟩|refine .inr ?_));all_goals kernel_rfl))
    |(refine okE_app_own j6 (by repeat (first|exact Keeps.refl _|refine Keeps.new ?_ (hgf _ _)|refine Keeps.new ?_ (hfr' _ _)|refine Keeps.box ?_ rfl|refine Keeps.box ?_ (by simp only [go_sem, *]))) rfl (by simp only [go_sem, *]<;>omega) (by first|exact hgf0 _ _|exact hfr' _ _) (by simp only [go_sem, *]) (by intro hd;cases hd) ?_;intro v' h' log' jO jK jAg jAb jF;simp only [go_sem, *])
    | (first|refine wp rfl ?_|refine spt rfl ?_|refine spf rfl ?_|(refine spl (fun hc=>?_) fun hc=>?_)<;>(try rw [beq_iff_eq] at hc)<;>try simp only [hc]|(refine gs (fun hb=>?_) fun hb=>?_)<;>try simp only [Bool.not_true,Bool.not_false] at hb|refine AR_inv ?_)<;>try simp only [go_sem, *])
   exact hlt
  ·rw [show l.drop i=[] from List.drop_eq_nil_of_le hge] at j7
   unfold cellV at j7
   have hse:((sufV l).take i).map (fun v=>[v])=(sufV l).map (fun v=>[v]):=by rw [List.take_of_length_le (by rw [sufV_len];exact hge)]
   rw [hse] at j6
   obtain ⟨cO,j6⟩:=j6.val
   have hsr:=sufV_rows l
   repeat' (first
    |(refine ⟨?_,?_⟩;focus ((repeat' (first|refine ⟨?_,?_⟩|refine .inr ?_));all_goals kernel_rfl))
    | (first|refine wp rfl ?_|refine spt rfl ?_|refine spf rfl ?_|(refine spl (fun hc=>?_) fun hc=>?_)<;>(try rw [beq_iff_eq] at hc)<;>try simp only [hc]|(refine gs (fun hb=>?_) fun hb=>?_)<;>try simp only [Bool.not_true,Bool.not_false] at hb|refine cp c_backward ?_|refine AR_inv ?_)<;>try simp only [go_sem, *])
   exact ⟨gn,hgl,rfl,rfl,by repeat (first|exact jA|refine AgreeBut.new ?_ (hgf0 _ _)|refine AgreeBut.set ?_),by simp,by simp⟩
 ·clear x0 x2
  rintro σ ⟨gn,hgl,j2,j3,j8,j9,j28,jA,jd,jb0,jb1,jb2,jb3⟩
  have eg1:=gen_lt hgl
  have eg2:=gen_lt' hgl
  have fd:=fresh_ne2 hfr hd hgl
  have fe:=fresh_ne2' hfr hd hgl
  have hgn:∀ r i,h ⟨gn,r,i⟩=none:=fun r i=>Classical.byContradiction fun e=>by have:=hfr _ e;simp at this;omega
  have k1:∀ q j q' j',(({ gen:=gen,reg:=q,op:=j }:GoAbs.Id)={ gen:=gn,reg:=q',op:=j' })=False:=fun _ _ _ _=>by simp;omega
  refine ARX_block ?_
  refine ARX_back (vs:=sufV l) back_ok j28 (by rw [sufV_len];omega) (of_decide_eq_true (by kernel_rfl)) (of_decide_eq_true (by kernel_rfl))
   (fun i hi=>AgreeBut d h hi∧hi ⟨gen,0,0⟩=some (.box [.ptr d 0])∧hi ⟨gen,0,1⟩=some (.box [.iface z1 z2,.iface s1 s2,.iface 156 (cellV l)])∧i≤l.length ∧
    ∃ (uj:Nat) (rj:V) (oj:Bool),hi d=some (.box [.int .i64 uj,.int .i64 most])∧hi ⟨gn,6,2⟩=some (.box [rj])∧hi ⟨gn,6,3⟩=some (.box [.bool (!oj)])∧(oj=true→rj=.nili∧u'=uj∧o=true) ∧
     (oj=false→IsI rj∧FoldS d most (.iface s1 s2) l i uj rj u' o w))
   (fun id hi=>id=some 2∧AgreeBut d h hi∧hi d=some (.box [.int .i64 u',.int .i64 most])∧hi ⟨gn,6,2⟩=some (.box [.nili])∧hi ⟨gn,6,3⟩=some (.box [.bool false])∧o=true) ?_ ?_ ?_ ?_
  ·rw [sufV_len]
   exact ⟨jA,jb0,jb1,Nat.le_refl _,u,_,false,jd,jb2,jb3,(fun e=>by cases e),fun _=>⟨hzI,h0⟩⟩
  ·
   intro xa xb gr i v hi oka okb hgr hlt hv ⟨jA,jb0,jb1,ji,uj,rj,oj,jd,jb2,jb3,jt,jf⟩ mid fin finx
   rw [sufV_len] at hlt
   obtain ⟨x,hx1,hx2,hx3⟩:=cell_split hlt
   have hv':=sufV_get l i hlt
   rw [hv',hx3] at hv
   cases hv
   clear hv' hx3 hx1 j28
   refine ARX_region oka follows (by kernel_rfl) ?_
   simp only [go_sem, *]
   refine mid _ _ ?_
   clear mid
   refine ARX_gen (fun gm hgm=>?_)
   have hgf:∀ r i,hi ⟨gm,r,i⟩=none:=fresh_of hgm
   have hgf0:=agreeBut_fresh' hd jA hgf (fun r i e=>by have:=hfr d (by rw [hd];simp);have:=hgm ⟨gen,0,0⟩ (by simp [jb0]);rw [e] at *;simp at *;omega)
   have hg1:gen<gm:=hgm ⟨gen,0,0⟩ (by simp [jb0])
   have hg2:gn<gm:=hgm ⟨gn,6,2⟩ (by simp [jb2])
   have e1:=gen_lt hg1
   have e2:=gen_lt' hg1
   have e3:=gen_lt hg2
   have e4:=gen_lt' hg2
   clear hgm
   cases oj with
   | true =>
    obtain ⟨rfl,rfl,rfl⟩:=jt rfl
    clear jt jf fin
    simp only [Bool.not_true] at jb3
    replace finx:=fun gn' σ' h=>finx gn' (some 2) σ' ⟨rfl,h⟩
    simp only [jumpE] at finx
    repeat' (first
     |(refine ⟨?_,?_⟩;focus ((repeat' (first|refine ⟨?_,?_⟩|refine .inr ?_));all_goals kernel_rfl))
     |exact agb (by assumption)
     | (first|refine ARX_seq ?_|refine ARX_region okb follows (by kernel_rfl) ?_|refine ARX_condP ?_|refine ARX_block ?_|refine ARX_exit ?_|refine ARX_skip ?_|refine ARX_ret ?_|refine ARX_block_end ?_|refine ARX_block_pass (by decide) ?_|refine ARX_block_hit ?_|refine ARX_code_exit ?_|refine spt rfl ?_|refine spf rfl ?_)<;>try simp only [go_sem, *])
   | false =>
    obtain ⟨jI,jk⟩:=jf rfl
    clear jt jf finx
    simp only [Bool.not_false] at jb3
    have hcw:=cellV_weak (l.drop (i+1))
    obtain ⟨r1,r2,rfl,wr,ir⟩:=id jI
    rcases jk.cons with ⟨rfl,hk⟩|⟨u1,rv1,hk,hI1,hr1⟩
    ·have hT:=c_callS' hk (by simp) (fun e=>by cases e) hsI
     rw [hx2] at hT
     unfold evR outV mb intV cellI at hT
     simp only [if_true,Bool.not_true,List.map_cons,List.map_nil] at hT
     clear jk hk hsI jI h0 hzI
     repeat' (first
      |(refine ⟨?_,?_⟩;focus ((repeat' (first|refine ⟨?_,?_⟩|refine .inr ?_));all_goals kernel_rfl))
      |exact agb (by assumption)
      | (first|refine ARX_seq ?_|refine ARX_region okb follows (by kernel_rfl) ?_|refine ARX_condP ?_|refine ARX_block ?_|refine ARX_exit ?_|refine ARX_skip ?_|refine ARX_ret ?_|refine ARX_block_end ?_|refine ARX_block_pass (by decide) ?_|refine ARX_block_hit ?_|refine ARX_code_exit ?_|refine spt rfl ?_|refine spf rfl ?_|(refine ct (hT) ?_ ?_;focus ((simp only [go_sem, *]<;>rfl);done)))<;>try simp only [go_sem, *])
     refine fin _ _ ⟨by repeat (first|exact jA|refine AgreeBut.new ?_ (hgf0 _ _)|refine AgreeBut.new ?_ (hgn _ _)|refine AgreeBut.set ?_),by simp only [go_sem, *],by simp only [go_sem, *],by omega,u',_,true,by simp only [go_sem, *],by simp only [go_sem, *]<;>rfl,by simp only [go_sem, *]<;>rfl,(fun _=>⟨rfl,rfl,rfl⟩),fun e=>by cases e⟩
    ·have hT:=c_callS' hk (by simp) (fun _=>hI1) hsI
     rw [hx2] at hT
     unfold evR outV mb intV cellI at hT
     simp only [Bool.false_eq_true,if_false,Bool.not_false,List.map_cons,List.map_nil] at hT
     clear jk hk hsI jI h0 hzI
     obtain ⟨q1,q2,rfl,wq,iq⟩:=id hI1
     repeat' (first
      |(refine ⟨?_,?_⟩;focus ((repeat' (first|refine ⟨?_,?_⟩|refine .inr ?_));all_goals kernel_rfl))
      |exact agb (by assumption)
      | (first|refine ARX_seq ?_|refine ARX_region okb follows (by kernel_rfl) ?_|refine ARX_condP ?_|refine ARX_block ?_|refine ARX_exit ?_|refine ARX_skip ?_|refine ARX_ret ?_|refine ARX_block_end ?_|refine ARX_block_pass (by decide) ?_|refine ARX_block_hit ?_|refine ARX_code_exit ?_|refine spt rfl ?_|refine spf rfl ?_|(refine ct (hT) ?_ ?_;focus ((simp only [go_sem, *]<;>rfl);done)))<;>try simp only [go_sem, *])
     refine fin _ _ ⟨by repeat (first|exact jA|refine AgreeBut.new ?_ (hgf0 _ _)|refine AgreeBut.new ?_ (hgn _ _)|refine AgreeBut.set ?_),by simp only [go_sem, *],by simp only [go_sem, *],by omega,u1,_,false,by simp only [go_sem, *],by simp only [go_sem, *]<;>rfl,by simp only [go_sem, *]<;>rfl,(fun e=>by cases e),fun _=>⟨hI1,hr1⟩⟩
  ·rintro D h' ⟨jA,jb0,jb1,ji,uj,rj,oj,jd,jb2,jb3,jt,jf⟩
   have okD:=xD_ok ⟨Tryz.prog,env,Tryz.f111.ntmps,Tryz.f111,g0,w0,h,evR o w,hset h d (.box [.int .i64 u',.int .i64 most])⟩ D
   clear j28 j2 j3 jb0 jb1
   cases oj with
   | true =>
    obtain ⟨rfl,rfl,rfl⟩:=jt rfl
    clear jt jf hsI hzI h0
    simp only [Bool.not_true] at jb3
    unfold evR outV
    simp only [if_true,Bool.not_true]
    repeat' (first
     |(refine ⟨?_,?_⟩;focus ((repeat' (first|refine ⟨?_,?_⟩|refine .inr ?_));all_goals kernel_rfl))
     |exact agb (by assumption)
     | (first|refine ARX_seq ?_|refine ARX_region okD follows (by kernel_rfl) ?_|refine ARX_condP ?_|refine ARX_block ?_|refine ARX_exit ?_|refine ARX_skip ?_|refine ARX_ret ?_|refine ARX_block_end ?_|refine ARX_block_pass (by decide) ?_|refine ARX_block_hit ?_|refine ARX_code_exit ?_|refine spt rfl ?_|refine spf rfl ?_|refine ARX_doneD follows hl0 ?_|refine finT hrel hd ?_ ?_ ?_ ?_ ?_)<;>try simp only [go_sem, *])
   | false =>
    obtain ⟨jI,jk⟩:=jf rfl
    clear jt jf
    simp only [Bool.not_false] at jb3
    obtain ⟨rfl,rfl,rfl⟩:=jk.none
    obtain ⟨r1,r2,rfl,wr,ir⟩:=id jI
    clear jk jI hsI hzI h0
    unfold evR outV
    simp only [Bool.false_eq_true,if_false,Bool.not_false]
    repeat' (first
     |(refine ⟨?_,?_⟩;focus ((repeat' (first|refine ⟨?_,?_⟩|refine .inr ?_));all_goals kernel_rfl))
     |exact agb (by assumption)
     | (first|refine ARX_seq ?_|refine ARX_region okD follows (by kernel_rfl) ?_|refine ARX_condP ?_|refine ARX_block ?_|refine ARX_exit ?_|refine ARX_skip ?_|refine ARX_ret ?_|refine ARX_block_end ?_|refine ARX_block_pass (by decide) ?_|refine ARX_block_hit ?_|refine ARX_code_exit ?_|refine spt rfl ?_|refine spf rfl ?_|refine ARX_doneD follows hl0 ?_|refine finT hrel hd ?_ ?_ ?_ ?_ ?_)<;>try simp only [go_sem, *])
  ·rintro D id' h' ⟨rfl,jA,jd,jb2,jb3,rfl⟩
   simp only [jumpE]
   have okD:=xD_ok ⟨Tryz.prog,env,Tryz.f111.ntmps,Tryz.f111,g0,w0,h,evR true w,hset h d (.box [.int .i64 u',.int .i64 most])⟩ D
   clear j28 j2 j3 hsI hzI h0
   unfold evR outV
   simp only [if_true,Bool.not_true]
   repeat' (first
    |(refine ⟨?_,?_⟩;focus ((repeat' (first|refine ⟨?_,?_⟩|refine .inr ?_));all_goals kernel_rfl))
    |exact agb (by assumption)
    | (first|refine ARX_seq ?_|refine ARX_region okD follows (by kernel_rfl) ?_|refine ARX_condP ?_|refine ARX_block ?_|refine ARX_exit ?_|refine ARX_skip ?_|refine ARX_ret ?_|refine ARX_block_end ?_|refine ARX_block_pass (by decide) ?_|refine ARX_block_hit ?_|refine ARX_code_exit ?_|refine spt rfl ?_|refine spf rfl ?_|refine ARX_doneD follows hl0 ?_|refine finT hrel hd ?_ ?_ ?_ ?_ ?_)<;>try simp only [go_sem, *])
def EvC2 (K most:Nat) (E:Evl):Prop:=∀ (d:GoAbs.Id) (c u:Nat) (t:Tm) (e:List Res) (ve:V) (G:List Ty) (s:Ty) (r:Res) (u':Nat) (o:Bool),E u t e=some (r,u',o)→c≤u→u≤most→TmW t →
 e.length≤u+K - c→(∀ x∈e,ResW (u+K - c) x)→HasTy TyG G t s→EnvV kt G e ve→∃ v,EvT2 d most u u' o t ve v∧(o=false→ThV kt s r v)
theorem intI (n:Nat):IsI (intV n):=(ThV.num (K:=kt) (n:=n)).isI
theorem cellII (l:List Nat):IsI (cellI l):=(ThV.list (K:=kt) (l:=l)).isI
section
variable {K most:Nat} {E:Evl} (hE:EvW K most E) (hC:EvC2 K most E) {d:GoAbs.Id}
include hE hC
theorem evCall_C2 {c u u':Nat} {f a r:Res} {o:Bool} {s t:Ty} {fv av:V} (h:evCall E u f a=some (r,u',o)) (hc:c+1≤u) (hu:u≤most) (hf:ResW (u+K - c - 1) f) (ha:ResW (u+K - c - 1) a)
  (tf:ThV kt (tFun s t) f fv) (ta:ThV kt s a av):∃ b ve v,fv=cloV b ve∧IsE ve∧EvT2 d most u u' o b (.el [av,ve] 0) v∧(o=false→ThV kt t r v)∧u≤u'∧u'≤most∧(o=false→u<u'∧ResW (u'+K - c - 1) r):=by
 have hW:=evCall_W hE h hc hu hf ha
 cases tf with
 | clo he hb =>
  rename_i g b e ve
  have hel:=hf.el
  simp only [cloR,Res.env] at hel
  obtain ⟨v,h1,h2⟩:=hC d c u b (e++[a]) (.el [av,ve] 0) _ _ r u' o h (by omega) hu hf.bd (by simp;omega) (fun x hx=>by
   rcases List.mem_append.1 hx with hx|hx
   ·exact (hf.es x hx).up (by omega)
   ·simp at hx;subst hx;exact ha.up (by omega)) hb (.snoc he ta)
  exact ⟨b,ve,v,rfl,he.isE,h1,h2,hW⟩
theorem evArgs_C2 {e:List Res} {G:List Ty} {ve:V} (hve:EnvV kt G e ve):∀ {l:List Tm} {ts:List Ty} {c u u':Nat} {l':List Res} {o:Bool},evArgs E e u l=some (l',u',o)→c≤u→u≤most→(∀ t∈l,TmW t) →
  e.length≤u+K - c→(∀ x∈e,ResW (u+K - c) x)→l.length=ts.length→(∀ (i:Nat) x a,l[i]? = some x→ts[i]? = some a→HasTy TyG G x a) →
  ∃ vs,AllS d most ve u l u' o vs∧vs.length≤l.length∧(o=true→vs.length<l.length)∧(∀ v∈vs,IsI v) ∧
   (o=false→vs.length=l.length∧l'.length=l.length∧∀ (i:Nat) r v a,l'[i]? = some r→vs[i]? = some v→ts[i]? = some a→ThV kt a r v)
 | [],ts,c,u,u',l',o,h,hc,hu,ht,hel,he,hl,hty=>by
  simp only [evArgs,Option.some.injEq,Prod.mk.injEq] at h
  obtain ⟨rfl,rfl,rfl⟩:=h
  exact ⟨[],.nil,by simp,(fun e=>by cases e),by simp,fun _=>⟨rfl,rfl,by simp⟩⟩
 | t::l,[],c,u,u',l',o,h,hc,hu,ht,hel,he,hl,hty=>by simp at hl
 | t :: l,a::ts,c,u,u',l',o,h,hc,hu,ht,hel,he,hl,hty=>by
  rw [evArgs] at h
  cases h1:E u t e with
  | none=>rw [h1] at h;cases h
  | some p =>
   obtain ⟨r,u1,o1⟩:=p
   obtain ⟨w1,w2,w3⟩:=hE c u t e r u1 o1 h1 hc hu (ht t (by simp)) hel he
   obtain ⟨v,c1,c2⟩:=hC d c u t e ve G a r u1 o1 h1 hc hu (ht t (by simp)) hel he (hty 0 t a rfl rfl) hve
   rw [h1] at h
   cases o1 with
   | true =>
    simp only [Option.some.injEq,Prod.mk.injEq] at h
    obtain ⟨rfl,rfl,rfl⟩:=h
    exact ⟨[],.stop c1,by simp,(fun _=>by simp),by simp,fun e=>by cases e⟩
   | false =>
    simp only at h
    cases h2:evArgs E e u1 l with
    | none=>rw [h2] at h;cases h
    | some q =>
     obtain ⟨l2,u2,o2⟩:=q
     rw [h2] at h
     simp only [Option.some.injEq,Prod.mk.injEq] at h
     obtain ⟨rfl,rfl,rfl⟩:=h
     obtain ⟨w3,w4⟩:=w3 rfl
     have tv:=c2 rfl
     obtain ⟨vs,q1,q2,q3,q4,q5⟩:=evArgs_C2 hve h2 (by omega:c≤u1) w2 (fun x hx=>ht x (by simp [hx])) (by omega) (fun x hx=>(he x hx).up (by omega)) (by simpa using hl)
      (fun i x b hx hb=>hty (i+1) x b (by simpa using hx) (by simpa using hb))
     refine ⟨v::vs,.step c1 tv.isI q1,by simp;omega,(fun e=>by have:=q3 e;simp;omega),?_,fun ho=>?_⟩
     ·intro x hx
      rcases List.mem_cons.1 hx with rfl|hx
      ·exact tv.isI
      ·exact q4 x hx
     ·obtain ⟨p1,p2,p3⟩:=q5 ho
      refine ⟨by simp [p1],by simp [p2],fun i r' v' a' hr hv ha=>?_⟩
      cases i with
      | zero=>simp at hr hv ha;subst hr;subst hv;subst ha;exact tv
      | succ i=>exact p3 i r' v' a' (by simpa using hr) (by simpa using hv) (by simpa using ha)
theorem evRec_C2 {c:Nat} {s:Res} {sv:V} {t:Ty} (ts:ThV kt (tFun tNat (tFun t t)) s sv):∀ {n k u u':Nat} {r r':Res} {o:Bool} {rv:V},evRec E s n k u r=some (r',u',o)→c+1≤u→u≤most→k+n≤u+K - c - 1 →
  ResW (u+K - c - 1) s→ResW (u+K - c - 1) r→ThV kt t r rv→∃ w,RecS d most sv k n u rv u' o w∧(o=false→ThV kt t r' w)
 | 0,k,u,u',r,r',o,rv,h,hc,hu,hk,hs,hr,tr=>by
  simp only [evRec,Option.some.injEq,Prod.mk.injEq] at h
  obtain ⟨rfl,rfl,rfl⟩:=h
  exact ⟨rv,.nil,fun _=>tr⟩
 | n + 1,k,u,u',r,r',o,rv,h,hc,hu,hk,hs,hr,tr=>by
  rw [evRec] at h
  cases h1:evCall E u s (numR k) with
  | none=>rw [h1] at h;cases h
  | some p =>
   obtain ⟨f,u1,o1⟩:=p
   obtain ⟨b,ve,v,e1,e2,e3,e4,e5,e6,e7⟩:=evCall_C2 hE hC (d:=d) h1 hc hu hs (ResW.num (by omega)) ts (ThV.num (n:=k))
   subst e1
   rw [h1] at h
   cases o1 with
   | true =>
    simp only [Option.some.injEq,Prod.mk.injEq] at h
    obtain ⟨rfl,rfl,rfl⟩:=h
    exact ⟨v,.stop (.stop e3 (intI _) e2),fun e=>by cases e⟩
   | false =>
    simp only at h
    obtain ⟨e7,e8⟩:=e7 rfl
    have tf:=e4 rfl
    cases h2:evCall E u1 f r with
    | none=>rw [h2] at h;cases h
    | some q =>
     obtain ⟨r1,u2,o2⟩:=q
     obtain ⟨b2,ve2,v2,g1,g2,g3,g4,g5,g6,g7⟩:=evCall_C2 hE hC (d:=d) h2 (by omega) e6 e8 (hr.up (by omega)) tf tr
     rw [h2] at h
     cases o2 with
     | true =>
      simp only [Option.some.injEq,Prod.mk.injEq] at h
      obtain ⟨rfl,rfl,rfl⟩:=h
      rw [g1] at tf e3
      exact ⟨v2,.stop (.step e3 (intI _) e2 (by rw [← g1];rw [g1];exact tf.wk) (.stop g3 tr.isI g2)),fun e=>by cases e⟩
     | false =>
      simp only at h
      obtain ⟨g7,g8⟩:=g7 rfl
      have tr1:=g4 rfl
      obtain ⟨w,k1,k2⟩:=evRec_C2 ts h (by omega) g6 (by omega) (hs.up (by omega)) g8 tr1
      rw [g1] at tf e3
      exact ⟨w,.step (.step e3 (intI _) e2 tf.wk (.step g3 tr.isI g2 tr1.wk .nil)) tr1.isI k1,k2⟩
theorem evFold_C2 {c:Nat} {s:Res} {sv:V} {t:Ty} {l:List Nat} (ts:ThV kt (tFun tNat (tFun tList (tFun t t))) s sv):∀ {n u u':Nat} {r r':Res} {o:Bool} {rv:V},evFold E s l n u r=some (r',u',o)→c+1≤u→u≤most →
  n≤l.length→l.length≤u+K - c - 1→(∀ x∈l,x≤u+K - c - 1)→ResW (u+K - c - 1) s→ResW (u+K - c - 1) r→ThV kt t r rv→∃ w,FoldS d most sv l n u rv u' o w∧(o=false→ThV kt t r' w)
 | 0,u,u',r,r',o,rv,h,hc,hu,hn,hll,hlx,hs,hr,tr=>by
  simp only [evFold,Option.some.injEq,Prod.mk.injEq] at h
  obtain ⟨rfl,rfl,rfl⟩:=h
  exact ⟨rv,.nil,fun _=>tr⟩
 | n + 1,u,u',r,r',o,rv,h,hc,hu,hn,hll,hlx,hs,hr,tr=>by
  rw [evFold] at h
  have hx:l.getD n 0≤u+K - c - 1:=by
   have hlt:n<l.length:=by omega
   have:l.getD n 0=l[n]:=by simp [hlt]
   rw [this];exact hlx _ (List.getElem_mem hlt)
  cases h1:evCall E u s (numR (l.getD n 0)) with
  | none=>rw [h1] at h;cases h
  | some p =>
   obtain ⟨f,u1,o1⟩:=p
   obtain ⟨b,ve,v,e1,e2,e3,e4,e5,e6,e7⟩:=evCall_C2 hE hC (d:=d) h1 hc hu hs (ResW.num hx) ts (ThV.num (n:=l.getD n 0))
   subst e1
   rw [h1] at h
   cases o1 with
   | true =>
    simp only [Option.some.injEq,Prod.mk.injEq] at h
    obtain ⟨rfl,rfl,rfl⟩:=h
    exact ⟨v,.stop (.stop e3 (intI _) e2),fun e=>by cases e⟩
   | false =>
    simp only at h
    obtain ⟨e7,e8⟩:=e7 rfl
    have tf:=e4 rfl
    have hdl:ResW (u1+K - c - 1) (listR (l.drop (n+1))):=ResW.list (fun x hx=>by have:=hlx x (List.mem_of_mem_drop hx);omega) (by simp;omega)
    cases h2:evCall E u1 f (listR (l.drop (n+1))) with
    | none=>rw [h2] at h;cases h
    | some q =>
     obtain ⟨f2,u2,o2⟩:=q
     obtain ⟨b2,ve2,v2,g1,g2,g3,g4,g5,g6,g7⟩:=evCall_C2 hE hC (d:=d) h2 (by omega) e6 e8 hdl tf (ThV.list (l:=l.drop (n+1)))
     rw [h2] at h
     rw [g1] at tf e3
     cases o2 with
     | true =>
      simp only [Option.some.injEq,Prod.mk.injEq] at h
      obtain ⟨rfl,rfl,rfl⟩:=h
      exact ⟨v2,.stop (.step e3 (intI _) e2 tf.wk (.stop g3 (cellII _) g2)),fun e=>by cases e⟩
     | false =>
      simp only at h
      obtain ⟨g7,g8⟩:=g7 rfl
      have tf2:=g4 rfl
      cases h3:evCall E u2 f2 r with
      | none=>rw [h3] at h;cases h
      | some q =>
       obtain ⟨r1,u3,o3⟩:=q
       obtain ⟨b3,ve3,v3,k1,k2,k3,k4,k5,k6,k7⟩:=evCall_C2 hE hC (d:=d) h3 (by omega) g6 g8 (hr.up (by omega)) tf2 tr
       rw [h3] at h
       rw [k1] at tf2 g3
       cases o3 with
       | true =>
        simp only [Option.some.injEq,Prod.mk.injEq] at h
        obtain ⟨rfl,rfl,rfl⟩:=h
        exact ⟨v3,.stop (.step e3 (intI _) e2 tf.wk (.step g3 (cellII _) g2 tf2.wk (.stop k3 tr.isI k2))),fun e=>by cases e⟩
       | false =>
        simp only at h
        obtain ⟨k7,k8⟩:=k7 rfl
        have tr1:=k4 rfl
        obtain ⟨w,m1,m2⟩:=evFold_C2 ts h (by omega) k6 (by omega) (by omega) (fun x hx=>by have:=hlx x hx;omega) (hs.up (by omega)) k8 tr1
        exact ⟨w,.step (.step e3 (intI _) e2 tf.wk (.step g3 (cellII _) g2 tf2.wk (.step k3 tr.isI k2 tr1.wk .nil))) tr1.isI m1,m2⟩
end
section
variable {K most:Nat} {E:Evl} (hE:EvW K most E) (hC:EvC2 K most E) {d:GoAbs.Id}
include hE hC
theorem evOf_C2 (hm:most≤65536) (hK:K≤9000) {c u u1 u':Nat} {k:Int} {ty s:Ty} {ts:List Ty} {t:Tm} {ve:V} {l:List Res} {vs:List V} {r:Res} {o:Bool} (hT:NodeTy TyG k ty ts s) (hk:t.kind=k) (h:evOf E k u1 l=some (r,u',o))
  (hu:u<most) (hu1:u1≤most) (hc:c+1≤u1) (hI:IsE ve) (hr:∀ x∈l,ResW (u1+K - c - 1) x) (hl:l.length=ts.length) (hlv:vs.length=ts.length)
  (hV:∀ (i:Nat) r v a,l[i]? = some r→vs[i]? = some v→ts[i]? = some a→ThV kt a r v)
  (hA:Turns Tryz.prog env 109 [.ptr d 0,.sl .any (t.args.map Tm.cells),ve] d (mb (u+1) most) (.tup [.agg (pad3 vs),.bool true]) (mb u1 most)) :
  ∃ v,EvT2 d most u u' o t ve v∧(o=false→ThV kt s r v):=by
 have l0:ts.length=0→l=[]∧vs=[]:=fun h=>by rw [h] at hl hlv;exact ⟨List.length_eq_zero_iff.1 hl,List.length_eq_zero_iff.1 hlv⟩
 have l1:ts.length=1→∃ x v,l=[x]∧vs=[v]:=fun h=>by
  rw [h] at hl hlv
  obtain ⟨x,h1⟩:=List.length_eq_one_iff.1 hl
  obtain ⟨v,h2⟩:=List.length_eq_one_iff.1 hlv
  exact ⟨x,v,h1,h2⟩
 have l2:ts.length=2→∃ x y v w,l=[x,y]∧vs=[v,w]:=fun h=>by
  rw [h] at hl hlv
  obtain ⟨x,y,h1⟩:=len2 hl
  obtain ⟨v,w,h2⟩:=len2 hlv
  exact ⟨x,y,v,w,h1,h2⟩
 have l3:ts.length=3→∃ x y z v w q,l=[x,y,z]∧vs=[v,w,q]:=fun h=>by
  rw [h] at hl hlv
  obtain ⟨x,y,z,h1⟩:=len3 hl
  obtain ⟨v,w,q,h2⟩:=len3 hlv
  exact ⟨x,y,z,v,w,q,h1,h2⟩
 cases hT with
 | app =>
  obtain ⟨x,y,v,w,rfl,rfl⟩:=l2 rfl
  simp only [evOf,BEq.rfl,if_true] at h
  have tx:=hV 0 x v _ rfl rfl rfl
  have ty:=hV 1 y w _ rfl rfl rfl
  obtain ⟨b,be,q,g1,g2,g3,g4,_⟩:=evCall_C2 hE hC (d:=d) h hc hu1 (hr x (by simp)) (hr y (by simp)) tx ty
  refine ⟨q,c_ev3 (c:=.nili) hu hm hk hI tx.isI ty.isI hA (fun ho=>(g4 ho).isI) ?_,g4⟩
  subst g1
  cases o with
  | true=>exact c_callS' (l:=[w]) (.stop g3 ty.isI g2) (by simp) (fun e=>by cases e) tx.isI
  | false=>exact c_callS' (l:=[w]) (.step g3 ty.isI g2 (g4 rfl).wk .nil) (by simp) (fun _=>(g4 rfl).isI) tx.isI
 | zero =>
  obtain ⟨rfl,rfl⟩:=l0 rfl
  simp [evOf] at h
  obtain ⟨rfl,rfl,rfl⟩:=h
  exact ⟨_,c_ev4 (w:=.nili) (a:=.nili) (b:=.nili) (c:=.nili) hu hm hk hI hA,fun _=>.num⟩
 | succ =>
  obtain ⟨x,v,rfl,rfl⟩:=l1 rfl
  simp [evOf] at h
  obtain ⟨rfl,rfl,rfl⟩:=h
  have tx:=hV 0 x v _ rfl rfl rfl
  have hn:=(hr x (by simp)).n1
  cases tx with
  | num=>exact ⟨_,c_ev5 (w:=.nili) (a:=.nili) (b:=.nili) (c:=.nili) hu hm hk hI hA (by simp only [numR,Res.num] at hn;omega),fun _=>.num⟩
 | recr =>
  obtain ⟨x,y,z,v,w,q,rfl,rfl⟩:=l3 rfl
  have e:evOf E 6 u1 [x,y,z]=evRec E y z.num 0 u1 x:=by simp [evOf]
  rw [e] at h
  have tx:=hV 0 x v _ rfl rfl rfl
  have ty:=hV 1 y w _ rfl rfl rfl
  have tz:=hV 2 z q _ rfl rfl rfl
  have hn:=(hr z (by simp)).n1
  obtain ⟨p,g1,g2⟩:=evRec_C2 hE hC (d:=d) ty h hc hu1 (by omega) (hr y (by simp)) (hr x (by simp)) tx
  refine ⟨p,c_ev6 hu hm hk hI tx.isI ty.isI tz.isI hA (fun ho=>(g2 ho).isI) ?_,g2⟩
  cases tz with
  | num =>
   simp only [numR,Res.num] at g1 hn
   exact c_recS g1 tx.isI ty.isI (by omega)
 | nil =>
  obtain ⟨rfl,rfl⟩:=l0 rfl
  simp [evOf] at h
  obtain ⟨rfl,rfl,rfl⟩:=h
  exact ⟨_,c_ev7 (w:=.nili) (a:=.nili) (b:=.nili) (c:=.nili) hu hm hk hI hA,fun _=>.list (l:=[])⟩
 | cons =>
  obtain ⟨x,y,v,w,rfl,rfl⟩:=l2 rfl
  simp [evOf] at h
  obtain ⟨rfl,rfl,rfl⟩:=h
  have tx:=hV 0 x v _ rfl rfl rfl
  have ty:=hV 1 y w _ rfl rfl rfl
  cases tx with
  | num =>
   cases ty with
   | list=>exact ⟨_,c_ev8 (w:=.nili) (a:=.nili) (b:=.nili) (c:=.nili) hu hm hk hI hA,fun _=>.list⟩
 | fold =>
  obtain ⟨x,y,z,v,w,q,rfl,rfl⟩:=l3 rfl
  have e:evOf E 9 u1 [x,y,z]=evFold E y z.list z.list.length u1 x:=by simp [evOf]
  rw [e] at h
  have tx:=hV 0 x v _ rfl rfl rfl
  have ty:=hV 1 y w _ rfl rfl rfl
  have tz:=hV 2 z q _ rfl rfl rfl
  have hz:=hr z (by simp)
  have hn:=hz.ll
  obtain ⟨p,g1,g2⟩:=evFold_C2 hE hC (d:=d) ty h hc hu1 (Nat.le_refl _) hn hz.ls (hr y (by simp)) (hr x (by simp)) tx
  refine ⟨p,c_ev9 hu hm hk hI tx.isI ty.isI tz.isI hA (fun ho=>(g2 ho).isI) ?_,g2⟩
  cases tz with
  | list =>
   simp only [listR,Res.list] at g1 hn
   exact c_foldS g1 tx.isI ty.isI (by omega)
 | pair hq =>
  obtain ⟨x,y,v,w,rfl,rfl⟩:=l2 rfl
  simp [evOf] at h
  obtain ⟨rfl,rfl,rfl⟩:=h
  have tx:=hV 0 x v _ rfl rfl rfl
  have ty:=hV 1 y w _ rfl rfl rfl
  exact ⟨_,c_ev10 (w:=.nili) (c:=.nili) hu hm hk hI tx.isI ty.isI hA,fun _=>.pair tx ty⟩
 | fst =>
  obtain ⟨x,v,rfl,rfl⟩:=l1 rfl
  have tx:=hV 0 x v _ rfl rfl rfl
  cases tx with
  | pair t1 t2 =>
   simp [evOf,pairR,Res.pair] at h
   obtain ⟨rfl,rfl,rfl⟩:=h
   exact ⟨_,c_ev11 (w:=.nili) (c:=.nili) hu hm hk hI t1.isI t2.isI hA,fun _=>t1⟩
 | snd =>
  obtain ⟨x,v,rfl,rfl⟩:=l1 rfl
  have tx:=hV 0 x v _ rfl rfl rfl
  cases tx with
  | pair t1 t2 =>
   simp [evOf,pairR,Res.pair] at h
   obtain ⟨rfl,rfl,rfl⟩:=h
   exact ⟨_,c_ev12 (w:=.nili) (c:=.nili) hu hm hk hI t1.isI t2.isI hA,fun _=>t2⟩
 | unit =>
  obtain ⟨rfl,rfl⟩:=l0 rfl
  simp [evOf] at h
  obtain ⟨rfl,rfl,rfl⟩:=h
  exact ⟨_,c_ev13 (w:=.nili) (a:=.nili) (b:=.nili) (c:=.nili) hu hm hk hI hA,fun _=>.unit⟩
theorem evStep_C2 (hm:most≤65536) (hK:K≤9000):EvC2 K most (evStep most E):=by
 intro d c u t e ve G s r u' o h hc hu ht hel he hty hve
 unfold evStep at h
 split at h
 ·simp only [Option.some.injEq,Prod.mk.injEq] at h
  obtain ⟨rfl,rfl,rfl⟩:=h
  rename_i hum
  subst hum
  exact ⟨.nili,c_evLim,fun e=>by cases e⟩
 rename_i hne
 have hlt:u<most:=by omega
 have node:∀ {k:Int} {ty:Ty} {l:List Tm} {ts:List Ty},t=tmT k ty l→NodeTy TyG k ty ts s→l.length=ts.length→l.length≤3→(∀ (i:Nat) x a,l[i]? = some x→ts[i]? = some a→HasTy TyG G x a)→(k==1)=false→(k==2)=false →
   ∃ v,EvT2 d most u u' o t ve v∧(o=false→ThV kt s r v):=by
  intro k ty l ts et hT hl h3 hx k1 k2
  have hk:t.kind=k:=by rw [et];rfl
  have ha:t.args=l:=by rw [et];rfl
  have htl:∀ x∈l,TmW x:=fun x hx=>ht.arg (by rw [ha];exact hx)
  rw [hk,ha] at h
  simp only [k1,k2,Bool.false_eq_true,if_false] at h
  cases h1:evArgs E e (u+1) l with
  | none=>rw [h1] at h;cases h
  | some p =>
   obtain ⟨l',u1,o1⟩:=p
   obtain ⟨a1,a2,a3⟩:=evArgs_W (c:=c+1) hE h1 (by omega) (by omega) htl (by omega) (fun x hx=>(he x hx).up (by omega))
   obtain ⟨vs,q1,q2,q3,q4,q5⟩:=evArgs_C2 hE hC (d:=d) hve (c:=c+1) h1 (by omega) (by omega) htl (by omega) (fun x hx=>(he x hx).up (by omega)) hl hx
   have hA:=c_allS q1 h3 hve.isE
   rw [h1] at h
   rw [← ha] at hA
   cases o1 with
   | true =>
    simp only [Option.some.injEq,Prod.mk.injEq] at h
    obtain ⟨rfl,rfl,rfl⟩:=h
    exact ⟨.nili,c_evStop hlt hm (by rw [hk];exact k1) (by rw [hk];exact k2) hve.isE (by have:=q3 rfl;omega) q4 hA,fun e=>by cases e⟩
   | false =>
    simp only at h
    obtain ⟨p1,p2,p3⟩:=q5 rfl
    obtain ⟨a3,a4,a5⟩:=a3 rfl
    exact evOf_C2 hE hC hm hK (c:=c) hT hk h hlt a2 (by omega) hve.isE (fun x hx=>(a5 x hx).up (by omega)) (by omega) (by omega) p3 hA
 have nk:∀ {k:Int} {ty:Ty} {ts:List Ty},NodeTy TyG k ty ts s→(k==1)=false∧(k==2)=false:=by
  intro k ty ts h;cases h<;>exact ⟨rfl,rfl⟩
 cases hty with
 | @var _ i _ hi hg =>
  clear node nk
  have hlen:=hve.len
  have e1:((e.length:Int) - 1 - (i:Int)).toNat=e.length - 1 - i:=by omega
  have h0:0≤(e.length:Int) - 1 - (i:Int):=by omega
  simp only [tmVar,Tm.kind,Tm.index,BEq.rfl,if_true,if_pos h0,e1] at h
  obtain ⟨v,a,r1,g1,g2,g3,g4,g5⟩:=hve.get i (by omega)
  rw [g2] at h
  simp only [Option.map_some,Option.some.injEq,Prod.mk.injEq] at h
  obtain ⟨rfl,rfl,rfl⟩:=h
  rw [hlen] at g3
  rw [g3] at hg
  cases hg
  exact ⟨v,c_evVar hlt hm rfl rfl g4.isI (c_envAt i (by omega) g1 g4.wk (fun S=>g4.ins)) hve.isE,fun _=>g4⟩
 | @lam _ a b b0 hq hb =>
  clear node nk
  simp only [tmT,Tm.kind,Tm.args] at h
  simp at h
  obtain ⟨rfl,rfl,rfl⟩:=h
  exact ⟨_,c_evLam hlt hm rfl rfl hve.isE,fun _=>.clo hve hb⟩
 | n0 hT=>exact node rfl hT rfl (by simp) (by simp) (nk hT).1 (nk hT).2
 | n1 hT h1 =>
  refine node rfl hT rfl (by simp) (fun i x a hx ha=>?_) (nk hT).1 (nk hT).2
  match i with
  | 0=>simp at hx ha;subst hx;subst ha;exact h1
  | i+1=>simp at hx
 | n2 hT h1 h2 =>
  refine node rfl hT rfl (by simp) (fun i x a hx ha=>?_) (nk hT).1 (nk hT).2
  match i with
  | 0=>simp at hx ha;subst hx;subst ha;exact h1
  | 1=>simp at hx ha;subst hx;subst ha;exact h2
  | i+2=>simp at hx
 | n3 hT h1 h2 h3 =>
  refine node rfl hT rfl (by simp) (fun i x a hx ha=>?_) (nk hT).1 (nk hT).2
  match i with
  | 0=>simp at hx ha;subst hx;subst ha;exact h1
  | 1=>simp at hx ha;subst hx;subst ha;exact h2
  | 2=>simp at hx ha;subst hx;subst ha;exact h3
  | i+3=>simp at hx
end
theorem ev_C2 {K most:Nat} (hm:most≤65536) (hK:K≤9000):∀ f,EvC2 K most (ev most f)
 | 0=>fun d c u t e ve G s r u' o h=>by simp [ev] at h
 | f+1=>by rw [ev_succ];exact evStep_C2 (ev_W (by omega) f) (ev_C2 hm hK f) hm hK
end Go.Proofs.YtmnplkmphgkooaaGreatDoor
