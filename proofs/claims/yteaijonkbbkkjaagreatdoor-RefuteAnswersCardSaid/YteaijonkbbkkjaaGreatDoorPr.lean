/-
 Walks: several parts in one text.
-/
import Derived.Test.YteaijonkbbkkjaaGreatDoorMm
import Derived.Test.YteaijonkbbkkjaaGreatDoorOm
import Derived.Test.YteaijonkbbkkjaaGreatDoorAbsDc
import Derived.Test.YteaijonkbbkkjaaGreatDoorMj
set_option linter.unusedSimpArgs false
set_option linter.unusedVariables false
set_option maxRecDepth 20000
set_option maxHeartbeats 4000000
namespace Go.Proofs.YteaijonkbbkkjaaGreatDoor
open Go GoAbs Go.Proofs
theorem bV5 {all:Bool} {f a:Fm} {t:Tm} {l l' m:Nat} {e:Int} (hk:f.kind=4∨f.kind=5) (he:(e != 0)=true)
  (hB:Pure Tryz.prog env 154 [.agg f.cells] (.tup [.bool all,.agg t.cells,.agg a.cells,.bool true]))
  (hE:Pure Tryz.prog env 153 [.agg t.cells,.int .i64 l] (.tup [.int .i64 m,.int .i64 l',.int .i64 e])) :
  Pure Tryz.prog env 99 [.agg f.cells,.int .i64 l] (t9V (false,0,e)):=by
 intro h;unfold t9V;rcases hk with hk|hk
 all_goals
  refine en_ Tryz.func99 [.tmp 4,.tmp 5,.tmp 6] fun g0 w0 gen b7 hfr c6 m0=>?_
  first|refine wq_ ?_|exact wk_
  all_goals rfl
theorem cz1 {t:Tm} {l:Nat} (ht:w7 TyG [] t r5) (wt:TmW t) (hl:l≤65536):(evW t l).1≤65536∧(evW t l).2.1≤65536:=by
 obtain ⟨r,u,o,h0,h1,hu⟩:=bj6 (m:=l) ht;obtain ⟨_,h3⟩:=bm4 ht wt hl;rw [h1] at h3;cases o with
 | true=>simp [evW,h0];omega
 | false =>
  have:=h3 rfl;simp only [evW,h0] at this ⊢;omega
theorem cE6 {R:Nat→Fm→Ans} {all:Bool} {a:Fm} (hR:∀ k l:Nat,k<4096→(H3 a (C5 k)).2=0→l≤65536→(R l (H3 a (C5 k)).1).2.1≤l):∀ n k l,l≤65536→(rB R all a n k l).2.1≤l:=by
 intro n
 induction n with
 | zero=>intro k l _;exact Nat.le_refl _
 | succ n ih =>
  intro k l hl;rw [rB];split
  ·exact Nat.zero_le _
  split
  ·exact Nat.zero_le _
  split
  ·exact Nat.zero_le _
  ·rename_i h1 h2 h3
   have:=hR k (l - 1) om_ (by simpa using h3) om_;split
   ·omega
   ·exact Nat.le_trans (ih (k+1) _ om_) om_
theorem bD5:∀ (n:Nat) (f:Fm),Dc [] f→z6 f≤4096→fdp f≤n→∀ l:Nat,l≤65536 →
  Pure Tryz.prog env 99 [.agg f.cells,.int .i64 l] (t9V (rT n l f))∧(rT n l f).2.1≤l:=by
 intro n
 induction n with
 | zero=>intro f _ _ hn;have:=aC8 f;omega
 | succ n ih =>
  intro f hf zf hn l hl;generalize hg:([]:List Ty)=g at hf;cases hf with
  | @eq _ x y gx gy tx ty =>
   subst hg;rw [V6] at zf;rw [df7];refine ⟨cQ1 x y (fun w hw=>aN1 x tx gx om_ gx.toW w hw) (fun w hw=>aN1 y ty gy om_ gy.toW w hw) l hl,?_⟩;unfold bY7;split
   ·exact Nat.zero_le _
   ·exact Nat.le_trans aH7 aH7
  | @two _ k a b hk da db =>
   subst hg;rw [O0] at zf;rw [aJ0] at hn;rw [cM6 hk];obtain ⟨a1,a2⟩:=ih a da om_ om_ l hl;refine ⟨cE5 k hk a b (fun l=>rT n l a) (fun l=>rT n l b) l a2 hl a1 (fun w hw=>(ih b db om_ om_ w hw).1),?_⟩;unfold aV3;simp only;split
   ·exact Nat.zero_le _
   split
   ·exact Nat.le_trans (ih b db om_ om_ _ om_).2 a2
   ·exact a2
  | @bnd _ all q a gq tq oq da =>
   subst hg;have hD:Dc [] (J0 all q a):=.bnd gq tq oq da;have hB:=bE5 hD zf (hD.G (u:=true)).toW;have hk:(J0 all q a).kind=4∨(J0 all q a).kind=5:=by cases all<;>simp [J0,fmQ,Fm.kind]
   rw [an2] at zf;rw [aU4] at hn;rw [cR0];obtain ⟨gt,tt,zt⟩:=br8 gq tq oq om_;have hE:=aN1 _ tt gt om_ gt.toW l hl;obtain ⟨u1,u2⟩:=cz1 (l:=l) tt gt.toW hl;have u3:=aH7 (t:=Q5 q 0 C6) (w:=l);have da:Dc [r5] a:=by simpa using da
   have za:z6 a≤4096:=by omega
   have hR:∀ k l:Nat,k<4096→(H3 a (C5 k)).2=0→l≤65536→Pure Tryz.prog env 99 [.agg (H3 a (C5 k)).1.cells,.int .i64 l] (t9V (rT n l (H3 a (C5 k)).1))∧(rT n l (H3 a (C5 k)).1).2.1≤l:=by
    intro k l h1 h2 h3;obtain ⟨p1,p2,p3⟩:=da.put za h1 h2;exact ih _ p1 p2 om_ l h3
   have hP:∀ k:Nat,k<4096→Pure Tryz.prog env 54 [.agg a.cells,.int .i64 0,.agg (C5 k).cells] (Y5 (H3 a (C5 k))):=by
    intro k h1;have zk:m7 (C5 k)=k+1:=S4 k;have:=bN5 a (da.G (u:=true)).toW 0 (C5 k) (az7 k);rw [bO8 (da.G (u:=true)) (at6 k) za om_ (da.least (by simp;omega)) ((w7.num (Q:=TyG) (g:=[]) k).least _ om_ (by simp;omega))] at this;exact this
   generalize Q5 q 0 C6=t at *;generalize evW t l=p at *;obtain ⟨m,l',e⟩:=p;unfold bG0 at hE;simp only at hE u1 u2 u3 ⊢;generalize J0 all q a=f at *;cases he:(e != 0) with
   | true=>simp only [if_true];exact ⟨bV5 hk he hB hE,Nat.zero_le _⟩
   | false =>
    obtain rfl:e=0:=by simpa using he
    simp only [Bool.false_eq_true,if_false];have hS:=dd0 (R:=fun l f=>rT n l f) (all:=all) hP hR m 0 l' om_;refine ⟨cj2 hk om_ om_ hB hE hS,?_⟩;exact Nat.le_trans (cE6 (R:=fun l f=>rT n l f) (fun k l h1 h2 h3=>(hR k l h1 h2 h3).2) m 0 l' om_) u3
theorem df8 {lim:Nat} (hl:lim≤65536) {f:Fm} (hf:Dc [] f) (zf:z6 f≤4096):(dT lim (fdp f) 0 f).2.1≤lim:=(bj5 (d:=⟨0,0,0⟩) hl (fdp f) f 0 (Nat.le_refl _) hf zf om_).2.1
theorem bI4 {f:Fm} (hf:Dc [] f) (zf:z6 f≤4096) (lim:Nat) (hl:lim≤65536):Pure Tryz.prog env 55 [.agg f.cells,.int .i64 lim] (ag3 (dT lim (fdp f) 0 f)):=by
 have wf:=(hf.G (u:=true)).toW;have h1:=bU9 [] sp_ sp_ f hf.ty (hf.G (u:=true)) zf wf;have h2:=aW3 hf.ty (hf.G (u:=true)) zf wf sp_;rw [hf.fld (by simp;omega)] at h2;obtain ⟨h3,h4⟩:=bD5 (fdp f) f hf zf (Nat.le_refl _) lim hl;have h5:=da2 (lim:=lim) (fdp f) f 0;have h6:=df8 hl hf zf;have d1:decide ((lim:Int)<0)=false:=by simp
 have d2:decide ((lim:Int)>65536)=false:=by simp;omega
 rw [Nat.sub_zero] at h5;unfold ag3;unfold t9V at h3;clear hf zf wf;generalize dT lim (fdp f) 0 f=p at *;generalize rT (fdp f) lim f=r at *;obtain ⟨pb,pw,pe⟩:=p;obtain ⟨rb,rl,re⟩:=r;obtain ⟨g1,g2,g3⟩:=h5;simp only at *;subst g1;cases he:(re != 0) with
 | true =>
  simp only [if_true];clear g2 g3 h6;intro h;refine en_ Tryz.func55 [.tmp 4,.tmp 5,.tmp 6] fun g0 w0 gen b7 hfr c6 m0=>?_
  repeat' (first
   |exact hin _|exact agf as_
   | (first|refine wp rfl ?_|refine spt rfl ?_|refine spf rfl ?_|(refine spl (fun hc=>?_) fun hc=>?_)<;>(try rw [beq_iff_eq] at hc)<;>try simp only [hc]|(refine gs (fun hb=>?_) fun hb=>?_)<;>try simp only [Bool.not_true,Bool.not_false] at hb|refine cp h1 ?_|refine cp h2 ?_|refine cp h3 ?_|refine A9 b7 ?_ ?_ ?_)<;>try simp only [go_sem, *])
  all_goals rfl
 | false =>
  obtain rfl:re=0:=by simpa using he
  obtain ⟨rfl,rfl⟩:=g3 rfl;simp only [Bool.false_eq_true,if_false];have hw:IntKind.i64.wrap ((lim:Int) - ((lim - pw:Nat):Int))=(pw:Int):=w8 om_ om_ om_;clear g2 g3 h6 h4;generalize lim - pw=rl at *;intro h;exact ek_ Tryz.func55 [.tmp 4,.tmp 5,.tmp 6]
theorem bD4 {g:List Ty} {l:List PVl} {ts:List Tm} (hs:T6 g l ts) (hg:g.length≤16) {f:Fm} (hf:Dc g f) (zf:z6 f≤4096) (lim:Nat) (hl:lim≤65536) :
  Pure Tryz.prog env 24 [.agg f.cells,.sl .any (l.map PVl.cells),.int .i64 lim] (ag3 (ad4 lim f ts)):=by
 intro h;have h1:=V7 f (hf.G (u:=true)).toW;rw [(hf.G (u:=true)).aj7 zf] at h1;obtain ⟨ll,lt⟩:=hs.len;have h2:∀ (i:Nat) (v:PVl),l[i]? = some v→∃ t:Tm,ts[i]? = some t∧Pure Tryz.prog env 53 [.agg v.cells] (.tup [.agg t.cells,.int .i64 0]):=by
  intro i v hv;obtain ⟨a,v',t,_,q2,q3,q4,q5,q6⟩:=hs.at i (by have:=(List.getElem?_eq_some_iff.1 hv).1;omega);rw [hv] at q2;cases q2;exact ⟨t,q3,bF9 q4 q6 q5⟩
 have bd4:∀ (i:Nat) (F:Fm),i<ts.length→Dc (g.take (i+1)) F→z6 F≤4096→∃ t:Tm,ts[i]? = some t∧Pure Tryz.prog env 54 [.agg F.cells,.int .i64 0,.agg t.cells] (Y5 (H3 F t)) ∧
   ((H3 F t).2=0→Dc (g.take i) (H3 F t).1∧z6 (H3 F t).1≤4096):=by
  intro i F hi hF zF;obtain ⟨a,v,t,q1,q2,q3,q4,q5,q6⟩:=hs.at i om_;rw [bT3 q1] at hF;have hlen:(g.take i).length≤16:=by simp;omega
  refine ⟨t,q3,?_,fun h0=>bo4 hF q4 q5 q6 om_ zF h0⟩;have:=bN5 F (hF.G (u:=true)).toW 0 t q4.G.toW;rw [bO8 (hF.G (u:=true)) q4.G zF q6 (hF.least (by simp at hlen ⊢;omega)) ((q4.ty q5 []).least _ om_ (by simp;omega))] at this;exact this
 have hT:∀ F:Fm,Dc [] F→z6 F≤4096→Pure Tryz.prog env 55 [.agg F.cells,.int .i64 lim] (ag3 (dA lim F)):=fun F hF zF=>bI4 hF zF lim hl;have hR0:S6 f (ts.take ts.length).reverse=S6 f ts.reverse:=by rw [List.take_length]
 have hfg:Dc (g.take ts.length) f:=by rw [lt,List.take_length];exact hf
 have hvd:ag3 (ad4 lim f ts)=if (S6 f ts.reverse).2 != 0 then .tup [.bool false,.int .i64 0,.int .i64 (S6 f ts.reverse).2] else ag3 (dA lim (S6 f ts.reverse).1):=by
  unfold ad4;cases hz:((S6 f ts.reverse).2 != 0) with
  | true=>simp only [if_true];unfold ag3;rw [if_pos hz]
  | false=>simp only [Bool.false_eq_true,if_false]
 rw [hvd];generalize S6 f ts.reverse=R at *;have h5:∀ e∈ts.map Tm.cells,e.length=5:=by
  intro e he;obtain ⟨t,_,rfl⟩:=List.mem_map.1 he;exact Tm.D3 t
 have hgT:∀ (i:Nat) (t:Tm),ts[i]? = some t→(ts.map Tm.cells)[i]? = some t.cells:=by
  intro i t ht;rw [List.getElem?_map,ht];rfl
 have n0:((0:Int) != 0)=false:=rfl;have dm4:l.length≤16:=by omega
 have dj4:l.length≤ts.length∧ts.length≤l.length:=by omega
 have hml:(ts.map Tm.cells).length=ts.length:=by simp
 clear hvd hf hl ll lt;obtain ⟨v,hv⟩:∃ v,v=if (R.2 != 0)=true then V.tup [.bool false,.int .i64 0,.int .i64 R.2] else ag3 (dA lim R.1):=⟨_,rfl⟩
 have hin:∀ S,InV S v:=by
  intro S;rw [hv];unfold ag3
  repeat' split
  all_goals simp [InV,InL]
 rw [← hv];have hvE:((R.2 != 0)=true)→V.tup [.bool false,.int .i64 0,.int .i64 R.2]=v:=fun e=>by rw [hv,if_pos e]
 have hvO:((R.2 != 0)=false)→ag3 (dA lim R.1)=v:=fun e=>by rw [hv,e];rfl
 clear hv;refine en_ Tryz.func24 [.tmp 6,.tmp 7,.tmp 8] fun g0 w0 gen b7 hfr c6 m0=>?_;have bP0:=bd4;have hT':=hT;have dk8:=hvE;have dl7:=hvO;clear bd4 hT hvE hvO;refine wq_ ?_;refine ar_ [2,3,23] [⟨gen,0,0⟩] (fun i σ=>g9 h σ.h∧T7 h σ.h (σ.tm 10) 5 ((ts.take i).map Tm.cells)) (l).length ?_ ?_ ?_
 ·simp only [go_sem, *]
  exact ⟨ag_,.inl rfl⟩
 ·
  intro i σ gr0 l6 hgn hlt jI jN jS ⟨jA,j10⟩;obtain ⟨jT,jB⟩:=jS;simp only [go_sem] at jT jB;obtain ⟨hgf,m6,n7,n8⟩:=rnd hgn l6 jA;obtain ⟨x,hx,hxm,hm⟩:=rnx hlt;clear hgn;obtain ⟨t,ht,hc⟩:=h2 i x hx;have hse:(ts.take (i+1)).map Tm.cells=(ts.take i).map Tm.cells++[t.cells]:=by rw [List.take_add_one,ht];simp
  have hel:((ts.take i).map Tm.cells).length=i:=by
   have:=(List.getElem?_eq_some_iff.1 ht).1;simp;omega
  have hal:((ts.take i).map Tm.cells).all (fun e=>e.length==5)=true:=by
   rw [List.all_eq_true];intro e he;obtain ⟨y,_,rfl⟩:=List.mem_map.1 he;simp [Tm.D3]
  generalize (ts.take i).map Tm.cells=es at *;clear h2 bP0 hT'
  repeat' (first
   |(refine ⟨?_,?_⟩;focus ((repeat' (first|refine ⟨?_,?_⟩|refine .inr ?_));all_goals kernel_rfl))
   |(refine U6 j10 kp_ rfl so_ fr_ sg_ (by intro hd;cases hd) ?_;intro v' h' log' jO jK jAg jAb jF;simp only [go_sem, *])
   | (first|refine wp rfl ?_|refine spt rfl ?_|refine spf rfl ?_|(refine spl (fun hc=>?_) fun hc=>?_)<;>(try rw [beq_iff_eq] at hc)<;>try simp only [hc]|refine cp hc ?_|refine u7 ?_)<;>try simp only [go_sem, *])
  exact jAg (by repeat (first|exact jA|refine g9.new ?_ (m6 _ _)))
 ·
  intro σ ga0 l9 hgn jS ⟨jA,j10⟩;obtain ⟨jT,jB⟩:=jS;simp only [go_sem] at jT jB;obtain ⟨hgf,m6,n9,o0⟩:=rnd hgn l9 jA;clear hgn;rw [show l.length=ts.length by omega,List.take_length] at j10;obtain ⟨cO,j10⟩:=j10.val;clear h2;have hw0:IntKind.i64.wrap ((ts.length:Int) - 1)=(ts.length:Int) - 1:=w8 rfl om_ om_;refine wq_ ?_;refine B1 (fun i σ'=>σ'.tm 2=.int .i64 lim∧σ'.tm 3=.ptr ⟨gen,0,0⟩ 0∧σ'.tm 10=.sl cO (ts.map Tm.cells)∧σ'.tm 15=.int .i64 ((ts.length - i:Nat) - 1:Int)∧g9 h σ'.h ∧
   ∃ F:Fm,σ'.h ⟨gen,0,0⟩=some (.box F.cells)∧Dc (g.take (ts.length - i)) F∧z6 F≤4096∧S6 F (ts.take (ts.length - i)).reverse=R) ts.length ?_ ?_
  ·simp only [go_sem, *]
   exact ⟨sp_,f,rfl,by simpa using hfg,zf,by simpa using hR0⟩
  clear jA jT jB hR0 hw0;intro i σ' hi ⟨j2,j3,jt,j15,jA,F,jB,hF,zF,hR⟩;rcases Nat.lt_or_ge i ts.length with hlt|hge
  ·rw [show ts.length - i=ts.length - (i+1)+1 by omega] at hF hR
   obtain ⟨t,ht,hP,hok⟩:=bP0 _ F om_ hF zF;rw [bu1 ht] at hR;have hg1:=hgT _ t ht;have hc:((ts.length - i:Nat):Int) - 1=((ts.length - (i+1):Nat):Int):=by omega
   rw [hc] at j15;have d1:decide (((ts.length - (i+1):Nat):Int)≥0)=true:=by simp
   have d3:ts.length - (i+1)<ts.length:=by omega
   have hw:IntKind.i64.wrap (((ts.length - (i+1):Nat):Int) - 1)=((ts.length - (i+1):Nat):Int) - 1:=w8 rfl om_ om_;rw [S6] at hR;unfold Y5 at hP;clear bP0 hT' hgT hF zF hc;refine F9 (fun gn hgl hgn=>?_);have hgf:=c8 hgn;have m6:=fun r i=>s7 jA (hgf r i);have eg1:=s8 (show gen<gn by omega);have eg2:=o9 (show gen<gn by omega);clear hgn;cases hz:((H3 F t).2 != 0) with
   | true =>
    rw [hz] at hR;simp only [if_true] at hR;subst hR;have hv:=dk8 hz;subst hv;clear hok;generalize (H3 F t).1=F1 at *;generalize (H3 F t).2=e at *;generalize ts.length - (i+1)=z at *;generalize ts.map Tm.cells=tcs at *
    repeat' (first
     |(refine ⟨?_,?_⟩;focus ((repeat' (first|refine ⟨?_,?_⟩|refine .inr ?_));all_goals kernel_rfl))
     |exact hin _|exact agf as_
     | (first|refine wp rfl ?_|refine spt rfl ?_|refine spf rfl ?_|(refine spl (fun hc=>?_) fun hc=>?_)<;>(try rw [beq_iff_eq] at hc)<;>try simp only [hc]|refine cp hP ?_|refine A9 b7 ?_ ?_ ?_)<;>try simp only [go_sem, *])
    all_goals rfl
   | false =>
    rw [hz] at hR;simp only [Bool.false_eq_true,if_false] at hR;have hz0:(H3 F t).2=0:=by simpa using hz
    obtain ⟨q1,q2⟩:=hok hz0;rw [hz0] at hP;clear hok hz hz0;generalize (H3 F t).1=F1 at *;generalize ts.length - (i+1)=z at *;generalize htc:ts.map Tm.cells=tcs at *
    repeat' (first
     |(refine ⟨?_,?_⟩;focus ((repeat' (first|refine ⟨?_,?_⟩|refine .inr ?_));all_goals kernel_rfl))
     | (first|refine wp rfl ?_|refine spt rfl ?_|refine spf rfl ?_|(refine spl (fun hc=>?_) fun hc=>?_)<;>(try rw [beq_iff_eq] at hc)<;>try simp only [hc]|refine cp hP ?_)<;>try simp only [go_sem, *])
    refine u7 ?_;simp only [go_sem, *];exact ⟨by repeat (first|exact jA|refine g9.new ?_ (m6 _ _)|refine g9.new ?_ (c6 _ _)),F1,rfl,q1,q2,hR⟩
  ·obtain rfl:i=ts.length:=by omega
   rw [Nat.sub_self] at hF hR j15;simp only [List.take_zero,List.reverse_nil,S6] at hR;have hTF:=hT' F (by simpa using hF) zF;have hv:=dl7 (by rw [← hR];rfl);have e1:R.1=F:=by rw [← hR]
   rw [e1] at hv;subst hv;rw [ci4] at hTF ⊢;have d1:decide ((((0:Nat):Int) - 1)≥0)=false:=by simp
   clear bP0 hT' hgT hF zF hR hin;exact wk_
end Go.Proofs.YteaijonkbbkkjaaGreatDoor
