/-
 Walks: several parts in one text.
-/
import Derived.Test.YtmfhhhhnokhggaaGreatDoorKE
import Derived.Test.YtmfhhhhnokhggaaGreatDoorKD
import Derived.Test.YtmfhhhhnokhggaaGreatDoorAbsDf
set_option linter.unusedSimpArgs false
set_option linter.unusedVariables false
set_option maxRecDepth 20000
set_option maxHeartbeats 4000000
namespace Go.Proofs.YtmfhhhhnokhggaaGreatDoor
open Go GoAbs Go.Proofs
variable {g:List Ty} {hs:List Fm} {P:Pf}
theorem ct7 (hk:P.kind=8\/P.kind=12) (hr:aU2 136 g hs P):Rul g hs P:=by
 obtain ⟨f,u,e,h1,q⟩:=hr;refine ⟨f,u,e,?_,q⟩;clear q;rcases hk with p1|p1
 all_goals
  intro h;unfold ckV at h1 ⊢;exact o_ Tryz.func87 [.cell 4 36,.tmp 5,.tmp 6]
theorem cP3 (hk:P.kind=9\/P.kind=13) (hr:aU2 137 g hs P):Rul g hs P:=by
 obtain ⟨f,u,e,h1,q⟩:=hr;refine ⟨f,u,e,?_,q⟩;clear q;rcases hk with p1|p1
 all_goals
  intro h;unfold ckV at h1 ⊢;exact o_ Tryz.func87 [.cell 4 36,.tmp 5,.tmp 6]
theorem cP4 (hk:P.kind=10\/P.kind=14) (hr:aU2 138 g hs P):Rul g hs P:=by
 obtain ⟨f,u,e,h1,q⟩:=hr;refine ⟨f,u,e,?_,q⟩;clear q;rcases hk with p1|p1
 all_goals
  intro h;unfold ckV at h1 ⊢;exact o_ Tryz.func87 [.cell 4 36,.tmp 5,.tmp 6]
theorem bn0 (hk:P.kind=11\/P.kind=15) (hr:aU2 139 g hs P):Rul g hs P:=by
 obtain ⟨f,u,e,h1,q⟩:=hr;refine ⟨f,u,e,?_,q⟩;clear q;rcases hk with p1|p1
 all_goals
  intro h;unfold ckV at h1 ⊢;exact o_ Tryz.func87 [.cell 4 36,.tmp 5,.tmp 6]
theorem ct8 (hk:P.kind=16) (hr:aU2 140 g hs P):Rul g hs P:=by
 obtain ⟨f,u,e,h1,q⟩:=hr;refine ⟨f,u,e,?_,q⟩;clear q;have p1:=hk
 all_goals
  intro h;unfold ckV at h1 ⊢;exact o_ Tryz.func87 [.cell 4 36,.tmp 5,.tmp 6]
theorem bT8 (hk:P.kind=17) (hr:aU2 141 g hs P):Rul g hs P:=by
 obtain ⟨f,u,e,h1,q⟩:=hr;refine ⟨f,u,e,?_,q⟩;clear q;have p1:=hk
 all_goals
  intro h;unfold ckV at h1 ⊢;exact o_ Tryz.func87 [.cell 4 36,.tmp 5,.tmp 6]
theorem bT9 (hk:P.kind=19) (hr:aU2 143 g hs P):Rul g hs P:=by
 obtain ⟨f,u,e,h1,q⟩:=hr;refine ⟨f,u,e,?_,q⟩;clear q;have p1:=hk
 all_goals
  intro h;unfold ckV at h1 ⊢;exact o_ Tryz.func87 [.cell 4 36,.tmp 5,.tmp 6]
theorem bF0 (hk:P.kind=20) (hr:aU2 144 g hs P):Rul g hs P:=by
 obtain ⟨f,u,e,h1,q⟩:=hr;refine ⟨f,u,e,?_,q⟩;clear q;have p1:=hk
 all_goals
  intro h;unfold ckV at h1 ⊢;exact o_ Tryz.func87 [.cell 4 36,.tmp 5,.tmp 6]
theorem dw0 {p:Pf} (hp:PfG p):∀ {g:List Ty} {hs:List Fm},ak7 g hs->Inf g hs p:=by
 induction hp with
 | @hyp i h=>intro g hs c;obtain ⟨n,rfl⟩:=Int.eq_ofNat_of_zero_le h;exact M0 (dy6 c)
 | @two k p q hk h1 h2 i1 i2 =>
  intro g hs c;rcases hk with rfl|rfl|rfl|rfl
  ·exact M0 (di5 c (i1 c) (i2 c))
  ·exact M0 (di6 c (i1 c) (i2 c))
  ·exact M0 (bn0 (.inl rfl) (bK9 (.inl rfl) c (i1 c) fun s x gs jx h1 h2=>i2 ((c.below (m:=[s]) h1 (by simpa using gs)).with (by simpa using h2) jx)))
  ·exact M0 (bn0 (.inr rfl) (bK9 (.inr rfl) c (i1 c) fun s x gs jx h1 h2=>i2 ((c.below (m:=[s]) h1 (by simpa using gs)).with (by simpa using h2) jx)))
 | @one k p hk h1 i1 =>
  intro g hs c;rcases hk with rfl|rfl|rfl
  ·exact M0 (cg8 (.inl rfl) c (i1 c))
  ·exact M0 (cg8 (.inr rfl) c (i1 c))
  ·exact M0 (bF0 rfl (cg7 c (i1 c)))
 | @imp f p hf h1 i1=>intro g hs c;exact M0 (di7 c hf fun h j=>i1 (c.with h j))
 | @all k s p hk hs' h1 i1=>intro g hs c;exact M0 (ct7 (by simpa [ae2,Pf.kind] using hk) (di3 hk c hs' fun h=>i1 (c.below (m:=[s]) h (by simpa using hs'.G a_))))
 | @«at» k t p hk ht h1 i1=>intro g hs c;exact M0 (cP3 (by simpa [aY4,Pf.kind] using hk) (dy4 hk c ht (i1 c)))
 | @ex k f t p hk hf ht h1 i1=>intro g hs c;exact M0 (cP4 (by simpa [aA6,Pf.kind] using hk) (dy5 hk c hf ht (i1 c)))
 | @ind k f t p q hk hf ht h1 h2 i1 i2 =>
  intro g hs c;rcases hk with rfl|rfl
  ·exact M0 (ct8 rfl (di4 c hf ht (i1 c) fun h1 h2 j=>i2 ((c.below (m:=[c8]) h1 (by simp [TyG.nat])).with (by simpa using h2) j)))
  ·exact M0 (bT8 rfl (ct5 c hf ht (i1 c) fun h1 h2 j=>i2 ((c.below (m:=[c8,r5]) h1 (by simp [TyG.nat,TyG.list])).with (by simpa using h2) (by
    have:=j.cQ8 (m:=[c8]) (by have:=c.gl;omega) b_;simpa using this))))
 | @refl t ht=>intro g hs c;exact M0 (di8 c ht)
 | @subst f p q hf h1 h2 i1 i2=>intro g hs c;exact M0 (bT9 rfl (ct6 c hf (i1 c) (i2 c)))
def sqV (g:List Ty) (hs:List Fm):V:=.agg [.sl .any (g.map Ty.cells),.sl .any (hs.map Fm.cells)]
theorem cW9 (g:List Ty) (hg:∀ y∈g,TyG y) (hl:g.length<=16) (f:Fm) (j:Jd g f):c_ env 25 [.sl .any (g.map Ty.cells),.agg f.cells] (.int .i64 0):=by
 obtain ⟨hT,fg,hz,_⟩:=j;have fw:=fg.toW;have h1:=aa9 f fw;rw [fg.am0 hz] at h1;have h2:=bQ3 _ f g (w7 _) hT fg hz fw (fun y hy=>(hg y hy).1.W) a_;have h3:=av7 g hg hl;have n0:((0:Int) != 0)=false:=rfl;clear hg hl fg hz hT fw;have h4:c_ env 66 [.sl .any (g.map Ty.cells),.agg f.cells] (.int .i64 0):=by
  intro h;exact d_ Tryz.func66 [.tmp 4]
 clear h1 h2;intro h;exact d_ Tryz.func25 [.tmp 4]
theorem bG7 (c:ak7 g hs):c_ env 9 [.sl .any [],sqV g hs] (.int .i64 0):=by
 intro h;obtain ⟨gl,hl,gg,hy⟩:=c;have h1:=av7 g gg gl;have n0:((0:Int) != 0)=false:=rfl;have d1:decide ((hs.length:Int)>16)=false:=by simp;omega
 obtain ⟨ls,hls⟩:∃ ls:List Fm,ls=[]:=⟨_,rfl⟩;have e0:V.sl .any []=.sl .any (ls.map Fm.cells):=by rw [hls];rfl
 have el:ls.length=0:=by rw [hls];rfl
 have d2:decide (((ls.length:Nat):Int)>32)=false:=by rw [el];rfl
 rw [e0];unfold sqV;clear e0 hls;refine g_ Tryz.func9 [.tmp 4] fun g0 w0 gen g9 hfr e9 n8=>?_;refine e_ ?_;refine k_ [3,15] [⟨gen,0,0⟩] (fun i σ=>True) (ls) ?_ ?_ ?_
 ·simp only [go_sem, *]
  all_goals first|exact f_|exact ⟨f_,trivial⟩
 ·
  intro i x σ gr0 o5 hgf l6 l9 m6 hx hxm hm hlt jI jN jT jA _;exfalso;omega
 clear d2;intro σ ga0 q9 hgf l6 l8 m5 jT jA _;refine e_ ?_;clear h1 d1 el;refine k_ [3,38] [⟨gen,0,0⟩] (fun i σ=>True) (hs) ?_ ?_ ?_
 ·simp only [go_sem, *]
  all_goals first|exact f_|exact ⟨f_,trivial⟩
 ·
  intro i x σ gr1 I2 hgf l6 C1 C6 hx hxm hm hlt jI jN jT jA _;have z7:=o7 (show gen<gr1 by omega);have z9:=n6 (show gen<gr1 by omega);have h2:=cW9 g gg gl x (hy x hxm)
  first|refine e_ ?_|exact i_
  all_goals exact f_
 ·
  intro σ ga1 I1 hgf l6 C0 C5 jT jA _;have z6:=o7 (show gen<ga1 by omega);have z8:=n6 (show gen<ga1 by omega);exact i_
theorem bO9 {p:Pf} (c:ak7 g hs) (hp:PfG p) (hw:PfW p):∃ (f:Fm) (u:List Int) (e:Int),c_ env 16 [.sl .any [],sqV g hs,.agg p.cells] (.tup [.agg (pvC f u),.int .i64 e])/\aa8 g u /\
  ((e≠0/\f=A0/\u=[])\/(e=0/\Sq g hs f)):=by
 have h1:=bG7 c;have h2:=bH3 p hw hp;have hz:=bz7;have n0:((0:Int) != 0)=false:=rfl;have n4:((4:Int) != 0)=true:=rfl;cases hf:p.fits with
 | true =>
  rw [hf,B8 rfl] at h2;obtain ⟨f,u,e,h3,ku,o⟩:=dw0 hp c;rcases o with ⟨he,rfl,rfl⟩|⟨rfl,s⟩
  ·have hne:(e != 0)=true:=by simpa using he
   refine ⟨A0,[],e,?_,.nil,.inl ⟨he,rfl,rfl⟩⟩;rw [hz];clear he c hp hw hf ku n4 hz;intro h;unfold sqV ckV at *;exact d_ Tryz.func16 [.cell 6 38,.tmp 7]
  ·have h4:=af1 f s.jd.fg.toW
   have ul:=ku.len;have gl:=c.gl;refine ⟨f,u,0,?_,ku,.inr ⟨rfl,s⟩⟩;have hv0:([.int .i64 f.kind,.int .i64 f.type.kind,.sl .any (f.type.args.map Ty.cells),.sl .any (f.a7.map Tm.cells),.sl .any (f.args.map Fm.cells),.sl .any (ints u)]:List V)=pvC f u:=rfl;have zu:0+u.length=u.length:=aW6 _;have b1:u.length * 8<=140737488355328:=by omega
   have b2:u.length<=140737488355328:=by omega
   clear c hp hw hf ku n4 hz s ul gl;intro h;unfold sqV ckV at *;exact d_ Tryz.func16 [.cell 6 38,.tmp 7]
 | false =>
  rw [hf,y9 b_] at h2;refine ⟨A0,[],4,?_,.nil,.inl ⟨by decide,rfl,rfl⟩⟩;rw [hz];clear c hp hw hf n0 hz;intro h;unfold sqV at *;exact d_ Tryz.func16 [.cell 6 38,.tmp 7]
theorem dj4 (S:GoAbs.Id->Prop):InV S (sqV g hs):=by simp [sqV,InV,InL,S8,ae0,ai5,aG9]
theorem bu2 (g:List Ty) (hs:List Fm) (hh:hs.length<=16) (f:Fm) :
  c_ env 34 [sqV g hs,.agg f.cells] (sqV g (hs++[f])):=by
 intro h;have b1:hs.length * 88<=140737488355328:=by omega
 have b2:hs.length<=140737488355328:=by omega
 have b3:(hs.length+1) * 88<=140737488355328:=by omega
 have b4:hs.length+1<=140737488355328:=by omega
 have z:0+hs.length=hs.length:=by omega
 have hts:(hs++[f]).map Fm.cells=hs.map Fm.cells++[f.cells]:=by simp
 have hin:=dj4 (g:=g) (hs:=hs++[f]);have hv0:V.agg [.sl .any (g.map Ty.cells),.sl .any (hs.map Fm.cells++[f.cells])]=sqV g (hs++[f]):=by rw [sqV,hts]
 have hwk:A7 (hs.map Fm.cells++[f.cells])=hs.map Fm.cells++[f.cells]:=by have:=aF8 (hs++[f]);rwa [hts] at this
 generalize sqV g (hs++[f])=v at hin hv0 ⊢;unfold sqV;clear hh;exact d_ Tryz.func34 [.cell 4 42]
theorem aS3 (g m:List Ty) (hs:List Fm) (hg:g.length<=16) (hm:m.length<=10) (hh:hs.length<=16) (hw:∀ x∈hs,FmW x) :
  c_ env 37 [sqV g hs,.sl .any (m.map Ty.cells)] (sqV (g++m) (hs.map fun x=>x.up (m.length:Int) 0)):=by
 intro h;have hL:=al4 g m a_ a_;have hin:=dj4 (g:=g++m) (hs:=hs.map fun x=>x.up (m.length:Int) 0);have hv0:V.agg [.sl .any ((g++m).map Ty.cells),.sl .any ((hs.map fun x=>x.up (m.length:Int) 0).map Fm.cells)]=sqV (g++m) (hs.map fun x=>x.up (m.length:Int) 0):=rfl;generalize sqV (g++m) (hs.map fun x=>x.up (m.length:Int) 0)=v at hin hv0 ⊢;unfold sqV;have hlh:hs.length<=100000:=by omega
 clear hg hm hh;refine g_ Tryz.func37 [.cell 4 42] fun g0 w0 gen g9 hfr e9 n8=>?_;refine e_ ?_;clear hL;refine k_ [1,4,5,14] [⟨gen,0,1⟩] (fun i σ=>∃ v,σ.h ⟨gen,1,5⟩=some (.box [.sl .any ((g++m).map Ty.cells),v])/\Q4 h σ.h v 5 (((hs.take i).map fun x=>x.up (m.length:Int) 0).map Fm.cells)) (hs) ?_ ?_ ?_
 ·simp only [go_sem, *]
  exact ⟨f_,_,rfl,.inl rfl⟩
 ·clear hv0
  intro i x σ gr0 o5 hgf l6 l9 m6 hx hxm hm hlt jI jN jT jA ⟨v,jb,jO0⟩;have hc:=ap2 (m.length:Int) x (hw x hxm) 0;have hts:((hs.take (i+1)).map fun x=>x.up (m.length:Int) 0).map Fm.cells=((hs.take i).map fun x=>x.up (m.length:Int) 0).map Fm.cells++[(x.up (m.length:Int) 0).cells]:=by rw [p9 hx,U0];rfl
  exact p_
 ·
  intro σ ga0 q9 hgf l6 l8 m5 jT jA ⟨v1,jb,jO1⟩;rw [L2] at jO1;obtain ⟨c1,rfl⟩:=jO1.val;clear jO1;exact i_
theorem aX2 (t:Tm) (ht:TmW t) (hu:TmW (t.up 1 0)):c_ env 40 [.agg t.cells] (.agg (t.up 1 0).cells):=by
 have h1:=bD6 t t ht ht;have h2:=ap2 1 (u6 t t) (ap5 ht ht) 0;rw [bw2] at h2;have e:(u6 (t.up 1 0) (t.up 1 0)).a7.map Tm.cells=[(t.up 1 0).cells,(t.up 1 0).cells]:=rfl;clear ht hu;generalize u6 (t.up 1 0) (t.up 1 0)=F at *;intro h;exact d_ Tryz.func40 [.cell 2 52]
theorem cJ5 (k:Int) (f:Fm) (t:Tm) (p:Pf) (hf:FmW f) (ht:TmW t) (hp:PfW p) :
  cS6 Tryz.prog env 41 [.int .i64 k,.agg f.cells,.agg t.cells,.agg p.cells] (fun id=>.agg [.int .i64 k,.int .i64 0,.int .i64 0,.sl .any [],.sl .any [t.cells],.slb id 1,.sl .any [p.cells]]) f.cells:=by
 intro h id hid;have h1:=af1 f hf;have h2:=cm3 k t p ht hp;rw [show (aY4 k t p).cells=[.int .i64 k,.int .i64 0,.int .i64 0,.sl .any [],.sl .any [t.cells],.sl .any [],.sl .any [p.cells]] by rw [aY4,Pf.r7];rfl] at h2;have hT:=ei4;clear hf ht hp;refine g_ Tryz.func41 [.cell 8 34] fun g0 w0 gen g9 hfr e9 n8=>?_;have ev:∀ i0:GoAbs.Id,V.agg [.int .i64 k,.int .i64 0,.int .i64 0,.sl .any [],.sl .any [t.cells],.slb id 1,.sl .any [p.cells]]=fz i0 1 (.slb id 1) (.agg [.int .i64 k,.int .i64 0,.int .i64 0,.sl .any [],.sl .any [t.cells],.slb i0 1,.sl .any [p.cells]]):=fun i0=>by
  simp only [fz,fzL,aC9,aX9,bh0,L6,p7]
 repeat' (first
  |refine K8 ?_|refine P8 ?_|refine K7 ?_|refine C8 ?_|refine P7 ?_|refine B5 ?_|refine E4 ?_|refine B4 ?_
  |refine A8 (by decide) ?_|refine Y5 ?_|refine S2 ?_
  |(refine ⟨?_,?_⟩;focus ((repeat' (first|refine ⟨?_,?_⟩|refine .inr ?_));all_goals kernel_rfl))
  |refine K3 rfl ?_|refine K1 rfl ?_|(refine M6 rfl (fun hc=>?_) (fun hc=>?_)<;>(try rw [L1] at hc)<;>(try simp only [hc]))
  |(refine bD0 (id:=2) 2 rfl rfl rfl rfl ?_)
  | ((first|refine D2 ?_|(refine A9 (fun hb=>?_) (fun hb=>?_)<;>(try simp only [E7,M9] at hb))|refine y7 (h1) ?_|refine y7 (h2) ?_)<;>simp only [go_sem, *]))
 simp only [go_sem, *];refine cp h1 ?_;simp only [go_sem, *];refine ⟨[f.cells],⟨_,hT,rfl,by decide,rfl,by decide,?_⟩,?_⟩
 ·simp only [go_sem, *]
 simp only [go_sem, *];refine e_ ?_;rw [ev ⟨gen,2,2⟩];refine cF8 g9 hid (i0:=⟨gen,2,2⟩) (cs:=f.cells) (by rw [n8];simp only [go_sem, *]) ?_ (e9 _ _) (aC6 _) ?_ ?_
 ·simp only [go_sem, *]
 ·repeat (first|exact m8.refl _|refine m8.new ?_ (e9 _ _))
 ·simp only [fz,fzL,aC9,aX9,bh0,L6,p7,InV,InL,S8,aH0,bN7,at6,aW9,ae0]
def V6 (k q:Int) (t:Tm):Pf:=aA6 k (fmQ q c8 (H5 t)) t (E9 t)
theorem ch6 (k q:Int) (t:Tm):(V6 k q t).cells=[.int .i64 k,.int .i64 0,.int .i64 0,.sl .any [],.sl .any [t.cells],.sl .any [(fmQ q c8 (H5 t)).cells],.sl .any [(E9 t).cells]]:=by rw [V6,aA6,Pf.r7];rfl
theorem cY9 (l:List Int) (hl:l.length<=1000) {n:Nat} (c:Plc n g hs) (a:Nat):∃ t a',J3 1 g c8 t/\TmW t /\
  (∀ d,m_ env 49 [.ptr d 0,sqV g hs] d (.box (F0 l a)) (.agg (V6 10 5 t).cells) (.box (F0 l a'))) /\
  (∀ d,cx9 Tryz.prog env 49 [.ptr d 0,sqV g hs] d (.box (F0 l a)) (fun id=>.agg [.int .i64 10,.int .i64 0,.int .i64 0,.sl .any [],.sl .any [t.cells],.slb id 1,.sl .any [(E9 t).cells]]) (fmQ 5 c8 (H5 t)).cells (.box (F0 l a'))):=by
 have gl:=c.gl;obtain ⟨t,a1,mt,wt,hT⟩:=bP1 l hl 1 g c8 a c.H .nat (by rw [Y3];omega) (by rw [Y3];simp;omega) (by rw [Y3];omega);have j:=br4 mt c.gg a_;have wX:FmW (H5 t):=j.fg.toW;have wu:TmW (t.up 1 0):=j.of_eq.2.2.1.toW;refine ⟨t,a1,mt,wt,?_⟩;have h1:=aX2 t wt wu;have h2:=an8 0;have h3:=bD6 (t.up 1 0) (a9 0) wu (A6 _);have h4:=aK9 5 c8 (H5 t) J9 wX;have wQ:FmW (fmQ 5 c8 (H5 t)):=bI4 J9 wX;have h5:=as5 t wt;have h6:=bP8 10 (fmQ 5 c8 (H5 t)) t (E9 t) wQ wt (Q2 wt);have h7:=cJ5 10 (fmQ 5 c8 (H5 t)) t (E9 t) wQ wt (Q2 wt);have h8:=s8;rw [show u6 (t.up 1 0) (a9 0)=H5 t from rfl] at h3;rw [show aA6 10 (fmQ 5 c8 (H5 t)) t (E9 t)=V6 10 5 t from rfl] at h6;clear c gl mt wt j wX wu wQ;constructor
 ·clear h7
  generalize V6 10 5 t=q at *;generalize fmQ 5 c8 (H5 t)=F at *;generalize H5 t=X at *;generalize E9 t=R at *;unfold sqV;intro d h hd;have zq0:=hT d;exact n_ Tryz.func49 [.cell 4 34]
 ·clear h6
  generalize fmQ 5 c8 (H5 t)=F at *;generalize H5 t=X at *;generalize E9 t=R at *;unfold sqV;intro d h id hd hid;refine g_ Tryz.func49 [.cell 4 34] fun g0 w0 gen g9 hfr e9 n8=>?_;have f1:=n9 hfr hd;have f2:=p6 hfr hd;have ev:∀ i0:GoAbs.Id,V.agg [.int .i64 10,.int .i64 0,.int .i64 0,.sl .any [],.sl .any [t.cells],.slb id 1,.sl .any [R.cells]]=fz i0 1 (.slb id 1) (.agg [.int .i64 10,.int .i64 0,.int .i64 0,.sl .any [],.sl .any [t.cells],.slb i0 1,.sl .any [R.cells]]):=fun i0=>by
   simp only [fz,fzL,aC9,aX9,bh0,L6,p7]
  repeat' (first
   |refine K8 ?_|refine P8 ?_|refine K7 ?_|refine C8 ?_|refine P7 ?_|refine B5 ?_|refine E4 ?_|refine B4 ?_
   |refine A8 (by decide) ?_|refine Y5 ?_|refine S2 ?_
   |(refine ⟨?_,?_⟩;focus ((repeat' (first|refine ⟨?_,?_⟩|refine .inr ?_));all_goals kernel_rfl))
   |refine K3 rfl ?_|refine K1 rfl ?_|(refine M6 rfl (fun hc=>?_) (fun hc=>?_)<;>(try rw [L1] at hc)<;>(try simp only [hc]))
   |(refine bN5 ⟨gen,1000,0⟩ h7 (by first|exact e9 _ _|simp only [go_sem, *]) ?_<;>simp only [go_sem, *])
   | ((first|refine D2 ?_|(refine A9 (fun hb=>?_) (fun hb=>?_)<;>(try simp only [E7,M9] at hb))|(refine L7 (hT d) ?_ ?_;focus ((simp only [go_sem, *]<;>rfl);done))|refine y7 (h1) ?_|refine y7 (h2) ?_|refine y7 (h3) ?_|refine y7 (h4) ?_|refine y7 (h5) ?_|refine y7 (h8) ?_)<;>simp only [go_sem, *]))
  rw [ev ⟨gen,1000,0⟩];refine cj3 g9 hd (dk:=F0 l a1) ?_ ?_ hid (i0:=⟨gen,1000,0⟩) (cs:=F.cells) (by rw [n8];simp only [go_sem, *]) ?_ (e9 _ _) (aC6 _) ?_ ?_
  ·simp only [go_sem, *]
  ·simp only [bv5]
  ·simp only [go_sem, *]
  ·repeat (first|exact a6.refl _ _|refine a6.set ?_|refine a6.new ?_ (e9 _ _))
  ·simp only [fz,fzL,aC9,aX9,bh0,L6,p7,InV,InL,S8,aH0,bN7,at6,aW9,ae0]
def PrT (l:List Int) (n:Nat) (g:List Ty) (hs:List Fm) (a:Nat):Prop:=∃ p a',PfG p/\PfW p /\
 ∀ d,m_ env 15 [.ptr d 0,.sl .any [],sqV g hs,.int .i64 n] d (.box (F0 l a)) (.agg p.cells) (.box (F0 l a'))
def aR5 (l:List Int) (n:Nat):Prop:=∀ (g:List Ty) (hs:List Fm) (a:Nat),Plc n g hs->PrT l n g hs a
theorem aU1 {id:GoAbs.Id} {n:Nat} {rows:List (List V)} {B B':List V} (h:B'=fzL id n (.sl .any rows) B):∀ p∈B.zip B',FzD id n rows p.1 p.2:=by rw [h];exact dl7 B
structure dG5 (l:List Int) (n:Nat) (g:List Ty) (hs:List Fm) (a:Nat) (t:Tm) (k q r:Int) (d:GoAbs.Id) (h:H) (gen0:Nat) (σ:St):Prop where
 j0:σ.tm 0=.ptr d 0
 j1:σ.tm 1=.sl .any []
 j3:σ.tm 3=.int .i64 ((n+1:Nat):Int)
 j6:σ.tm 6=.ptr ⟨gen0,0,0⟩ 0
 j8:σ.tm 8=.ptr ⟨gen0,0,1⟩ 0
 j9:σ.tm 9=.ptr ⟨gen0,1,3⟩ 0
 j10:σ.tm 10=.int .i64 r
 b6:σ.h ⟨gen0,0,0⟩=some (.box [.sl .any (g.map Ty.cells),.sl .any (hs.map Fm.cells)])
 b8:σ.h ⟨gen0,0,1⟩=some (.box [.int .i64 0,.int .i64 0,.int .i64 0,.sl .full [],.sl .full [],.sl .full [],.sl .full []])
 b9:σ.h ⟨gen0,1,3⟩=some (.box [.int .i64 k,.int .i64 0,.int .i64 0,.sl .any [],.sl .any [t.cells],.slb ⟨gen0,1000,0⟩ 1,.sl .any [(E9 t).cells]])
 bx:σ.h ⟨gen0,1000,0⟩=some (.box (fmQ q c8 (H5 t)).cells)
 bd:σ.h d=some (.box (F0 l a))
 ag:a6 d h σ.h
def bs4 (l:List Int) (n:Nat) (g:List Ty) (hs:List Fm) (a:Nat) (t:Tm) (k q r:Int) (p:Pf) (a':Nat):Prop :=
 ∀ (d:GoAbs.Id) (h:H) (o:GoAbs.Obj) (g0:G) (w0:World) (gen0:Nat) (σ:St),h d=some o->Rel env g0 w0 h->(∀ id,h id≠none->id.gen<gen0)->dG5 l n g hs a t k q r d h gen0 σ ->
  AR ⟨Tryz.prog,env,Tryz.f43.ntmps,Tryz.f43,g0,w0,h,.agg p.cells,p8 h d (.box (F0 l a'))⟩ gen0 [.code (K4 [true,true,true,true] (x8 Tryz.f43))] .normal σ
theorem cf1 (l:List Int) (hl:l.length<=1000) {n:Nat} (c:Plc (n+1) g hs) (a:Nat) (ih:aR5 l n) {t:Tm} (mt:J3 1 g c8 t) (wt:TmW t) {k q r:Int} (hk:(k=10\/k=14)/\(q=5\/q=7)/\(r=11\/r=15)) :
  ∃ p a',PfG p/\PfW p/\bs4 l n g hs a t k q r p a':=by
 obtain ⟨hk,hq,hr⟩:=hk;have gl:=c.gl;have hlh:=c.hl;have j:=br4 mt c.gg a_;obtain ⟨p,a3,gp,wp,hQ⟩:=ih (g++[c8]) ((hs.map fun x=>x.up 1 0)++[H5 t]) a (c.dH6 .nat j);obtain ⟨sT,hT,zT⟩:=bh8 mt c.gg .nat;have hB:=aS3 g [c8] hs a_ b_ a_ (fun x hx=>(c.hy x hx).fg.toW);rw [show (([c8]:List Ty).length:Int)=1 from rfl] at hB;simp only [E0,B7] at hB;have hW:=bu2 (g++[c8]) (hs.map fun x=>x.up 1 0) (by simp;omega) (H5 t);have hN:=s8;have h0:=an8 0;have h1:=bq1 0;have hw:IntKind.i64.wrap (((n+1:Nat):Int) - 1)=(n:Int):=x7 a_ a_ a_;have jQ:=bU2 (k:=q) hq mt c.gg a_;have wQ:=jQ.fg.toW;have hu:=ap2 1 _ wQ 0;have ju:=jQ.up (m:=[c8]) a_ b_;rw [show (([c8]:List Ty).length:Int)=1 from rfl] at ju;have he:=bP8 k ((fmQ q c8 (H5 t)).up 1 0) (a9 0) (ae3 0) ju.fg.toW (A6 _) aB7;have gP:PfG (V6 k q t):=.ex hk ⟨jQ.fg,by have:=jQ.sz;omega,jQ.al⟩ sT (.refl sT);have wP:PfW (V6 k q t):=bz3 wQ wt (Q2 wt);have gE:PfG (aA6 k ((fmQ q c8 (H5 t)).up 1 0) (a9 0) (ae3 0)):=.ex hk ⟨ju.fg,by have:=ju.sz;omega,ju.al⟩ ⟨.var a_,by decide⟩ (.hyp a_);have wE:PfW (aA6 k ((fmQ q c8 (H5 t)).up 1 0) (a9 0) (ae3 0)):=bz3 ju.fg.toW (A6 _) aB7;have cP:ec6 _:=⟨ch6 k q t⟩;have aQ:(fmQ q c8 (H5 t)).args.map Fm.cells=[(H5 t).cells]:=rfl;have fP:(V6 k q t).N5.map Fm.cells=[(fmQ q c8 (H5 t)).cells]:=rfl;have kP:(V6 k q t).kind=k:=rfl;have hr2:=H8 (l:=l) (a:=a3) (n:=2) a_ a_;have fin:∀ e:Pf,PfG e->PfW e->PfG (pfK r [V6 k q t,e])/\PfW (pfK r [V6 k q t,e]):=fun e ge we=>⟨.two a_ gP ge,bK7 b_ (by simp [wP,we])⟩;have hP:∀ e:Pf,PfW e->c_ env 31 [.int .i64 r,.sl .any [(V6 k q t).cells,e.cells]] (.agg (pfK r [V6 k q t,e]).cells):=fun e we=>by
  rw [aE9];have:=bu4 r [V6 k q t,e] b_ (by simp [wP,we]);simpa only [E0,B7] using this
 generalize hq2:r8 l a3 2=q2 at hr2;obtain ⟨c2,a4⟩:=q2;simp only at hr2;have n21:(r8 l a3 2).1=c2:=by rw [hq2]
 have n22:(r8 l a3 2).2=a4:=by rw [hq2]
 clear gl hlh c ih j sT hT zT hk hq hr jQ wQ ju gP wP hr2 hq2 mt wt;rcases Classical.em (c2=0) with h2|h2
 ·subst h2
  obtain ⟨g1,g2⟩:=fin _ gE wE;have hP:=hP _ wE;refine ⟨_,a4,g1,g2,?_⟩;clear fin g1 g2 gE wE gp wp;generalize pfK r [V6 k q t,aA6 k ((fmQ q c8 (H5 t)).up 1 0) (a9 0) (ae3 0)]=F at *;intro d h o g0 w0 gen σ hd g9 hfr ⟨j0,j1,j3,j6,j8,j9,j10,b6,b8,b9,bx,bd,ag⟩;have e9:=o0 hfr;have n8:Tryz.f43.results.toList=[.cell 8 34]:=rfl;refine bs0 ⟨gen,1000,0⟩ 1 5 [(fmQ q c8 (H5 t)).cells] [(0,.ptr d 0),(1,.sl .any []),(3,.int .i64 ((n+1:Nat):Int)),(6,.ptr ⟨gen,0,0⟩ 0),(8,.ptr ⟨gen,0,1⟩ 0),(9,.ptr ⟨gen,1,3⟩ 0),(10,.int .i64 r)]
   [(⟨gen,0,0⟩,[.sl .any (g.map Ty.cells),.sl .any (hs.map Fm.cells)],[.sl .any (g.map Ty.cells),.sl .any (hs.map Fm.cells)]),(⟨gen,0,1⟩,[.int .i64 0,.int .i64 0,.int .i64 0,.sl .full [],.sl .full [],.sl .full [],.sl .full []],[.int .i64 0,.int .i64 0,.int .i64 0,.sl .full [],.sl .full [],.sl .full [],.sl .full []]),(⟨gen,1,3⟩,[.int .i64 k,.int .i64 0,.int .i64 0,.sl .any [],.sl .any [t.cells],.slb ⟨gen,1000,0⟩ 1,.sl .any [(E9 t).cells]],(V6 k q t).cells)] rfl hd bd ?_ rfl g9 bx ?_ rfl ?_ ?_ (e9 _ _) ?_ ag ?_ ?_ ?_ ?_
  ·simp only [bv5]
  ·show List.take 5 _=_
   simp only [Fm.Q5,bo6,List.flatten_nil,ae7]
  ·simp only [D9,K0,D1]
   rintro r rfl;exact Fm.w9 _
  ·rw [Fm.w9];exact w7 _
  ·simp only [D9,K0,D1]
   rintro b (rfl|rfl|rfl)<;>simp
  ·simp only [S8,aC6,L6]
  ·simp only [D9,K0,D1]
   rintro b (rfl|rfl|rfl)
   ·exact ⟨e9 _ _,b6,rfl,aU1 (by simp only [fzL,fz,bb0,bR6]),by simp only [InL,InV,ae0,ai5,aG9,L6]⟩
   ·exact ⟨e9 _ _,b8,rfl,aU1 (by simp only [fzL,fz,aC9]),by simp only [InL,InV,S8,ae0,L6]⟩
   ·exact ⟨e9 _ _,b9,by rw [Pf.w9];rfl,aU1 (by rw [cP.out];simp only [fzL,fz,aC9,aX9,bh0,L6,p7]),aW9 _⟩
  ·have f1:=n9 hfr hd
   have f2:=p6 hfr hd;simp only [D9,K0,D1];rintro b (rfl|rfl|rfl|rfl|rfl|rfl|rfl)
   all_goals
    refine ⟨.inr (.inl j_),?_⟩;simp only [InV,S8,ae0,L6,G4,I7,go_sem, *,E8,reduceCtorEq,H9]
  simp only [G4,I7];clear cP j0 j1 j3 j6 j8 j9 j10 b6 b8 b9 bx bd ag σ;generalize V6 k q t=P at *;generalize aA6 k ((fmQ q c8 (H5 t)).up 1 0) (a9 0) (ae3 0)=E at *;generalize fmQ q c8 (H5 t)=Q at *;generalize H5 t=X at *;unfold sqV at *;have hQd:=hQ d;have f1:=n9 hfr hd;have f2:=p6 hfr hd
  conv=>arg 3;simp only [K4,x8,Tryz.f43,aa7]
  have hNx:=J2 l hl d;exact ah3
 ·have b2:(c2==0)=false:=by simpa using h2
  obtain ⟨g1,g2⟩:=fin _ gp wp;have hP:=hP _ wp;refine ⟨_,a4,g1,g2,?_⟩;clear fin g1 g2 gE wE gp wp;generalize pfK r [V6 k q t,p]=F at *;intro d h o g0 w0 gen σ hd g9 hfr ⟨j0,j1,j3,j6,j8,j9,j10,b6,b8,b9,bx,bd,ag⟩;have e9:=o0 hfr;have n8:Tryz.f43.results.toList=[.cell 8 34]:=rfl;refine bs0 ⟨gen,1000,0⟩ 1 5 [(fmQ q c8 (H5 t)).cells] [(0,.ptr d 0),(1,.sl .any []),(3,.int .i64 ((n+1:Nat):Int)),(6,.ptr ⟨gen,0,0⟩ 0),(8,.ptr ⟨gen,0,1⟩ 0),(9,.ptr ⟨gen,1,3⟩ 0),(10,.int .i64 r)]
   [(⟨gen,0,0⟩,[.sl .any (g.map Ty.cells),.sl .any (hs.map Fm.cells)],[.sl .any (g.map Ty.cells),.sl .any (hs.map Fm.cells)]),(⟨gen,0,1⟩,[.int .i64 0,.int .i64 0,.int .i64 0,.sl .full [],.sl .full [],.sl .full [],.sl .full []],[.int .i64 0,.int .i64 0,.int .i64 0,.sl .full [],.sl .full [],.sl .full [],.sl .full []]),(⟨gen,1,3⟩,[.int .i64 k,.int .i64 0,.int .i64 0,.sl .any [],.sl .any [t.cells],.slb ⟨gen,1000,0⟩ 1,.sl .any [(E9 t).cells]],(V6 k q t).cells)] rfl hd bd ?_ rfl g9 bx ?_ rfl ?_ ?_ (e9 _ _) ?_ ag ?_ ?_ ?_ ?_
  ·simp only [bv5]
  ·show List.take 5 _=_
   simp only [Fm.Q5,bo6,List.flatten_nil,ae7]
  ·simp only [D9,K0,D1]
   rintro r rfl;exact Fm.w9 _
  ·rw [Fm.w9];exact w7 _
  ·simp only [D9,K0,D1]
   rintro b (rfl|rfl|rfl)<;>simp
  ·simp only [S8,aC6,L6]
  ·simp only [D9,K0,D1]
   rintro b (rfl|rfl|rfl)
   ·exact ⟨e9 _ _,b6,rfl,aU1 (by simp only [fzL,fz,bb0,bR6]),by simp only [InL,InV,ae0,ai5,aG9,L6]⟩
   ·exact ⟨e9 _ _,b8,rfl,aU1 (by simp only [fzL,fz,aC9]),by simp only [InL,InV,S8,ae0,L6]⟩
   ·exact ⟨e9 _ _,b9,by rw [Pf.w9];rfl,aU1 (by rw [cP.out];simp only [fzL,fz,aC9,aX9,bh0,L6,p7]),aW9 _⟩
  ·have f1:=n9 hfr hd
   have f2:=p6 hfr hd;simp only [D9,K0,D1];rintro b (rfl|rfl|rfl|rfl|rfl|rfl|rfl)
   all_goals
    refine ⟨.inr (.inl j_),?_⟩;simp only [InV,S8,ae0,L6,G4,I7,go_sem, *,E8,reduceCtorEq,H9]
  simp only [G4,I7];clear cP j0 j1 j3 j6 j8 j9 j10 b6 b8 b9 bx bd ag σ;generalize V6 k q t=P at *;generalize aA6 k ((fmQ q c8 (H5 t)).up 1 0) (a9 0) (ae3 0)=E at *;generalize fmQ q c8 (H5 t)=Q at *;generalize H5 t=X at *;unfold sqV at *;have hQd:=hQ d;have f1:=n9 hfr hd;have f2:=p6 hfr hd
  conv=>arg 3;simp only [K4,x8,Tryz.f43,aa7]
  have hNx:=J2 l hl d;exact ah3
theorem cY1 (l:List Int) (hl:l.length<=1000) {n:Nat} (c:Plc (n+1) g hs) (a:Nat) (ih:aR5 l n):∃ p a',PfG p/\PfW p /\
  ∀ d,m_ env 43 [.ptr d 0,.sl .any [],sqV g hs,.int .i64 ((n+1:Nat):Int)] d (.box (F0 l a)) (.agg p.cells) (.box (F0 l a')):=by
 obtain ⟨t,a1,mt,wt,_,hS⟩:=cY9 l hl c a;have f5:(fmQ 5 c8 (H5 t)).cells=[.int .i64 5,.int .i64 c8.kind,.sl .any (c8.args.map Ty.cells),.sl .any [],.sl .any [(H5 t).cells]]:=Fm.r7 5 c8 [] [H5 t];have f7:(fmQ 7 c8 (H5 t)).cells=[.int .i64 7,.int .i64 c8.kind,.sl .any (c8.args.map Ty.cells),.sl .any [],.sl .any [(H5 t).cells]]:=Fm.r7 7 c8 [] [H5 t];have b3:∀ c3:Int,c3≠0->(c3==0)=false:=fun c3 h=>by simpa using h
 generalize hq3:r8 l a1 3=q3;obtain ⟨c3,a2⟩:=q3;have n31:(r8 l a1 3).1=c3:=by rw [hq3]
 have n32:(r8 l a1 3).2=a2:=by rw [hq3]
 clear hq3;rcases Classical.em (c3=0) with h3|h3
 ·obtain ⟨p,a4,gp,wp,hT⟩:=cf1 l hl c a2 ih mt wt (k:=14) (q:=7) (r:=15) (by decide)
  subst h3;refine ⟨p,a4,gp,wp,?_⟩;clear gp wp c ih mt wt;unfold bs4 at hT;have ho:=fun d h o g0 w0 gen σ h1 h2 h3 a b c d' e f g' h' i j k m n'=>hT d h o g0 w0 gen σ h1 h2 h3 ⟨a,b,c,d',e,f,g',h',i,j,k,m,n'⟩;clear hT;generalize hX5:fmQ 5 c8 (H5 t)=X5 at *;generalize hX7:fmQ 7 c8 (H5 t)=X7 at *;generalize H5 t=XX at *;generalize E9 t=RR at *;clear hX5 hX7;unfold sqV at *;intro d h hd;have hSd:=hS d;have hdd:=hd;clear hS;refine g_ Tryz.func43 [.cell 8 34] fun g0 w0 gen g9 hfr e9 n8=>?_;have y1:=n9 hfr hd;have y2:=p6 hfr hd;change AR _ _ [.code (.seq (K4 [false] (x8 Tryz.f43)) (.seq (K4 [true,false] (x8 Tryz.f43)) (.seq (K4 [true,true,false] (x8 Tryz.f43)) (.seq (K4 [true,true,true,false] (x8 Tryz.f43)) (K4 [true,true,true,true] (x8 Tryz.f43))))))] _ _;generalize K4 [true,true,true,true] (x8 Tryz.f43)=C4 at ho ⊢
  conv=>arg 3;simp only [K4,x8,Tryz.f43,aa7]
  repeat' (first
   |refine K8 ?_|refine P8 ?_|refine K7 ?_|refine C8 ?_|refine P7 ?_|refine B5 ?_|refine E4 ?_|refine B4 ?_
   |refine A8 (by decide) ?_|refine Y5 ?_|refine S2 ?_
   |(refine ⟨?_,?_⟩;focus ((repeat' (first|refine ⟨?_,?_⟩|refine .inr ?_));all_goals kernel_rfl))
   |refine K3 rfl ?_|refine K1 rfl ?_|(refine M6 rfl (fun hc=>?_) (fun hc=>?_)<;>(try rw [L1] at hc)<;>(try simp only [hc]))
   |(refine aU9 ⟨gen,1000,0⟩ hSd (by first|assumption|simp only [go_sem, *]) (by first|exact e9 _ _|simp only [go_sem, *]) ?_<;>simp only [go_sem, *])
   | ((first|refine D2 ?_|(refine A9 (fun hb=>?_) (fun hb=>?_)<;>(try simp only [E7,M9] at hb))|refine L7 (J2 l hl d _ _) q_ ?_)<;>simp only [go_sem, *]))
  refine ho d h _ g0 w0 gen _ hdd g9 hfr ?_ ?_ ?_ ?_ ?_ ?_ ?_ ?_ ?_ ?_ ?_ ?_ ?_<;>simp only [go_sem, *]
  repeat (first|assumption|exact a6.refl _ _|refine a6.set ?_|refine a6.new ?_ (e9 _ _))
 ·obtain ⟨p,a4,gp,wp,hT⟩:=cf1 l hl c a2 ih mt wt (k:=10) (q:=5) (r:=11) (by decide)
  have b3:=b3 c3 h3;refine ⟨p,a4,gp,wp,?_⟩;clear gp wp c ih mt wt;unfold bs4 at hT;have ho:=fun d h o g0 w0 gen σ h1 h2 h3 a b c d' e f g' h' i j k m n'=>hT d h o g0 w0 gen σ h1 h2 h3 ⟨a,b,c,d',e,f,g',h',i,j,k,m,n'⟩;clear hT;generalize hX5:fmQ 5 c8 (H5 t)=X5 at *;generalize hX7:fmQ 7 c8 (H5 t)=X7 at *;generalize H5 t=XX at *;generalize E9 t=RR at *;clear hX5 hX7;unfold sqV at *;intro d h hd;have hSd:=hS d;have hdd:=hd;clear hS;refine g_ Tryz.func43 [.cell 8 34] fun g0 w0 gen g9 hfr e9 n8=>?_;have y1:=n9 hfr hd;have y2:=p6 hfr hd;change AR _ _ [.code (.seq (K4 [false] (x8 Tryz.f43)) (.seq (K4 [true,false] (x8 Tryz.f43)) (.seq (K4 [true,true,false] (x8 Tryz.f43)) (.seq (K4 [true,true,true,false] (x8 Tryz.f43)) (K4 [true,true,true,true] (x8 Tryz.f43))))))] _ _;generalize K4 [true,true,true,true] (x8 Tryz.f43)=C4 at ho ⊢
  conv=>arg 3;simp only [K4,x8,Tryz.f43,aa7]
  repeat' (first
   |refine K8 ?_|refine P8 ?_|refine K7 ?_|refine C8 ?_|refine P7 ?_|refine B5 ?_|refine E4 ?_|refine B4 ?_
   |refine A8 (by decide) ?_|refine Y5 ?_|refine S2 ?_
   |(refine ⟨?_,?_⟩;focus ((repeat' (first|refine ⟨?_,?_⟩|refine .inr ?_));all_goals kernel_rfl))
   |refine K3 rfl ?_|refine K1 rfl ?_|(refine M6 rfl (fun hc=>?_) (fun hc=>?_)<;>(try rw [L1] at hc)<;>(try simp only [hc]))
   |(refine aU9 ⟨gen,1000,0⟩ hSd (by first|assumption|simp only [go_sem, *]) (by first|exact e9 _ _|simp only [go_sem, *]) ?_<;>simp only [go_sem, *])
   | ((first|refine D2 ?_|(refine A9 (fun hb=>?_) (fun hb=>?_)<;>(try simp only [E7,M9] at hb))|refine L7 (J2 l hl d _ _) q_ ?_)<;>simp only [go_sem, *]))
  refine ho d h _ g0 w0 gen _ hdd g9 hfr ?_ ?_ ?_ ?_ ?_ ?_ ?_ ?_ ?_ ?_ ?_ ?_ ?_<;>simp only [go_sem, *]
  repeat (first|assumption|exact a6.refl _ _|refine a6.set ?_|refine a6.new ?_ (e9 _ _))
theorem bq4 (l:List Int) (hl:l.length<=1000) (n:Nat) (hn:n<=1) (a:Nat):∃ s a',N0 n s/\TyW s/\∀ d,m_ env 35 [.ptr d 0,.int .i64 n] d (.box (F0 l a)) (.agg s.cells) (.box (F0 l a')) :=
 ⟨(mkType l n a).1,(mkType l n a).2,aq0 n a,(aq0 n a).F.W,fun d=>cW8 l hl d n a_ a⟩
theorem aB2 (l:List Int) (hl:l.length<=1000) {n:Nat} (c:Plc n g hs) {t:Ty} (ht:N0 1 t) (a:Nat):∃ x a',J3 1 g t x/\TmW x/\TmS x /\
  ∀ d,m_ env 39 [.ptr d 0,.sl .any (g.map Ty.cells),.agg t.cells,.int .i64 1] d (.box (F0 l a)) (.agg x.cells) (.box (F0 l a')):=by
 have gl:=c.gl;have h2:=ht.H;obtain ⟨x,a',mx,wx,hT⟩:=bP1 l hl 1 g t a c.H ht.F a_ (by simp;omega) a_;exact ⟨x,a',mx,wx,(bh8 mx c.gg ht).1,hT⟩
theorem bu5 (k:Int) (l:List Pf) (hl:l.length<=10) (hw:∀ x∈l,PfW x):c_ env 31 [.int .i64 k,.sl .any (l.map Pf.cells)] (.agg (pfK k l).cells):=by
 rw [aE9];exact bu4 k l hl hw
theorem prT {n:Nat} (c:Plc (n+1) g hs):g.length+(n+1)<=8/\hs.length+(n+1)<=8/\decide (((n+1:Nat):Int)>0)=true/\IntKind.i64.wrap (((n+1:Nat):Int) - 1)=(n:Int)/\decide ((g.length:Int)<10)=true /\
  decide ((hs.length:Int)<10)=true/\((0:Int)==0)=true:=by
 have gl:=c.gl;have hl:=c.hl;exact ⟨gl,hl,by simp<;>omega,x7 a_ a_ a_,by simp;omega,by simp;omega,rfl⟩
structure dm9 (l:List Int) (g:List Ty) (hs:List Fm) (a:Nat) (d:GoAbs.Id) (h:H) (gen0:Nat) (σ:St):Prop where
 j0:σ.tm 0=.ptr d 0
 j1:σ.tm 1=.sl .any []
 j6:σ.tm 6=.ptr ⟨gen0,0,0⟩ 0
 j8:σ.tm 8=.ptr ⟨gen0,0,1⟩ 0
 j9:σ.tm 9=.ptr ⟨gen0,1,1⟩ 0
 b6:σ.h ⟨gen0,0,0⟩=some (.box [.sl .any (g.map Ty.cells),.sl .any (hs.map Fm.cells)])
 b8:σ.h ⟨gen0,0,1⟩=some (.box [.int .i64 0,.int .i64 0,.int .i64 0,.sl .full [],.sl .full [],.sl .full [],.sl .full []])
 b9:σ.h ⟨gen0,1,1⟩=some (.box c8.cells)
 bd:σ.h d=some (.box (F0 l a))
 ag:a6 d h σ.h
def aR6 (env:Nat->Option (List V)) (l:List Int) (g:List Ty) (hs:List Fm) (a:Nat) (p:Pf) (a':Nat):Prop :=
 ∀ (d:GoAbs.Id) (h:H) (o:GoAbs.Obj) (g0:G) (w0:World) (gen0:Nat) (σ:St),h d=some o->Rel env g0 w0 h->(∀ id,h id≠none->id.gen<gen0)->dm9 l g hs a d h gen0 σ ->
  AR ⟨Tryz.prog,env,Tryz.f15.ntmps,Tryz.f15,g0,w0,h,.agg p.cells,p8 h d (.box (F0 l a'))⟩ gen0
   [.code (K4 [true,true,true] (x8 Tryz.f15))] .normal σ
theorem bi2 (l:List Int) (hl:l.length<=1000) {n:Nat} (c:Plc n g hs) (a:Nat):∃ p a',PfG p/\PfW p/\aR6 env l g hs a p a':=by
 have hlh:=c.hl;have hr4:=H8 (l:=l) (a:=a) (n:=4) a_ a_;generalize hq4:r8 l a 4=q4 at hr4;obtain ⟨c4,a1⟩:=q4;simp only at hr4;have n41:(r8 l a 4).1=c4:=by rw [hq4]
 have n42:(r8 l a 4).2=a1:=by rw [hq4]
 obtain ⟨t,a2,mt,wt,sT,hT⟩:=aB2 l hl c .nat a1;have hR:=as5 t wt;have gR:PfG (E9 t):=.refl sT;have wR:PfW (E9 t):=Q2 wt;have hz:((0:Nat):Int)=0:=rfl;have d0:decide (((0:Nat):Int)>0)=false:=rfl;by_cases h4:c4=0
 ·subst h4
  by_cases hh:hs.length=0
  ·obtain rfl:hs=[]:=aR1.1 hh
   refine ⟨E9 t,a2,gR,wR,?_⟩;clear c mt wt sT gR wR hr4 hq4 hlh hh;generalize E9 t=R at *;intro d h o g0 w0 gen0 σ hd g9 hfr ⟨j0,j1,j6,j8,j9,b6,b8,b9,bd,ag⟩;refine ai4 (fun gn dd8 hgn=>?_);have hgf:=o0 hgn;have n8:Tryz.f15.results.toList=[.cell 8 34]:=rfl;have aU4:=o0 hfr;have f1:=n9 hfr hd;have f2:=p6 hfr hd;have f3:=n9 hgn bd;have f4:=p6 hgn bd;have e1:=ah8 hgn b6;have e2:=Z4 hgn b6;have e9:=p5 hd ag hgf (fun r i e=>by rw [e] at bd;rw [hgf] at bd;cases bd);clear hgn dd8
   conv=>arg 3;simp only [K4,x8,Tryz.f15,aa7]
   have zq0:=hT d;have hNx:=J2 l hl d;exact ah3
  ·have hrk:=H8 (l:=l) (a:=a1) (n:=(hs.length:Int)) a_ a_
   generalize hqk:r8 l a1 (hs.length:Int)=qk at hrk;obtain ⟨k,a3⟩:=qk;simp only at hrk;have nk1:(r8 l a1 (hs.length:Int)).1=k:=by rw [hqk]
   have nk2:(r8 l a1 (hs.length:Int)).2=a3:=by rw [hqk]
   have dk:decide ((hs.length:Int)>0)=true:=by simp;omega
   have hH:=bq1 k;refine ⟨ae3 k,a3,.hyp a_,aB7,?_⟩;clear c mt wt sT gR wR hr4 hq4 hlh hh hrk hqk hT hR;generalize ae3 k=R at *;intro d h o g0 w0 gen0 σ hd g9 hfr ⟨j0,j1,j6,j8,j9,b6,b8,b9,bd,ag⟩;refine ai4 (fun gn dd8 hgn=>?_);have hgf:=o0 hgn;have n8:Tryz.f15.results.toList=[.cell 8 34]:=rfl;have aU4:=o0 hfr;have f1:=n9 hfr hd;have f2:=p6 hfr hd;have f3:=n9 hgn bd;have f4:=p6 hgn bd;have e1:=ah8 hgn b6;have e2:=Z4 hgn b6;have e9:=p5 hd ag hgf (fun r i e=>by rw [e] at bd;rw [hgf] at bd;cases bd);clear hgn dd8
   conv=>arg 3;simp only [K4,x8,Tryz.f15,aa7]
   have hNx:=J2 l hl d;exact ah3
 ·have b4:(c4==0)=false:=by simpa using h4
  refine ⟨E9 t,a2,gR,wR,?_⟩;clear c mt wt sT gR wR hr4 hq4 hlh h4;generalize E9 t=R at *;cases b5:(c4==1)
  all_goals
   intro d h o g0 w0 gen0 σ hd g9 hfr ⟨j0,j1,j6,j8,j9,b6,b8,b9,bd,ag⟩;refine ai4 (fun gn dd8 hgn=>?_);have hgf:=o0 hgn;have n8:Tryz.f15.results.toList=[.cell 8 34]:=rfl;have aU4:=o0 hfr;have f1:=n9 hfr hd;have f2:=p6 hfr hd;have f3:=n9 hgn bd;have f4:=p6 hgn bd;have e1:=ah8 hgn b6;have e2:=Z4 hgn b6;have e9:=p5 hd ag hgf (fun r i e=>by rw [e] at bd;rw [hgf] at bd;cases bd);clear hgn dd8
   conv=>arg 3;simp only [K4,x8,Tryz.f15,aa7]
   have zq0:=hT d;have hNx:=J2 l hl d;exact ah3
theorem cz5 (t:Tm) (ht:TmW t):c_ env 178 [.agg t.cells,.int .i64 1] (.agg (t.up 1 0).cells):=by
 intro h;have h1:=cn0 1 t ht 0;clear ht;exact d_ Tryz.func178 [.cell 4 52]
theorem cK0 (g s:Tm) (p:Pf) (hg:TmW g) (hs:TmW s) (hg1:TmW (g.up 1 0)) (hs1:TmW (s.up 1 0)) (hp:PfW p):c_ env 124 [.agg g.cells,.agg s.cells,.agg p.cells] (.agg (bl3 g s p).cells):=by
 intro h;have h1:=cz5 g hg;have h2:=cz5 s hs;have h3:=c_N 3 [g.up 1 0,s.up 1 0] b_ (by simp [hg1,hs1]);have h4:=c_N 3 [g.up 1 0,a9 0] b_ (by simp [hg1,A6]);have h5:=c_N 3 [g,s] b_ (by simp [hg,hs]);simp only [E0,B7] at h3 h4 h5;have w3:TmW (tm0 3 [g.up 1 0,s.up 1 0]):=G9 hg1 hs1;have w4:TmW (tm0 3 [g.up 1 0,a9 0]):=G9 hg1 (A6 _);have w5:TmW (tm0 3 [g,s]):=G9 hg hs;have h6:=bD6 _ _ w3 w4;have h7:=as5 _ w5;have h8:=bH4 (bH6 g s) p _ (ap5 w3 w4) hp (Q2 w5);have v0:=an8 0;unfold bl3;unfold bH6 at h8 ⊢;clear hg hs hg1 hs1 hp w3 w4 w5;exact d_ Tryz.func124 [.cell 6 34]
theorem cm6 (p:Pf) (hp:PfW p) (hf:p.fits=true):c_ env 123 [.agg p.cells,.int .i64 0] (.tup [.agg p.cells,.int .i64 0]):=by
 intro h;have h1:=bZ1 p hp;rw [hf] at h1;have h2:=bZ0 p hp;have n0:((0:Int) != 0)=false:=rfl;clear hp hf;exact d_ Tryz.func123 [.cell 4 34,.tmp 5]
theorem bZ3 (ts:List Tm) (ps:List Pf) (lt:ts.length<=100) (lp:ps.length<=100) (ht:∀ t∈ts,TmW t/\ag1 t=0) (hp:∀ p∈ps,PfW p/\PfG p/\p.fits=true) :
  c_ env 125 [.sl .any (ts.map Tm.cells),.sl .any [],.sl .any (ps.map Pf.cells)] (.int .i64 0):=by
 intro h;have n0:((0:Int) != 0)=false:=rfl;obtain ⟨ls,hls⟩:∃ ls:List Fm,ls=[]:=⟨_,rfl⟩;have e0:V.sl .any []=.sl .any (ls.map Fm.cells):=by rw [hls];rfl
 have el:ls.length=0:=by rw [hls];rfl
 rw [e0];clear e0 hls;refine g_ Tryz.func125 [.tmp 6] fun g0 w0 gen g9 hfr e9 n8=>?_;refine e_ ?_;refine k_ [1,2,16] [] (fun i σ=>True) (ts) ?_ ?_ ?_
 ·simp only [go_sem, *]
  all_goals first|exact f_|exact ⟨f_,trivial⟩
 ·
  intro i x σ gr0 o5 hgf l6 l9 m6 hx hxm hm hlt jI jN jT jA _;obtain ⟨w,e⟩:=ht x hxm;have h1:=ag6 x w;rw [e] at h1;clear ht hp
  first|refine e_ ?_|exact i_
  all_goals exact f_
 intro σ ga0 q9 hgf l6 l8 m5 jT jA _;clear ht lt;refine e_ ?_;refine k_ [2,28] [] (fun i σ=>True) (ls) ?_ ?_ ?_
 ·simp only [go_sem, *]
  all_goals first|exact f_|exact ⟨f_,trivial⟩
 ·
  intro i x σ gr1 I2 hgf l6 C1 C6 hx hxm hm hlt jI jN jT jA _;have z7:=o7 (show gen<gr1 by omega);have z9:=n6 (show gen<gr1 by omega);exfalso;omega
 intro σ ga1 I1 hgf l6 C0 C5 jT jA _;have z6:=o7 (show gen<ga1 by omega);have z8:=n6 (show gen<ga1 by omega);clear el;refine e_ ?_;refine k_ [40] [] (fun i σ=>True) (ps) ?_ ?_ ?_
 ·simp only [go_sem, *]
  all_goals first|exact f_|exact ⟨f_,trivial⟩
 ·
  intro i x σ gr2 bq8 hgf l6 aI2 aI8 hx hxm hm hlt jI jN jT jA _;have aI4:=o7 (show gen<gr2 by omega);have aJ0:=n6 (show gen<gr2 by omega);have aI0:=o7 (show ga0<gr2 by omega);have aI6:=n6 (show ga0<gr2 by omega);obtain ⟨w,g1,e⟩:=hp x hxm;have h1:=bH3 x w g1;rw [e,B8 rfl] at h1;clear hp
  first|refine e_ ?_|exact i_
  all_goals exact f_
 ·
  intro σ ga2 bq7 hgf l6 aI1 aI7 jT jA _;have aI3:=o7 (show gen<ga2 by omega);have aI9:=n6 (show gen<ga2 by omega);have aH9:=o7 (show ga0<ga2 by omega);have aI5:=n6 (show ga0<ga2 by omega);exact i_
theorem cJ9 (g s t:Tm) (p:Pf) (hg:TmW g) (hs:TmW s) (ht:TmW t) (hg1:TmW (g.up 1 0)) (hs1:TmW (s.up 1 0)) (hp:PfW p) (eg:ag1 g=0) (es:ag1 s=0) (et:ag1 t=0) (gp:PfG p) (fp:p.fits=true) (fc:(bl3 g s p).fits=true) :
  c_ env 84 [.agg g.cells,.agg s.cells,.agg t.cells,.agg p.cells] (.tup [.agg (bl3 g s p).cells,.int .i64 0]):=by
 have h1:=cK0 g s p hg hs hg1 hs1 hp;have h2:=bZ3 [g,s,t] [p] b_ b_ (by simp [hg,hs,ht,eg,es,et]) (by simp [hp,gp,fp]);simp only [E0,B7] at h2;have w:PfW (bl3 g s p):=aT8 (ap5 (G9 hg1 hs1) (G9 hg1 (A6 _))) hp (Q2 (G9 hg hs));have h3:=cm6 _ w fc;generalize bl3 g s p=q at *;clear hg hs ht hg1 hs1 hp eg es et gp fp fc w;intro h;exact d_ Tryz.func84 [.cell 8 34,.tmp 9]
theorem dq0 (t:Tm) (ht:TmW t):c_ env 47 [.agg t.cells] (.agg (bB6 t).cells):=by
 have h1:=cW5;have h2:=bG1 0 a_;have h3:=an8 0;have h4:=cV9 aL3 [G3 0,a9 0] ab6 b_ (by simp [aq2,A6]);simp only [E0,B7] at h4;have e4:ax8 aL3 [G3 0,a9 0]=av2:=rfl;rw [e4] at h4;have wp:TmW av2:=bd0.toW;have wl:TmW aL4:=bd5.toW;have wu:TmW (av2.up 1 0):=cD8.toW;have h5:=bD6 av2 (a9 0) wp (A6 _);have h6:=c_N 5 [a9 0] b_ (by simp [A6]);have h7:=c_T 2 c8 [tm0 5 [a9 0]] J9 b_ (by simp [ad7 (A6 _)]);simp only [E0,B7] at h6 h7;have h8:=bq1 0;have h9:=cJ9 aL4 av2 (a9 0) (ae3 0) wl wp (A6 _) (by rw [ch8];exact wl) wu aB7 (by rfl) (by rfl) (by rfl) (.hyp a_) (by rfl) cv3;have h10:=as5 (G3 0) (aq2 0);have ws:PfW bn8:=aT8 (by rw [bH6,ch8];exact ap5 (G9 wl wu) (G9 wl (A6 _))) aB7 (Q2 (G9 wl wp));have h11:=cz4 16 (u6 av2 (a9 0)) t (E9 (G3 0)) bn8 (ap5 wp (A6 _)) ht (Q2 (aq2 0)) ws;have h12:=s8;have es:bl3 aL4 av2 (ae3 0)=bn8:=rfl;rw [es] at h9;have el:tmT 2 c8 [tm0 5 [a9 0]]=aL4:=rfl;rw [el] at h7;unfold bB6;generalize av2=P at *;generalize aL4=S at *;generalize bn8=Z at *;clear ht wp wl wu ws es el;intro h;exact d_ Tryz.func47 [.cell 2 34]
theorem cW6 (l:List Int) (hl:l.length<=1000) (a:Nat) (c:Plc 0 g hs):PrT l 0 g hs a:=by
 obtain ⟨p,a',gp,wp,hT⟩:=bi2 l hl c a;refine ⟨p,a',gp,wp,?_⟩;have hz:decide (((0:Nat):Int)>0)=false:=rfl;have hN:=s8;unfold aR6 at hT;unfold sqV;clear c gp wp;intro d h hd;have hdd:=hd;refine g_ Tryz.func15 [.cell 8 34] fun g0 w0 gen g9 hfr e9 n8=>?_;have f1:=n9 hfr hd;have f2:=p6 hfr hd;change AR _ _ [.code (.seq (K4 [false] (x8 Tryz.f15)) (.seq (K4 [true,false] (x8 Tryz.f15)) (.seq (K4 [true,true,false] (x8 Tryz.f15)) (K4 [true,true,true] (x8 Tryz.f15)))))] _ _;generalize K4 [true,true,true] (x8 Tryz.f15)=C4 at hT ⊢
 conv=>arg 3;simp only [K4,x8,Tryz.f15,aa7]
 repeat' (first
  |refine K8 ?_|refine P8 ?_|refine K7 ?_|refine C8 ?_|refine P7 ?_|refine B5 ?_|refine E4 ?_|refine B4 ?_
  |refine A8 (by decide) ?_|refine Y5 ?_|refine S2 ?_
  |(refine ⟨?_,?_⟩;focus ((repeat' (first|refine ⟨?_,?_⟩|refine .inr ?_));all_goals kernel_rfl))
  |refine K3 rfl ?_|refine K1 rfl ?_|(refine M6 rfl (fun hc=>?_) (fun hc=>?_)<;>(try rw [L1] at hc)<;>(try simp only [hc]))
  | ((first|refine D2 ?_|(refine A9 (fun hb=>?_) (fun hb=>?_)<;>(try simp only [E7,M9] at hb))|refine y7 (hN) ?_)<;>simp only [go_sem, *]))
 refine hT d h _ g0 w0 gen _ hdd g9 hfr ⟨j_,j_,j_,j_,j_,j_,j_,j_,j_,?_⟩;simp only [go_sem, *]
 repeat (first|exact a6.refl _ _|assumption|refine a6.new ?_ (e9 _ _)|refine a6.set ?_)
section
variable {l:List Int} (hl:l.length<=1000) {n:Nat} (ih:aR5 l n) {g:List Ty} {hs:List Fm} {a a1:Nat} (c:Plc (n+1) g hs) (hc2:(r8 l a 17).2=a1)
include hl ih c hc2
theorem cH5 (hc1:(r8 l a 17).1=0):PrT l (n+1) g hs a:=by
 obtain ⟨gl,hlh,hz,hw,h10,h11,n0⟩:=prT c;have hN:=s8;obtain ⟨p,ap,gp,wp,Tp⟩:=ih (g) (hs) a1 (c.pred);obtain ⟨q,aq,gq,wq,Tq⟩:=ih (g) (hs) ap (c.pred);have hP:=bu5 3 [p,q] b_ (by simp [wp,wq]);simp only [E0,B7] at hP;refine ⟨pfK 3 [p,q],aq,.two a_ gp gq,bK7 b_ (by simp [wp,wq]),?_⟩;generalize pfK 3 [p,q]=R at *;clear c ih gl hlh gp wp gq wq;unfold sqV at *;intro d h hd;have hdd:=hd;have zq0:=Tp d;have zq1:=Tq d;have hNx:=J2 l hl d;exact n_ Tryz.func15 [.cell 8 34]
theorem cH6 (hc1:(r8 l a 17).1=1):PrT l (n+1) g hs a:=by
 obtain ⟨gl,hlh,hz,hw,h10,h11,n0⟩:=prT c;have hN:=s8;have hr2:=H8 (l:=l) (a:=a1) (n:=2) a_ a_;generalize hk1:(r8 l a1 2).1=k at hr2;generalize hk2:(r8 l a1 2).2=a2;have hw2:IntKind.i64.wrap (4+k)=4+k:=by rcases (show k=0\/k=1 by omega) with rfl|rfl<;>rfl
 obtain ⟨p,ap,gp,wp,Tp⟩:=ih (g) (hs) a2 (c.pred);obtain ⟨q,aq,gq,wq,Tq⟩:=ih (g) (hs) ap (c.pred);have hP:=bu5 3 [p,q] b_ (by simp [wp,wq]);simp only [E0,B7] at hP;have wR:PfW (pfK 3 [p,q]):=bK7 b_ (by simp [wp,wq]);have gR:PfG (pfK 3 [p,q]):=.two a_ gp gq;have hP2:=bu5 (4+k) [pfK 3 [p,q]] b_ (by simp [wR]);simp only [E0,B7] at hP2;refine ⟨pfK (4+k) [pfK 3 [p,q]],aq,.one a_ gR,bK7 b_ (by simp [wR]),?_⟩;generalize pfK (4+k) [pfK 3 [p,q]]=R2 at *;generalize pfK 3 [p,q]=R at *;clear hr2 c ih gl hlh gp wp gq wq wR gR;unfold sqV at *;intro d h hd;have hdd:=hd;have zq0:=Tp d;have zq1:=Tq d;have hNx:=J2 l hl d;exact n_ Tryz.func15 [.cell 8 34]
theorem cH7 (hc1:(r8 l a 17).1=2):PrT l (n+1) g hs a:=by
 obtain ⟨gl,hlh,hz,hw,h10,h11,n0⟩:=prT c;have hN:=s8;obtain ⟨f,af,mf,wf,Tf⟩:=cH4 l hl 1 a_ g a1 c.H a_;rw [show ((1:Nat):Int)=1 from rfl] at Tf;have jf:=dO0 mf c.gg;have hW:=bu2 g hs a_ f;obtain ⟨p,ap,gp,wp,Tp⟩:=ih (g) (hs++[f]) af (c.with jf);have hP:=cz3 f p wf wp;refine ⟨at2 f p,ap,.imp ⟨jf.fg,by have:=jf.sz;omega,jf.al⟩ gp,cD6 wf wp,?_⟩;generalize at2 f p=R at *;clear c ih gl hlh gp wp wf mf jf;unfold sqV at *;intro d h hd;have hdd:=hd;have zq0:=Tf d;have zq1:=Tp d;have hNx:=J2 l hl d;exact n_ Tryz.func15 [.cell 8 34]
theorem be9 {k:Int} (hk:k=3\/k=7\/k=9\/k=10) (hc1:(r8 l a 17).1=k)
  (ht:∀ (p:Pf) (ap:Nat) (f:Fm) (u:List Int),PfG p->PfW p->(∀ d,m_ env 15 [.ptr d 0,.sl .any [],sqV g hs,.int .i64 n] d (.box (F0 l a1)) (.agg p.cells) (.box (F0 l ap))) ->
   c_ env 16 [.sl .any [],sqV g hs,.agg p.cells] (.tup [.agg (pvC f u),.int .i64 0])->Sq g hs f->PrT l (n+1) g hs a):PrT l (n+1) g hs a:=by
 obtain ⟨p,ap,gp,wp,Tp⟩:=ih g hs a1 c.pred;obtain ⟨f,u,e,hI,_,oI⟩:=bO9 c.pred.ck gp wp;rcases oI with ⟨he,rfl,rfl⟩|⟨rfl,sI⟩
 rotate_left
 ·exact ht p ap _ _ gp wp Tp hI sI
 obtain ⟨gl,hlh,hz,hw,h10,h11,n0⟩:=prT c;have hN:=s8;have hne:(e==0)=false:=by simpa using he
 obtain ⟨q,aq,gq,wq,hT⟩:=bi2 l hl c ap;refine ⟨q,aq,gq,wq,?_⟩;clear ht c ih gl hlh gp wp gq wq he;unfold aR6 at hT;unfold sqV at *;rcases hk with rfl|rfl|rfl|rfl
 all_goals
  intro d h hd;have hdd:=hd;refine g_ Tryz.func15 [.cell 8 34] fun g0 w0 gen g9 hfr e9 n8=>?_;have f1:=n9 hfr hd;have f2:=p6 hfr hd;change AR _ _ [.code (.seq (K4 [false] (x8 Tryz.f15)) (.seq (K4 [true,false] (x8 Tryz.f15)) (.seq (K4 [true,true,false] (x8 Tryz.f15)) (K4 [true,true,true] (x8 Tryz.f15)))))] _ _;generalize K4 [true,true,true] (x8 Tryz.f15)=C4 at hT ⊢
  conv=>arg 3;simp only [K4,x8,Tryz.f15,aa7]
  repeat' (first
   |refine K8 ?_|refine P8 ?_|refine K7 ?_|refine C8 ?_|refine P7 ?_|refine B5 ?_|refine E4 ?_|refine B4 ?_
   |refine A8 (by decide) ?_|refine Y5 ?_|refine S2 ?_
   |(refine ⟨?_,?_⟩;focus ((repeat' (first|refine ⟨?_,?_⟩|refine .inr ?_));all_goals kernel_rfl))
   |refine K3 rfl ?_|refine K1 rfl ?_|(refine M6 rfl (fun hc=>?_) (fun hc=>?_)<;>(try rw [L1] at hc)<;>(try simp only [hc]))
   | ((first|refine D2 ?_|(refine A9 (fun hb=>?_) (fun hb=>?_)<;>(try simp only [E7,M9] at hb))|refine y7 (hN) ?_|(refine L7 (Tp d) ?_ ?_;focus ((simp only [go_sem, *]<;>rfl);done))|refine y7 (hI) ?_|refine L7 (J2 l hl d _ _) q_ ?_)<;>simp only [go_sem, *]))
  refine hT d h _ g0 w0 gen _ hdd g9 hfr ⟨j_,j_,j_,j_,j_,j_,j_,j_,j_,?_⟩;simp only [go_sem, *]
  repeat (first|exact a6.refl _ _|assumption|refine a6.new ?_ (e9 _ _)|refine a6.set ?_)
theorem cH8 (hc1:(r8 l a 17).1=3):PrT l (n+1) g hs a:=by
 refine be9 hl ih c hc2 a_ hc1 fun p ap f u gp wp Tp hI sI=>?_;obtain ⟨gl,hlh,hz,hw,h10,h11,n0⟩:=prT c;have hN:=s8;have wf:=sI.jd.fg.toW;have hW:=bu2 g hs a_ f;obtain ⟨q,aq,gq,wq,Tq⟩:=ih (g) (hs++[f]) ap (c.with sI.jd);have hP:=cz3 f q wf wq;have wR:PfW (at2 f q):=cD6 wf wq;have hP2:=bu5 7 [at2 f q,p] b_ (by simp [wR,wp]);simp only [E0,B7] at hP2;refine ⟨pfK 7 [at2 f q,p],aq,.two a_ (.imp sI.S gq) gp,bK7 b_ (by simp [wR,wp]),?_⟩;generalize pfK 7 [at2 f q,p]=R2 at *;generalize at2 f q=R at *;clear c ih gl hlh gp wp sI gq wq wR wf;unfold sqV at *;intro d h hd;have hdd:=hd;have zq0:=Tp d;have zq1:=Tq d;have hNx:=J2 l hl d;exact n_ Tryz.func15 [.cell 8 34]
end
end Go.Proofs.YtmfhhhhnokhggaaGreatDoor
