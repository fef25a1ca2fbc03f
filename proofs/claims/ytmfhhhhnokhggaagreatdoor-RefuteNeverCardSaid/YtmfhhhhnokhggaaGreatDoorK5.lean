/-
 Walks: several parts in one text.
-/
import Derived.Test.YtmfhhhhnokhggaaGreatDoorK2
set_option linter.unusedSimpArgs false
set_option linter.unusedVariables false
set_option maxRecDepth 20000
set_option maxHeartbeats 4000000
namespace Go.Proofs.YtmfhhhhnokhggaaGreatDoor
open Go GoAbs Go.Proofs
theorem S3 {f:Fm} (h:T8 f=false):aX1 f=.tup [.bool false,.agg I4.cells,.agg A0.cells,.bool false]:=by unfold aX1;rw [h];rfl
theorem aC3:I4.cells=[.int .i64 0,.int .i64 0,.int .i64 0,.sl .any [],.sl .any []]:=by simp [I4,Tm.r7,Ty.O0,Ty.N9]
theorem bo3:A0.cells=[.int .i64 0,.int .i64 0,.sl .any [],.sl .any [],.sl .any []]:=by simp [A0,Fm.r7,Ty.O0,Ty.N9]
theorem cz0 (f:Fm) (hf:FmW f) (hg:f.J4=true) (hk0:f.kind=4\/f.kind=5\/f.kind=6\/f.kind=7):c_ env 195 [.agg f.cells] (aX1 f):=by
 intro h;obtain ⟨a,ha,ga⟩:=Fm.bw6 hg hk0;have wa:FmW a:=hf.arg (by rw [ha];simp);have hb4:((4:Int) != 4)=false:=rfl;have hb5:((5:Int) != 5)=false:=rfl;have hb6:((6:Int) != 5)=true:=rfl;have hb7:((7:Int) != 5)=true:=rfl;have hzt:=aC3;have hzf:=bo3;obtain hk|hk|hk:f.kind=4\/f.kind=5\/(f.kind=6\/f.kind=7):=by omega
 rotate_left 2
 ·rw [S3 (cV2 hk)]
  have hJ:=bP4 false;simp only [B2,r6] at hJ;rcases hk with hk|hk
  all_goals
   clear hk0 ga wa hf hg;exact d_ Tryz.func195 [.tmp 2,.cell 3 52,.cell 4 36,.tmp 5]
 ·have hJ:=bP4 true
  simp only [p7] at hJ;cases k1:(f.type.kind != 1) with
  | true =>
   rw [S3 (cV4 k1)];clear hk0 ga wa hf hg;exact d_ Tryz.func195 [.tmp 2,.cell 3 52,.cell 4 36,.tmp 5]
  | false =>
  cases k2:(a.kind != 3) with
  | true =>
   rw [S3 (dH7 hk ha k2)];clear hk0 ga wa hf hg;exact d_ Tryz.func195 [.tmp 2,.cell 3 52,.cell 4 36,.tmp 5]
  | false =>
  have hka:a.kind=3:=by simpa using k2
  obtain ⟨x,y,hx,gx,gy⟩:=Fm.aO9 ga (.inr hka);have wx:FmW x:=wa.arg (by rw [hx];simp);cases k3:(x.kind != 1) with
  | true =>
   rw [S3 (dC3 ha hx k3)];clear hk0 ga wa hf hg gx gy wx hka;exact d_ Tryz.func195 [.tmp 2,.cell 3 52,.cell 4 36,.tmp 5]
  | false =>
  have hkx:x.kind=1:=by simpa using k3
  obtain ⟨u,v,hu,gu,gv⟩:=Fm.cc2 gx hkx;have wu:TmW u:=wx.term (by rw [hu];simp);cases k4:(u.kind != 3) with
  | true =>
   rw [S3 (dC2 ha hx hu k4)];clear hk0 ga wa hf hg gx gy wx hka hkx wu gu gv;exact d_ Tryz.func195 [.tmp 2,.cell 3 52,.cell 4 36,.tmp 5]
  | false =>
  have hku:u.kind=3:=by simpa using k4
  obtain ⟨p,q,hq,gp,gq⟩:=Tm.cc1 gu hku;have wq:TmW q:=wu.arg (by rw [hq];simp);have hC:=bv0 q wq 0;have hL:=cX8 (a9 0) q;have hV:=bf5 0;have hS:=aV1 x wx _ (cB9 (A6 0) wq);cases k5:decide (q.count 0>0) with
  | true =>
   rw [S3 (dC0 ha hx hu hq k5)];clear hk0 ga wa hf hg gx gy wx hka hkx wu gu gv gp gq hku wq;exact d_ Tryz.func195 [.tmp 2,.cell 3 52,.cell 4 36,.tmp 5]
  | false =>
  cases k6:Fm.same x (V5 (a9 0) q) with
  | false =>
   rw [S3 (dC1 ha hx hu hq k6)];rw [k6] at hS;clear hk0 ga wa hf hg gx gy wx hka hkx wu gu gv gp gq hku wq k6;generalize V5 (a9 0) q=z at *;exact d_ Tryz.func195 [.tmp 2,.cell 3 52,.cell 4 36,.tmp 5]
  | true =>
   obtain ⟨e1,e2,e3⟩:=cy8 (.inl ⟨hk,k2⟩) k1 ha hx k3 hu k4 hq k5 k6;unfold aX1;rw [e1,e2,e3];rw [k6] at hS;clear hk0 ga wa hf hg gx gy wx hka hkx wu gu gv gp gq hku wq k6 e1 e2 e3;generalize V5 (a9 0) q=z at *;exact d_ Tryz.func195 [.tmp 2,.cell 3 52,.cell 4 36,.tmp 5]
 ·have hJ:=bP4 false
  simp only [B2,r6] at hJ;cases k1:(f.type.kind != 1) with
  | true =>
   rw [S3 (cV4 k1)];clear hk0 ga wa hf hg;exact d_ Tryz.func195 [.tmp 2,.cell 3 52,.cell 4 36,.tmp 5]
  | false =>
  cases k2:(a.kind != 2) with
  | true =>
   rw [S3 (dH8 hk ha k2)];clear hk0 ga wa hf hg;exact d_ Tryz.func195 [.tmp 2,.cell 3 52,.cell 4 36,.tmp 5]
  | false =>
  have hka:a.kind=2:=by simpa using k2
  obtain ⟨x,y,hx,gx,gy⟩:=Fm.aO9 ga (.inl hka);have wx:FmW x:=wa.arg (by rw [hx];simp);cases k3:(x.kind != 1) with
  | true =>
   rw [S3 (dC3 ha hx k3)];clear hk0 ga wa hf hg gx gy wx hka;exact d_ Tryz.func195 [.tmp 2,.cell 3 52,.cell 4 36,.tmp 5]
  | false =>
  have hkx:x.kind=1:=by simpa using k3
  obtain ⟨u,v,hu,gu,gv⟩:=Fm.cc2 gx hkx;have wu:TmW u:=wx.term (by rw [hu];simp);cases k4:(u.kind != 3) with
  | true =>
   rw [S3 (dC2 ha hx hu k4)];clear hk0 ga wa hf hg gx gy wx hka hkx wu gu gv;exact d_ Tryz.func195 [.tmp 2,.cell 3 52,.cell 4 36,.tmp 5]
  | false =>
  have hku:u.kind=3:=by simpa using k4
  obtain ⟨p,q,hq,gp,gq⟩:=Tm.cc1 gu hku;have wq:TmW q:=wu.arg (by rw [hq];simp);have hC:=bv0 q wq 0;have hL:=cX8 (a9 0) q;have hV:=bf5 0;have hS:=aV1 x wx _ (cB9 (A6 0) wq);cases k5:decide (q.count 0>0) with
  | true =>
   rw [S3 (dC0 ha hx hu hq k5)];clear hk0 ga wa hf hg gx gy wx hka hkx wu gu gv gp gq hku wq;exact d_ Tryz.func195 [.tmp 2,.cell 3 52,.cell 4 36,.tmp 5]
  | false =>
  cases k6:Fm.same x (V5 (a9 0) q) with
  | false =>
   rw [S3 (dC1 ha hx hu hq k6)];rw [k6] at hS;clear hk0 ga wa hf hg gx gy wx hka hkx wu gu gv gp gq hku wq k6;generalize V5 (a9 0) q=z at *;exact d_ Tryz.func195 [.tmp 2,.cell 3 52,.cell 4 36,.tmp 5]
  | true =>
   obtain ⟨e1,e2,e3⟩:=cy8 (.inr ⟨hk,k2⟩) k1 ha hx k3 hu k4 hq k5 k6;unfold aX1;rw [e1,e2,e3];rw [k6] at hS;clear hk0 ga wa hf hg gx gy wx hka hkx wu gu gv gp gq hku wq k6 e1 e2 e3;generalize V5 (a9 0) q=z at *;exact d_ Tryz.func195 [.tmp 2,.cell 3 52,.cell 4 36,.tmp 5]
def bW7 (l:List Int) (g:List Ty) (t:Ty) (z:Int) (a:Nat) (t':Tm) (a':Nat):Prop :=
 ∀ (d:GoAbs.Id) (h:H) (o:GoAbs.Obj) (g0:G) (w0:World) (gen0 gen:Nat) (σ:St),h d=some o->Rel env g0 w0 h->(∀ id,h id≠none->id.gen<gen0)->bs7 l g t z a d h gen0 σ ->
  AR ⟨Tryz.prog,env,Tryz.f39.ntmps,Tryz.f39,g0,w0,h,.agg t'.cells,p8 h d (.box (F0 l a'))⟩ gen
   [.code (K4 [true,true,true] (x8 Tryz.f39))] .normal σ
variable {l:List Int} {g:List Ty} {t:Ty} {a:Nat}
theorem y_ {z:Int} {d:GoAbs.Id} {h:H} {gen0:Nat} {σ:St}
  (j0:σ.tm 0=.ptr d 0:=by simp only [go_sem, *]) (j1:σ.tm 1=.sl .any (g.map Ty.cells):=by simp only [go_sem, *]) (j3:σ.tm 3=.int .i64 z:=by simp only [go_sem, *]) (j6:σ.tm 6=.ptr ⟨gen0,0,0⟩ 0:=by simp only [go_sem, *]) (j8:σ.tm 8=.ptr ⟨gen0,0,1⟩ 0:=by simp only [go_sem, *])
  (b6:σ.h ⟨gen0,0,0⟩=some (.box t.cells):=by simp only [go_sem, *]) (b8:σ.h ⟨gen0,0,1⟩=some (.box [.int .i64 0,.int .i64 0,.int .i64 0,.sl .full [],.sl .full []]):=by simp only [go_sem, *]) (bd:σ.h d=some (.box (F0 l a)):=by simp only [go_sem, *])
  (ag:a6 d h σ.h:=by (simp only [go_sem, *];repeat (first|exact a6.refl _ _|assumption|refine a6.new ?_ (e9 _ _)|refine a6.new ?_ (aU4 _ _)|refine a6.set ?_))):bs7 l g t z a d h gen0 σ:=⟨j0,j1,j3,j6,j8,b6,b8,bd,ag⟩
theorem w_ {c:Ctx} {gen:Nat} {k:List It} {e:Exit} {σ:St} {Q:Prop} (hh:Q) (walk:PLift Q->AR c gen k e σ:=by
   intro zz
   repeat' (first
    |refine K8 ?_|refine P8 ?_|refine K7 ?_|refine C8 ?_|refine P7 ?_|refine B5 ?_|refine E4 ?_|refine B4 ?_
    |refine A8 (by decide) ?_|refine Y5 ?_|refine S2 ?_
    |(refine ⟨?_,?_⟩;focus ((repeat' (first|refine ⟨?_,?_⟩|refine .inr ?_));all_goals kernel_rfl))
    |refine K3 rfl ?_|refine K1 rfl ?_|(refine M6 rfl (fun hc=>?_) (fun hc=>?_)<;>(try rw [L1] at hc)<;>(try simp only [hc]))
    | ((first|refine D2 ?_|(refine A9 (fun hb=>?_) (fun hb=>?_)<;>(try simp only [E7,M9] at hb))|refine y7 l_ ?_|refine y7 s8 ?_|refine L7 (J2 l hl d _ _) q_ ?_|refine D3 ?_)<;>simp only [go_sem, *]))
   exact zz.down):AR c gen k e σ:=walk ⟨hh⟩
theorem t2q {z:Int} {t':Tm} {a':Nat}
  (walk:∀ (d:GoAbs.Id) (h:H) (o:GoAbs.Obj) (g0:G) (w0:World) (gen gn:Nat) (σ:St) (C3:Code),h d=some o->Rel env g0 w0 h->(∀ id,h id≠none->id.gen<gen) ->
   σ.tm 0=.ptr d 0->σ.tm 1=.sl .any (g.map Ty.cells)->σ.tm 3=.int .i64 z->σ.tm 6=.ptr ⟨gen,0,0⟩ 0->σ.tm 8=.ptr ⟨gen,0,1⟩ 0->σ.h ⟨gen,0,0⟩=some (.box t.cells)->σ.h ⟨gen,0,1⟩=some (.box [.int .i64 0,.int .i64 0,.int .i64 0,.sl .full [],.sl .full []])->σ.h d=some (.box (F0 l a))->a6 d h σ.h ->
   (∀ r i,σ.h ⟨gn,r,i⟩=none)->(∀ r i,h ⟨gen,r,i⟩=none)->(∀ r i,((⟨gen,r,i⟩:GoAbs.Id)=d)=False)->(∀ r i,(d=(⟨gen,r,i⟩:GoAbs.Id))=False)->(∀ r i,((⟨gn,r,i⟩:GoAbs.Id)=d)=False)->(∀ r i,(d=(⟨gn,r,i⟩:GoAbs.Id))=False)->(gn=gen)=False->(gen=gn)=False->gen<gn->(∀ r i,h ⟨gn,r,i⟩=none)->Tryz.f39.results.toList=[.cell 8 52] ->
   (∀ {b:Nat},cS9 l g t z b t' a'->∀ (gn:Nat) (σ:St),bs7 l g t z b d h gen σ->AR ⟨Tryz.prog,env,Tryz.f39.ntmps,Tryz.f39,g0,w0,h,.agg t'.cells,p8 h d (.box (F0 l a'))⟩ gn [.code C3] .normal σ) ->
   AR ⟨Tryz.prog,env,Tryz.f39.ntmps,Tryz.f39,g0,w0,h,.agg t'.cells,p8 h d (.box (F0 l a'))⟩ gn [.code (K4 [true,true,true,false] (x8 Tryz.f39)),.code C3] .normal σ) :
  bW7 l g t z a t' a':=fun d h o g0 w0 gen _ σ hd g9 hfr ⟨j0,j1,j3,j6,j8,b6,b8,bd,ag⟩=>by
 refine ai4 (fun gn _ hgn=>?_);have hgf:=o0 hgn;change AR _ _ [.code (.seq (K4 [true,true,true,false] (x8 Tryz.f39)) (K4 [true,true,true,true] (x8 Tryz.f39)))] _ _;refine K8 ?_;refine walk d h o g0 w0 gen gn σ _ hd g9 hfr j0 j1 j3 j6 j8 b6 b8 bd ag hgf (o0 hfr) (p6 hfr hd) (n9 hfr hd) (p6 hgn bd) (n9 hgn bd) (Z4 hgn b6) (ah8 hgn b6) ?_ ?_ rfl ?_
 ·have:=hgn _ (by rw [b6];simp);simpa using this
 ·exact p5 hd ag hgf (fun r i e=>by rw [e] at bd;rw [hgf] at bd;cases bd)
 ·exact fun T gn σ s=>T d h o g0 w0 gen gn σ hd g9 hfr s
theorem t2_ {z:Int} {t':Tm} {a':Nat}
  (walk:∀ (d:GoAbs.Id) (h:H) (o:GoAbs.Obj) (g0:G) (w0:World) (gen gn:Nat) (σ:St) (C3:Code),h d=some o->Rel env g0 w0 h->(∀ id,h id≠none->id.gen<gen) ->
   σ.tm 0=.ptr d 0->σ.tm 1=.sl .any (g.map Ty.cells)->σ.tm 3=.int .i64 z->σ.tm 6=.ptr ⟨gen,0,0⟩ 0->σ.tm 8=.ptr ⟨gen,0,1⟩ 0->σ.h ⟨gen,0,0⟩=some (.box t.cells)->σ.h ⟨gen,0,1⟩=some (.box [.int .i64 0,.int .i64 0,.int .i64 0,.sl .full [],.sl .full []])->σ.h d=some (.box (F0 l a))->a6 d h σ.h ->
   (∀ r i,σ.h ⟨gn,r,i⟩=none)->(∀ r i,h ⟨gen,r,i⟩=none)->(∀ r i,((⟨gen,r,i⟩:GoAbs.Id)=d)=False)->(∀ r i,(d=(⟨gen,r,i⟩:GoAbs.Id))=False)->(∀ r i,((⟨gn,r,i⟩:GoAbs.Id)=d)=False)->(∀ r i,(d=(⟨gn,r,i⟩:GoAbs.Id))=False)->(gn=gen)=False->(gen=gn)=False->(∀ r i,h ⟨gn,r,i⟩=none)->Tryz.f39.results.toList=[.cell 8 52] ->
   AR ⟨Tryz.prog,env,Tryz.f39.ntmps,Tryz.f39,g0,w0,h,.agg t'.cells,p8 h d (.box (F0 l a'))⟩ gn [.code (K4 [true,true,true,false] (x8 Tryz.f39)),.code C3] .normal σ:=by
   intro d h o g0 w0 gen gn σ C3 hd g9 hfr j0 j1 j3 j6 j8 b6 b8 bd ag hgf aU4 f1 f2 f3 f4 e1 e2 e9 n8
   conv=>arg 3;arg 1;simp only [K4,x8,Tryz.f39,aa7]
   repeat' (first
    |refine K8 ?_|refine P8 ?_|refine K7 ?_|refine C8 ?_|refine P7 ?_|refine B5 ?_|refine E4 ?_|refine B4 ?_
    |refine A8 (by decide) ?_|refine Y5 ?_|refine S2 ?_
    |(refine ⟨?_,?_⟩;focus ((repeat' (first|refine ⟨?_,?_⟩|refine .inr ?_));all_goals kernel_rfl))
    |refine K3 rfl ?_|refine K1 rfl ?_|(refine M6 rfl (fun hc=>?_) (fun hc=>?_)<;>(try rw [L1] at hc)<;>(try simp only [hc]))
    | ((first|refine D2 ?_|(refine A9 (fun hb=>?_) (fun hb=>?_)<;>(try simp only [E7,M9] at hb))|refine y7 l_ ?_|refine y7 s8 ?_|refine y7 B9 ?_|(refine L7 (hT0 d) ?_ ?_;focus ((simp only [go_sem, *]<;>rfl);done))|(refine L7 (Tf d) ?_ ?_;focus ((simp only [go_sem, *]<;>rfl);done))|(refine L7 (Tb d) ?_ ?_;focus ((simp only [go_sem, *]<;>rfl);done))|(refine L7 (Tx d) ?_ ?_;focus ((simp only [go_sem, *]<;>rfl);done))|(refine L7 (Ty d) ?_ ?_;focus ((simp only [go_sem, *]<;>rfl);done))|refine L7 (J2 l hl d _ _) q_ ?_|refine W5 g9 hd (by simp only [go_sem,L6]) (by simp only [go_sem,L6]) (by repeat (first|exact a6.refl _ _|assumption|refine a6.new ?_ (e9 _ _)|refine a6.new ?_ (l6 _ _)|refine a6.new ?_ (aU4 _ _)|refine a6.set ?_)) j_ ?_)<;>simp only [go_sem, *]))):bW7 l g t z a t' a':=t2q fun d h o g0 w0 gen gn σ C3 hd g9 hfr j0 j1 j3 j6 j8 b6 b8 bd ag hgf aU4 f1 f2 f3 f4 e1 e2 _ e9 n8 _=>walk d h o g0 w0 gen gn σ C3 hd g9 hfr j0 j1 j3 j6 j8 b6 b8 bd ag hgf aU4 f1 f2 f3 f4 e1 e2 e9 n8
theorem dF8 (l:List Int) (hl:l.length<=1000) (m:Nat) (ih:bs6 l m) (z:Int) (g:List Ty) (t:Ty) (a:Nat) (hm:43 * z.toNat+tyH t=m)
  (hg:∀ y∈g,TyF y/\tyH y<=40) (ht:TyF t) (hth:tyH t<=40) (hb:g.length+43 * z.toNat+tyH t<=900) (hz:(tyH t:Int)<=z+1000) :
  ∃ t' a',J3 z.toNat g t t'/\bW7 l g t z a t' a':=by
 have hw:IntKind.i64.wrap (z - 1)=z - 1:=x7 rfl a_ a_;have hgl:g.length<=1000:=by omega
 have htw:=ht.W;rcases Int.lt_or_le 0 z with hp|hp
 case inr =>
  have hz0:decide (z>0)=false:=by simp;omega
  obtain ⟨t',a',kt,T3⟩:=dk3 l hl m ih z g t a hm hg ht hth hb hz;clear ih hg;refine ⟨_,a',kt,t2q fun d h o g0 w0 gen gn σ C3 hd g9 hfr j0 j1 j3 j6 j8 b6 b8 bd ag hgf aU4 f1 f2 f3 f4 e1 e2 bx0 e9 n8 hT3=>?_⟩
  conv=>arg 3;arg 1;simp only [K4,x8,Tryz.f39,aa7]
  refine w_ ?_;exact hT3 T3 _ _ y_
 have hz0:decide (z>0)=true:=by simpa using hp
 have hn1:z.toNat=(z - 1).toNat+1:=by omega
 have hr:=H8 (l:=l) (a:=a) (n:=8) a_ a_;generalize hq:r8 l a 8=q at hr;obtain ⟨c,a1⟩:=q;have hc1:(r8 l a 8).1=c:=by rw [hq]
 have hc2:(r8 l a 8).2=a1:=by rw [hq]
 simp only at hr;obtain rfl|rfl|rfl|rfl|rfl|rfl|hge:c=0\/c=1\/c=2\/c=3\/c=4\/c=5\/6<=c:=by omega
 ·
  obtain ⟨s,a2,hs,hsH,hsF,hsW,hT0⟩:=cr3 l hl 0 a1;obtain ⟨b,ab,kb,wb,Tb⟩:=ihT ih (z - 1) (g++[s]) t a2;obtain ⟨x,ax,kx,wx,Tx⟩:=ihT ih (z - 1) g s ab;have hL:=al4 g [s] a_ b_;have hN1:=c_T 2 s [b] hsW b_ (by simp [wb]);have hN2:=c_N 3 [tmT 2 s [b],x] b_ (by simp [wx,az7 hsW wb]);simp only [E0,B7] at hL hN1 hN2;clear ih hr hq hp hg;exact ⟨_,ax,by rw [hn1];exact .app hs kb kx,t2_⟩
 ·
  obtain ⟨s,a2,hs,hsH,hsF,hsW,hT0⟩:=cr3 l hl 0 a1;obtain ⟨x,ax,kx,wx,Tx⟩:=ihT ih (z - 1) g t a2;obtain ⟨y,ay,ky,wy,Ty⟩:=ihT ih (z - 1) g s ax;have hN1:=c_N 10 [x,y] b_ (by simp [wx,wy]);have hN2:=c_N 11 [tm0 10 [x,y]] b_ (by simp [G9 wx wy]);simp only [E0,B7] at hN1 hN2;clear ih hr hq hp hg;exact ⟨_,ay,by rw [hn1];exact .fst hs kx ky,t2_⟩
 ·
  obtain ⟨f,af,kf,wf,Tf⟩:=ihT ih (z - 1) (g++[c8,t]) t a1;obtain ⟨b,ab,kb,wb,Tb⟩:=ihT ih (z - 1) g t af;have hr3:=H8 (l:=l) (a:=ab) (n:=3) a_ a_;obtain ⟨k,hk⟩:∃ k:Nat,(r8 l ab 3).1=(k:Int):=⟨(r8 l ab 3).1.toNat,a_⟩;have hk3:k<3:=by omega
  have en3:=bG1 k a_;clear hr3;have hL:=al4 g [c8,t] a_ b_;have w1:=az7 (k:=2) htw wf;have w2:=az7 (k:=2) J9 w1;have hN1:=c_T 2 t [f] htw b_ (by simp [wf]);have hN2:=c_T 2 c8 [tmT 2 t [f]] J9 b_ (by simp [w1]);have hN3:=c_T 6 t [b,tmT 2 c8 [tmT 2 t [f]],G3 k] htw b_ (by simp [wb,w2,aq2]);simp only [E0,B7] at hL hN1 hN2 hN3;clear ih hr hq hp hg;exact ⟨_,(r8 l ab 3).2,by rw [hn1];exact .V8 hk3 kf kb,t2_⟩
 ·
  obtain ⟨f,af,kf,wf,Tf⟩:=ihT ih (z - 1) (g++[c8,r5,t]) t a1;obtain ⟨b,ab,kb,wb,Tb⟩:=ihT ih (z - 1) g t af;obtain ⟨x,ax,kx,wx,Tx⟩:=ihT ih (z - 1) g r5 ab;have hL:=al4 g [c8,r5,t] a_ b_;have w1:=az7 (k:=2) htw wf;have w2:=az7 (k:=2) Y0 w1;have w3:=az7 (k:=2) J9 w2;have hN1:=c_T 2 t [f] htw b_ (by simp [wf]);have hN2:=c_T 2 r5 [tmT 2 t [f]] Y0 b_ (by simp [w1]);have hN3:=c_T 2 c8 [tmT 2 r5 [tmT 2 t [f]]] J9 b_ (by simp [w2]);have hN4:=c_T 9 t [b,tmT 2 c8 [tmT 2 r5 [tmT 2 t [f]]],x] htw b_ (by simp [wb,w3,wx]);simp only [E0,B7] at hL hN1 hN2 hN3 hN4;clear ih hr hq hp hg;exact ⟨_,ax,by rw [hn1];exact .fold kf kb kx,t2_⟩
 ·
  obtain ⟨s,a2,hs,hsH,hsF,hsW,hT0⟩:=cr3 l hl 0 a1;obtain ⟨x,ax,kx,wx,Tx⟩:=ihT ih (z - 1) g s a2;obtain ⟨y,ay,ky,wy,Ty⟩:=ihT ih (z - 1) g t ax;have hN1:=c_N 10 [x,y] b_ (by simp [wx,wy]);have hN2:=c_N 12 [tm0 10 [x,y]] b_ (by simp [G9 wx wy]);simp only [E0,B7] at hN1 hN2;clear ih hr hq hp hg;exact ⟨_,ay,by rw [hn1];exact .snd hs kx ky,t2_⟩
 ·
  cases cd0:(List.range g.length).find? (aV3 g t) with
  | none =>
   obtain ⟨t',a',kt,T3⟩:=dk3 l hl m ih z g t a1 hm hg ht hth hb hz;clear ih;refine ⟨_,a',kt,t2q fun d h o g0 w0 gen gn σ C3 hd g9 hfr j0 j1 j3 j6 j8 b6 b8 bd ag hgf aU4 f1 f2 f3 f4 e1 e2 bx0 e9 n8 hT3=>?_⟩
   conv=>arg 3;arg 1;simp only [K4,x8,Tryz.f39,aa7]
   refine w_ ?_;refine v_ [0,1,3,6,8] [⟨gen,0,0⟩,⟨gen,0,1⟩] (fun i σ=>a6 d h σ.h/\σ.h d=some (.box (F0 l a1))) (g).length ?_ ?_ ?_
   ·
    simp only [go_sem, *]
    repeat (first|exact a6.refl _ _|assumption|refine a6.new ?_ (e9 _ _)|refine a6.new ?_ (aU4 _ _)|refine a6.set ?_)
   ·
    clear T3;intro i σ gr0 o5 hgn hlt jI jN jS ⟨jA,jd⟩;obtain ⟨jT,jB⟩:=jS;simp only [go_sem] at jT jB;have hgf:=o0 hgn;have l6:=p5 hd jA hgf (fun r i e=>by have:=hfr d (by rw [hd];simp);rw [e] at this;simp at this;omega);have aO3:=u5 hfr hd (show gen<gr0 by omega);have aO5:=D4 hfr hd (show gen<gr0 by omega);have l9:=o7 (show gen<gr0 by omega);have m6:=n6 (show gen<gr0 by omega);have cK9:=o7 (show gn<gr0 by omega);have cL1:=n6 (show gn<gr0 by omega);obtain ⟨x,hx,hxm,hm⟩:=rnx hlt;clear hgn;have hfa:=co2 cd0 hlt;have hw1:IntKind.i64.wrap ((g.length:Int) - 1)=((g.length - 1:Nat):Int):=x7 a_ a_ a_;have hw2:IntKind.i64.wrap (((g.length - 1:Nat):Int) - (i:Int))=((g.length - 1 - i:Nat):Int):=x7 a_ a_ a_;obtain ⟨y,hy⟩:∃ y,g[g.length - 1 - i]? = some y:=⟨_,W4 a_⟩;have hyF:=(hg y (Q7 hy)).1;clear o5 bx0;unfold aV3 at hfa;rw [hy] at hfa;simp only at hfa;clear hg;cases hk4:(y.kind==4) with
    | false =>
     refine w_ ?_
     first|exact (by repeat (first|assumption|refine a6.new ?_ (l6 _ _)))|exact ⟨(by repeat (first|assumption|refine a6.new ?_ (l6 _ _))),hi1⟩
    | true =>
     obtain ⟨p,q,rfl⟩:=dE5 hyF hk4;have hya:(x9 p q).args=[p,q]:=rfl;have hyk:(x9 p q).kind=4:=rfl;simp only [hya,hyk,ad1,J7,bN2,bB7] at hfa;have hqW:TyW q:=by cases hyF with|func ha hb=>exact hb.W
     have hS:=U2 q hqW t htw;rw [hfa] at hS;clear hk4 hyF;refine w_ ?_
     first|exact (by repeat (first|assumption|refine a6.new ?_ (l6 _ _)))|exact ⟨(by repeat (first|assumption|refine a6.new ?_ (l6 _ _))),hi1⟩
   ·
    intro σ ga0 q9 hgn jS ⟨jA,jd⟩;obtain ⟨jT,jB⟩:=jS;simp only [go_sem] at jT jB;have hgf:=o0 hgn;have l6:=p5 hd jA hgf (fun r i e=>by have:=hfr d (by rw [hd];simp);rw [e] at this;simp at this;omega);have aO2:=u5 hfr hd (show gen<ga0 by omega);have aO4:=D4 hfr hd (show gen<ga0 by omega);have l8:=o7 (show gen<ga0 by omega);have m5:=n6 (show gen<ga0 by omega);have cK8:=o7 (show gn<ga0 by omega);have cL0:=n6 (show gn<ga0 by omega);clear hgn;clear hg;refine w_ ?_;exact hT3 T3 _ _ y_
  | some i0 =>
   obtain ⟨hi0,dW2,dV6⟩:=co3 cd0;obtain ⟨p,hp0,hpF,hpm⟩:=cL8 (fun y hy=>(hg y hy).1) dW2;have hpH:=(hg _ hpm).2;rw [ar0] at hpH;obtain ⟨x,ax,kx,wx,Tx⟩:=ihT ih (z - 1) g p a1;have hN:=c_N 3 [a9 i0,x] b_ (by simp [A6,wx]);simp only [E0,B7] at hN;clear ih hr hq hp;refine ⟨_,ax,by rw [hn1];exact .fapp hi0 hp0 kx,t2q fun d h o g0 w0 gen gn σ C3 hd g9 hfr j0 j1 j3 j6 j8 b6 b8 bd ag hgf aU4 f1 f2 f3 f4 e1 e2 bx0 e9 n8 hT3=>?_⟩
   conv=>arg 3;arg 1;simp only [K4,x8,Tryz.f39,aa7]
   refine w_ ?_;refine v_ [0,1,3,6,8] [⟨gen,0,0⟩,⟨gen,0,1⟩] (fun i σ=>a6 d h σ.h/\σ.h d=some (.box (F0 l a1))/\i<=i0) (g).length ?_ ?_ ?_
   ·
    simp only [go_sem, *];exact ⟨by repeat (first|exact a6.refl _ _|assumption|refine a6.new ?_ (e9 _ _)|refine a6.new ?_ (aU4 _ _)|refine a6.set ?_),a_⟩
   ·
    intro i σ gr0 o5 hgn hlt jI jN jS ⟨jA,jd,hii⟩;obtain ⟨jT,jB⟩:=jS;simp only [go_sem] at jT jB;have hgf:=o0 hgn;have l6:=p5 hd jA hgf (fun r i e=>by have:=hfr d (by rw [hd];simp);rw [e] at this;simp at this;omega);have aO3:=u5 hfr hd (show gen<gr0 by omega);have aO5:=D4 hfr hd (show gen<gr0 by omega);have l9:=o7 (show gen<gr0 by omega);have m6:=n6 (show gen<gr0 by omega);have cK9:=o7 (show gn<gr0 by omega);have cL1:=n6 (show gn<gr0 by omega);obtain ⟨x,hx,hxm,hm⟩:=rnx hlt;clear hgn;have jA':=jA;have hw1:IntKind.i64.wrap ((g.length:Int) - 1)=((g.length - 1:Nat):Int):=x7 a_ a_ a_;have hw2:IntKind.i64.wrap (((g.length - 1:Nat):Int) - (i:Int))=((g.length - 1 - i:Nat):Int):=x7 a_ a_ a_;obtain ⟨y,hy⟩:∃ y,g[g.length - 1 - i]? = some y:=⟨_,W4 a_⟩;have hyF:=(hg y (Q7 hy)).1;clear o5 bx0;rcases R0 i i0 with dX3|en5
    ·
     have hfa:=dV6 i dX3;have hi1:i+1<=i0:=dX3;unfold aV3 at hfa;rw [hy] at hfa;simp only at hfa;clear hg;cases hk4:(y.kind==4) with
     | false =>
      refine w_ ?_
      first|exact (by repeat (first|assumption|refine a6.new ?_ (l6 _ _)))|exact ⟨(by repeat (first|assumption|refine a6.new ?_ (l6 _ _))),hi1⟩
     | true =>
      obtain ⟨p,q,rfl⟩:=dE5 hyF hk4;have hya:(x9 p q).args=[p,q]:=rfl;have hyk:(x9 p q).kind=4:=rfl;simp only [hya,hyk,ad1,J7,bN2,bB7] at hfa;have hqW:TyW q:=by cases hyF with|func ha hb=>exact hb.W
      have hS:=U2 q hqW t htw;rw [hfa] at hS;clear hk4 hyF;refine w_ ?_
      first|exact (by repeat (first|assumption|refine a6.new ?_ (l6 _ _)))|exact ⟨(by repeat (first|assumption|refine a6.new ?_ (l6 _ _))),hi1⟩
    ·
     obtain rfl:i=i0:=by omega
     rw [hp0] at hy;cases hy;have hya:(x9 p t).args=[p,t]:=rfl;have hyk:(x9 p t).kind=4:=rfl;have hS:=U2 t htw t htw;rw [Ty.U5] at hS;clear hyF hg dV6 dW2 cd0
     repeat' (first
      |refine K8 ?_|refine P8 ?_|refine K7 ?_|refine C8 ?_|refine P7 ?_|refine B5 ?_|refine E4 ?_|refine B4 ?_
      |refine A8 (by decide) ?_|refine Y5 ?_|refine S2 ?_
      |(refine ⟨?_,?_⟩;focus ((repeat' (first|refine ⟨?_,?_⟩|refine .inr ?_));all_goals kernel_rfl))
      |refine K3 rfl ?_|refine K1 rfl ?_|(refine M6 rfl (fun hc=>?_) (fun hc=>?_)<;>(try rw [L1] at hc)<;>(try simp only [hc]))
      | ((first|refine D2 ?_|(refine A9 (fun hb=>?_) (fun hb=>?_)<;>(try simp only [E7,M9] at hb))|refine y7 (hS) ?_|refine y7 (hN) ?_|refine y7 (an8 _) ?_|(refine L7 (Tx d) ?_ ?_;focus ((simp only [go_sem, *]<;>rfl);done))|refine W5 g9 hd (by simp only [go_sem,L6]) (by simp only [go_sem,L6]) (by repeat (first|exact a6.refl _ _|assumption|refine a6.new ?_ (e9 _ _)|refine a6.new ?_ (l6 _ _)|refine a6.new ?_ (aU4 _ _)|refine a6.set ?_)) j_ ?_)<;>simp only [go_sem, *]))
   ·
    intro σ ga0 q9 hgn jS ⟨jA,jd,hii⟩;obtain ⟨jT,jB⟩:=jS;simp only [go_sem] at jT jB;have hgf:=o0 hgn;have l6:=p5 hd jA hgf (fun r i e=>by have:=hfr d (by rw [hd];simp);rw [e] at this;simp at this;omega);have aO2:=u5 hfr hd (show gen<ga0 by omega);have aO4:=D4 hfr hd (show gen<ga0 by omega);have l8:=o7 (show gen<ga0 by omega);have m5:=n6 (show gen<ga0 by omega);have cK8:=o7 (show gn<ga0 by omega);have cL0:=n6 (show gn<ga0 by omega);clear hgn;omega
 ·
  have q0:(c==0)=false:=by simp;omega
  have q1:(c==1)=false:=by simp;omega
  have q2:(c==2)=false:=by simp;omega
  have q3:(c==3)=false:=by simp;omega
  have q4:(c==4)=false:=by simp;omega
  have q5:(c==5)=false:=by simp;omega
  clear hge hr hq;obtain ⟨t',a',kt,T3⟩:=dk3 l hl m ih z g t a1 hm hg ht hth hb hz;clear ih hg;refine ⟨_,a',kt,t2q fun d h o g0 w0 gen gn σ C3 hd g9 hfr j0 j1 j3 j6 j8 b6 b8 bd ag hgf aU4 f1 f2 f3 f4 e1 e2 bx0 e9 n8 hT3=>?_⟩
  conv=>arg 3;arg 1;simp only [K4,x8,Tryz.f39,aa7]
  refine w_ ?_;exact hT3 T3 _ _ y_
end Go.Proofs.YtmfhhhhnokhggaaGreatDoor
