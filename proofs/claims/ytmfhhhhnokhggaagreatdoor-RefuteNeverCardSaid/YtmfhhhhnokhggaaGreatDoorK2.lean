/-
 Walks: several parts in one text.
-/
import Derived.Test.YtmfhhhhnokhggaaGreatDoorK0
set_option linter.unusedSimpArgs false
set_option linter.unusedVariables false
set_option maxRecDepth 20000
set_option maxHeartbeats 4000000
namespace Go.Proofs.YtmfhhhhnokhggaaGreatDoor
open Go GoAbs Go.Proofs
def bs6 (l:List Int) (m:Nat):Prop :=
 ∀ (z:Int) (g:List Ty) (t:Ty) (a:Nat),43 * z.toNat+tyH t<m->(∀ y∈g,TyF y/\tyH y<=40)->TyF t->tyH t<=40->g.length+43 * z.toNat+tyH t<=900->(tyH t:Int)<=z+1000 ->
  ∃ t' a',J3 z.toNat g t t'/\TmW t'/\∀ d,m_ env 39 [.ptr d 0,.sl .any (g.map Ty.cells),.agg t.cells,.int .i64 z] d (.box (F0 l a)) (.agg t'.cells) (.box (F0 l a'))
theorem ihT {l:List Int} {m:Nat} (ih:bs6 l m) (z:Int) (g:List Ty) (t:Ty) (a:Nat) (h1:43 * z.toNat+tyH t<m:=by first|omega|(simp only [Y3,at3,at4,an2,ar0] at *;omega)) (h2:∀ y∈g,TyF y/\tyH y<=40:=by first|exact hg|(intro y hy;rcases Q8.1 hy with hy|hy;exact hg y hy;simp at hy;rcases hy with rfl|rfl|rfl<;>exact ⟨by first|assumption|exact .nat|exact .list,by first|assumption|omega|(simp only [Y3,at3,at4,an2,ar0] at *;omega)⟩)|(intro y hy;rcases Q8.1 hy with hy|hy;exact hg y hy;simp at hy;rcases hy with rfl|rfl<;>exact ⟨by first|assumption|exact .nat|exact .list,by first|assumption|omega|(simp only [Y3,at3,at4,an2,ar0] at *;omega)⟩)|(intro y hy;rcases Q8.1 hy with hy|hy;exact hg y hy;simp at hy;subst hy;exact ⟨by first|assumption|exact .nat,by first|assumption|omega|(simp only [Y3,at3,at4,an2,ar0] at *;omega)⟩)) (h3:TyF t:=by first|assumption|exact .nat|exact .list|exact .unit) (h4:tyH t<=40:=by first|assumption|omega|(simp only [Y3,at3,at4,an2,ar0] at *;omega))
  (h5:g.length+43 * z.toNat+tyH t<=900:=by first|omega|(simp only [F8,J1,S0,Y3,at3,at4,an2,ar0] at *;omega)) (h6:(tyH t:Int)<=z+1000:=by first|omega|(simp only [Y3,at3,at4,an2,ar0] at *;omega)) :
  ∃ t' a',J3 z.toNat g t t'/\TmW t'/\∀ d,m_ env 39 [.ptr d 0,.sl .any (g.map Ty.cells),.agg t.cells,.int .i64 z] d (.box (F0 l a)) (.agg t'.cells) (.box (F0 l a')):=ih z g t a h1 h2 h3 h4 h5 h6
structure bs7 (l:List Int) (g:List Ty) (t:Ty) (z:Int) (a:Nat) (d:GoAbs.Id) (h:H) (gen0:Nat) (σ:St):Prop where
 j0:σ.tm 0=.ptr d 0
 j1:σ.tm 1=.sl .any (g.map Ty.cells)
 j3:σ.tm 3=.int .i64 z
 j6:σ.tm 6=.ptr ⟨gen0,0,0⟩ 0
 j8:σ.tm 8=.ptr ⟨gen0,0,1⟩ 0
 b6:σ.h ⟨gen0,0,0⟩=some (.box t.cells)
 b8:σ.h ⟨gen0,0,1⟩=some (.box [.int .i64 0,.int .i64 0,.int .i64 0,.sl .full [],.sl .full []])
 bd:σ.h d=some (.box (F0 l a))
 ag:a6 d h σ.h
def cS9 (l:List Int) (g:List Ty) (t:Ty) (z:Int) (a:Nat) (t':Tm) (a':Nat):Prop :=
 ∀ (d:GoAbs.Id) (h:H) (o:GoAbs.Obj) (g0:G) (w0:World) (gen0 gen:Nat) (σ:St),h d=some o->Rel env g0 w0 h->(∀ id,h id≠none->id.gen<gen0)->bs7 l g t z a d h gen0 σ ->
  AR ⟨Tryz.prog,env,Tryz.f39.ntmps,Tryz.f39,g0,w0,h,.agg t'.cells,p8 h d (.box (F0 l a'))⟩ gen
   [.code (K4 [true,true,true,true] (x8 Tryz.f39))] .normal σ
theorem t3_ {l:List Int} {g:List Ty} {t:Ty} {z:Int} {a:Nat} {t':Tm} {a':Nat}
  (walk:∀ (d:GoAbs.Id) (h:H) (o:GoAbs.Obj) (g0:G) (w0:World) (gen0 gen:Nat) (σ:St),h d=some o->Rel env g0 w0 h->(∀ id,h id≠none->id.gen<gen0)->bs7 l g t z a d h gen0 σ->(∀ id,σ.h id≠none->id.gen<gen) ->
   AR ⟨Tryz.prog,env,Tryz.f39.ntmps,Tryz.f39,g0,w0,h,.agg t'.cells,p8 h d (.box (F0 l a'))⟩ gen [.code (K4 [true,true,true,true] (x8 Tryz.f39))] .normal σ:=by
   intro d h o g0 w0 gen0 gen σ hd g9 hfr ⟨j0,j1,j3,j6,j8,b6,b8,bd,ag⟩ hgn;have hgf:=o0 hgn;have n8:Tryz.f39.results.toList=[.cell 8 52]:=rfl;have aU4:=o0 hfr;have f1:=n9 hfr hd;have f2:=p6 hfr hd;have f3:=n9 hgn bd;have f4:=p6 hgn bd;have e1:=ah8 hgn b6;have e2:=Z4 hgn b6;have e9:=p5 hd ag hgf (fun r i e=>by rw [e] at bd;rw [hgf] at bd;cases bd);clear hgn
   conv=>arg 3;simp only [K4,x8,Tryz.f39,aa7]
   repeat' (first
    |(refine ⟨?_,?_⟩;focus ((repeat' (first|refine ⟨?_,?_⟩|refine .inr ?_));all_goals kernel_rfl))
    |exact agb l_
    | (first|refine wp rfl ?_|refine spt rfl ?_|refine spf rfl ?_|(refine spl (fun hc=>?_) fun hc=>?_)<;>(try rw [L1] at hc)<;>try simp only [hc]|(refine gs (fun hb=>?_) fun hb=>?_)<;>try simp only [E7,M9] at hb|refine cp l_ ?_|refine cp cW5 ?_|refine cp dS9 ?_|refine cp s8 ?_|refine ct (J2 l hl d _ _) q_ ?_|(refine ct (Tx d) ?_ ?_;focus ((simp only [go_sem, *]<;>rfl);done))|(refine ct (Ty d) ?_ ?_;focus ((simp only [go_sem, *]<;>rfl);done))|refine aX7 g9 hd ?_ ?_ ?_ ?_ ?_)<;>try simp only [go_sem, *])) :
  cS9 l g t z a t' a':=fun d h o g0 w0 gen0 _ σ hd g9 hfr s=>ai4 fun gn _ hgn=>walk d h o g0 w0 gen0 gn σ hd g9 hfr s hgn
theorem dk3 (l:List Int) (hl:l.length<=1000) (m:Nat) (ih:bs6 l m) (z:Int) (g:List Ty) (t:Ty) (a:Nat) (hm:43 * z.toNat+tyH t=m)
  (hg:∀ y∈g,TyF y/\tyH y<=40) (ht:TyF t) (hth:tyH t<=40) (hb:g.length+43 * z.toNat+tyH t<=900) (hz:(tyH t:Int)<=z+1000) :
  ∃ t' a',J3 z.toNat g t t'/\cS9 l g t z a t' a':=by
 have hw:IntKind.i64.wrap (z - 1)=z - 1:=x7 rfl a_ a_;have hgl:g.length<=1000:=by omega
 cases ht with
 | unit =>
  have hkn:O7.kind=5:=rfl;have h1:=c_N 13 [] b_ b_;simp only [B7] at h1;exact ⟨_,a,.unit,t3_⟩
 | nat =>
  have hkn:c8.kind=1:=rfl;rcases Int.lt_or_le 0 z with hp|hp
  ·have hd0:decide (z>0)=true:=by simpa using hp
   have hn1:z.toNat=(z - 1).toNat+1:=by omega
   have hr:=H8 (l:=l) (a:=a) (n:=5) a_ a_;generalize hq:r8 l a 5=q at hr;obtain ⟨c,a1⟩:=q;have hc1:(r8 l a 5).1=c:=by rw [hq]
   have hc2:(r8 l a 5).2=a1:=by rw [hq]
   simp only at hr;obtain rfl|rfl|rfl|hge:c=0\/c=1\/c=2\/3<=c:=by omega
   ·
    obtain ⟨x,ax,kx,wx,Tx⟩:=ihT ih (z - 1) g c8 a1;have hN:=c_N 5 [x] b_ (by simp [wx]);simp only [E0,B7] at hN;clear ih hr hq hp hg;exact ⟨_,ax,by rw [hn1];exact .succ kx,t3_⟩
   ·
    obtain ⟨x,ax,kx,wx,Tx⟩:=ihT ih (z - 1) g c8 a1;obtain ⟨y,ay,ky,wy,Ty⟩:=ihT ih (z - 1) g c8 ax;have hA:=cV9 aL3 [x,y] ab6 b_ (by simp [wx,wy]);simp only [E0,B7,aH3,aR7] at hA;clear ih hr hq hp hg;exact ⟨_,ay,by rw [hn1];exact .plus kx ky,t3_⟩
   ·
    obtain ⟨x,ax,kx,wx,Tx⟩:=ihT ih (z - 1) g c8 a1;obtain ⟨y,ay,ky,wy,Ty⟩:=ihT ih (z - 1) g c8 ax;have hA:=cV9 aM5 [x,y] aj5 b_ (by simp [wx,wy]);simp only [E0,B7,aH3,aR7] at hA;clear ih hr hq hp hg;exact ⟨_,ay,by rw [hn1];exact .sub kx ky,t3_⟩
   ·have q0:(c==0)=false:=by simp;omega
    have q1:(c==1)=false:=by simp;omega
    have q2:(c==2)=false:=by simp;omega
    clear hge hr hq;have hr3:=H8 (l:=l) (a:=a1) (n:=3) a_ a_;obtain ⟨k,hk⟩:∃ k:Nat,(r8 l a1 3).1=(k:Int):=⟨(r8 l a1 3).1.toNat,a_⟩;have hk3:k<3:=by omega
    have hN:=bG1 k a_;clear ih hr3 hg;exact ⟨_,(r8 l a1 3).2,.num hk3,t3_⟩
  ·have hd0:decide (z>0)=false:=by simp;omega
   have hr3:=H8 (l:=l) (a:=a) (n:=3) a_ a_;obtain ⟨k,hk⟩:∃ k:Nat,(r8 l a 3).1=(k:Int):=⟨(r8 l a 3).1.toNat,a_⟩;have hk3:k<3:=by omega
   have hN:=bG1 k a_;clear ih hr3 hg;exact ⟨_,(r8 l a 3).2,.num hk3,t3_⟩
 | list =>
  have hkn:r5.kind=2:=rfl;have hN7:=c_N 7 [] b_ b_;simp only [B7] at hN7;rcases Int.lt_or_le 0 z with hp|hp
  ·have hd0:decide (z>0)=true:=by simpa using hp
   have hn1:z.toNat=(z - 1).toNat+1:=by omega
   generalize hq:r8 l a 2=q;obtain ⟨c,a1⟩:=q;have hc1:(r8 l a 2).1=c:=by rw [hq]
   have hc2:(r8 l a 2).2=a1:=by rw [hq]
   cases hc:(c==0) with
   | true =>
    obtain ⟨x,ax,kx,wx,Tx⟩:=ihT ih (z - 1) g c8 a1;obtain ⟨y,ay,ky,wy,Ty⟩:=ihT ih (z - 1) g r5 ax;have hN:=c_N 8 [x,y] b_ (by simp [wx,wy]);simp only [E0,B7] at hN;clear ih hq hp hg;exact ⟨_,ay,by rw [hn1];exact .cons kx ky,t3_⟩
   | false =>
    clear ih hq hp hg;exact ⟨_,a1,.nil,t3_⟩
  ·have hd0:decide (z>0)=false:=by simp;omega
   clear ih hg;exact ⟨_,a,.nil,t3_⟩
 | @pair ta tb hta htb =>
  have hkn:(B6 ta tb).kind=3:=rfl;have hka:(B6 ta tb).args=[ta,tb]:=rfl;have hnn:z.toNat - 1=(z - 1).toNat:=by omega
  rw [an2] at hm hth hb hz;obtain ⟨x,ax,kx,wx,Tx⟩:=ihT ih (z - 1) g ta a;obtain ⟨y,ay,ky,wy,Ty⟩:=ihT ih (z - 1) g tb ax;have hN:=c_N 10 [x,y] b_ (by simp [wx,wy]);simp only [E0,B7] at hN;clear ih hg;exact ⟨_,ay,.pair (by rw [hnn];exact kx) (by rw [hnn];exact ky),t3_⟩
 | @func ta tb hta htb =>
  have hkn:(x9 ta tb).kind=4:=rfl;have hka:(x9 ta tb).args=[ta,tb]:=rfl;have hnn:z.toNat - 1=(z - 1).toNat:=by omega
  rw [ar0] at hm hth hb hz;obtain ⟨x,ax,kx,wx,Tx⟩:=ihT ih (z - 1) (g++[ta]) tb a;have hN:=c_T 2 ta [x] hta.W b_ (by simp [wx]);have hL:=al4 g [ta] a_ b_;simp only [E0,B7] at hN hL;clear ih hg;exact ⟨_,ax,.lam (by rw [hnn];exact kx),t3_⟩
theorem dT3 (t:Ty) (ht:TyG t):c_ env 226 [.agg t.cells] (.tup [.agg t.cells,.int .i64 0]):=by
 intro h;have h1:=ab0 t ht.1.W;rw [ht.err] at h1;have n0:((0:Int) != 0)=false:=rfl;clear ht;exact d_ Tryz.func226 [.cell 2 29,.tmp 3]
theorem aB1 (g:List Ty) (k:Int) (ty:Ty) (hty:TyW ty) (l:List Tm) (ts:List Ty) (s:Ty) (hN:P5 TyG k ty ts s) (hlen:l.length=ts.length) (hts:∀ y∈ts,TyW y)
  (ih:∀ (j:Nat) (x:Tm) (a:Ty),l[j]? = some x->ts[j]? = some a->c_ env 209 [.sl .any (g.map Ty.cells),.agg x.cells] (.tup [.agg a.cells,.int .i64 0])) :
  c_ env 209 [.sl .any (g.map Ty.cells),.agg (tmT k ty l).cells] (.tup [.agg s.cells,.int .i64 0]):=by
 intro h;have hk1:(k==1)=false:=by cases hN<;>rfl
 have hk2:(k==2)=false:=by cases hN<;>rfl
 have hl3:l.length<=3:=by rw [hlen];cases hN<;>simp
 have e1:(tmT k ty l).kind=k:=rfl;have e2:(tmT k ty l).type=ty:=rfl;have e3:(tmT k ty l).args=l:=rfl;generalize tmT k ty l=t at *;have n0:((0:Int) != 0)=false:=rfl;have ad5:∀ (i:Nat) (x:Tm),l[i]? = some x->∃ a,ts[i]? = some a:=fun i x hx=>⟨_,W4 (by have:=(F2.1 hx).1;omega)⟩;have aE2:ts.take l.length=ts:=by rw [hlen,L2]
 clear hlen;refine g_ Tryz.func209 [.cell 4 29,.tmp 5] fun g0 w0 gen g9 hfr e9 n8=>?_;refine e_ ?_;refine k_ [0,3,4,67] [⟨gen,0,0⟩,⟨gen,0,1⟩] (fun i σ=>Q4 h σ.h (σ.tm 8) 2 ((ts.take i).map Ty.cells)) (l) ?_ ?_ ?_
 ·simp only [go_sem, *]
  exact ⟨f_,.inl rfl⟩
 ·clear aE2 hN hts
  intro i x σ gr0 o5 hgf l6 l9 m6 hx hxm hm hlt jI jN jT jA jO0;obtain ⟨a,ha⟩:=ad5 i x hx;have hc:=ih i x a hx ha;have hts:(ts.take (i+1)).map Ty.cells=(ts.take i).map Ty.cells++[a.cells]:=by rw [p9 ha]
  have htl:(ts.take i).length=i:=by rw [ae6];have:=(F2.1 ha).1;omega
  clear ih ad5
  repeat' (first
   |(refine ⟨?_,?_⟩;focus ((repeat' (first|refine ⟨?_,?_⟩|refine .inr ?_));all_goals kernel_rfl))
   |(refine X6 jO0 t_ rfl r_ s_ j_ (by intro hd;cases hd) ?_;intro v' h' log' jO jK jAg jAb jF;simp only [go_sem, *])
   | (first|refine wp rfl ?_|refine spt rfl ?_|refine spf rfl ?_|(refine spl (fun hc=>?_) fun hc=>?_)<;>(try rw [L1] at hc)<;>try simp only [hc]|(refine gs (fun hb=>?_) fun hb=>?_)<;>try simp only [E7,M9] at hb|refine cp hc ?_|refine D3 ?_)<;>try simp only [go_sem, *])
  exact jAg (by repeat (first|exact jA|refine m8.new ?_ (l6 _ _)))
 ·
  intro σ ga0 q9 hgf l6 l8 m5 jT jA jO0;rw [aE2] at jO0;obtain ⟨c,jO0⟩:=jO0.val;clear ih ad5 aE2;have hS:∀ y,TyW y->c_ env 78 [.agg y.cells,.agg y.cells] (.bool true):=fun y hy=>by
   have:=U2 y hy y hy;rw [Ty.U5] at this;exact this
  have bh2:True:=trivial;cases hN with
  | @app _ a _ =>
   have wa:=hts a b_;have s1:=hS a wa;have f1:(x9 a s).kind=4:=rfl;have f2:(x9 a s).args=[a,s]:=rfl;have q4:((4:Int) != 4)=false:=rfl;clear hS hts;have zq0:=s8;have zq1:=B9;exact i_
  | zero =>
   skip
   clear hS hts;have zq0:=s8;have zq1:=B9;exact i_
  | succ =>
   have s1:=hS c8 J9;clear hS hts;have zq0:=s8;have zq1:=B9;exact i_
  | V8 =>
   have wt:=hts ty b_;have s1:=hS ty wt;have w1:=au5 wt wt;have w2:=au5 J9 w1;have s2:=hS _ w2;have s3:=hS _ J9;have r1:=W6 ty ty wt wt;have r2:=W6 c8 _ J9 w1;have r3:=U1 ty wt;clear hS hts;have zq0:=s8;have zq1:=B9;exact i_
  | nil =>
   skip
   clear hS hts;have zq0:=s8;have zq1:=B9;exact i_
  | cons =>
   have s1:=hS c8 J9;have s2:=hS r5 Y0;clear hS hts;have zq0:=s8;have zq1:=B9;exact i_
  | fold =>
   have wt:=hts ty b_;have s1:=hS ty wt;have w1:=au5 wt wt;have w2:=au5 Y0 w1;have w3:=au5 J9 w2;have s2:=hS _ w3;have s3:=hS _ Y0;have r1:=W6 ty ty wt wt;have r2:=W6 r5 _ Y0 w1;have r4:=W6 c8 _ J9 w2;have r3:=U1 ty wt;clear hS hts;have zq0:=s8;have zq1:=B9;exact i_
  | @pair _ a b hp =>
   have wa:=hts a b_;have wb:=hts b b_;have r1:=bu8 a b wa wb;have r2:=dT3 _ hp;clear hS hts;have zq0:=s8;have zq1:=B9;exact i_
  | @fst _ _ b =>
   have f1:(B6 s b).kind=3:=rfl;have f2:(B6 s b).args=[s,b]:=rfl;have q3:((3:Int) != 3)=false:=rfl;clear hS hts;have zq0:=s8;have zq1:=B9;exact i_
  | @snd _ a _ =>
   have f1:(B6 a s).kind=3:=rfl;have f2:(B6 a s).args=[a,s]:=rfl;have q3:((3:Int) != 3)=false:=rfl;clear hS hts;have zq0:=s8;have zq1:=B9;exact i_
  | unit =>
   skip
   clear hS hts;have zq0:=bf3;have zq1:=s8;have zq2:=B9;exact i_
theorem bq0 {g:List Ty} {t:Tm} {s:Ty} (h:l7 TyG g t s):(∀ y∈g,TyW y)->TmW t->g.length+a8 t<=1000000 ->
  c_ env 209 [.sl .any (g.map Ty.cells),.agg t.cells] (.tup [.agg s.cells,.int .i64 0]):=by
 induction h with
 | @var g i t hi hg =>
  intro hw _ hb h;rw [aK5] at hb;have e1:(a9 (i:Int)).kind=1:=rfl;have e2:(a9 (i:Int)).index=(i:Int):=rfl;have hc:=U1 t (hw t (Q7 hg));have w1:IntKind.i64.wrap ((g.length:Int) - 1)=((g.length - 1:Nat):Int):=x7 a_ a_ a_;have w2:IntKind.i64.wrap (((g.length - 1:Nat):Int) - (i:Int))=((g.length - 1 - i:Nat):Int):=x7 a_ a_ a_;have hd:decide ((i:Int)>=(g.length:Int))=false:=by simp;omega
  generalize a9 (i:Int)=x at *;clear hw hi;exact d_ Tryz.func209 [.cell 4 29,.tmp 5]
 | @lam g a b t ht _ ih =>
  intro hw hW hb h;rw [H7] at hb;have wa:=hW.ty;have wt:TmW t:=hW.arg (by simp [tmT,Tm.args]);have hwa:TyW a:=wa;have hc:=ih (by intro y hy;rcases Q8.1 hy with hy|hy;exact hw y hy;simp at hy;subst hy;exact hwa) wt (by simp;omega);have wb:TyW b:=by have:=ht.1.W;exact this.arg (by simp [x9,Ty.args])
  have r1:=W6 a b hwa wb;have r2:=dT3 _ ht;have e1:(tmT 2 a [t]).kind=2:=rfl;have e2:(tmT 2 a [t]).type=a:=rfl;have e3:(tmT 2 a [t]).args=[t]:=rfl;have n0:((0:Int) != 0)=false:=rfl;have hwk:A7 (g.map Ty.cells++[a.cells])=(g++[a]).map Ty.cells:=by rw [<- F4 (g++[a])];simp
  have b3:(g.length+1) * 32<=140737488355328:=by omega
  have b4:g.length+1<=140737488355328:=by omega
  have t1:(0:Int)<=(g.length:Int):=by omega
  have t2:((g.length:Int)).toNat=g.length:=aA4 _;have t3:List.take g.length (g.map Ty.cells)=g.map Ty.cells:=ak6 b_;have t4:0<=g.length:=by omega
  have t5:g.length<=g.length:=w7 _;have mn:∀ (f:Operand->V),Option.map f none=none:=fun _=>rfl;have ml:(g.map Ty.cells).length=g.length:=by simp
  generalize tmT 2 a [t]=x at *;clear hw hW ih wa wt wb hwa ht;exact d_ Tryz.func209 [.cell 4 29,.tmp 5]
 | @n0 g k ty s hN =>
  intro hw hW hb;exact aB1 g k ty hW.ty [] [] s hN rfl b_ (by intro j x a hx;simp at hx)
 | @n1 g k ty s a x hN h1 ih1 =>
  intro hw hW hb;have z:a8 (tmT k ty [x])=a8 x+1:=H7;have w1:TmW x:=hW.arg (by simp [tmT,Tm.args]);refine aB1 g k ty hW.ty [x] [a] s hN rfl (by simp [(h1.W hw w1).1]) ?_;intro j y b hy hb'
  match j with
  | 0=>simp at hy hb';subst hy;subst hb';exact ih1 hw w1 a_
  | j+1=>simp at hy
 | @n2 g k ty s a b x y hN h1 h2 ih1 ih2 =>
  intro hw hW hb;have z:a8 (tmT k ty [x,y])=a8 x+a8 y+1:=by simp [tmT,a8,F7]
  have w1:TmW x:=hW.arg (by simp [tmT,Tm.args]);have w2:TmW y:=hW.arg (by simp [tmT,Tm.args]);refine aB1 g k ty hW.ty [x,y] [a,b] s hN rfl (by simp [(h1.W hw w1).1,(h2.W hw w2).1]) ?_;intro j u v hu hv
  match j with
  | 0=>simp at hu hv;subst hu;subst hv;exact ih1 hw w1 a_
  | 1=>simp at hu hv;subst hu;subst hv;exact ih2 hw w2 a_
  | j+2=>simp at hu
 | @n3 g k ty s a b c x y z hN h1 h2 h3 ih1 ih2 ih3 =>
  intro hw hW hb;have zz:a8 (tmT k ty [x,y,z])=a8 x+(a8 y+a8 z)+1:=P0;have w1:TmW x:=hW.arg (by simp [tmT,Tm.args]);have w2:TmW y:=hW.arg (by simp [tmT,Tm.args]);have w3:TmW z:=hW.arg (by simp [tmT,Tm.args]);refine aB1 g k ty hW.ty [x,y,z] [a,b,c] s hN rfl (by simp [(h1.W hw w1).1,(h2.W hw w2).1,(h3.W hw w3).1]) ?_;intro j u v hu hv
  match j with
  | 0=>simp at hu hv;subst hu;subst hv;exact ih1 hw w1 a_
  | 1=>simp at hu hv;subst hu;subst hv;exact ih2 hw w2 a_
  | 2=>simp at hu hv;subst hu;subst hv;exact ih3 hw w3 a_
  | j+3=>simp at hu
theorem ax0:∀ t:Ty,TyW t->c_ env 150 [.agg t.cells] (.agg t.cells):=by
 intro t
 induction t using Ty.ind with|h t ih=>?_
 intro ht h;have hlen:=ht.len;have ih':∀ x∈t.args,c_ env 150 [.agg x.cells] (.agg x.cells):=fun x hx=>ih x hx (ht.arg hx);clear ih;refine g_ Tryz.func150 [.cell 2 29] fun g0 w0 gen g9 hfr e9 n8=>?_;refine e_ ?_;refine k_ [2,3,10] [⟨gen,0,1⟩] (fun i σ=>∃ v,σ.h ⟨gen,1,3⟩=some (.box [.int .i64 t.kind,v])/\Q4 h σ.h v 2 ((t.args.take i).map Ty.cells)) (t.args) ?_ ?_ ?_
 ·simp only [go_sem, *]
  exact ⟨f_,_,rfl,.inl rfl⟩
 ·
  intro i x σ gr0 o5 hgf l6 l9 m6 hx hxm hm hlt jI jN jT jA ⟨v,jb,jO0⟩;have hc:=ih' x hxm;have hts:(t.args.take (i+1)).map Ty.cells=(t.args.take i).map Ty.cells++[x.cells]:=by rw [p9 hx]
  clear ih';exact p_
 ·
  intro σ ga0 q9 hgf l6 l8 m5 jT jA ⟨v,jb,jO0⟩;rw [L2] at jO0;obtain ⟨c,rfl⟩:=jO0.val;clear ih';refine e_ ?_;rw [Ty.l4]
theorem dS8:∀ t:Tm,TmW t->c_ env 153 [.agg t.cells] (.agg t.cells):=by
 intro t
 induction t using Tm.ind with|h t ih=>?_
 intro ht h;have hlen:=ht.len;have ih':∀ x∈t.args,c_ env 153 [.agg x.cells] (.agg x.cells):=fun x hx=>ih x hx (ht.arg hx);have hO:=ax0 t.type ht.ty;clear ih;refine g_ Tryz.func153 [.cell 2 52] fun g0 w0 gen g9 hfr e9 n8=>?_;refine e_ ?_;refine k_ [2,3,15] [⟨gen,0,1⟩] (fun i σ=>∃ v,σ.h ⟨gen,1,8⟩=some (.box [.int .i64 t.kind,.int .i64 t.index,.int .i64 t.type.kind,.sl .any (t.type.args.map Ty.cells),v])/\Q4 h σ.h v 5 ((t.args.take i).map Tm.cells)) (t.args) ?_ ?_ ?_
 ·simp only [go_sem, *]
  exact ⟨f_,_,rfl,.inl rfl⟩
 ·
  intro i x σ gr0 o5 hgf l6 l9 m6 hx hxm hm hlt jI jN jT jA ⟨v,jb,jO0⟩;have hc:=ih' x hxm;have hts:(t.args.take (i+1)).map Tm.cells=(t.args.take i).map Tm.cells++[x.cells]:=by rw [p9 hx]
  clear ih';exact p_
 ·
  intro σ ga0 q9 hgf l6 l8 m5 jT jA ⟨v,jb,jO0⟩;rw [L2] at jO0;obtain ⟨c,rfl⟩:=jO0.val;clear ih';refine e_ ?_;rw [Tm.l4]
theorem bk6 (k:Int) (l:List Tm):c_ env 164 [.int .i64 k,.sl .any (l.map Tm.cells)] (.agg (tm0 k l).cells):=by
 intro h;refine g_ Tryz.func164 [.cell 4 52] fun g0 w0 gen g9 hfr e9 n8=>?_
 first|refine e_ ?_|exact i_
 all_goals simp [tm0,Tm.r7,Ty.O0,Ty.N9]
theorem bf5 (i:Int):c_ env 208 [.int .i64 i] (.agg (a9 i).cells):=by
 intro h;refine g_ Tryz.func208 [.cell 2 52] fun g0 w0 gen g9 hfr e9 n8=>?_
 first|refine e_ ?_|exact i_
 all_goals simp [a9,Tm.r7,Ty.O0,Ty.N9]
theorem bQ1:c_ env 254 [] (.agg c8.cells):=by
 intro h;refine g_ Tryz.func254 [.cell 0 29] fun g0 w0 gen g9 hfr e9 n8=>?_;refine e_ ?_
 rfl
theorem cZ0 (f:Tm) (l:List Tm) (hl:l.length<=1000) :
  c_ env 239 [.agg f.cells,.sl .any (l.map Tm.cells)] (.agg (ax8 f l).cells):=by
 intro h;have hin:∀ S,InV S (.agg (ax8 f l).cells):=fun S=>by simp [InV,at6]
 generalize hv:V.agg (ax8 f l).cells=v at hin ⊢;refine g_ Tryz.func239 [.cell 4 52] fun g0 w0 gen g9 hfr e9 n8=>?_;refine e_ ?_;refine k_ [2,4,7] [⟨gen,0,1⟩] (fun i σ=>∃ f':Tm,σ.h ⟨gen,0,0⟩=some (.box f'.cells)/\V.agg (ax8 f' (l.drop i)).cells=v) (l) ?_ ?_ ?_
 ·simp only [go_sem, *]
  exact ⟨f_,f,rfl,hv⟩
 ·
  intro i x σ gr0 o5 hgf l6 l9 m6 hx hxm hm hlt jI jN jT jA ⟨f',jf,jv⟩;rw [s9 hx,aH3] at jv;have hc:=bk6 3 [f',x];simp only [E0,B7] at hc;refine e_ ?_;exact ⟨f_,_,rfl,jv⟩
 ·
  intro σ ga0 q9 hgf l6 l8 m5 jT jA ⟨f',jf,jv⟩;rw [y6,aR7] at jv;subst jv;exact i_
def ce0 (l:List Ty) (b:Tm):Tm:=l.foldr (fun t b=>tmT 2 t [b]) b
theorem cN4 {l:List Ty} {b:Tm} {j:Nat} {x:Ty} (h:l[j]? = some x):tmT 2 x [ce0 (l.drop (j+1)) b]=ce0 (l.drop j) b:=by
 rw [s9 h];rfl
theorem cm9 (b:Tm) (l:List Ty) (hl:l.length<=1000) :
  c_ env 256 [.agg b.cells,.sl .any (l.map Ty.cells)] (.agg (ce0 l b).cells):=by
 intro h;have hw0:IntKind.i64.wrap ((l.length:Int) - 1)=(l.length:Int) - 1:=x7 rfl a_ a_;refine g_ Tryz.func256 [.cell 4 52] fun g0 w0 gen g9 hfr e9 n8=>?_;refine e_ ?_;refine E6 (fun i σ=>σ.tm 5=.int .i64 ((l.length:Int) - 1 - i)/\σ.tm 1=.sl .any (l.map Ty.cells)/\σ.tm 2=.ptr ⟨gen,0,0⟩ 0/\σ.tm 4=.ptr ⟨gen,0,1⟩ 0 /\
  σ.h ⟨gen,0,0⟩=some (.box (ce0 (l.drop (l.length - i)) b).cells)/\σ.h ⟨gen,0,1⟩=some (.box [.int .i64 0,.int .i64 0,.int .i64 0,.sl .full [],.sl .full []])/\m8 h σ.h/\i<=l.length) l.length ?_ ?_
 ·have e:(l.drop (l.length - 0))=[]:=by simp
  simp only [go_sem, *,e];exact ⟨b_,rfl,f_,a_⟩
 intro i σ hi ⟨j1,j2,j3,j4,j5,j6,j7,j8⟩;clear j8;have hw1:IntKind.i64.wrap ((l.length:Int) - 1 - (i:Int) - 1)=(l.length:Int) - 1 - (i:Int) - 1:=x7 rfl a_ a_;rcases R0 i l.length with hlt|hge
 ·have hd:decide ((l.length:Int) - 1 - (i:Int)>=0)=true:=by simp;omega
  have e0:l.length - (i+1)+1=l.length - i:=by omega
  obtain ⟨x,hx⟩:∃ x,l[l.length - (i+1)]? = some x:=⟨_,W4 a_⟩;have hst:=cN4 (b:=b) hx;rw [e0] at hst;rw [<- hst];have e2:((l.length:Int) - 1 - (i:Int)).toNat=l.length - (i+1):=by omega
  have e3:0<=(l.length:Int) - 1 - (i:Int):=by omega
  have e4:(l.length:Int) - 1 - ((i+1:Nat):Int)=(l.length:Int) - 1 - (i:Int) - 1:=by omega
  have e5:i+1<=l.length:=by omega
  clear hst;generalize ce0 (l.drop (l.length - i)) b=b' at *;have ac8:(tmT 2 x [b']).cells=[.int .i64 2,.int .i64 0,.int .i64 x.kind,.sl .any (x.args.map Ty.cells),.sl .any [b'.cells]]:=by simp [tmT,Tm.r7,Ty.O0,Ty.N9]
  clear hi
  repeat' (first
   |(refine ⟨?_,?_⟩;focus ((repeat' (first|refine ⟨?_,?_⟩|refine .inr ?_));all_goals kernel_rfl))
   | (first|refine wp rfl ?_|refine spt rfl ?_|refine spf rfl ?_|(refine spl (fun hc=>?_) fun hc=>?_)<;>(try rw [L1] at hc)<;>try simp only [hc])<;>try simp only [go_sem, *])
  refine ax7 ⟨gen,0,0⟩ q_ ?_;refine D3 ?_;simp only [go_sem, *];exact f_
 ·have hd:decide ((l.length:Int) - 1 - (i:Int)>=0)=false:=by simp;omega
  obtain rfl:i=l.length:=by omega
  have e6:l.drop (l.length - l.length)=l:=by simp
  rw [e6] at j5;exact i_
theorem dJ6 (k:Int) (t:Ty) (a b c:Tm):c_ env 257 [.int .i64 k,.agg t.cells,.agg a.cells,.agg b.cells,.agg c.cells] (.agg (tmT k t [a,b,c]).cells):=by
 intro h;refine g_ Tryz.func257 [.cell 10 52] fun g0 w0 gen g9 hfr e9 n8=>?_
 first|refine e_ ?_|exact i_
 all_goals simp [tmT,Tm.r7,Ty.O0,Ty.N9]
theorem dT5 (a b:Tm):c_ env 238 [.agg a.cells,.agg b.cells] (.agg (u6 a b).cells):=by
 intro h;refine g_ Tryz.func238 [.cell 4 36] fun g0 w0 gen g9 hfr e9 n8=>?_
 first|refine e_ ?_|exact i_
 all_goals simp [u6,Fm.r7,Ty.O0,Ty.N9]
theorem av6 (k:Int):c_ env 194 [.int .i64 k] (.bool (decide (k>=4)&&decide (k<=7))):=by
 intro h;refine g_ Tryz.func194 [.tmp 2] fun g0 w0 gen g9 hfr e9 n8=>?_
 first|refine e_ ?_|exact i_
 all_goals simp [*]
theorem cZ6 (a b c:Tm):c_ env 251 [.agg a.cells,.agg b.cells,.agg c.cells] (.agg (bT7 a (am5 (am5 b)) c).cells):=by
 intro h;have h1:=cm9 b [c8,c8] b_;simp only [E0,B7] at h1;have h2:=dJ6 6 c8 a (am5 (am5 b)) c;have e:ce0 [c8,c8] b=am5 (am5 b):=rfl;rw [e] at h1;refine g_ Tryz.func251 [.cell 6 52] fun g0 w0 gen g9 hfr e9 n8=>?_;have zq0:=bQ1;refine e_ ?_
 rfl
theorem dJ9 (b:Tm):c_ env 250 [.agg b.cells] (.agg (am5 (am5 b)).cells):=by
 intro h;have h1:=cm9 b [c8,c8] b_;simp only [E0,B7] at h1;have e:ce0 [c8,c8] b=am5 (am5 b):=rfl;rw [e] at h1;have zq0:=bQ1;exact d_ Tryz.func250 [.cell 2 52]
theorem ds7:c_ env 252 [] (.agg aF0.cells):=by
 intro h;have h0:=bk6 4 [];have h1:=cm9 (bT7 (tm0 4 []) (am5 (am5 (a9 1))) (a9 0)) [c8] b_;simp only [E0,B7] at h0 h1;have e:ce0 [c8] (bT7 (tm0 4 []) (am5 (am5 (a9 1))) (a9 0))=aF0:=rfl;rw [e] at h1;refine g_ Tryz.func252 [.cell 0 52] fun g0 w0 gen g9 hfr e9 n8=>?_
 repeat' (first
  |exact hin _|exact agf l_
  | (first|refine wp rfl ?_|refine cp h0 ?_|refine cp (bf5 _) ?_|refine cp (cZ6 _ _ _) ?_|refine cp bQ1 ?_|refine cp h1 ?_|refine Y7 g9 ?_ ?_ ?_)<;>try simp only [go_sem, *])
theorem dJ8:c_ env 240 [] (.agg aM5.cells):=by
 intro h;have h0:=cZ0 aF0 [a9 0] b_;simp only [E0,B7] at h0;have e:ax8 aF0 [a9 0]=tm0 3 [aF0,a9 0]:=rfl;rw [e] at h0;refine g_ Tryz.func240 [.cell 0 52] fun g0 w0 gen g9 hfr e9 n8=>?_
 repeat' (first
  |exact hin _|exact agf l_
  | (first|refine wp rfl ?_|refine cp ds7 ?_|refine cp h0 ?_|refine cp (bf5 _) ?_|refine cp (cZ6 _ _ _) ?_|refine cp (dJ9 _) ?_|refine Y7 g9 ?_ ?_ ?_)<;>try simp only [go_sem, *])
 rfl
theorem cX8 (s t:Tm):c_ env 219 [.agg s.cells,.agg t.cells] (.agg (V5 s t).cells):=by
 intro h;have h0:=cZ0 aM5 [tm0 5 [s],t] b_;have h1:=bk6 5 [s];have h2:=bk6 4 [];simp only [E0,B7] at h0 h1 h2;have e:ax8 aM5 [tm0 5 [s],t]=tm0 3 [tm0 3 [aM5,tm0 5 [s]],t]:=rfl;rw [e] at h0;refine g_ Tryz.func219 [.cell 4 36] fun g0 w0 gen g9 hfr e9 n8=>?_
 repeat' (first
  |(refine ⟨?_,?_⟩;focus ((repeat' (first|refine ⟨?_,?_⟩|refine .inr ?_));all_goals kernel_rfl))
  |exact hin _|exact agf l_
  | (first|refine wp rfl ?_|refine cp dJ8 ?_|refine cp h0 ?_|refine cp h1 ?_|refine cp h2 ?_|refine cp (dT5 _ _) ?_|refine Y7 g9 ?_ ?_ ?_)<;>try simp only [go_sem, *])
 rfl
theorem bP4 (all:Bool):c_ env 217 [.bool all] (.tup [.int .i64 (if all then 4 else 5),.int .i64 (if all then 3 else 2)]):=by
 intro h;cases all
 all_goals
  exact d_ Tryz.func217 [.tmp 2,.tmp 3]
theorem dI4 (t:Tm) (ht:TmW t) (b:Int):c_ env 152 [.agg t.cells,.int .i64 b] (.agg t.cells):=by
 intro h;have zq0:=dS8 _ ht;exact d_ Tryz.func152 [.cell 4 52]
theorem bP0:∀ f:Fm,FmW f->∀ b:Int,c_ env 151 [.agg f.cells,.int .i64 b,.fn (.func 152) [] []] (.agg f.cells):=by
 intro t
 induction t using Fm.ind with|h t ih=>?_
 intro ht b h;have hlen:=ht.len;have ao0:=ht.au6;have ih':∀ x∈t.args,∀ b:Int,c_ env 151 [.agg x.cells,.int .i64 b,.fn (.func 152) [] []] (.agg x.cells):=fun x hx=>ih x hx (ht.arg hx);have ht':∀ x∈t.a7,∀ b:Int,c_ env 152 [.agg x.cells,.int .i64 b] (.agg x.cells):=fun x hx b=>dI4 x (ht.term hx) b;have hO:=ax0 t.type ht.ty;have hQ:=av6 t.kind;clear ih ht;refine g_ Tryz.func151 [.cell 6 36] fun g0 w0 gen g9 hfr e9 n8=>?_;refine e_ ?_;refine k_ [1,2,3,6,7,19] [⟨gen,0,0⟩,⟨gen,0,1⟩] (fun i σ=>∃ v,σ.h ⟨gen,1,6⟩=some (.box [.int .i64 t.kind,.int .i64 t.type.kind,.sl .any (t.type.args.map Ty.cells),v,.sl .full []])/\Q4 h σ.h v 5 ((t.a7.take i).map Tm.cells)) (t.a7) ?_ ?_ ?_
 ·simp only [go_sem, *]
  exact ⟨f_,_,rfl,.inl rfl⟩
 ·clear ih'
  intro i x σ gr0 o5 hgf l6 l9 m6 hx hxm hm hlt jI jN jT jA ⟨v,jb,jO0⟩;have hc:=ht' x hxm b;have hts:(t.a7.take (i+1)).map Tm.cells=(t.a7.take i).map Tm.cells++[x.cells]:=by rw [p9 hx]
  clear ht';exact p_
 clear ht';intro σ ga0 q9 hgf l6 l8 m5 jT jA ⟨v1,jb,jO1⟩;rw [L2] at jO1;obtain ⟨c1,rfl⟩:=jO1.val;clear jO1;cases hq:(decide (t.kind>=4)&&decide (t.kind<=7))
 all_goals
  rw [hq] at hQ;clear hq;refine e_ ?_;refine k_ [1,2,6,7,41] [⟨gen,0,1⟩] (fun i σ=>∃ v,σ.h ⟨gen,1,6⟩=some (.box [.int .i64 t.kind,.int .i64 t.type.kind,.sl .any (t.type.args.map Ty.cells),.sl c1 (t.a7.map Tm.cells),v])/\Q4 h σ.h v 5 ((t.args.take i).map Fm.cells)) (t.args) ?_ ?_ ?_
  ·simp only [go_sem, *]
   first|exact ⟨_,rfl,.inl rfl⟩|exact ⟨f_,_,rfl,.inl rfl⟩
  ·
   intro i x σ gr1 I2 hgf l6 C1 C6 hx hxm hm hlt jI jN jT jA ⟨v,jb',jO0⟩;have z7:=o7 (show gen<gr1 by omega);have z9:=n6 (show gen<gr1 by omega);have hc:=fun b=>ih' x hxm b;have hts:(t.args.take (i+1)).map Fm.cells=(t.args.take i).map Fm.cells++[x.cells]:=by rw [p9 hx]
   clear ih'
   repeat' (first
    |(refine ⟨?_,?_⟩;focus ((repeat' (first|refine ⟨?_,?_⟩|refine .inr ?_));all_goals kernel_rfl))
    |(refine ab5 jO0 t_ rfl r_ s_ j_ (by intro hd e;simp only [af6,ak4,ag3];repeat (first|exact trivial|refine ⟨.inr h_,?_⟩|exact .inr h_)) ?_;intro v' h' id' jO jK jAg jAb jF;obtain ⟨cO,rfl⟩:=jO.val;simp only [go_sem, *])
    | (first|refine wp rfl ?_|refine spt rfl ?_|refine spf rfl ?_|(refine spl (fun hc=>?_) fun hc=>?_)<;>(try rw [L1] at hc)<;>try simp only [hc]|refine cp (hc _) ?_|refine D3 ?_)<;>try simp only [go_sem, *])
   refine ⟨?_,_,rfl,jO.aU5 (O3.box (O3.refl _) j_)⟩;exact m8.new (jAg f_) (e9 _ _)
  ·
   intro σ ga1 I1 hgf l6 C0 C5 jT jA ⟨v,jb',jO0⟩;have z6:=o7 (show gen<ga1 by omega);have z8:=n6 (show gen<ga1 by omega);rw [L2] at jO0;obtain ⟨c,rfl⟩:=jO0.val;clear ih';refine e_ ?_;rw [Fm.l4]
theorem aZ7 (f:Fm) (hf:FmW f):c_ env 94 [.agg f.cells] (.agg f.cells):=by
 intro h;have zq0:=bP0 f hf 0;exact d_ Tryz.func94 [.cell 2 36]
theorem dq4 {α:Type} (enc:α->V) (F:Int->Int->α->α) (kd:Nat) (cap:List V) (aa3:B1 cap=cap) (du7:∀ s (S:GoAbs.Id->Prop),InV S (enc s))
  (D E A d:GoAbs.Id) (oA:GoAbs.Obj) (nD:D≠d) (nE:E≠d) (nA:A≠d)
  (hdo:∀ i b s,ad3 Tryz.prog env kd (.int .i64 i::.int .i64 b::cap) [(A,oA)] d (.box [enc s]) (.tup []) (.box [enc (F i b s)])) :
  ∀ t:Tm,TmW t->∀ (b:Int) (s:α),ad3 Tryz.prog env 203 [.agg t.cells,.int .i64 b,.ptr D 0,.ptr E 0]
   [(D,.box [.fn (.func kd) [] cap]),(E,.box [.fn (.func 203) [] [.ptr D 0,.ptr E 0]]),(A,oA)] d (.box [enc s]) (.tup []) (.box [enc (t.af2 F b s)]):=by
 intro t
 induction t using Tm.ind with|h t ih=>?_
 intro ht b s h he hd;simp only [D9,K0,D1,bo7,an4] at he;obtain ⟨hD,hE,hA⟩:=he;have hlen:=ht.len;have ih':∀ x∈t.args,∀ (b:Int) (s:α),ad3 Tryz.prog env 203 [.agg x.cells,.int .i64 b,.ptr D 0,.ptr E 0]
   [(D,.box [.fn (.func kd) [] cap]),(E,.box [.fn (.func 203) [] [.ptr D 0,.ptr E 0]]),(A,oA)] d (.box [enc s]) (.tup []) (.box [enc (x.af2 F b s)]):=fun x hx=>ih x hx (ht.arg hx)
 clear ih ht;have n1:(D=d)=False:=by simpa using nD
 have n2:(E=d)=False:=by simpa using nE
 have n3:(A=d)=False:=by simpa using nA
 clear nD nE nA;have hw:IntKind.i64.wrap (b+1)=o9 b 1:=rfl;have hv0:=(Tm.ca1 F t b s).symm;generalize t.af2 F b s=v at hv0 ⊢;cases k1:(t.kind==1)
 all_goals
  rw [k1] at hv0;generalize hb1:(if (t.kind==2)=true then o9 b 1 else b)=b1 at hv0;cases k2:(t.kind==2)
  all_goals
   rw [k2] at hb1;simp only [p7,B2,r6] at hb1 hv0
   first|(obtain rfl:b1=b:=hb1.symm)|skip
   refine g_ Tryz.func203 [] fun g0 w0 gen g9 hfr e9 n8=>?_;have f1:=n9 hfr hd;have f2:=p6 hfr hd;have f3:=n9 hfr hD;have f4:=n9 hfr hE;have f5:=n9 hfr hA
   repeat' (first
    | (first|refine wp rfl ?_|refine spt rfl ?_|refine spf rfl ?_|(refine spl (fun hc=>?_) fun hc=>?_)<;>(try rw [L1] at hc)<;>try simp only [hc]|(refine P2 (hdo _ _ s) ?_ ?_ ?_;(focus ((simp only [go_sem, *]<;>(repeat (first|assumption|rfl|refine And.intro ?_ ?_)));done));(focus ((simp only [go_sem, *]<;>first|rfl|assumption);done))))<;>try simp only [go_sem, *])
   refine v_ [1,3,22] [] (fun i σ=>a6 d h σ.h/\∃ s',σ.h d=some (.box [enc s'])/\Tm.an9 F (t.args.drop i) b1 s'=v) (t.args).length ?_ ?_ ?_
   ·simp only [go_sem, *]
    exact ⟨by repeat (first|exact a6.refl _ _|assumption|refine a6.new ?_ (e9 _ _)|refine a6.set ?_),_,rfl,hv0⟩
   ·clear hv0
    intro i σ gr0 o5 hgn hlt jI jN jS ⟨jA,s',js,jv⟩;obtain ⟨jT,jB⟩:=jS;simp only [go_sem] at jT jB;have hgf:=o0 hgn;have l6:=p5 hd jA hgf (fun r i e=>by have:=hfr d (by rw [hd];simp);rw [e] at this;simp at this;omega);have aO3:=u5 hfr hd (show gen<gr0 by omega);have aO5:=D4 hfr hd (show gen<gr0 by omega);have l9:=o7 (show gen<gr0 by omega);have m6:=n6 (show gen<gr0 by omega);obtain ⟨x,hx,hxm,hm⟩:=rnx hlt;clear hgn;rw [s9 hx,Tm.bv6] at jv;have hc:=fun b s=>ih' x hxm b s;have hD':=(jA D (by simpa using n1) (by rw [hD];simp)).trans hD;have hE':=(jA E (by simpa using n2) (by rw [hE];simp)).trans hE;have hA':=(jA A (by simpa using n3) (by rw [hA];simp)).trans hA;have g3:=u5 hfr hD o5;have g4:=u5 hfr hE o5;have g5:=u5 hfr hA o5;clear ih' hD hE hA
    repeat' (first
     | (first|refine wp rfl ?_|refine spt rfl ?_|refine spf rfl ?_|(refine spl (fun hc=>?_) fun hc=>?_)<;>(try rw [L1] at hc)<;>try simp only [hc]|(refine P2 (hc _ s') ?_ ?_ ?_;(focus ((simp only [go_sem, *]<;>(repeat (first|assumption|rfl|refine And.intro ?_ ?_)));done));(focus ((simp only [go_sem, *]<;>first|rfl|assumption);done)))|refine D3 ?_)<;>try simp only [go_sem, *])
    exact ⟨by repeat (first|assumption|refine a6.new ?_ (l6 _ _)|refine a6.set ?_),_,rfl,jv⟩
   ·clear hv0
    intro σ ga0 q9 hgn jS ⟨jA,s',js,jv⟩;obtain ⟨jT,jB⟩:=jS;simp only [go_sem] at jT jB;have hgf:=o0 hgn;have l6:=p5 hd jA hgf (fun r i e=>by have:=hfr d (by rw [hd];simp);rw [e] at this;simp at this;omega);have aO2:=u5 hfr hd (show gen<ga0 by omega);have aO4:=D4 hfr hd (show gen<ga0 by omega);have l8:=o7 (show gen<ga0 by omega);have m5:=n6 (show gen<ga0 by omega);clear hgn;rw [y6,Tm.bH7] at jv;subst jv;clear ih';refine e_ ?_;refine W5 g9 hd (by simp only [go_sem,L6]) (by simp only [InL,du7,L6]) jA js ?_;simp only [go_sem, *]
theorem cW1 {α:Type} (enc:α->V) (F:Int->Int->α->α) (kd:Nat) (cap:List V) (aa3:B1 cap=cap) (du7:∀ s (S:GoAbs.Id->Prop),InV S (enc s))
  (A d:GoAbs.Id) (oA:GoAbs.Obj) (nA:A≠d)
  (hdo:∀ i b s,ad3 Tryz.prog env kd (.int .i64 i::.int .i64 b::cap) [(A,oA)] d (.box [enc s]) (.tup []) (.box [enc (F i b s)]))
  (t:Tm) (ht:TmW t) (s:α):ad3 Tryz.prog env 170 [.agg t.cells,.fn (.func kd) [] cap] [(A,oA)] d (.box [enc s]) (.tup []) (.box [enc (t.af2 F 0 s)]):=by
 intro h he hd;simp only [D9,K0,D1,an4] at he;refine g_ Tryz.func170 [] fun g0 w0 gen g9 hfr e9 n8=>?_;have f1:=n9 hfr hd;have f2:=p6 hfr hd;have f5:=n9 hfr he;have hc:=dq4 enc F kd cap aa3 du7 ⟨gen,0,1⟩ ⟨gen,1,0⟩ A d oA (by simpa using f2 0 1) (by simpa using f2 1 0) nA hdo t ht 0 s;have n3:(A=d)=False:=by simpa using nA
 clear hdo nA;generalize t.af2 F 0 s=v at hc ⊢
 repeat' (first
  | (first|refine wp rfl ?_|(refine P2 (hc) ?_ ?_ ?_;(focus ((simp only [go_sem, *]<;>(repeat (first|assumption|rfl|refine And.intro ?_ ?_)));done));(focus ((simp only [go_sem, *]<;>first|rfl|assumption);done))))<;>try simp only [go_sem, *])
 refine W5 g9 hd (by simp only [go_sem,L6]) (by simp only [InL,du7,L6]) ?_ j_ ?_
 ·repeat (first|exact a6.refl _ _|assumption|refine a6.new ?_ (e9 _ _)|refine a6.set ?_)
 ·simp only [go_sem, *]
theorem cW0 (a:Int) (A d:GoAbs.Id) (nA:A≠d) (i b n:Int) :
  ad3 Tryz.prog env 204 (.int .i64 i::.int .i64 b::[.ptr A 0,.ptr d 0]) [(A,.box [.int .i64 a])] d (.box [.int .i64 n]) (.tup []) (.box [.int .i64 (ab1 a i b n)]):=by
 intro h he hd;simp only [D9,K0,D1,an4] at he;have n3:(A=d)=False:=by simpa using nA
 have hw:IntKind.i64.wrap (i - b)=K5 i b:=rfl;have hw1:IntKind.i64.wrap (n+1)=o9 n 1:=rfl;unfold ab1;generalize K5 i b=q at *;generalize o9 n 1=m at *;clear nA;cases hq:(q==a)
 all_goals
  simp only [p7,B2,r6];exact n_ Tryz.func204 []
theorem bv0 (t:Tm) (ht:TmW t) (a:Int):c_ env 173 [.agg t.cells,.int .i64 a] (.int .i64 (t.count a)):=by
 intro h;unfold Tm.count;refine g_ Tryz.func173 [.tmp 4] fun g0 w0 gen g9 hfr e9 n8=>?_;have nA:(⟨gen,0,1⟩:GoAbs.Id)≠⟨gen,1,0⟩:=by simp
 have hc:=cW1 (fun n:Int=>V.int .i64 n) (ab1 a) 204 [.ptr ⟨gen,0,1⟩ 0,.ptr ⟨gen,1,0⟩ 0] rfl (fun _ _=>by simp [InV]) ⟨gen,0,1⟩ ⟨gen,1,0⟩ (.box [.int .i64 a]) nA
  (fun i b n=>cW0 a _ _ nA i b n) t ht 0
 clear nA;generalize t.af2 (ab1 a) 0 0=v at hc ⊢
 repeat' (first
  |exact hin _|exact agf l_
  | (first|refine wp rfl ?_|(refine P2 (hc) ?_ ?_ ?_;(focus ((simp only [go_sem, *]<;>(repeat (first|assumption|rfl|refine And.intro ?_ ?_)));done));(focus ((simp only [go_sem, *]<;>first|rfl|assumption);done)))|refine Y7 g9 ?_ ?_ ?_)<;>try simp only [go_sem, *])
end Go.Proofs.YtmfhhhhnokhggaaGreatDoor
