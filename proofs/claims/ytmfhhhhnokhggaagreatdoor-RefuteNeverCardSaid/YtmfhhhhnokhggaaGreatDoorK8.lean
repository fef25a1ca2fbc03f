/-
 Walks: several parts in one text.
-/
import Derived.Test.YtmfhhhhnokhggaaGreatDoorK5
import Derived.Test.YtmfhhhhnokhggaaGreatDoorK3
import Derived.Test.YtmfhhhhnokhggaaGreatDoorK4
set_option linter.unusedSimpArgs false
set_option linter.unusedVariables false
set_option maxRecDepth 20000
set_option maxHeartbeats 4000000
namespace Go.Proofs.YtmfhhhhnokhggaaGreatDoor
open Go GoAbs Go.Proofs
theorem dp8 (l:List Int) (hl:l.length<=1000):∀ m,bs6 l m:=by
 intro m
 induction m with
 | zero=>intro z g t a h;omega
 | succ m ih =>
 intro z g t a hm hg ht hth hb hz;have ih':bs6 l (43 * z.toNat+tyH t):=fun z' g' t' a' h'=>ih z' g' t' a' a_;have hv:=dK0 g t a_ (fun x hx=>(hg x hx).1.W) ht.W;clear ih;generalize hvs:aV9 g t g.length=vs at hv;have hvl:vs.length<=1000:=by have:=bM2 (g:=g) (t:=t) (n:=g.length);rw [hvs] at this;omega
 rcases bC0 vs.length with h0|h0
 ·
  have hc0:decide ((vs.length:Int)>0)=false:=by rw [h0];rfl
  clear h0;obtain ⟨t',a',kt,T2⟩:=dF8 l hl _ ih' z g t a rfl hg ht hth hb hz;refine ⟨t',a',kt,kt.W (fun y hy=>(hg y hy).1) ht,?_⟩;clear ih' hg;unfold bW7 at T2;intro d h hd;have hdd:=hd;refine g_ Tryz.func39 [.cell 8 52] fun g0 w0 gen g9 hfr e9 n8=>?_;have f1:=n9 hfr hd;have f2:=p6 hfr hd;change AR _ _ [.code (.seq (K4 [false] (x8 Tryz.f39)) (.seq (K4 [true,false] (x8 Tryz.f39)) (.seq (K4 [true,true,false] (x8 Tryz.f39)) (K4 [true,true,true] (x8 Tryz.f39)))))] _ _;generalize K4 [true,true,true] (x8 Tryz.f39)=C2 at T2 ⊢
  conv=>arg 3;simp only [K4,x8,Tryz.f39,aa7]
  refine w_ ?_;exact T2 d h _ g0 w0 gen _ _ hdd g9 hfr y_
 have hc0:decide ((vs.length:Int)>0)=true:=by simp;omega
 have hr:=H8 (l:=l) (a:=a) (n:=3) a_ a_;generalize hq:r8 l a 3=q at hr;obtain ⟨c,a1⟩:=q;have hc1:(r8 l a 3).1=c:=by rw [hq]
 have hc2:(r8 l a 3).2=a1:=by rw [hq]
 simp only at hr;rcases Int.lt_or_le 0 c with hp|hp
 case inr =>
  have hd0:decide (c>0)=false:=by simp;omega
  clear hq hr;obtain ⟨t',a',kt,T2⟩:=dF8 l hl _ ih' z g t a1 rfl hg ht hth hb hz;refine ⟨t',a',kt,kt.W (fun y hy=>(hg y hy).1) ht,?_⟩;clear ih' hg;unfold bW7 at T2;intro d h hd;have hdd:=hd;refine g_ Tryz.func39 [.cell 8 52] fun g0 w0 gen g9 hfr e9 n8=>?_;have f1:=n9 hfr hd;have f2:=p6 hfr hd;change AR _ _ [.code (.seq (K4 [false] (x8 Tryz.f39)) (.seq (K4 [true,false] (x8 Tryz.f39)) (.seq (K4 [true,true,false] (x8 Tryz.f39)) (K4 [true,true,true] (x8 Tryz.f39)))))] _ _;generalize K4 [true,true,true] (x8 Tryz.f39)=C2 at T2 ⊢
  conv=>arg 3;simp only [K4,x8,Tryz.f39,aa7]
  refine w_ ?_;exact T2 d h _ g0 w0 gen _ _ hdd g9 hfr y_
 have hd0:decide (c>0)=true:=by simpa using hp
 have hr2:=H8 (l:=l) (a:=a1) (n:=(vs.length:Int)) a_ a_;obtain ⟨k,hk⟩:∃ k:Nat,(r8 l a1 (vs.length:Int)).1=(k:Int):=⟨(r8 l a1 (vs.length:Int)).1.toNat,a_⟩;have hkl:k<vs.length:=by omega
 obtain ⟨v,hvk⟩:∃ v,vs[k]? = some v:=⟨_,W4 hkl⟩;obtain ⟨i,rfl,hi,hgi⟩:=cR3 (g:=g) (t:=t) (k:=k) (by rw [hvs];exact hvk);have hix:(ints vs)[k]? = some [.int .i64 (i:Int)]:=by rw [bx4,hvk];rfl
 refine ⟨_,(r8 l a1 (vs.length:Int)).2,.var hi hgi,A6 _,?_⟩;clear ih' hg hr2 hq hr;intro d h hd;have hdd:=hd;refine g_ Tryz.func39 [.cell 8 52] fun g0 w0 gen g9 hfr e9 n8=>?_;have f1:=n9 hfr hd;have f2:=p6 hfr hd;change AR _ _ [.code (.seq (K4 [false] (x8 Tryz.f39)) (.seq (K4 [true,false] (x8 Tryz.f39)) (.seq (K4 [true,true,false] (x8 Tryz.f39)) (K4 [true,true,true] (x8 Tryz.f39)))))] _ _;generalize K4 [true,true,true] (x8 Tryz.f39)=C2
 conv=>arg 3;simp only [K4,x8,Tryz.f39,aa7]
 repeat' (first
  |refine K8 ?_|refine P8 ?_|refine K7 ?_|refine C8 ?_|refine P7 ?_|refine B5 ?_|refine E4 ?_|refine B4 ?_
  |refine A8 (by decide) ?_|refine Y5 ?_|refine S2 ?_
  |(refine ⟨?_,?_⟩;focus ((repeat' (first|refine ⟨?_,?_⟩|refine .inr ?_));all_goals kernel_rfl))
  |refine K3 rfl ?_|refine K1 rfl ?_|(refine M6 rfl (fun hc=>?_) (fun hc=>?_)<;>(try rw [L1] at hc)<;>(try simp only [hc]))
  | ((first|refine D2 ?_|(refine A9 (fun hb=>?_) (fun hb=>?_)<;>(try simp only [E7,M9] at hb))|refine y7 (hv) ?_|refine y7 (an8 _) ?_|refine L7 (J2 l hl d _ _) q_ ?_|refine W5 g9 hd (by simp only [go_sem,L6]) (by simp only [go_sem,L6]) (by repeat (first|exact a6.refl _ _|assumption|refine a6.new ?_ (e9 _ _)|refine a6.new ?_ (l6 _ _)|refine a6.new ?_ (aU4 _ _)|refine a6.set ?_)) j_ ?_)<;>simp only [go_sem, *]))
theorem bP1 (l:List Int) (hl:l.length<=1000) (z:Int) (g:List Ty) (t:Ty) (a:Nat) (hg:∀ y∈g,TyF y/\tyH y<=40) (ht:TyF t) (hth:tyH t<=40)
  (hb:g.length+43 * z.toNat+tyH t<=900) (hz:(tyH t:Int)<=z+1000) :
  ∃ t' a',J3 z.toNat g t t'/\TmW t'/\∀ d,m_ env 39 [.ptr d 0,.sl .any (g.map Ty.cells),.agg t.cells,.int .i64 z] d (.box (F0 l a)) (.agg t'.cells) (.box (F0 l a')) :=
 dp8 l hl _ z g t a (Nat.lt_succ_self _) hg ht hth hb hz
theorem cH4 (l:List Int) (hl:l.length<=1000):∀ (n:Nat),n<=100->∀ (g:List Ty) (a:Nat),(∀ y∈g,TyF y/\tyH y<=40)->g.length+n<=800 ->
  ∃ f a',aM1 true n g f/\FmW f/\∀ d,m_ env 32 [.ptr d 0,.sl .any (g.map Ty.cells),.int .i64 n] d (.box (F0 l a)) (.agg f.cells) (.box (F0 l a')):=by
 intro n;have heq:∀ (g:List Ty) (a:Nat),(∀ y∈g,TyF y/\tyH y<=40)->g.length<=800->∃ x y a1 a2,J3 1 g c8 x/\J3 1 g c8 y/\TmW x/\TmW y /\
   (∀ d,m_ env 39 [.ptr d 0,.sl .any (g.map Ty.cells),.agg c8.cells,.int .i64 1] d (.box (F0 l a)) (.agg x.cells) (.box (F0 l a1))) /\
   (∀ d,m_ env 39 [.ptr d 0,.sl .any (g.map Ty.cells),.agg c8.cells,.int .i64 1] d (.box (F0 l a1)) (.agg y.cells) (.box (F0 l a2))):=by
  intro g a hg hb;obtain ⟨x,a1,hx,wx,Tx⟩:=bP1 l hl 1 g c8 a hg .nat (by rw [Y3];omega) (by rw [Y3];simp;omega) (by rw [Y3];omega);obtain ⟨y,a2,hy,wy,Ty⟩:=bP1 l hl 1 g c8 a1 hg .nat (by rw [Y3];omega) (by rw [Y3];simp;omega) (by rw [Y3];omega);exact ⟨x,y,a1,a2,hx,hy,wx,wy,Tx,Ty⟩
 induction n with
 | zero =>
  intro _ g a hg hb;have hz:decide (((0:Nat):Int)>0)=false:=rfl;obtain ⟨x,y,ax,ay,kx,ky,wx,wy,Tx,Ty⟩:=heq g a hg a_;refine ⟨_,ay,.eq kx ky,ap5 wx wy,?_⟩;clear heq hg;have hM:=bD6 x y wx wy;intro d h hd;have zq0:=s8;have zq1:=Tx d;have zq2:=Ty d;exact n_ Tryz.func32 [.cell 6 36]
 | succ n ih =>
  intro hn g a hg hb;have hz:decide (((n+1:Nat):Int)>0)=true:=by simp<;>omega
  have hw:IntKind.i64.wrap (((n+1:Nat):Int) - 1)=(n:Int):=x7 a_ a_ a_;have ih:=ih a_;have hr:=H8 (l:=l) (a:=a) (n:=9) a_ a_;generalize hq:r8 l a 9=q at hr;obtain ⟨c,a1⟩:=q;have hc1:(r8 l a 9).1=c:=by rw [hq]
  have hc2:(r8 l a 9).2=a1:=by rw [hq]
  simp only at hr;obtain rfl|rfl|rfl|rfl|rfl|rfl|rfl|hge:c=0\/c=1\/c=2\/c=3\/c=4\/c=5\/c=6\/7<=c:=by omega
  ·
   obtain ⟨x,ax,kx,wx,Tx⟩:=ih g a1 hg a_;obtain ⟨y,ay,ky,wy,Ty⟩:=ih g ax hg a_;refine ⟨_,ay,.two (k:=2) a_ kx ky,bR4 wx wy,?_⟩;clear heq hg ih hq hr;have hM:=aZ9 2 x y wx wy;intro d h hd;have zq0:=Tx d;have zq1:=Ty d;have hNx:=J2 l hl d;exact n_ Tryz.func32 [.cell 6 36]
  ·
   obtain ⟨x,ax,kx,wx,Tx⟩:=ih g a1 hg a_;obtain ⟨y,ay,ky,wy,Ty⟩:=ih g ax hg a_;refine ⟨_,ay,.two (k:=3) a_ kx ky,bR4 wx wy,?_⟩;clear heq hg ih hq hr;have hM:=aZ9 3 x y wx wy;intro d h hd;have zq0:=Tx d;have zq1:=Ty d;have hNx:=J2 l hl d;exact n_ Tryz.func32 [.cell 6 36]
  ·
   obtain ⟨x,ax,kx,wx,Tx⟩:=ih g a1 hg a_;obtain ⟨y,ay,ky,wy,Ty⟩:=ih g ax hg a_;refine ⟨_,ay,.two (k:=3) a_ kx ky,bR4 wx wy,?_⟩;clear heq hg ih hq hr;have hM:=aZ9 3 x y wx wy;intro d h hd;have zq0:=Tx d;have zq1:=Ty d;have hNx:=J2 l hl d;exact n_ Tryz.func32 [.cell 6 36]
  ·
   obtain ⟨s,a2,hs,hsH,hsF,hsW,hT0⟩:=cr3 l hl 1 a1;have hL:=al4 g [s] a_ b_;simp only [E0,B7] at hL;obtain ⟨x,ax,kx,wx,Tx⟩:=ih (g++[s]) a2 (by intro y hy;rcases Q8.1 hy with hy|hy;exact hg y hy;simp at hy;subst hy;exact ⟨hsF,a_⟩) (by simp;omega);refine ⟨_,ax,.q (k:=4) (.inl rfl) (hs.up b_) kx,bI4 hsW wx,?_⟩;clear heq hg ih hq hr;have hM:=aK9 4 s x hsW wx;intro d h hd;have zq0:=hT0 d;have zq1:=Tx d;have hNx:=J2 l hl d;exact n_ Tryz.func32 [.cell 6 36]
  ·
   obtain ⟨s,a2,hs,hsH,hsF,hsW,hT0⟩:=cr3 l hl 1 a1;have hL:=al4 g [s] a_ b_;simp only [E0,B7] at hL;obtain ⟨x,ax,kx,wx,Tx⟩:=ih (g++[s]) a2 (by intro y hy;rcases Q8.1 hy with hy|hy;exact hg y hy;simp at hy;subst hy;exact ⟨hsF,a_⟩) (by simp;omega);refine ⟨_,ax,.q (k:=4) (.inl rfl) (hs.up b_) kx,bI4 hsW wx,?_⟩;clear heq hg ih hq hr;have hM:=aK9 4 s x hsW wx;intro d h hd;have zq0:=hT0 d;have zq1:=Tx d;have hNx:=J2 l hl d;exact n_ Tryz.func32 [.cell 6 36]
  ·
   obtain ⟨s,a2,hs,hsH,hsF,hsW,hT0⟩:=cr3 l hl 1 a1;have hL:=al4 g [s] a_ b_;simp only [E0,B7] at hL;obtain ⟨x,ax,kx,wx,Tx⟩:=ih (g++[s]) a2 (by intro y hy;rcases Q8.1 hy with hy|hy;exact hg y hy;simp at hy;subst hy;exact ⟨hsF,a_⟩) (by simp;omega);refine ⟨_,ax,.q (k:=5) (.inr (.inl rfl)) (hs.up b_) kx,bI4 hsW wx,?_⟩;clear heq hg ih hq hr;have hM:=aK9 5 s x hsW wx;intro d h hd;have zq0:=hT0 d;have zq1:=Tx d;have hNx:=J2 l hl d;exact n_ Tryz.func32 [.cell 6 36]
  ·
   obtain ⟨s,a2,hs,hsH,hsF,hsW,hT0⟩:=cr3 l hl 0 a1;have hL:=al4 g [s] a_ b_;simp only [E0,B7] at hL;have hr2:=H8 (l:=l) (a:=a2) (n:=2) a_ a_;obtain ⟨k,hk⟩:∃ k:Nat,(r8 l a2 2).1=(k:Int):=⟨(r8 l a2 2).1.toNat,a_⟩;have hw2:IntKind.i64.wrap (6+(k:Int))=6+k:=x7 rfl a_ a_;obtain ⟨x,ax,kx,wx,Tx⟩:=ih (g++[s]) (r8 l a2 2).2 (by intro y hy;rcases Q8.1 hy with hy|hy;exact hg y hy;simp at hy;subst hy;exact ⟨hsF,a_⟩) (by simp;omega);refine ⟨_,ax,.q (k:=6+k) (.inr (.inr ⟨rfl,a_⟩)) (hs.up b_) kx,bI4 hsW wx,?_⟩;clear heq hg ih hq hr hr2;have hM:=aK9 (6+k) s x hsW wx;intro d h hd;have zq0:=hT0 d;have zq1:=Tx d;have hNx:=J2 l hl d;exact n_ Tryz.func32 [.cell 6 36]
  ·
   have q0:(c==0)=false:=by simp;omega
   have q1:(c==1)=false:=by simp;omega
   have q2:(c==2)=false:=by simp;omega
   have q3:(c==3)=false:=by simp;omega
   have q4:(c==4)=false:=by simp;omega
   have q5:(c==5)=false:=by simp;omega
   have q6:(c==6)=false:=by simp;omega
   clear hge hr hq ih;obtain ⟨x,y,ax,ay,kx,ky,wx,wy,Tx,Ty⟩:=heq g a1 hg a_;refine ⟨_,ay,.eq kx ky,ap5 wx wy,?_⟩;clear heq hg;have hM:=bD6 x y wx wy;intro d h hd;have zq0:=s8;have zq1:=Tx d;have zq2:=Ty d;have hNx:=J2 l hl d;exact n_ Tryz.func32 [.cell 6 36]
theorem ds8:∀ (n:Nat) (f:Fm),s6 f<=n->FmW f->f.J4=true->c_ env 154 [.agg f.cells] (.int .u8 f.fl.n):=by
 intro n
 induction n with
 | zero =>
  intro f hn;have:1<=s6 f:=by (cases f;rw [s6];omega)
  omega
 | succ n ih =>
 intro f hn hf hg h;have hk:=Fm.bI6 hg;have hw2:IntKind.i64.wrap (((2:Nat):Int) - 1)=1:=rfl;have ef7:IntKind.i64.wrap ((2:Int) - 1)=1:=rfl;have hw1:IntKind.i64.wrap (((1:Nat):Int) - 1)=0:=rfl;have ef6:IntKind.i64.wrap ((1:Int) - 1)=0:=rfl;obtain hk|hk|hk:f.kind=1\/(f.kind=2\/f.kind=3)\/(f.kind=4\/f.kind=5\/f.kind=6\/f.kind=7):=by omega
 ·rw [Fm.dU8 hk,dc1]
  clear ih hf hg hn;exact d_ Tryz.func154 [.tmp 2]
 ·obtain ⟨a,b,ha,ga,gb⟩:=Fm.aO9 hg hk
  have la:=am1 (f:=f) (x:=a) (by rw [ha];simp);have lb:=am1 (f:=f) (x:=b) (by rw [ha];simp);have h1:=ih a a_ (hf.arg (by rw [ha];simp)) ga;have h2:=ih b a_ (hf.arg (by rw [ha];simp)) gb;rw [Fm.dL0 hk ha];clear ih hf hg hn la lb ga gb;generalize a.fl=fa at *;generalize b.fl=fb at *;rcases hk with hk|hk
  all_goals
   rw [hk];have hkk:((2:Int)==2)=true:=rfl;have dW6:((3:Int)==2)=false:=rfl;exact d_ Tryz.func154 [.tmp 2]
 ·obtain ⟨a,ha,ga⟩:=Fm.bw6 hg hk
  have la:=am1 (f:=f) (x:=a) (by rw [ha];simp);have wa:FmW a:=hf.arg (by rw [ha];simp);have h1:=ih a a_ wa ga;have hB:=cz0 f hf hg hk;have h4:4<=f.kind:=by omega
  cases hb:T8 f with
  | false =>
   rw [S3 hb,aC3,bo3] at hB;rw [Fm.dD8 h4 ha hb];clear ih hf hg hn la ga wa hb h4;generalize a.fl=fa at *;rcases hk with hk|hk|hk|hk
   all_goals
    rw [hk];refine g_ Tryz.func154 [.tmp 2] fun g0 w0 gen g9 hfr e9 n8=>?_
    first|refine e_ ?_|exact i_
    all_goals simp
  | true =>
   obtain ⟨x,y,hxy,hbb,gy⟩:=cV1 ha ga hb;have ly:=am1 (f:=a) (x:=y) (by rw [hxy];simp);have hy:=ih y a_ (wa.arg (by rw [hxy];simp)) gy;rw [Fm.dD7 h4 ha hb hxy];unfold aX1 at hB;rw [hb,B8 rfl,hbb] at hB;have hk':f.kind=4\/f.kind=5:=by
    rcases hk with hk|hk|hk|hk
    ·exact .inl hk
    ·exact .inr hk
    ·rw [cV2 (.inl hk)] at hb;cases hb
    ·rw [cV2 (.inr hk)] at hb;cases hb
   clear ih hf hg hn la ga wa hb h4 gy ly hk hxy hbb;generalize a.fl=fa at *;generalize y.fl=fy at *;rcases hk' with hk|hk
   all_goals
    rw [hk] at hB ⊢;refine g_ Tryz.func154 [.tmp 2] fun g0 w0 gen g9 hfr e9 n8=>?_
    first|refine e_ ?_|exact i_
    all_goals simp
theorem dT1 (f:Fm) (hf:FmW f) (k:Int) (hk:k=1\/k=2\/k=4):c_ env 95 [.agg f.cells,.int .u8 k] (al3 (f.has k)):=by
 intro h;have hC:=ax1 f hf;unfold al3 Fm.has;cases he:(Q0 f != 0) with
 | true =>
  simp only [p7];clear hf hk;generalize Q0 f=e at *;exact d_ Tryz.func95 [.tmp 4,.tmp 5]
 | false =>
  have h0:Q0 f=0:=by simpa using he
  have hO:=ds8 _ f (w7 _) hf (Fm.bc8 he);simp only [B2,r6];rw [h0] at hC;have n0:((0:Int) != 0)=false:=rfl;clear he h0 hf;generalize f.fl=x at *;obtain ⟨x1,x2,x3⟩:=x;rcases hk with rfl|rfl|rfl
  ·cases x1
   all_goals
    refine g_ Tryz.func95 [.tmp 4,.tmp 5] fun g0 w0 gen g9 hfr e9 n8=>?_
    first|refine e_ ?_|exact i_
    all_goals simp [Fl.n]
  ·cases x2
   all_goals
    refine g_ Tryz.func95 [.tmp 4,.tmp 5] fun g0 w0 gen g9 hfr e9 n8=>?_
    first|refine e_ ?_|exact i_
    all_goals simp [Fl.n]
  ·cases x3
   all_goals
    refine g_ Tryz.func95 [.tmp 4,.tmp 5] fun g0 w0 gen g9 hfr e9 n8=>?_
    first|refine e_ ?_|exact i_
    all_goals simp [Fl.n]
theorem ay1 (f:Fm) (hf:FmW f):c_ env 55 [.agg f.cells] (al3 (f.has 4)):=by
 intro h;have h1:=dT1 f hf 4 (.inr (.inr rfl));generalize f.has 4=p at *;exact d_ Tryz.func55 [.tmp 2,.tmp 3]
theorem bZ7 (f:Fm) (hf:FmW f) (hg:f.J4=true) (hs:s6 f<=1000000) :
  c_ env 93 [.agg f.cells] (.tup [.sl .any (f.univ.1.map Ty.cells),.agg f.univ.2.cells]):=by
 intro h;have hb:=dk9 f;generalize hu0:f.univ=p at *;obtain ⟨ul,uf⟩:=p;simp only at hb ⊢;refine g_ Tryz.func93 [.tmp 2,.cell 3 36] fun g0 w0 gen g9 hfr e9 n8=>?_;refine e_ ?_;refine E6 (fun i σ=>σ.tm 1=.ptr ⟨gen,0,0⟩ 0/\σ.tm 3=.ptr ⟨gen,0,2⟩ 0/\σ.h ⟨gen,0,2⟩=some (.box [.int .i64 0,.int .i64 0,.sl .full [],.sl .full [],.sl .full []])/\m8 h σ.h /\
  ∃ (f':Fm) (l':List Ty),σ.h ⟨gen,0,0⟩=some (.box f'.cells)/\Q4 h σ.h (σ.tm 4) 2 (l'.map Ty.cells)/\FmW f'/\f'.J4=true/\l'++f'.univ.1=ul/\f'.univ.2=uf/\l'.length=i) ul.length ?_ ?_
 ·simp only [go_sem, *]
  exact ⟨f_,f,[],rfl,.inl rfl,hf,hg,by rw [hu0];rfl,by rw [hu0],rfl⟩
 clear hf hg hu0;intro i σ hi ⟨j1,j2,j3,j4,f',l',j5,j6,j7,j8,j9,j10,j11⟩;refine at5 (fun gn hgn=>?_);have hgf:=o0 hgn;have l6:∀ r i,h ⟨gn,r,i⟩=none:=fun r i=>F3 j4 (hgf r i);have e1:=ah8 hgn j5;have e2:=Z4 hgn j5;clear hgn;cases k:(f'.kind==4) with
 | true =>
  obtain ⟨a,ha,ga⟩:=Fm.bw6 j8 (.inl (by simpa using k));have wa:FmW a:=j7.arg (by rw [ha];simp);have hO:=ax0 f'.type j7.ty;rw [Fm.bU5 k ha] at j9 j10;have hlt:i<ul.length:=by
   have:=congrArg List.length j9;simp at this;omega
  clear j7 j8;have hts:((l'++[f'.type]).map Ty.cells)=l'.map Ty.cells++[f'.type.cells]:=by simp
  repeat' (first
   |(refine ⟨?_,?_⟩;focus ((repeat' (first|refine ⟨?_,?_⟩|refine .inr ?_));all_goals kernel_rfl))
   |(refine bc7 j6 t_ rfl r_ s_ j_ (by intro hd e;simp only [af6,ak4,ag3];repeat (first|exact trivial|refine ⟨.inr h_,?_⟩|exact .inr h_)) ?_;intro v' h' id' jO jK jAg jAb jF jI;obtain ⟨cO,rfl⟩:=jO.val;simp only [go_sem, *])
   | (first|refine wp rfl ?_|refine spt rfl ?_|refine spf rfl ?_|(refine spl (fun hc=>?_) fun hc=>?_)<;>(try rw [L1] at hc)<;>try simp only [hc]|refine cp hO ?_|refine D3 ?_)<;>try simp only [go_sem, *])
  exact ⟨m8.new (jAg f_) (e9 _ _),a,l'++[f'.type],rfl,by rw [hts];exact jO.aU5 (O3.box (O3.refl _) (by rw [jK _ (by rw [j5];rfl),j5];rfl)),wa,ga,by simpa using j9,j10,by simp;omega⟩
 | false =>
  rw [Fm.bU6 k] at j9 j10;simp only [ae7] at j9 j10;subst j9;subst j10;obtain ⟨c,j6⟩:=j6.val;clear j7 j8;exact i_
theorem dJ4:∀ (n:Nat) (f:Fm),s6 f<=n->FmW f->f.J4=true->c_ env 146 [.agg f.cells] (.bool f.fl.c):=by
 intro n
 induction n with
 | zero =>
  intro f hn;have:1<=s6 f:=by (cases f;rw [s6];omega)
  omega
 | succ n ih =>
 intro f hn hf hg h;have hk:=Fm.bI6 hg;have hw2:IntKind.i64.wrap (((2:Nat):Int) - 1)=1:=rfl;have ef7:IntKind.i64.wrap ((2:Int) - 1)=1:=rfl;have hw1:IntKind.i64.wrap (((1:Nat):Int) - 1)=0:=rfl;have ef6:IntKind.i64.wrap ((1:Int) - 1)=0:=rfl;obtain hk|hk|hk:f.kind=1\/(f.kind=2\/f.kind=3)\/(f.kind=4\/f.kind=5\/f.kind=6\/f.kind=7):=by omega
 ·rw [Fm.dU8 hk]
  clear ih hf hg hn;exact d_ Tryz.func146 [.tmp 2]
 ·obtain ⟨a,b,ha,ga,gb⟩:=Fm.aO9 hg hk
  have la:=am1 (f:=f) (x:=a) (by rw [ha];simp);have lb:=am1 (f:=f) (x:=b) (by rw [ha];simp);have h1:=ih a a_ (hf.arg (by rw [ha];simp)) ga;have h2:=ih b a_ (hf.arg (by rw [ha];simp)) gb;rw [Fm.dL0 hk ha];clear ih hf hg hn la lb ga gb;generalize a.fl.c=fa at *;generalize b.fl.c=fb at *;rcases hk with hk|hk
  ·rw [hk]
   cases fa<;>cases fb<;>simp only [Int.reduceBEq,J7,aW7,aR2,bj7]
   all_goals
    exact d_ Tryz.func146 [.tmp 2]
  ·rw [hk]
   have dW6:((3:Int)==2)=false:=rfl;rw [dW6,J6,aR2];clear h1;exact d_ Tryz.func146 [.tmp 2]
 ·obtain ⟨a,ha,ga⟩:=Fm.bw6 hg hk
  have la:=am1 (f:=f) (x:=a) (by rw [ha];simp);have wa:FmW a:=hf.arg (by rw [ha];simp);have h1:=ih a a_ wa ga;have h4:4<=f.kind:=by omega
  rw [Fm.dL1 h4 ha];clear ih hf hg hn la ga wa h4;generalize a.fl.c=fa at *;rcases hk with hk|hk|hk|hk
  all_goals
   rw [hk];simp only [Int.reduceBEq,aR2,aW7];exact d_ Tryz.func146 [.tmp 2]
theorem bP9 (f:Fm) (hf:FmW f):c_ env 89 [.agg f.cells] (al3 (f.has 1)):=by
 intro h;have hC:=aa9 f hf;unfold al3 Fm.has;cases he:(Q0 f != 0) with
 | true =>
  simp only [p7];clear hf;generalize Q0 f=e at *;exact d_ Tryz.func89 [.tmp 2,.tmp 3]
 | false =>
  have h0:Q0 f=0:=by simpa using he
  have hO:=dJ4 _ f (w7 _) hf (Fm.bc8 he);simp only [B2,r6];rw [h0] at hC;have n0:((0:Int) != 0)=false:=rfl;clear he h0 hf;have e1:((2:Int)==1)=false:=rfl;simp only [ad1,p7,e1,B2,r6];generalize f.fl.c=x at *;exact d_ Tryz.func89 [.tmp 2,.tmp 3]
theorem ap2 (b:Int):∀ t:Fm,FmW t->∀ d:Int,c_ env 42 [.agg t.cells,.int .i64 d,.int .i64 b] (.agg (t.up b d).cells):=by
 intro t
 induction t using Fm.ind with|h t ih=>?_
 intro ht d h;have hlen:=ht.len;have ao0:=ht.au6;have ih':∀ x∈t.args,c_ env 42 [.agg x.cells,.int .i64 (o9 d (u9 t.kind)),.int .i64 b] (.agg (x.up b (o9 d (u9 t.kind))).cells):=fun x hx=>ih x hx (ht.arg hx) _;clear ih;have hB:=aS1 t;have hw:IntKind.i64.wrap (d+u9 t.kind)=o9 d (u9 t.kind):=rfl;have hv0:V.agg (Fm.mk t.kind t.type (t.a7.map fun x=>x.up b d) (t.args.map fun x=>x.up b (o9 d (u9 t.kind)))).cells=.agg (t.up b d).cells:=by
  rw [Fm.aL5 b t]
 have hin:∀ S,InV S (V.agg (t.up b d).cells):=fun S=>by simp [InV,aC6]
 generalize hvv:V.agg (t.up b d).cells=v at hv0 hin ⊢;clear hvv;generalize o9 d (u9 t.kind)=a2 at *;refine g_ Tryz.func42 [.cell 6 36] fun g0 w0 gen g9 hfr e9 n8=>?_;refine e_ ?_;refine k_ [1,2,3,6,7,18] [⟨gen,0,0⟩,⟨gen,0,1⟩] (fun i σ=>∃ v,σ.h ⟨gen,1,5⟩=some (.box [.int .i64 t.kind,.int .i64 t.type.kind,.sl .any (t.type.args.map Ty.cells),v,.sl .full []])/\Q4 h σ.h v 5 (((t.a7.take i).map fun x=>x.up b d).map Tm.cells)) (t.a7) ?_ ?_ ?_
 ·simp only [go_sem, *]
  exact ⟨f_,_,rfl,.inl rfl⟩
 ·clear hv0 ih'
  intro i x σ gr0 o5 hgf l6 l9 m6 hx hxm hm hlt jI jN jT jA ⟨v,jb,jO0⟩;have hc:=cn0 b x (ht.term hxm) d;have hts:((t.a7.take (i+1)).map fun x=>x.up b d).map Tm.cells=((t.a7.take i).map fun x=>x.up b d).map Tm.cells++[(x.up b d).cells]:=by rw [p9 hx,U0];rfl
  exact p_
 intro σ ga0 q9 hgf l6 l8 m5 jT jA ⟨v1,jb,jO1⟩;rw [L2] at jO1;obtain ⟨c1,rfl⟩:=jO1.val;clear jO1;refine e_ ?_;refine k_ [1,2,3,6,7,35] [⟨gen,0,0⟩,⟨gen,0,1⟩] (fun i σ=>∃ v,σ.h ⟨gen,1,5⟩=some (.box [.int .i64 t.kind,.int .i64 t.type.kind,.sl .any (t.type.args.map Ty.cells),.sl c1 ((t.a7.map fun x=>x.up b d).map Tm.cells),v])/\Q4 h σ.h v 5 (((t.args.take i).map fun x=>x.up b a2).map Fm.cells)) (t.args) ?_ ?_ ?_
 ·simp only [go_sem, *]
  first|exact ⟨_,rfl,.inl rfl⟩|exact ⟨f_,_,rfl,.inl rfl⟩
 ·clear hv0
  intro i x σ gr1 I2 hgf l6 C1 C6 hx hxm hm hlt jI jN jT jA ⟨v,jb',jO0⟩;have z7:=o7 (show gen<gr1 by omega);have z9:=n6 (show gen<gr1 by omega);have hc:=ih' x hxm;have hts:((t.args.take (i+1)).map fun x=>x.up b a2).map Fm.cells=((t.args.take i).map fun x=>x.up b a2).map Fm.cells++[(x.up b a2).cells]:=by rw [p9 hx,U0];rfl
  clear ih';exact p_
 ·
  intro σ ga1 I1 hgf l6 C0 C5 jT jA ⟨v,jb',jO0⟩;have z6:=o7 (show gen<ga1 by omega);have z8:=n6 (show gen<ga1 by omega);rw [L2] at jO0;obtain ⟨c,rfl⟩:=jO0.val;clear ih';rw [Fm.r7] at hv0;subst hv0;exact i_
theorem bk2 (f:Fm) (hf:FmW f) (he:Q0 f=0) (hs:s6 f<=1000000) :
  c_ env 54 [.agg f.cells] (.tup [.sl .any (f.univ.1.map Ty.cells),.agg f.univ.2.cells,.int .i64 0]):=by
 intro h;have hC:=ax1 f hf;rw [he] at hC;have he':(Q0 f != 0)=false:=by rw [he];rfl
 have hU:=bZ7 f hf (Fm.bc8 he') hs;have hO:=aZ7 f.univ.2 (cQ7 f hf (Fm.bc8 he')).1;have n0:((0:Int) != 0)=false:=rfl;clear hf he he' hs;generalize f.univ=p at *;exact d_ Tryz.func54 [.tmp 2,.cell 3 36,.tmp 4]
end Go.Proofs.YtmfhhhhnokhggaaGreatDoor
