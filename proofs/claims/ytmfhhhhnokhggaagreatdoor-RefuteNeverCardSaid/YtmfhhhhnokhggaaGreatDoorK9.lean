/-
 Walks: several parts in one text.
-/
import Derived.Test.YtmfhhhhnokhggaaGreatDoorK6
import Derived.Test.YtmfhhhhnokhggaaGreatDoorK8
import Derived.Shelf.Abstract
import Derived.OwnWalkIn
import Derived.TacticsInMore
import Derived.LoopNIn
import Derived.LoopIn
set_option linter.unusedSimpArgs false
set_option linter.unusedVariables false
set_option maxRecDepth 20000
set_option maxHeartbeats 4000000
namespace Go.Proofs.YtmfhhhhnokhggaaGreatDoor
open Go GoAbs Go.Proofs
theorem av7 (g:List Ty) (hg:∀ y∈g,TyG y) (hl:g.length<=16):c_ env 26 [.sl .any (g.map Ty.cells)] (.int .i64 0):=by
 intro h;have d1:decide ((g.length:Int)>16)=false:=by simp;omega
 have n0:((0:Int) != 0)=false:=rfl;have hc:∀ y∈g,c_ env 67 [.agg y.cells] (.int .i64 0):=fun y hy=>by
  have:=ab0 y (hg y hy).1.W;rw [(hg y hy).err] at this;exact this
 clear hg;refine g_ Tryz.func26 [.tmp 2] fun g0 w0 gen g9 hfr e9 n8=>?_;refine e_ ?_;refine k_ [9] [] (fun i σ=>True) (g) ?_ ?_ ?_
 ·simp only [go_sem, *]
  exact f_
 ·
  intro i x σ gr0 o5 hgf l6 l9 m6 hx hxm hm hlt jI jN jT jA _;have h1:=hc x hxm;clear hc
  first|refine e_ ?_|exact i_
  all_goals exact m8.new jA (l6 _ _)
 ·clear hc
  intro σ ga0 q9 hgf l6 l8 m5 jT jA _;exact i_
theorem ap3 (g:List Ty) (t:Tm) (s:Ty) (h:l7 TyG g t s) (hg:∀ y∈g,TyW y) (ht:TmW t) (he:ag1 t=0) (hb:g.length+a8 t<=1000000) :
  c_ env 177 [.sl .any (g.map Ty.cells),.agg t.cells] (.tup [.agg s.cells,.int .i64 0]):=by
 have h1:=ag6 t ht;rw [he] at h1;have h2:=bq0 h hg ht hb;have n0:((0:Int) != 0)=false:=rfl;clear h hg ht he hb;intro h;exact d_ Tryz.func177 [.cell 4 29,.tmp 5]
variable {g:List Ty}
theorem bw0 {f:Fm} (h:R4 TyG g f):(∀ x∈f.a7,l7 TyG g x c8)/\(∀ x∈f.args,R4 TyG (if X8 f.kind then g++[f.type] else g) x):=by
 cases h with
 | eq h1 h2=>exact ⟨by intro x hx;simp [u6,Fm.a7] at hx;rcases hx with rfl|rfl<;>assumption,by simp [u6,Fm.args]⟩
 | @two g k a b hk h1 h2 =>
  have e:X8 k=false:=by rcases hk with rfl|rfl<;>rfl
  refine ⟨by simp [o8,Fm.a7],?_⟩;intro x hx;simp only [o8,Fm.args,Fm.kind,e,B2,r6,D9,K0,D1] at hx ⊢;rcases hx with rfl|rfl<;>assumption
 | @q g k s a hk h1 =>
  have e:X8 k=true:=by rcases hk with rfl|rfl|rfl|rfl<;>rfl
  refine ⟨by simp [fmQ,Fm.a7],?_⟩;intro x hx;simp only [fmQ,Fm.args,Fm.kind,Fm.type,e,p7,D9,K0,D1] at hx ⊢;subst hx;exact h1
theorem bQ3:∀ (n:Nat) (f:Fm) (g:List Ty),s6 f<=n->R4 TyG g f->FmG true f->s6 f<=4096->FmW f->(∀ y∈g,TyW y)->g.length+s6 f<=100000 ->
  c_ env 115 [.sl .any (g.map Ty.cells),.agg f.cells] (.int .i64 0):=by
 intro n
 induction n with
 | zero =>
  intro f g hn;have:1<=s6 f:=by (cases f;rw [s6];omega)
  omega
 | succ n ih =>
 intro f g hn hf gf zf wf hg hb h;have hlen:=wf.len;have cd6:=wf.au6;obtain ⟨p1,p2⟩:=bw0 hf;have gT:∀ x∈f.a7,TmG x:=by
  cases gf with
  | eq hx hy=>intro x hx';simp [u6,Fm.a7] at hx';rcases hx' with rfl|rfl<;>assumption
  | two=>simp [o8,Fm.a7]
  | q=>simp [fmQ,Fm.a7]
 have gA:∀ x∈f.args,FmG true x:=by
  cases gf with
  | eq=>simp [u6,Fm.args]
  | two hk ha hb=>intro x hx';simp [o8,Fm.args] at hx';rcases hx' with rfl|rfl<;>assumption
  | q hk hs ha=>intro x hx';simp [fmQ,Fm.args] at hx';subst hx';assumption
 have sT:∀ x∈f.a7,a8 x<s6 f:=by
  intro x hx;obtain ⟨k,t,l,a⟩:=f;rw [s6];have:=I9 (show x∈l from hx);omega
 have aL2:∀ x∈f.a7,c_ env 177 [.sl .any (g.map Ty.cells),.agg x.cells] (.tup [.agg c8.cells,.int .i64 0]):=by
  intro x hx;have hs:=sT x hx;exact ap3 g x c8 (p1 x hx) hg (wf.term hx) ((gT x hx).am0 a_) a_
 have hq:=bq2 f.kind;have hk1:((1:Int) != 1)=false:=rfl;have n0:((0:Int) != 0)=false:=rfl;have hnk:c8.kind=1:=rfl;have t1:(0:Int)<=(g.length:Int):=by omega
 have t2:((g.length:Int)).toNat=g.length:=aA4 _;have t3:List.take g.length (g.map Ty.cells)=g.map Ty.cells:=ak6 b_;have t4:0<=g.length:=by omega
 have t5:g.length<=g.length:=w7 _;have mn:∀ (f:Operand->V),Option.map f none=none:=fun _=>rfl;have ml:(g.map Ty.cells).length=g.length:=by simp
 have b3:(g.length+1) * 32<=140737488355328:=by omega
 have b4:g.length+1<=140737488355328:=by omega
 have aM2:∀ x∈f.args,c_ env 115 [.sl .any ((if X8 f.kind then g++[f.type] else g).map Ty.cells),.agg x.cells] (.int .i64 0):=by
  intro x hx;have hs:=am1 hx;refine ih x _ a_ (p2 x hx) (gA x hx) a_ (wf.arg hx) ?_ ?_
  ·intro y hy
   split at hy
   ·rcases Q8.1 hy with hy|hy
    ·exact hg y hy
    ·simp at hy;subst hy;exact wf.ty
   ·exact hg y hy
  ·split<;>(try simp only [F8,J1,S0])<;>omega
 clear ih p1 p2 gT gA sT hf gf wf hg;refine g_ Tryz.func115 [.tmp 4] fun g0 w0 gen g9 hfr e9 n8=>?_;refine e_ ?_;refine k_ [0,3,13] [⟨gen,0,0⟩] (fun i σ=>True) (f.a7) ?_ ?_ ?_
 ·simp only [go_sem, *]
  exact f_
 ·clear aM2
  intro i x σ gr0 o5 hgf l6 l9 m6 hx hxm hm hlt jI jN jT jA _;have h1:=aL2 x hxm;clear aL2
  first|refine e_ ?_|exact i_
  all_goals exact (by repeat (first|exact jA|refine m8.new ?_ (l6 _ _)))
 clear aL2;intro σ ga0 q9 hgf l6 l8 m5 jT jA _;have hwk:A7 (g.map Ty.cells++[f.type.cells])=(g++[f.type]).map Ty.cells:=by rw [<- F4 (g++[f.type])];simp
 cases hqq:X8 f.kind with
 | false =>
  rw [hqq] at hq aM2;simp only [B2,r6] at aM2;clear hqq;refine e_ ?_;refine k_ [0,46] [] (fun i σ=>True) (f.args) ?_ ?_ ?_
  ·simp only [go_sem, *]
   first|done|exact f_|exact ⟨f_,jA⟩|exact jA
  ·
   intro i x σ gr1 I2 hgf l6 C1 C6 hx hxm hm hlt jI jN jT jA _;have z7:=o7 (show gen<gr1 by omega);have z9:=n6 (show gen<gr1 by omega);have h1:=aM2 x hxm;clear aM2
   first|refine e_ ?_|exact i_
   all_goals exact (by repeat (first|exact jA|refine m8.new ?_ (l6 _ _)))
  ·clear aM2
   intro σ ga1 I1 hgf l6 C0 C5 jT jA _;have z6:=o7 (show gen<ga1 by omega);have z8:=n6 (show gen<ga1 by omega);exact i_
 | true =>
  rw [hqq] at hq aM2;simp only [p7] at aM2;clear hqq;refine e_ ?_;refine k_ [0,46] [] (fun i σ=>True) (f.args) ?_ ?_ ?_
  ·simp only [go_sem, *]
   first|done|exact f_|exact ⟨f_,jA⟩|exact jA
  ·
   intro i x σ gr1 I2 hgf l6 C1 C6 hx hxm hm hlt jI jN jT jA _;have z7:=o7 (show gen<gr1 by omega);have z9:=n6 (show gen<gr1 by omega);have h1:=aM2 x hxm;clear aM2
   first|refine e_ ?_|exact i_
   all_goals exact (by repeat (first|exact jA|refine m8.new ?_ (l6 _ _)))
  ·clear aM2
   intro σ ga1 I1 hgf l6 C0 C5 jT jA _;have z6:=o7 (show gen<ga1 by omega);have z8:=n6 (show gen<ga1 by omega);exact i_
theorem au0 (g:List Ty) (hg:∀ y∈g,TyG y) (hl:g.length<=16):c_ env 90 [.sl .any (g.map Ty.cells)] (.int .i64 0):=by
 intro h;have d1:decide ((g.length:Int)>16)=false:=by simp;omega
 have n0:((0:Int) != 0)=false:=rfl;have hc:∀ y∈g,c_ env 56 [.agg y.cells] (.int .i64 0):=fun y hy=>by
  have:=ag7 y (hg y hy).1.W;rw [(hg y hy).err] at this;exact this
 clear hg;refine g_ Tryz.func90 [.tmp 2] fun g0 w0 gen g9 hfr e9 n8=>?_;refine e_ ?_;refine k_ [9] [] (fun i σ=>True) (g) ?_ ?_ ?_
 ·simp only [go_sem, *]
  exact f_
 ·
  intro i x σ gr0 o5 hgf l6 l9 m6 hx hxm hm hlt jI jN jT jA _;have h1:=hc x hxm;clear hc
  first|refine e_ ?_|exact i_
  all_goals exact m8.new jA (l6 _ _)
 ·clear hc
  intro σ ga0 q9 hgf l6 l8 m5 jT jA _;exact i_
variable {t:Tm}
theorem bY7 (h:l7 TyG g t c8) (hg:∀ y∈g,TyW y) (ht:TmW t) (hb:g.length+a8 t<=1000000) :
  c_ env 149 [.sl .any (g.map szC),.agg t.cells] (.int .i64 0):=by
 have hc:=bZ6 h hg ht hb;have i1:=bk5 c8 1;rw [show (c8.kind==1)=true from rfl] at i1;have h0:c_ env 193 [.sl .any (g.map szC),.agg t.cells,.int .i64 1] (.int .i64 0):=by
  intro h;clear hg ht hb;generalize c8=q at *;exact d_ Tryz.func193 [.tmp 6]
 intro h;clear hc i1 hg ht hb;exact d_ Tryz.func149 [.tmp 4]
theorem bP2:∀ (n:Nat) (f:Fm) (g:List Ty),s6 f<=n->R4 TyG g f->s6 f<=4096->FmW f->(∀ y∈g,TyW y)->g.length+s6 f<=5000 ->
  c_ env 92 [.sl .any (g.map szC),.agg f.cells] (.int .i64 0):=by
 intro n
 induction n with
 | zero =>
  intro f g hn;have:1<=s6 f:=by (cases f;rw [s6];omega)
  omega
 | succ n ih =>
 intro f g hn hf zf wf hg hb h;have hlen:=wf.len;have cd6:=wf.au6;obtain ⟨p1,p2⟩:=bw0 hf;have sT:∀ x∈f.a7,a8 x<s6 f:=by
  intro x hx;obtain ⟨k,t,l,a⟩:=f;rw [s6];have:=I9 (show x∈l from hx);omega
 have aL2:∀ x∈f.a7,c_ env 149 [.sl .any (g.map szC),.agg x.cells] (.int .i64 0):=by
  intro x hx;have hs:=sT x hx;exact bY7 (p1 x hx) hg (wf.term hx) a_
 have aM2:∀ x∈f.args,c_ env 92 [.sl .any ((if X8 f.kind then g++[f.type] else g).map szC),.agg x.cells] (.int .i64 0):=by
  intro x hx;have hs:=am1 hx;refine ih x _ a_ (p2 x hx) a_ (wf.arg hx) ?_ ?_
  ·intro y hy
   split at hy
   ·rcases Q8.1 hy with hy|hy
    ·exact hg y hy
    ·simp at hy;subst hy;exact wf.ty
   ·exact hg y hy
  ·split<;>(try simp only [F8,J1,S0])<;>omega
 have dZ0:=cI5 g f.type wf.ty a_;have dW5:f.kind=1\/f.kind=2\/f.kind=3\/f.kind=4\/f.kind=5\/f.kind=6\/f.kind=7:=by
  cases hf with
  | eq _ _=>exact .inl rfl
  | two hk _ _=>rcases hk with rfl|rfl<;>simp [o8,Fm.kind]
  | q hk _=>rcases hk with rfl|rfl|rfl|rfl<;>simp [fmQ,Fm.kind]
 clear ih p1 p2 sT hf wf hg hn hb zf;rcases dW5 with hk|hk|hk|hk|hk|hk|hk
 ·clear aM2 dZ0
  refine g_ Tryz.func92 [.tmp 4] fun g0 w0 gen g9 hfr e9 n8=>?_;refine e_ ?_;refine k_ [0,42] [] (fun i σ=>True) (f.a7) ?_ ?_ ?_
  ·simp only [go_sem, *]
   exact f_
  ·
   intro i x σ gr1 I2 hgf l6 z7 z9 hx hxm hm hlt jI jN jT jA _;have h1:=aL2 x hxm;clear aL2
   first|refine e_ ?_|exact i_
   all_goals exact (by repeat (first|exact jA|refine m8.new ?_ (l6 _ _)))
  ·clear aL2
   intro σ ga1 I1 hgf l6 z6 z8 jT jA _
   first|refine e_ ?_|exact i_
 all_goals
  rw [hk] at aM2;clear aL2;simp only [X8,Int.reduceBEq,aW7,aM0,bj7,aR2,aW4,p7,r6,B2] at aM2;refine g_ Tryz.func92 [.tmp 4] fun g0 w0 gen g9 hfr e9 n8=>?_;refine e_ ?_;refine k_ [0,3,28] [⟨gen,0,0⟩] (fun i σ=>True) (f.args) ?_ ?_ ?_
  ·simp only [go_sem, *]
   exact f_
  ·
   intro i x σ gr0 o5 hgf l6 l9 m6 hx hxm hm hlt jI jN jT jA _;have h1:=aM2 x hxm;clear aM2
   first|refine e_ ?_|exact i_
   all_goals exact (by repeat (first|exact jA|refine m8.new ?_ (l6 _ _)))
  ·clear aM2
   intro σ ga0 q9 hgf l6 l8 m5 jT jA _;exact i_
theorem ay2 (g:List Ty) (hg:∀ y∈g,TyG y) (hl:g.length<=16) (f:Fm) (hf:R4 TyG g f) (he:Q0 f=0) (zf:s6 f<=4096) (wf:FmW f) :
  c_ env 53 [.sl .any (g.map Ty.cells),.agg f.cells] (.int .i64 0):=by
 intro h;have h1:=au0 g hg hl;have h2:=ax1 f wf;rw [he] at h2;have h3:=bf0 g (fun y hy=>(hg y hy).1.W) a_;have h4:=bP2 _ f g (w7 _) hf zf wf (fun y hy=>(hg y hy).1.W) a_;have n0:((0:Int) != 0)=false:=rfl;clear hg hl hf he zf wf;exact d_ Tryz.func53 [.tmp 4]
theorem bE0 (t:Tm) (s:Ty) (h:l7 TyG [] t s) (ht:TmW t) (he:ag1 t=0) (hb:a8 t<=1000000) :
  c_ env 279 [.sl .any [],.agg t.cells] (.tup [.agg s.cells,.int .i64 0]):=by
 have ws:TyW s:=(h.W b_ ht).1;intro hh;have h1:=au0 [] b_ b_;have h2:=bQ2 t ht;rw [he] at h2;have h3:=bf0 [] b_ b_;have h4:=bZ6 h b_ ht (by simpa using hb);have h5:=ax0 s ws;have n0:((0:Int) != 0)=false:=rfl;simp only [B7] at h1 h3 h4;rw [R8 s] at h5;have ec:=R8 s;clear h ht he hb ws;generalize s.cells=sc at *;subst ec;unfold szC at h4;exact d_ Tryz.func279 [.cell 4 29,.tmp 5]
theorem bY9 (g:List Ty) (k:Int) (ty:Ty) (hty:TyW ty) (l:List Tm) (ts:List Ty) (x0:Tm) (e:Int) (hk1:(k==1)=false) (hk2:(k==2)=false) (hl3:l.length<=3) (he:(e != 0)=true) (hx0:l[ts.length]? = some x0)
  (ih:∀ (j:Nat) (x:Tm) (a:Ty),l[j]? = some x->ts[j]? = some a->c_ env 209 [.sl .any (g.map Ty.cells),.agg x.cells] (.tup [.agg a.cells,.int .i64 0]))
  (ihE:c_ env 209 [.sl .any (g.map Ty.cells),.agg x0.cells] (.tup [.agg (Ty.mk 0 []).cells,.int .i64 e])) :
  c_ env 209 [.sl .any (g.map Ty.cells),.agg (tmT k ty l).cells] (.tup [.agg (Ty.mk 0 []).cells,.int .i64 e]):=by
 intro h;have zc:=ax6;have e1:(tmT k ty l).kind=k:=rfl;have e2:(tmT k ty l).type=ty:=rfl;have e3:(tmT k ty l).args=l:=rfl;generalize tmT k ty l=t at *;have n0:((0:Int) != 0)=false:=rfl;have hlx:ts.length<l.length:=(F2.1 hx0).1;refine g_ Tryz.func209 [.cell 4 29,.tmp 5] fun g0 w0 gen g9 hfr e9 n8=>?_;refine e_ ?_;refine k_ [0,3,4,67] [⟨gen,0,0⟩,⟨gen,0,1⟩] (fun i σ=>i<=ts.length/\Q4 h σ.h (σ.tm 8) 2 ((ts.take i).map Ty.cells)) (l) ?_ ?_ ?_
 ·simp only [go_sem, *]
  first|exact ⟨f_,az9 _,.inl rfl⟩|exact ⟨f_,.inl rfl⟩
 ·
  intro i x σ gr0 o5 hgf l6 l9 m6 hx hxm hm hlt jI jN jT jA ⟨ji,jO0⟩;rcases R0 i ts.length with hi|hi
  ·obtain ⟨a,ha⟩:∃ a,ts[i]? = some a:=⟨_,W4 hi⟩
   have hc:=ih i x a hx ha;have hts:(ts.take (i+1)).map Ty.cells=(ts.take i).map Ty.cells++[a.cells]:=by rw [p9 ha]
   have htl:(ts.take i).length=i:=by rw [ae6];omega
   clear ih ihE hx0 ji
   repeat' (first
    |(refine ⟨?_,?_⟩;focus ((repeat' (first|refine ⟨?_,?_⟩|refine .inr ?_));all_goals kernel_rfl))
    |(refine X6 jO0 t_ rfl r_ s_ j_ (by intro hd;cases hd) ?_;intro v' h' log' jO jK jAg jAb jF;simp only [go_sem, *])
    | (first|refine wp rfl ?_|refine spt rfl ?_|refine spf rfl ?_|(refine spl (fun hc=>?_) fun hc=>?_)<;>(try rw [L1] at hc)<;>try simp only [hc]|(refine gs (fun hb=>?_) fun hb=>?_)<;>try simp only [E7,M9] at hb|refine cp hc ?_|refine D3 ?_)<;>try simp only [go_sem, *])
   exact ⟨jAg (by repeat (first|exact jA|refine m8.new ?_ (l6 _ _))),hi⟩
  ·obtain rfl:i=ts.length:=by omega
   rw [hx] at hx0;cases hx0;clear ih;exact i_
 ·
  intro σ ga0 q9 hgf l6 l8 m5 jT jA ⟨ji,jO0⟩;omega
theorem cX6 {e:Int} (h:aH1 g t e):(∀ y∈g,TyW y)->TmW t->g.length+a8 t<=1000000 ->
  c_ env 209 [.sl .any (g.map Ty.cells),.agg t.cells] (.tup [.agg (Ty.mk 0 []).cells,.int .i64 e]):=by
 induction h with
 | @var g i hi =>
  intro hw _ hb h;have zc:=ax6;have e1:(a9 i).kind=1:=rfl;have e2:(a9 i).index=i:=rfl;have hd:decide (i>=(g.length:Int))=true:=by simp;omega
  generalize a9 i=x at *;clear hw hi;exact d_ Tryz.func209 [.cell 4 29,.tmp 5]
 | @lamE g a t e gaa hE ih =>
  intro hw hW hb h;rw [H7] at hb;have wa:=hW.ty;have wt:TmW t:=hW.arg (by simp [tmT,Tm.args]);have hwa:TyW a:=wa;have hc:=ih (by intro y hy;rcases Q8.1 hy with hy|hy;exact hw y hy;simp at hy;subst hy;exact hwa) wt (by simp;omega);have zc:=ax6;have he:=hE.ne;have e1:(tmT 2 a [t]).kind=2:=rfl;have e2:(tmT 2 a [t]).type=a:=rfl;have e3:(tmT 2 a [t]).args=[t]:=rfl;have hwk:A7 (g.map Ty.cells++[a.cells])=(g++[a]).map Ty.cells:=by rw [<- F4 (g++[a])];simp
  have b3:(g.length+1) * 32<=140737488355328:=by omega
  have b4:g.length+1<=140737488355328:=by omega
  have t1:(0:Int)<=(g.length:Int):=by omega
  have t2:((g.length:Int)).toNat=g.length:=aA4 _;have t3:List.take g.length (g.map Ty.cells)=g.map Ty.cells:=ak6 b_;have t4:0<=g.length:=by omega
  have t5:g.length<=g.length:=w7 _;have mn:∀ (f:Operand->V),Option.map f none=none:=fun _=>rfl;have ml:(g.map Ty.cells).length=g.length:=by simp
  generalize tmT 2 a [t]=x at *;clear hw hW ih wa wt hwa hE gaa;exact d_ Tryz.func209 [.cell 4 29,.tmp 5]
 | @lamS g a b t hT ga gb hsz =>
  intro hw hW hb h;rw [H7] at hb;have wa:=hW.ty;have wt:TmW t:=hW.arg (by simp [tmT,Tm.args]);have hwa:TyW a:=wa;have hc:=bq0 hT (by intro y hy;rcases Q8.1 hy with hy|hy;exact hw y hy;simp at hy;subst hy;exact hwa) wt (by simp;omega);have wb:TyW b:=gb.1.W;have zc:=ax6;have r1:=W6 a b hwa wb;have r2:=dC8 (x9 a b) (.func ga.1 gb.1) (by rw [M5];omega) (by rw [M5];have:=ga.2;have:=gb.2;omega);have e1:(tmT 2 a [t]).kind=2:=rfl;have e2:(tmT 2 a [t]).type=a:=rfl;have e3:(tmT 2 a [t]).args=[t]:=rfl;have n0:((0:Int) != 0)=false:=rfl;have hwk:A7 (g.map Ty.cells++[a.cells])=(g++[a]).map Ty.cells:=by rw [<- F4 (g++[a])];simp
  have b3:(g.length+1) * 32<=140737488355328:=by omega
  have b4:g.length+1<=140737488355328:=by omega
  have t1:(0:Int)<=(g.length:Int):=by omega
  have t2:((g.length:Int)).toNat=g.length:=aA4 _;have t3:List.take g.length (g.map Ty.cells)=g.map Ty.cells:=ak6 b_;have t4:0<=g.length:=by omega
  have t5:g.length<=g.length:=w7 _;have mn:∀ (f:Operand->V),Option.map f none=none:=fun _=>rfl;have ml:(g.map Ty.cells).length=g.length:=by simp
  generalize tmT 2 a [t]=x at *;clear hw hW wa wt wb hwa hT ga gb hsz;exact d_ Tryz.func209 [.cell 4 29,.tmp 5]
 | @arg g k ty l ts x e hk1 hk2 hl3 hts hT hx hE ih =>
  intro hw hW hb;have bh4:∀ (j:Nat) (y:Tm),l[j]? = some y->TmW y/\g.length+a8 y<=1000000:=fun j y hy=>by
   have hm:=Q7 hy;refine ⟨hW.arg (by simpa [tmT,Tm.args] using hm),?_⟩;have:=I9 hm;have:a8 (tmT k ty l)=F7 l+1:=by simp [tmT,a8]
   omega
  exact bY9 g k ty hW.ty l ts x e hk1 hk2 hl3 hE.ne hx (fun j y a hy ha=>bq0 (hT j y a hy ha) hw (bh4 j y hy).1 (bh4 j y hy).2) (ih hw (bh4 _ _ hx).1 (bh4 _ _ hx).2)
 | @node g k ty l ts e hl hts hT hN =>
  intro hw hW hb;have bh4:∀ (j:Nat) (y:Tm),l[j]? = some y->TmW y/\g.length+a8 y<=1000000:=fun j y hy=>by
   have hm:=Q7 hy;refine ⟨hW.arg (by simpa [tmT,Tm.args] using hm),?_⟩;have:=I9 hm;have:a8 (tmT k ty l)=F7 l+1:=by simp [tmT,a8]
   omega
  exact bP3 g k ty hW.ty l ts e hN hl hts (fun j y a hy ha=>bq0 (hT j y a hy ha) hw (bh4 j y hy).1 (bh4 j y hy).2)
theorem aN7 (g:List Ty) (t:Tm) (e:Int) (h:aH1 g t e) (hg:∀ y∈g,TyW y) (ht:TmW t) (he:ag1 t=0) (hb:g.length+a8 t<=1000000) :
  c_ env 177 [.sl .any (g.map Ty.cells),.agg t.cells] (.tup [.agg (Ty.mk 0 []).cells,.int .i64 e]):=by
 have h1:=ag6 t ht;rw [he] at h1;have h2:=cX6 h hg ht hb;have n0:((0:Int) != 0)=false:=rfl;clear h hg ht he hb;intro h;exact d_ Tryz.func177 [.cell 4 29,.tmp 5]
theorem ba1 (f:Fm) (g:List Ty) (wf:FmW f) (hgl:g.length<=100000) (i0:Nat) (x0:Tm) (E:Int) (hx0:f.a7[i0]? = some x0)
  (ok:∀ (j:Nat) (x:Tm),j<i0->f.a7[j]? = some x->c_ env 177 [.sl .any (g.map Ty.cells),.agg x.cells] (.tup [.agg c8.cells,.int .i64 0]))
  (bad:∃ (s:Ty) (e:Int),c_ env 177 [.sl .any (g.map Ty.cells),.agg x0.cells] (.tup [.agg s.cells,.int .i64 e])/\(((e != 0)=true/\E=e)\/(e=0/\(s.kind != 1)=true/\E=7))) :
  c_ env 115 [.sl .any (g.map Ty.cells),.agg f.cells] (.int .i64 E):=by
 intro h;have hlen:=wf.len;have cd6:=wf.au6;have hlx:i0<f.a7.length:=(F2.1 hx0).1;have hk1:((1:Int) != 1)=false:=rfl;have n0:((0:Int) != 0)=false:=rfl;have hnk:c8.kind=1:=rfl;clear wf;refine g_ Tryz.func115 [.tmp 4] fun g0 w0 gen g9 hfr e9 n8=>?_;refine e_ ?_;refine k_ [0,3,13] [⟨gen,0,0⟩] (fun i σ=>i<=i0) (f.a7) ?_ ?_ ?_
 ·simp only [go_sem, *]
  first|exact ⟨f_,az9 _⟩|exact f_
 ·
  intro i x σ gr0 o5 hgf l6 l9 m6 hx hxm hm hlt jI jN jT jA ji;rcases R0 i i0 with hi|hi
  ·have h1:=ok i x hi hx
   clear ok bad hx0 ji;refine e_ ?_;exact ⟨by repeat (first|exact jA|refine m8.new ?_ (l6 _ _)),hi⟩
  ·obtain rfl:i=i0:=by omega
   rw [hx] at hx0;cases hx0;obtain ⟨s,e,h1,⟨he,rfl⟩|⟨rfl,hs,rfl⟩⟩:=bad
   ·clear ok
    exact i_
   ·clear ok
    exact i_
 ·
  intro σ ga0 q9 hgf l6 l8 m5 jT jA ji;omega
theorem bv1 (f:Fm) (g:List Ty) (wf:FmW f) (hgl:g.length<=100000) (i0:Nat) (x0:Fm) (e:Int) (he:(e != 0)=true) (hx0:f.args[i0]? = some x0)
  (aL2:∀ x∈f.a7,c_ env 177 [.sl .any (g.map Ty.cells),.agg x.cells] (.tup [.agg c8.cells,.int .i64 0]))
  (ok:∀ (j:Nat) (x:Fm),j<i0->f.args[j]? = some x->c_ env 115 [.sl .any ((if X8 f.kind then g++[f.type] else g).map Ty.cells),.agg x.cells] (.int .i64 0))
  (bad:c_ env 115 [.sl .any ((if X8 f.kind then g++[f.type] else g).map Ty.cells),.agg x0.cells] (.int .i64 e)) :
  c_ env 115 [.sl .any (g.map Ty.cells),.agg f.cells] (.int .i64 e):=by
 intro h;have hlen:=wf.len;have cd6:=wf.au6;have hlx:i0<f.args.length:=(F2.1 hx0).1;have hq:=bq2 f.kind;have hk1:((1:Int) != 1)=false:=rfl;have n0:((0:Int) != 0)=false:=rfl;have hnk:c8.kind=1:=rfl;have t1:(0:Int)<=(g.length:Int):=by omega
 have t2:((g.length:Int)).toNat=g.length:=aA4 _;have t3:List.take g.length (g.map Ty.cells)=g.map Ty.cells:=ak6 b_;have t4:0<=g.length:=by omega
 have t5:g.length<=g.length:=w7 _;have mn:∀ (f:Operand->V),Option.map f none=none:=fun _=>rfl;have ml:(g.map Ty.cells).length=g.length:=by simp
 have b3:(g.length+1) * 32<=140737488355328:=by omega
 have b4:g.length+1<=140737488355328:=by omega
 clear wf;refine g_ Tryz.func115 [.tmp 4] fun g0 w0 gen g9 hfr e9 n8=>?_;refine e_ ?_;refine k_ [0,3,13] [⟨gen,0,0⟩] (fun i σ=>True) (f.a7) ?_ ?_ ?_
 ·simp only [go_sem, *]
  exact f_
 ·clear ok bad
  intro i x σ gr0 o5 hgf l6 l9 m6 hx hxm hm hlt jI jN jT jA _;have h1:=aL2 x hxm;clear aL2
  first|refine e_ ?_|exact i_
  all_goals exact (by repeat (first|exact jA|refine m8.new ?_ (l6 _ _)))
 clear aL2;intro σ ga0 q9 hgf l6 l8 m5 jT jA _;have hwk:A7 (g.map Ty.cells++[f.type.cells])=(g++[f.type]).map Ty.cells:=by rw [<- F4 (g++[f.type])];simp
 cases hqq:X8 f.kind with
 | false =>
  rw [hqq] at hq ok bad;simp only [B2,r6] at ok bad;clear hqq;refine e_ ?_;refine k_ [0,46] [] (fun i σ=>i<=i0) (f.args) ?_ ?_ ?_
  ·simp only [go_sem, *]
   all_goals exact az9 _
  ·
   intro i x σ gr1 I2 hgf l6 C1 C6 hx hxm hm hlt jI jN jT jA ji;have z7:=o7 (show gen<gr1 by omega);have z9:=n6 (show gen<gr1 by omega);rcases R0 i i0 with hi|hi
   ·have h1:=ok i x hi hx
    clear ok bad hx0 ji;refine e_ ?_;exact ⟨by repeat (first|exact jA|refine m8.new ?_ (l6 _ _)),hi⟩
   ·obtain rfl:i=i0:=by omega
    rw [hx] at hx0;cases hx0;clear ok;exact i_
  ·
   intro σ ga1 I1 hgf l6 C0 C5 jT jA ji;have z6:=o7 (show gen<ga1 by omega);have z8:=n6 (show gen<ga1 by omega);omega
 | true =>
  rw [hqq] at hq ok bad;simp only [p7] at ok bad;clear hqq;refine e_ ?_;refine k_ [0,46] [] (fun i σ=>i<=i0) (f.args) ?_ ?_ ?_
  ·simp only [go_sem, *]
   first|exact ⟨m8.new jA (l6 _ _),az9 _⟩|exact m8.new jA (l6 _ _)
  ·
   intro i x σ gr1 I2 hgf l6 C1 C6 hx hxm hm hlt jI jN jT jA ji;have z7:=o7 (show gen<gr1 by omega);have z9:=n6 (show gen<gr1 by omega);rcases R0 i i0 with hi|hi
   ·have h1:=ok i x hi hx
    clear ok bad hx0 ji;refine e_ ?_;exact ⟨by repeat (first|exact jA|refine m8.new ?_ (l6 _ _)),hi⟩
   ·obtain rfl:i=i0:=by omega
    rw [hx] at hx0;cases hx0;clear ok;exact i_
  ·
   intro σ ga1 I1 hgf l6 C0 C5 jT jA ji;have z6:=o7 (show gen<ga1 by omega);have z8:=n6 (show gen<ga1 by omega);omega
theorem cZ5 {f:Fm} {e:Int} (h:aZ2 g f e):FmG true f->s6 f<=4096->FmW f->(∀ y∈g,TyW y)->g.length+s6 f<=5000 ->
  c_ env 115 [.sl .any (g.map Ty.cells),.agg f.cells] (.int .i64 e):=by
 induction h with
 | @eq1 g x y e h1 =>
  intro gf zf wf hg hb;rw [D7] at zf hb;have gx:=gf.eqn.1;exact ba1 _ g wf a_ 0 x e rfl (fun j _ hj=>absurd hj a_) ⟨_,_,aN7 g x e h1 hg (wf.term (by simp [u6,Fm.a7])) (gx.am0 a_) a_,.inl ⟨h1.ne,rfl⟩⟩
 | @eq1T g x y s h1 gs hs =>
  intro gf zf wf hg hb;rw [D7] at zf hb;have gx:=gf.eqn.1;exact ba1 _ g wf a_ 0 x 7 rfl (fun j _ hj=>absurd hj a_) ⟨_,_,ap3 g x s h1 hg (wf.term (by simp [u6,Fm.a7])) (gx.am0 a_) a_,.inr ⟨rfl,gs.dg3 hs,rfl⟩⟩
 | @eq2 g x y e h1 h2 =>
  intro gf zf wf hg hb;rw [D7] at zf hb;obtain ⟨gx,gy⟩:=gf.eqn;refine ba1 _ g wf a_ 1 y e rfl (fun j z hj hz=>?_) ⟨_,_,aN7 g y e h2 hg (wf.term (by simp [u6,Fm.a7])) (gy.am0 a_) a_,.inl ⟨h2.ne,rfl⟩⟩;obtain rfl:j=0:=by omega
  simp [u6,Fm.a7] at hz;subst hz;exact ap3 g x c8 h1 hg (wf.term (by simp [u6,Fm.a7])) (gx.am0 a_) a_
 | @eq2T g x y s h1 h2 gs hs =>
  intro gf zf wf hg hb;rw [D7] at zf hb;obtain ⟨gx,gy⟩:=gf.eqn;refine ba1 _ g wf a_ 1 y 7 rfl (fun j z hj hz=>?_) ⟨_,_,ap3 g y s h2 hg (wf.term (by simp [u6,Fm.a7])) (gy.am0 a_) a_,.inr ⟨rfl,gs.dg3 hs,rfl⟩⟩;obtain rfl:j=0:=by omega
  simp [u6,Fm.a7] at hz;subst hz;exact ap3 g x c8 h1 hg (wf.term (by simp [u6,Fm.a7])) (gx.am0 a_) a_
 | @two1 g k a b e hk h1 ih =>
  intro gf zf wf hg hb;rw [y8] at zf hb;obtain ⟨ga,gb⟩:=gf.dA5 hk;have hq:X8 (o8 k a b).kind=false:=by rcases hk with rfl|rfl<;>rfl
  refine bv1 _ g wf a_ 0 a e h1.ne rfl (by simp [o8,Fm.a7]) (fun j _ hj=>absurd hj a_) ?_;rw [hq];simp only [B2,r6];exact ih ga a_ (wf.arg (by simp [o8,Fm.args])) hg a_
 | @two2 g k a b e hk h1 h2 ih =>
  intro gf zf wf hg hb;rw [y8] at zf hb;obtain ⟨ga,gb⟩:=gf.dA5 hk;have hq:X8 (o8 k a b).kind=false:=by rcases hk with rfl|rfl<;>rfl
  refine bv1 _ g wf a_ 1 b e h2.ne rfl (by simp [o8,Fm.a7]) (fun j z hj hz=>?_) ?_
  ·obtain rfl:j=0:=by omega
   simp [o8,Fm.args] at hz;subst hz;rw [hq];simp only [B2,r6];exact bQ3 _ a g (w7 _) h1 ga a_ (wf.arg (by simp [o8,Fm.args])) hg a_
  ·rw [hq]
   simp only [B2,r6];exact ih gb a_ (wf.arg (by simp [o8,Fm.args])) hg a_
 | @q g k s a e hk gs h1 ih =>
  intro gf zf wf hg hb;rw [G6] at zf hb;have ga:=gf.qA hk;have hq:X8 (fmQ k s a).kind=true:=by rcases hk with rfl|rfl|rfl|rfl<;>rfl
  refine bv1 _ g wf a_ 0 a e h1.ne rfl (by simp [fmQ,Fm.a7]) (fun j _ hj=>absurd hj a_) ?_;rw [hq];simp only [p7];exact ih ga a_ (wf.arg (by simp [fmQ,Fm.args])) (by intro y hy;rcases Q8.1 hy with hy|hy;exact hg y hy;simp [fmQ,Fm.type] at hy;subst hy;exact gs.1.W) (by simp;omega)
theorem bt8 (A d:GoAbs.Id) (oA:GoAbs.Obj) (nA:A≠d) (t:Tm) (ht:TmW t) (hl:t.least 536870912=true) (b:Int) :
  ad3 Tryz.prog env 169 (.agg t.cells::.int .i64 b::[.ptr d 0]) [(A,oA)] d (.box [.bool true]) (.tup []) (.box [.bool true]):=by
 intro h he hd;clear he nA;have hc:=cW3 t ht;rw [cC4 hl] at hc;refine g_ Tryz.func169 [] fun g0 w0 gen g9 hfr e9 n8=>?_;have f1:=n9 hfr hd;exact ah3
theorem dq6 (kd:Nat) (cap:List V) (aa3:B1 cap=cap) (A d:GoAbs.Id) (oA:GoAbs.Obj) (nA:A≠d)
  (hdo:∀ x:Tm,TmW x->x.least 536870912=true->∀ b:Int,ad3 Tryz.prog env kd (.agg x.cells::.int .i64 b::cap) [(A,oA)] d (.box [.bool true]) (.tup []) (.box [.bool true])) :
  ∀ f:Fm,FmW f->f.least 536870912=true->∀ b:Int,ad3 Tryz.prog env 168 [.agg f.cells,.int .i64 b,.fn (.func kd) [] cap] [(A,oA)] d (.box [.bool true]) (.tup []) (.box [.bool true]):=by
 intro t
 induction t using Fm.ind with|h t ih=>?_
 intro ht hl b h he hd;simp only [D9,K0,D1,an4] at he;have hlen:=ht.len;have ao0:=ht.au6;have ih':∀ x∈t.args,∀ b:Int,ad3 Tryz.prog env 168 [.agg x.cells,.int .i64 b,.fn (.func kd) [] cap] [(A,oA)] d (.box [.bool true]) (.tup []) (.box [.bool true]):=fun x hx=>ih x hx (ht.arg hx) (az2 hl hx);have ht':∀ x∈t.a7,∀ b:Int,ad3 Tryz.prog env kd (.agg x.cells::.int .i64 b::cap) [(A,oA)] d (.box [.bool true]) (.tup []) (.box [.bool true]):=fun x hx=>hdo x (ht.term hx) (at1 hl hx);have hQ:=av6 t.kind;clear ih hdo ht hl;have n3:(A=d)=False:=by simpa using nA
 clear nA;have hw:IntKind.i64.wrap (b+1)=o9 b 1:=rfl;refine g_ Tryz.func168 [] fun g0 w0 gen g9 hfr e9 n8=>?_;have f1:=n9 hfr hd;have f2:=p6 hfr hd;have f5:=n9 hfr he;refine e_ ?_;refine v_ [1,2,3,11] [⟨gen,0,0⟩] (fun i σ=>a6 d h σ.h/\σ.h d=some (.box [.bool true])) (t.a7).length ?_ ?_ ?_
 ·simp only [go_sem, *]
  grind [a6.refl,a6.new]
 ·clear ih'
  intro i σ gr0 o5 hgn hlt jI jN jS ⟨jA,js⟩;obtain ⟨jT,jB⟩:=jS;simp only [go_sem] at jT jB;have hgf:=o0 hgn;have l6:=p5 hd jA hgf (fun r i e=>by have:=hfr d (by rw [hd];simp);rw [e] at this;simp at this;omega);have aO3:=u5 hfr hd (show gen<gr0 by omega);have aO5:=D4 hfr hd (show gen<gr0 by omega);have l9:=o7 (show gen<gr0 by omega);have m6:=n6 (show gen<gr0 by omega);obtain ⟨x,hx,hxm,hm⟩:=rnx hlt;clear hgn;have hc:=ht' x hxm;have hA':=(jA A (by simpa using n3) (by rw [he];simp)).trans he;have g5:=u5 hfr he o5;clear ht' he
  repeat' (first
   | (first|refine wp rfl ?_|refine spt rfl ?_|refine spf rfl ?_|(refine spl (fun hc=>?_) fun hc=>?_)<;>(try rw [L1] at hc)<;>try simp only [hc]|(refine P2 (hc _) ?_ ?_ ?_;(focus ((simp only [go_sem, *]<;>(repeat (first|assumption|rfl|refine And.intro ?_ ?_)));done));(focus ((simp only [go_sem, *]<;>first|rfl|assumption);done)))|refine D3 ?_)<;>try simp only [go_sem, *])
  first|exact ⟨by repeat (first|assumption|refine a6.new ?_ (l6 _ _)|refine a6.set ?_),rfl⟩|(repeat (first|assumption|refine a6.new ?_ (l6 _ _)|refine a6.set ?_))
 clear ht';intro σ ga0 q9 hgn jS ⟨jA,js⟩;obtain ⟨jT,jB⟩:=jS;simp only [go_sem] at jT jB;have hgf:=o0 hgn;have l6:=p5 hd jA hgf (fun r i e=>by have:=hfr d (by rw [hd];simp);rw [e] at this;simp at this;omega);have aO2:=u5 hfr hd (show gen<ga0 by omega);have aO4:=D4 hfr hd (show gen<ga0 by omega);have l8:=o7 (show gen<ga0 by omega);have m5:=n6 (show gen<ga0 by omega);clear hgn;cases hq:(decide (t.kind>=4)&&decide (t.kind<=7))
 all_goals
  rw [hq] at hQ;clear hq;refine e_ ?_;refine v_ [1,2,28] [] (fun i σ=>a6 d h σ.h/\σ.h d=some (.box [.bool true])) (t.args).length ?_ ?_ ?_
  ·simp only [go_sem, *]
   first|exact ⟨jA,rfl⟩|exact jA|trace_state
  ·
   intro i σ gr1 I2 hgn hlt jI jN jS ⟨jA,js'⟩;obtain ⟨jT,jB⟩:=jS;simp only [go_sem] at jT jB;have hgf:=o0 hgn;have l6:=p5 hd jA hgf (fun r i e=>by have:=hfr d (by rw [hd];simp);rw [e] at this;simp at this;omega);have db7:=u5 hfr hd (show gen<gr1 by omega);have db9:=D4 hfr hd (show gen<gr1 by omega);have z7:=o7 (show gen<gr1 by omega);have z9:=n6 (show gen<gr1 by omega);have C1:=o7 (show ga0<gr1 by omega);have C6:=n6 (show ga0<gr1 by omega);obtain ⟨x,hx,hxm,hm⟩:=rnx hlt;clear hgn;have hc:=ih' x hxm;have hA':=(jA A (by simpa using n3) (by rw [he];simp)).trans he;have g5:=u5 hfr he (show gen<gr1 by omega);clear ih' he
   repeat' (first
    | (first|refine wp rfl ?_|refine spt rfl ?_|refine spf rfl ?_|(refine spl (fun hc=>?_) fun hc=>?_)<;>(try rw [L1] at hc)<;>try simp only [hc]|(refine P2 (hc _) ?_ ?_ ?_;(focus ((simp only [go_sem, *]<;>(repeat (first|assumption|rfl|refine And.intro ?_ ?_)));done));(focus ((simp only [go_sem, *]<;>first|rfl|assumption);done)))|refine D3 ?_)<;>try simp only [go_sem, *])
   first|exact ⟨by repeat (first|assumption|refine a6.new ?_ (l6 _ _)|refine a6.set ?_),rfl⟩|(repeat (first|assumption|refine a6.new ?_ (l6 _ _)|refine a6.set ?_))
  ·
   intro σ ga1 I1 hgn jS ⟨jA,js2⟩;obtain ⟨jT,jB⟩:=jS;simp only [go_sem] at jT jB;have hgf:=o0 hgn;have l6:=p5 hd jA hgf (fun r i e=>by have:=hfr d (by rw [hd];simp);rw [e] at this;simp at this;omega);have db6:=u5 hfr hd (show gen<ga1 by omega);have db8:=D4 hfr hd (show gen<ga1 by omega);have z6:=o7 (show gen<ga1 by omega);have z8:=n6 (show gen<ga1 by omega);have C0:=o7 (show ga0<ga1 by omega);have C5:=n6 (show ga0<ga1 by omega);clear hgn;clear ih';refine e_ ?_;refine W5 g9 hd (by simp only [go_sem,L6]) (by simp only [go_sem,L6]) (by repeat (first|assumption|refine a6.new ?_ (e9 _ _))) j_ ?_;simp only [go_sem, *]
theorem bD7 (f:Fm) (hf:FmW f) (hl:f.least 536870912=true):c_ env 108 [.agg f.cells] (.bool true):=by
 intro h;refine g_ Tryz.func108 [.tmp 2] fun g0 w0 gen g9 hfr e9 n8=>?_;have nA:(⟨gen,0,0⟩:GoAbs.Id)≠⟨gen,1,0⟩:=by simp
 have hc:=dq6 169 [.ptr ⟨gen,1,0⟩ 0] rfl ⟨gen,0,0⟩ ⟨gen,1,0⟩ (.box f.cells) nA (fun x hx hl b=>bt8 _ _ _ nA x hx hl b) f hf hl 0
 repeat' (first
  |exact hin _|exact agf l_
  | (first|refine wp rfl ?_|(refine P2 (hc) ?_ ?_ ?_;(focus ((simp only [go_sem, *]<;>(repeat (first|assumption|rfl|refine And.intro ?_ ?_)));done));(focus ((simp only [go_sem, *]<;>first|rfl|assumption);done)))|refine Y7 g9 ?_ ?_ ?_)<;>try simp only [go_sem, *])
theorem cl5 (F:Tm->Int->Tm) (kd:Nat) (cap:List V) (aa3:B1 cap=cap) (A B:GoAbs.Id) (oA oB:GoAbs.Obj)
  (hof:∀ x:Tm,TmW x->∀ b:Int,aA8 Tryz.prog env kd (.agg x.cells::.int .i64 b::cap) [(A,oA),(B,oB)] (.agg (F x b).cells)) :
  ∀ f:Fm,FmW f->∀ b:Int,aA8 Tryz.prog env 151 [.agg f.cells,.int .i64 b,.fn (.func kd) [] cap] [(A,oA),(B,oB)] (.agg (f.rv F b).cells):=by
 intro t
 induction t using Fm.ind with|h t ih=>?_
 intro ht b h he;simp only [D9,K0,D1,bo7,an4] at he;obtain ⟨hA,hB⟩:=he;have hlen:=ht.len;have ao0:=ht.au6;have ih':∀ x∈t.args,∀ b:Int,aA8 Tryz.prog env 151 [.agg x.cells,.int .i64 b,.fn (.func kd) [] cap] [(A,oA),(B,oB)] (.agg (x.rv F b).cells):=fun x hx=>ih x hx (ht.arg hx);have ht':∀ x∈t.a7,∀ b:Int,aA8 Tryz.prog env kd (.agg x.cells::.int .i64 b::cap) [(A,oA),(B,oB)] (.agg (F x b).cells):=fun x hx=>hof x (ht.term hx);have hO:=ax0 t.type ht.ty;have hQ:=av6 t.kind;clear ih ht hof;have hw:IntKind.i64.wrap (b+1)=o9 b 1:=rfl;have hv0:=congrArg (fun t:Fm=>V.agg t.cells) (Fm.cE4 F t b).symm
 try simp only at hv0
 have hin:∀ S,InV S (V.agg (t.rv F b).cells):=fun S=>by simp [InV,aC6]
 generalize V.agg (t.rv F b).cells=v at hv0 hin ⊢;unfold evB at hv0;generalize hb1:(if (decide (t.kind>=4)&&decide (t.kind<=7))=true then o9 b 1 else b)=b1 at hv0;refine g_ Tryz.func151 [.cell 6 36] fun g0 w0 gen g9 hfr e9 n8=>?_;have f5:=n9 hfr hA;have f6:=n9 hfr hB;refine e_ ?_;refine k_ [1,2,3,6,7,19] [⟨gen,0,0⟩,⟨gen,0,1⟩] (fun i σ=>∃ v,σ.h ⟨gen,1,6⟩=some (.box [.int .i64 t.kind,.int .i64 t.type.kind,.sl .any (t.type.args.map Ty.cells),v,.sl .full []])/\Q4 h σ.h v 5 (((t.a7.take i).map fun x=>F x b).map Tm.cells)) (t.a7) ?_ ?_ ?_
 ·simp only [go_sem, *]
  exact ⟨f_,_,rfl,.inl rfl⟩
 ·clear ih' hv0 hb1
  intro i x σ gr0 o5 hgf l6 l9 m6 hx hxm hm hlt jI jN jT jA ⟨v,jb,jO0⟩;have hc:=ht' x hxm b;have hts:((t.a7.take (i+1)).map fun x=>F x b).map Tm.cells=((t.a7.take i).map fun x=>F x b).map Tm.cells++[(F x b).cells]:=by rw [p9 hx,U0];rfl
  have hA':=(jA A (by rw [hA];simp)).trans hA;have hB':=(jA B (by rw [hB];simp)).trans hB;have g5:=u5 hfr hA o5;have g6:=u5 hfr hB o5;clear ht' hA hB
  repeat' (first
   |(refine ⟨?_,?_⟩;focus ((repeat' (first|refine ⟨?_,?_⟩|refine .inr ?_));all_goals kernel_rfl))
   |(refine ab5 jO0 t_ rfl r_ s_ j_ (by intro hd e;simp only [af6,ak4,ag3];repeat (first|exact trivial|refine ⟨.inr h_,?_⟩|exact .inr h_)) ?_;intro v' h' id' jO jK jAg jAb jF;obtain ⟨cO,rfl⟩:=jO.val;simp only [go_sem, *])
   | (first|refine wp rfl ?_|refine spt rfl ?_|refine spf rfl ?_|(refine spl (fun hc=>?_) fun hc=>?_)<;>(try rw [L1] at hc)<;>try simp only [hc]|(refine R3 (hc) ?_ ?_;(focus ((simp only [go_sem, *]<;>(repeat (first|assumption|rfl|refine And.intro ?_ ?_)));done)))|refine D3 ?_)<;>try simp only [go_sem, *])
  refine ⟨?_,_,rfl,jO.aU5 (O3.box (O3.refl _) j_)⟩;exact m8.new (jAg f_) (e9 _ _)
 clear ht';intro σ ga0 q9 hgf l6 l8 m5 jT jA ⟨v1,jb,jO1⟩;rw [L2] at jO1;obtain ⟨c1,rfl⟩:=jO1.val;clear jO1;cases hq:(decide (t.kind>=4)&&decide (t.kind<=7)) with
 | true =>
  rw [hq] at hQ hb1;clear hq;simp only [p7,B2,r6] at hb1;refine e_ ?_;refine k_ [1,2,6,7,41] [⟨gen,0,1⟩] (fun i σ=>∃ v,σ.h ⟨gen,1,6⟩=some (.box [.int .i64 t.kind,.int .i64 t.type.kind,.sl .any (t.type.args.map Ty.cells),.sl c1 ((t.a7.map fun x=>F x b).map Tm.cells),v])/\Q4 h σ.h v 5 (((t.args.take i).map fun x=>x.rv F b1).map Fm.cells)) (t.args) ?_ ?_ ?_
  ·simp only [go_sem, *]
   first|exact ⟨_,rfl,.inl rfl⟩|exact ⟨f_,_,rfl,.inl rfl⟩
  ·clear hv0
   intro i x σ gr1 I2 hgf l6 C1 C6 hx hxm hm hlt jI jN jT jA ⟨v,jb',jO0⟩;have z7:=o7 (show gen<gr1 by omega);have z9:=n6 (show gen<gr1 by omega);have hc:=ih' x hxm b1;have hts:((t.args.take (i+1)).map fun x=>x.rv F b1).map Fm.cells=((t.args.take i).map fun x=>x.rv F b1).map Fm.cells++[(x.rv F b1).cells]:=by rw [p9 hx,U0];rfl
   have hA':=(jA A (by rw [hA];simp)).trans hA;have hB':=(jA B (by rw [hB];simp)).trans hB;have g5:=u5 hfr hA (show gen<gr1 by omega);have g6:=u5 hfr hB (show gen<gr1 by omega);clear ih' hA hB
   repeat' (first
    |(refine ⟨?_,?_⟩;focus ((repeat' (first|refine ⟨?_,?_⟩|refine .inr ?_));all_goals kernel_rfl))
    |(refine ab5 jO0 t_ rfl r_ s_ j_ (by intro hd e;simp only [af6,ak4,ag3];repeat (first|exact trivial|refine ⟨.inr h_,?_⟩|exact .inr h_)) ?_;intro v' h' id' jO jK jAg jAb jF;obtain ⟨cO,rfl⟩:=jO.val;simp only [go_sem, *])
    | (first|refine wp rfl ?_|refine spt rfl ?_|refine spf rfl ?_|(refine spl (fun hc=>?_) fun hc=>?_)<;>(try rw [L1] at hc)<;>try simp only [hc]|(refine R3 (hc) ?_ ?_;(focus ((simp only [go_sem, *]<;>(repeat (first|assumption|rfl|refine And.intro ?_ ?_)));done)))|refine D3 ?_)<;>try simp only [go_sem, *])
   refine ⟨?_,_,rfl,jO.aU5 (O3.box (O3.refl _) j_)⟩;exact m8.new (jAg f_) (e9 _ _)
  ·
   intro σ ga1 I1 hgf l6 C0 C5 jT jA ⟨v,jb',jO0⟩;have z6:=o7 (show gen<ga1 by omega);have z8:=n6 (show gen<ga1 by omega);rw [L2] at jO0;obtain ⟨c,rfl⟩:=jO0.val;clear ih';rw [Fm.r7] at hv0;subst hv0;exact i_
 | false =>
  rw [hq] at hQ hb1;clear hq;simp only [p7,B2,r6] at hb1;subst hb1;refine e_ ?_;refine k_ [1,2,6,7,41] [⟨gen,0,1⟩] (fun i σ=>∃ v,σ.h ⟨gen,1,6⟩=some (.box [.int .i64 t.kind,.int .i64 t.type.kind,.sl .any (t.type.args.map Ty.cells),.sl c1 ((t.a7.map fun x=>F x b).map Tm.cells),v])/\Q4 h σ.h v 5 (((t.args.take i).map fun x=>x.rv F b).map Fm.cells)) (t.args) ?_ ?_ ?_
  ·simp only [go_sem, *]
   first|exact ⟨_,rfl,.inl rfl⟩|exact ⟨f_,_,rfl,.inl rfl⟩
  ·clear hv0
   intro i x σ gr1 I2 hgf l6 C1 C6 hx hxm hm hlt jI jN jT jA ⟨v,jb',jO0⟩;have z7:=o7 (show gen<gr1 by omega);have z9:=n6 (show gen<gr1 by omega);have hc:=ih' x hxm b;have hts:((t.args.take (i+1)).map fun x=>x.rv F b).map Fm.cells=((t.args.take i).map fun x=>x.rv F b).map Fm.cells++[(x.rv F b).cells]:=by rw [p9 hx,U0];rfl
   have hA':=(jA A (by rw [hA];simp)).trans hA;have hB':=(jA B (by rw [hB];simp)).trans hB;have g5:=u5 hfr hA (show gen<gr1 by omega);have g6:=u5 hfr hB (show gen<gr1 by omega);clear ih' hA hB
   repeat' (first
    |(refine ⟨?_,?_⟩;focus ((repeat' (first|refine ⟨?_,?_⟩|refine .inr ?_));all_goals kernel_rfl))
    |(refine ab5 jO0 t_ rfl r_ s_ j_ (by intro hd e;simp only [af6,ak4,ag3];repeat (first|exact trivial|refine ⟨.inr h_,?_⟩|exact .inr h_)) ?_;intro v' h' id' jO jK jAg jAb jF;obtain ⟨cO,rfl⟩:=jO.val;simp only [go_sem, *])
    | (first|refine wp rfl ?_|refine spt rfl ?_|refine spf rfl ?_|(refine spl (fun hc=>?_) fun hc=>?_)<;>(try rw [L1] at hc)<;>try simp only [hc]|(refine R3 (hc) ?_ ?_;(focus ((simp only [go_sem, *]<;>(repeat (first|assumption|rfl|refine And.intro ?_ ?_)));done)))|refine D3 ?_)<;>try simp only [go_sem, *])
   refine ⟨?_,_,rfl,jO.aU5 (O3.box (O3.refl _) j_)⟩;exact m8.new (jAg f_) (e9 _ _)
  ·
   intro σ ga1 I1 hgf l6 C0 C5 jT jA ⟨v,jb',jO0⟩;have z6:=o7 (show gen<ga1 by omega);have z8:=n6 (show gen<ga1 by omega);rw [L2] at jO0;obtain ⟨c,rfl⟩:=jO0.val;clear ih';rw [Fm.r7] at hv0;subst hv0;exact i_
theorem cI9 (n:Int):c_ env 106 [.int .i64 n] (.bool (decide (n>=0)&&decide (n<=4096))):=by
 intro h;cases q1:decide (n>=0)<;>cases q2:decide (n<=4096)<;>simp only [J6,J7]
 all_goals
  exact d_ Tryz.func106 [.tmp 2]
theorem cZ3 (a:Int) (s:Tm) (hs:TmW s) (A B:GoAbs.Id) (t:Tm) (ht:TmW t) (b:Int):aA8 Tryz.prog env 174 (.agg t.cells::.int .i64 b::[.ptr A 0,.ptr B 0])
  [(A,.box [.int .i64 a]),(B,.box s.cells)] (.agg (ac0 t (o9 a b) s).cells):=by
 intro h he;simp only [D9,K0,D1,bo7,an4] at he;obtain ⟨hA,hB⟩:=he;have hw:IntKind.i64.wrap (a+b)=o9 a b:=rfl;have hc:=cZ2 t ht (o9 a b) s hs;have hin:∀ S,InV S (V.agg (ac0 t (o9 a b) s).cells):=fun S=>by simp [InV,at6]
 generalize o9 a b=m at *;generalize ac0 t m s=v at *;clear ht hs;refine g_ Tryz.func174 [.cell 6 52] fun g0 w0 gen g9 hfr e9 n8=>?_;have f5:=n9 hfr hA;have f6:=n9 hfr hB;exact i_
theorem bf8 (f:Fm) (hf:FmW f) (a:Int) (s:Tm) (hs:TmW s):c_ env 111 [.agg f.cells,.int .i64 a,.agg s.cells] (.agg (f.rv (fun t b=>ac0 t (o9 a b) s) 0).cells):=by
 intro h;refine g_ Tryz.func111 [.cell 6 36] fun g0 w0 gen g9 hfr e9 n8=>?_;have hc:=cl5 (fun t b=>ac0 t (o9 a b) s) 174 [.ptr ⟨gen,0,1⟩ 0,.ptr ⟨gen,0,2⟩ 0] rfl ⟨gen,0,1⟩ ⟨gen,0,2⟩ _ _ (fun x hx b=>cZ3 a s hs _ _ x hx b) f hf 0;generalize f.rv (fun t b=>ac0 t (o9 a b) s) 0=v at *;clear hs
 repeat' (first
  |exact hin _|exact agf l_
  | (first|refine wp rfl ?_|(refine R3 (hc) ?_ ?_;(focus ((simp only [go_sem, *]<;>(repeat (first|assumption|rfl|refine And.intro ?_ ?_)));done)))|refine Y7 g9 ?_ ?_ ?_)<;>try simp only [go_sem, *])
theorem cH3 (a:Int) (A d:GoAbs.Id) (nA:A≠d) (n:Int) (t:Tm) (ht:TmW t) (b:Int) :
  ad3 Tryz.prog env 172 (.agg t.cells::.int .i64 b::[.ptr d 0,.ptr A 0]) [(A,.box [.int .i64 a])] d (.box [.int .i64 n]) (.tup []) (.box [.int .i64 (o9 n (t.count (o9 a b)))]):=by
 intro h he hd;simp only [D9,K0,D1,an4] at he;have n3:(A=d)=False:=by simpa using nA
 have hc:=bv0 t ht (o9 a b);have hw:IntKind.i64.wrap (a+b)=o9 a b:=rfl;generalize o9 a b=m at *;have hw2:IntKind.i64.wrap (n+t.count m)=o9 n (t.count m):=rfl;generalize t.count m=q at *;clear ht nA;refine g_ Tryz.func172 [] fun g0 w0 gen g9 hfr e9 n8=>?_;have f1:=n9 hfr hd;have f2:=p6 hfr hd;have f5:=n9 hfr he;exact ah3
theorem dq5 (F:Tm->Int->Int) (kd:Nat) (cap:List V) (aa3:B1 cap=cap) (A d:GoAbs.Id) (oA:GoAbs.Obj) (nA:A≠d)
  (hdo:∀ x:Tm,TmW x->∀ b n:Int,ad3 Tryz.prog env kd (.agg x.cells::.int .i64 b::cap) [(A,oA)] d (.box [.int .i64 n]) (.tup []) (.box [.int .i64 (o9 n (F x b))])) :
  ∀ f:Fm,FmW f->∀ b n:Int,ad3 Tryz.prog env 168 [.agg f.cells,.int .i64 b,.fn (.func kd) [] cap] [(A,oA)] d (.box [.int .i64 n]) (.tup []) (.box [.int .i64 (f.sm F b n)]):=by
 intro t
 induction t using Fm.ind with|h t ih=>?_
 intro ht b n h he hd;simp only [D9,K0,D1,an4] at he;have hlen:=ht.len;have ao0:=ht.au6;have ih':∀ x∈t.args,∀ b n:Int,ad3 Tryz.prog env 168 [.agg x.cells,.int .i64 b,.fn (.func kd) [] cap] [(A,oA)] d (.box [.int .i64 n]) (.tup []) (.box [.int .i64 (x.sm F b n)]):=fun x hx=>ih x hx (ht.arg hx);have ht':∀ x∈t.a7,∀ b n:Int,ad3 Tryz.prog env kd (.agg x.cells::.int .i64 b::cap) [(A,oA)] d (.box [.int .i64 n]) (.tup []) (.box [.int .i64 (o9 n (F x b))]):=fun x hx=>hdo x (ht.term hx);have hQ:=av6 t.kind;rw [Fm.cE6];unfold evB;clear ih hdo ht;have n3:(A=d)=False:=by simpa using nA
 clear nA;have hw:IntKind.i64.wrap (b+1)=o9 b 1:=rfl;generalize hb1:(if (decide (t.kind>=4)&&decide (t.kind<=7))=true then o9 b 1 else b)=b1;generalize hm:t.args.foldl (fun n x=>x.sm F b1 n) (t.a7.foldl (fun n t=>o9 n (F t b)) n)=m;refine g_ Tryz.func168 [] fun g0 w0 gen g9 hfr e9 n8=>?_;have f1:=n9 hfr hd;have f2:=p6 hfr hd;have f5:=n9 hfr he;refine e_ ?_;refine v_ [1,2,3,11] [⟨gen,0,0⟩] (fun i σ=>a6 d h σ.h/\σ.h d=some (.box [.int .i64 ((t.a7.take i).foldl (fun n t=>o9 n (F t b)) n)])) (t.a7).length ?_ ?_ ?_
 ·simp only [go_sem, *]
  grind [a6.refl,a6.new]
 ·clear ih' hm
  intro i σ gr0 o5 hgn hlt jI jN jS ⟨jA,js⟩;obtain ⟨jT,jB⟩:=jS;simp only [go_sem] at jT jB;have hgf:=o0 hgn;have l6:=p5 hd jA hgf (fun r i e=>by have:=hfr d (by rw [hd];simp);rw [e] at this;simp at this;omega);have aO3:=u5 hfr hd (show gen<gr0 by omega);have aO5:=D4 hfr hd (show gen<gr0 by omega);have l9:=o7 (show gen<gr0 by omega);have m6:=n6 (show gen<gr0 by omega);obtain ⟨x,hx,hxm,hm⟩:=rnx hlt;clear hgn;have hc:=ht' x hxm b ((t.a7.take i).foldl (fun n t=>o9 n (F t b)) n);have hA':=(jA A (by simpa using n3) (by rw [he];simp)).trans he;have g5:=u5 hfr he o5;have hts:=au2 (g:=fun n t=>o9 n (F t b)) hx n;generalize (t.a7.take i).foldl (fun n t=>o9 n (F t b)) n=w at *;clear ht' he
  repeat' (first
   | (first|refine wp rfl ?_|refine spt rfl ?_|refine spf rfl ?_|(refine spl (fun hc=>?_) fun hc=>?_)<;>(try rw [L1] at hc)<;>try simp only [hc]|(refine P2 (hc) ?_ ?_ ?_;(focus ((simp only [go_sem, *]<;>(repeat (first|assumption|rfl|refine And.intro ?_ ?_)));done));(focus ((simp only [go_sem, *]<;>first|rfl|assumption);done)))|refine D3 ?_)<;>try simp only [go_sem, *])
  repeat (first|assumption|refine a6.new ?_ (l6 _ _)|refine a6.set ?_)
 clear ht';intro σ ga0 q9 hgn jS ⟨jA,js⟩;obtain ⟨jT,jB⟩:=jS;simp only [go_sem] at jT jB;have hgf:=o0 hgn;have l6:=p5 hd jA hgf (fun r i e=>by have:=hfr d (by rw [hd];simp);rw [e] at this;simp at this;omega);have aO2:=u5 hfr hd (show gen<ga0 by omega);have aO4:=D4 hfr hd (show gen<ga0 by omega);have l8:=o7 (show gen<ga0 by omega);have m5:=n6 (show gen<ga0 by omega);clear hgn;rw [L2] at js;generalize t.a7.foldl (fun n t=>o9 n (F t b)) n=w at *;cases hq:(decide (t.kind>=4)&&decide (t.kind<=7)) with
 | true =>
  rw [hq] at hQ hb1;clear hq;simp only [p7] at hb1;refine e_ ?_;refine v_ [1,2,28] [] (fun i σ=>a6 d h σ.h/\σ.h d=some (.box [.int .i64 ((t.args.take i).foldl (fun n x=>x.sm F b1 n) w)])) (t.args).length ?_ ?_ ?_
  ·simp only [go_sem, *]
   first|exact ⟨jA,rfl⟩|exact jA|rfl
  ·clear hm
   intro i σ gr1 I2 hgn hlt jI jN jS ⟨jA,js'⟩;obtain ⟨jT,jB⟩:=jS;simp only [go_sem] at jT jB;have hgf:=o0 hgn;have l6:=p5 hd jA hgf (fun r i e=>by have:=hfr d (by rw [hd];simp);rw [e] at this;simp at this;omega);have db7:=u5 hfr hd (show gen<gr1 by omega);have db9:=D4 hfr hd (show gen<gr1 by omega);have z7:=o7 (show gen<gr1 by omega);have z9:=n6 (show gen<gr1 by omega);have C1:=o7 (show ga0<gr1 by omega);have C6:=n6 (show ga0<gr1 by omega);obtain ⟨x,hx,hxm,hm⟩:=rnx hlt;clear hgn;have hc:=ih' x hxm b1 ((t.args.take i).foldl (fun n x=>x.sm F b1 n) w);have hA':=(jA A (by simpa using n3) (by rw [he];simp)).trans he;have g5:=u5 hfr he (show gen<gr1 by omega);have hts:=au2 (g:=fun n x=>x.sm F b1 n) hx w;generalize (t.args.take i).foldl (fun n x=>x.sm F b1 n) w=w' at *;clear ih' he
   repeat' (first
    | (first|refine wp rfl ?_|refine spt rfl ?_|refine spf rfl ?_|(refine spl (fun hc=>?_) fun hc=>?_)<;>(try rw [L1] at hc)<;>try simp only [hc]|(refine P2 (hc) ?_ ?_ ?_;(focus ((simp only [go_sem, *]<;>(repeat (first|assumption|rfl|refine And.intro ?_ ?_)));done));(focus ((simp only [go_sem, *]<;>first|rfl|assumption);done)))|refine D3 ?_)<;>try simp only [go_sem, *])
   repeat (first|assumption|refine a6.new ?_ (l6 _ _)|refine a6.set ?_)
  ·
   intro σ ga1 I1 hgn jS ⟨jA,js2⟩;obtain ⟨jT,jB⟩:=jS;simp only [go_sem] at jT jB;have hgf:=o0 hgn;have l6:=p5 hd jA hgf (fun r i e=>by have:=hfr d (by rw [hd];simp);rw [e] at this;simp at this;omega);have db6:=u5 hfr hd (show gen<ga1 by omega);have db8:=D4 hfr hd (show gen<ga1 by omega);have z6:=o7 (show gen<ga1 by omega);have z8:=n6 (show gen<ga1 by omega);have C0:=o7 (show ga0<ga1 by omega);have C5:=n6 (show ga0<ga1 by omega);clear hgn;rw [L2,hm] at js2;clear ih' hm;refine e_ ?_;refine W5 g9 hd (by simp only [go_sem,L6]) (by simp only [go_sem,L6]) (by repeat (first|assumption|refine a6.new ?_ (e9 _ _))) j_ ?_;simp only [go_sem, *]
 | false =>
  rw [hq] at hQ hb1;clear hq;simp only [B2,r6] at hb1;subst hb1;refine e_ ?_;refine v_ [1,2,28] [] (fun i σ=>a6 d h σ.h/\σ.h d=some (.box [.int .i64 ((t.args.take i).foldl (fun n x=>x.sm F b n) w)])) (t.args).length ?_ ?_ ?_
  ·simp only [go_sem, *]
   first|exact ⟨jA,rfl⟩|exact jA|rfl
  ·clear hm
   intro i σ gr1 I2 hgn hlt jI jN jS ⟨jA,js'⟩;obtain ⟨jT,jB⟩:=jS;simp only [go_sem] at jT jB;have hgf:=o0 hgn;have l6:=p5 hd jA hgf (fun r i e=>by have:=hfr d (by rw [hd];simp);rw [e] at this;simp at this;omega);have db7:=u5 hfr hd (show gen<gr1 by omega);have db9:=D4 hfr hd (show gen<gr1 by omega);have z7:=o7 (show gen<gr1 by omega);have z9:=n6 (show gen<gr1 by omega);have C1:=o7 (show ga0<gr1 by omega);have C6:=n6 (show ga0<gr1 by omega);obtain ⟨x,hx,hxm,hm⟩:=rnx hlt;clear hgn;have hc:=ih' x hxm b ((t.args.take i).foldl (fun n x=>x.sm F b n) w);have hA':=(jA A (by simpa using n3) (by rw [he];simp)).trans he;have g5:=u5 hfr he (show gen<gr1 by omega);have hts:=au2 (g:=fun n x=>x.sm F b n) hx w;generalize (t.args.take i).foldl (fun n x=>x.sm F b n) w=w' at *;clear ih' he
   repeat' (first
    | (first|refine wp rfl ?_|refine spt rfl ?_|refine spf rfl ?_|(refine spl (fun hc=>?_) fun hc=>?_)<;>(try rw [L1] at hc)<;>try simp only [hc]|(refine P2 (hc) ?_ ?_ ?_;(focus ((simp only [go_sem, *]<;>(repeat (first|assumption|rfl|refine And.intro ?_ ?_)));done));(focus ((simp only [go_sem, *]<;>first|rfl|assumption);done)))|refine D3 ?_)<;>try simp only [go_sem, *])
   repeat (first|assumption|refine a6.new ?_ (l6 _ _)|refine a6.set ?_)
  ·
   intro σ ga1 I1 hgn jS ⟨jA,js2⟩;obtain ⟨jT,jB⟩:=jS;simp only [go_sem] at jT jB;have hgf:=o0 hgn;have l6:=p5 hd jA hgf (fun r i e=>by have:=hfr d (by rw [hd];simp);rw [e] at this;simp at this;omega);have db6:=u5 hfr hd (show gen<ga1 by omega);have db8:=D4 hfr hd (show gen<ga1 by omega);have z6:=o7 (show gen<ga1 by omega);have z8:=n6 (show gen<ga1 by omega);have C0:=o7 (show ga0<ga1 by omega);have C5:=n6 (show ga0<ga1 by omega);clear hgn;rw [L2,hm] at js2;clear ih' hm;refine e_ ?_;refine W5 g9 hd (by simp only [go_sem,L6]) (by simp only [go_sem,L6]) (by repeat (first|assumption|refine a6.new ?_ (e9 _ _))) j_ ?_;simp only [go_sem, *]
theorem bt7 (f:Fm) (hf:FmW f) (a:Int):c_ env 110 [.agg f.cells,.int .i64 a] (.int .i64 (f.sm (fun t b=>t.count (o9 a b)) 0 0)):=by
 intro h;refine g_ Tryz.func110 [.tmp 4] fun g0 w0 gen g9 hfr e9 n8=>?_;have nA:(⟨gen,0,1⟩:GoAbs.Id)≠⟨gen,1,0⟩:=by simp
 have hc:=dq5 (fun t b=>t.count (o9 a b)) 172 [.ptr ⟨gen,1,0⟩ 0,.ptr ⟨gen,0,1⟩ 0] rfl ⟨gen,0,1⟩ ⟨gen,1,0⟩ _ nA (fun x hx b n=>cH3 a _ _ nA n x hx b) f hf 0 0;generalize f.sm (fun t b=>t.count (o9 a b)) 0 0=v at *;clear nA
 repeat' (first
  |exact hin _|exact agf l_
  | (first|refine wp rfl ?_|(refine P2 (hc) ?_ ?_ ?_;(focus ((simp only [go_sem, *]<;>(repeat (first|assumption|rfl|refine And.intro ?_ ?_)));done));(focus ((simp only [go_sem, *]<;>first|rfl|assumption);done)))|refine Y7 g9 ?_ ?_ ?_)<;>try simp only [go_sem, *])
theorem cs3:(G3 0).cells=[.int .i64 4,.int .i64 0,.int .i64 0,.sl .any [],.sl .any []]:=by rfl
theorem cs4 (n:Nat):(G3 (n+1)).cells=[.int .i64 5,.int .i64 0,.int .i64 0,.sl .any [],.sl .any [(G3 n).cells]]:=by rfl
theorem aN8 (n:Nat) (hn:n<=100000):c_ env 166 [.int .i64 n] (.agg (G3 n).cells):=by
 intro h;have e0:=cs3;have eS:=cs4;refine g_ Tryz.func166 [.cell 2 52] fun g0 w0 gen g9 hfr e9 n8=>?_;refine e_ ?_;refine ax7 ⟨gen,1,1⟩ q_ ?_;simp only [go_sem, *];refine E6 (fun i σ=>σ.tm 4=.int .i64 ((n:Int) - i)/\σ.tm 2=.ptr ⟨gen,0,0⟩ 0/\σ.tm 3=.ptr ⟨gen,1,1⟩ 0/\i<=n /\
  σ.h ⟨gen,1,1⟩=some (.box (G3 i).cells)/\σ.h ⟨gen,0,0⟩=some (.box [.int .i64 0,.int .i64 0,.int .i64 0,.sl .full [],.sl .full []])/\m8 h σ.h) n ?_ ?_
 ·rw [e0]
  clear e0 eS;simp only [go_sem, *]
  first|exact ⟨b_,a_,f_⟩|exact ⟨b_,f_⟩
 intro i σ hi ⟨j4,j2,j3,ji,jb,jb0,jA⟩;refine ai4 (fun gn hgl hgn=>?_);have hgf:=o0 hgn;have l6:=fun r i=>F3 jA (hgf r i);clear hgn e0;rcases R0 i n with hlt|hge
 ·have hd:decide ((n:Int) - (i:Int)>0)=true:=by simp;omega
  have hw1:IntKind.i64.wrap ((n:Int) - (i:Int) - 1)=(n:Int) - (i:Int) - 1:=x7 rfl a_ a_;have e5:(n:Int) - ((i+1:Nat):Int)=(n:Int) - (i:Int) - 1:=by omega
  have e6:i+1<=n:=by omega
  rw [eS];clear eS hi ji;generalize G3 i=t at *
  repeat' (first
   | (first|refine wp rfl ?_|refine spt rfl ?_|refine spf rfl ?_|(refine spl (fun hc=>?_) fun hc=>?_)<;>(try rw [L1] at hc)<;>try simp only [hc])<;>try simp only [go_sem, *])
  refine ax7 ⟨gen,1,1⟩ q_ ?_;refine D3 ?_;simp only [go_sem, *];exact f_
 ·have hd:decide ((n:Int) - (i:Int)>0)=false:=by simp;omega
  obtain rfl:i=n:=by omega
  clear eS hge hi;generalize G3 i=t at *;exact i_
theorem bk8 (n:Nat) (hn:n<4096):c_ env 297 [.int .i64 n] (.tup [.agg (G3 n).cells,.int .i64 0]):=by
 intro h;have hc:=aN8 n a_;have d1:decide ((n:Int)<0)=false:=by simp
 have d2:decide ((n:Int)>=4096)=false:=by simp;omega
 clear hn;generalize G3 n=t at *;exact d_ Tryz.func297 [.cell 2 52,.tmp 3]
theorem bD9 (f:Fm) (hf:FmW f) (gf:FmG true f) (zf:s6 f<=4096):c_ env 105 [.agg f.cells] (.tup [.int .i64 (s6 f),.int .i64 0]):=by
 intro h;have hc:=aN4 f hf;rw [gf.ah1 a_,chk,y9 a_] at hc;unfold two at hc;clear gf zf hf;generalize s6 f=n at *;exact d_ Tryz.func105 [.tmp 2,.tmp 3]
theorem bZ4 (t:Tm) (ht:TmW t) (gt:TmG t) (zt:a8 t<=4096):c_ env 107 [.agg t.cells] (.tup [.int .i64 (a8 t),.int .i64 0]):=by
 intro h;have hc:=bk1 t ht;rw [gt.ah1 a_,chk,y9 a_] at hc;unfold two at hc;clear gt zt ht;generalize a8 t=n at *;exact d_ Tryz.func107 [.tmp 2,.tmp 3]
theorem ba0 (f:Fm) (hf:FmW f) (gf:FmG true f) (zf:s6 f<=4096) (lf:f.least 536870912=true) (s:Tm) (hs:TmW s) (gs:TmG s) (zs:a8 s<=4096) (ls:s.least 536870912=true) :
  c_ env 63 [.agg f.cells,.int .i64 0,.agg s.cells] (P6 (ad0 f s)):=by
 intro h;have h1:=bD9 f hf gf zf;have h2:=cI9 0;rw [show (decide ((0:Int)>=0)&&decide ((0:Int)<=4096))=true from rfl] at h2;have h3:=bZ4 s hs gs zs;have h4:=bD7 f hf lf;have h5:=cW3 s hs;rw [cC4 ls] at h5;have h6:=bt7 f hf 0;have so:=dP5 gf a_ lf 0 0 a_ a_ a_;rw [show ((0:Nat):Int)=0 from rfl,aW6] at so;rw [so] at h6;have h7:=bf8 f hf 0 s hs;rw [dP0 gs a_ ls gf a_ lf 0 a_ a_] at h7;have hsp:=N8 s;have ho:=ay7 f 0;have hm:Q1 f 0 * (a8 s - 1)<=4096 * 4096:=bV9 a_ a_;have w1:IntKind.i64.wrap ((a8 s:Int) - 1)=((a8 s - 1:Nat):Int):=x7 a_ a_ a_;have w2:IntKind.i64.wrap ((Q1 f 0:Int) * ((a8 s - 1:Nat):Int))=((Q1 f 0 * (a8 s - 1):Nat):Int):=x7 (by push_cast;rfl) a_ a_;have w3:IntKind.i64.wrap ((s6 f:Int)+((Q1 f 0 * (a8 s - 1):Nat):Int))=((s6 f+Q1 f 0 * (a8 s - 1):Nat):Int):=x7 (by push_cast;rfl) a_ a_;have n0:((0:Int) != 0)=false:=rfl;unfold ad0;by_cases hle:s6 f+Q1 f 0 * (a8 s - 1)<=4096
 ·have hd:decide (((s6 f+Q1 f 0 * (a8 s - 1):Nat):Int)>4096)=false:=by simp only [bV0];omega
  rw [B8 hle];clear hle hm ho hsp zs zf gf gs lf ls hf hs so;generalize s6 f+Q1 f 0 * (a8 s - 1)=a3 at *;generalize Q1 f 0 * (a8 s - 1)=a2 at *;generalize a8 s - 1=a1 at *;generalize I3 s 0 f 0=v at *;exact d_ Tryz.func63 [.cell 6 36,.tmp 7]
 ·have hd:decide (((s6 f+Q1 f 0 * (a8 s - 1):Nat):Int)>4096)=true:=by simp only [aW3];omega
  rw [y9 hle];have zc:A0.cells=[.int .i64 0,.int .i64 0,.sl .any [],.sl .any [],.sl .any []]:=by simp [A0,Fm.r7,Ty.O0,Ty.N9]
  clear hle hm ho hsp zs zf gf gs lf ls hf hs so;generalize s6 f+Q1 f 0 * (a8 s - 1)=a3 at *;generalize Q1 f 0 * (a8 s - 1)=a2 at *;generalize a8 s - 1=a1 at *;generalize I3 s 0 f 0=v at *;exact d_ Tryz.func63 [.cell 6 36,.tmp 7]
theorem bY5 (all:Bool) (q:Tm) (wq:TmW q) (hc:q.count 0=0) (f:Fm) (hf:FmW f) (hb:FmW (ac5 all q f)) (he:Q0 (ac5 all q f)=0) :
  c_ env 176 [.agg (ac5 all q f).cells] (.tup [.bool all,.agg (ac0 q 0 I4).cells,.agg f.cells,.bool true]):=by
 intro h;have h1:=ax1 _ hb;rw [he] at h1;have he':(Q0 (ac5 all q f) != 0)=false:=by rw [he];rfl
 have h2:=cz0 _ hb (Fm.bc8 he') (by cases all<;>simp [ac5,fmQ,Fm.kind]);have e1:ad9 (ac5 all q f)=q:=rfl;have e2:aA9 (ac5 all q f)=f:=rfl;have e3:((ac5 all q f).kind==4)=all:=by cases all<;>rfl
 unfold aX1 at h2;rw [B8 (bY1 hc),e1,e2,e3] at h2;have h3:=cZ2 q wq 0 I4 aC2;rw [aC3] at h3;have h4:=aZ7 f hf;have n0:((0:Int) != 0)=false:=rfl;clear he he' e1 e2 e3 hc hb wq hf;generalize ac5 all q f=z at *;generalize ac0 q 0 I4=t at *;exact d_ Tryz.func176 [.tmp 2,.cell 3 52,.cell 4 36,.tmp 5]
theorem dK1 (n:Int):c_ env 200 [.int .i64 n] (.bool (decide (n<0))):=by
 intro h;exact d_ Tryz.func200 [.tmp 2]
theorem bY8 (l:List Nat) (hlen:l.length<=5000):c_ env 223 [.sl .any (ints (l.map fun (n:Nat)=>(n:Int))),.fn (.func 200) [] []] (.int .i64 (-1)):=by
 intro h;have hln:=bb8 l;have ad5:=fun i x=>ints_at (l:=l) (i:=i) (x:=x);generalize ints (l.map fun (n:Nat)=>(n:Int))=L at *;refine g_ Tryz.func223 [.tmp 4] fun g0 w0 gen g9 hfr e9 n8=>?_
 repeat' (first
  |exact hin _|exact agf l_
  | (first|refine wp rfl ?_|refine spt rfl ?_|refine spf rfl ?_|(refine spl (fun hc=>?_) fun hc=>?_)<;>(try rw [L1] at hc)<;>try simp only [hc]|refine Y7 g9 ?_ ?_ ?_)<;>try simp only [go_sem, *])
 refine k_ [0,1] [] (fun i σ=>True) (l) ?_ ?_ ?_
 ·simp only [go_sem, *]
  exact f_
 ·
  intro i x σ gr0 o5 hgf l6 l9 m6 hx hxm hm hlt jI jN jT jA _;have hg:=ad5 i x hx;have hc:=dK1 (x:Int);rw [show decide ((x:Int)<0)=false by simp] at hc;clear ad5
  repeat' (first
   |exact hin _|exact agf l_
   | (first|refine wp rfl ?_|refine spt rfl ?_|refine spf rfl ?_|(refine spl (fun hc=>?_) fun hc=>?_)<;>(try rw [L1] at hc)<;>try simp only [hc]|refine D3 ?_|refine cp hc ?_|refine Y7 g9 ?_ ?_ ?_)<;>try simp only [go_sem, *])
 ·
  intro σ ga0 q9 hgf l6 l8 m5 jT jA _;clear ad5;exact x_
theorem bY6 (l:List Nat) (hlen:l.length<=5000):c_ env 201 [.sl .any (ints (l.map fun (n:Nat)=>(n:Int))),.fn (.func 200) [] []] (.bool false):=by
 intro h;have h1:=bY8 l hlen;have d1:decide ((-1:Int)>=0)=false:=rfl;exact d_ Tryz.func201 [.tmp 4]
theorem bi6:∀ {l:List Nat} {i n:Nat},l[i]? = some n->(l.take (i+1)).sum=(l.take i).sum+n
 | [],i,n,h=>by simp at h
 | y::l,0,n,h=>by grind
 | y::l,i+1,n,h=>by
  have:=bi6 (l:=l) (i:=i) (n:=n) (by simpa using h)
  grind
variable {a:Ty} {v:PVl}
theorem cY3 (hv:ao9 a v t):a8 t<=4096->E5 a<=1000->c_ env 162 [.agg v.cells] (.tup [.int .i64 (E5 a),.bool true]):=by
 induction hv with
 | num n =>
  intro hz ha h;rw [V4];have d1:decide ((n:Int)>=0)=true:=by simp
  clear hz ha;rw [PVl.r7];have dt:decide True=true:=rfl;have z0:(((0:Nat):Int)==0)=true:=rfl;have z2:(((2:Nat):Int)==2)=true:=rfl;refine g_ Tryz.func162 [.tmp 2,.tmp 3] fun g0 w0 gen g9 hfr e9 n8=>?_;refine e_ ?_;refine k_ [2,3,82] [] (fun i σ=>σ.tm 5=.bool true/\σ.tm 6=.int .i64 1) (([]:List PVl)) ?_ ?_ ?_
  ·simp only [go_sem, *]
   exact f_
  ·
   intro i x σ gr0 o5 hgf l6 l9 m6 hx hxm hm hlt jI jN jT jA ⟨j5,j6⟩;simp at hx
  ·
   intro σ ga0 q9 hgf l6 l8 m5 jT jA ⟨j5,j6⟩;refine e_ ?_
   rfl
 | list l =>
  intro hz ha h;rw [ax4];rw [aE6] at hz;obtain ⟨_,hlen⟩:=ao9.mem hz;have h1:=bY6 l a_;have hwL:A7 (ints (l.map fun (n:Nat)=>(n:Int)))=ints (l.map fun (n:Nat)=>(n:Int)):=aa6 _;clear hz ha;rw [PVl.r7];generalize ints (l.map fun (n:Nat)=>(n:Int))=L at *;have dt:decide True=true:=rfl;have z0:(((0:Nat):Int)==0)=true:=rfl;have z2:(((2:Nat):Int)==2)=true:=rfl;refine g_ Tryz.func162 [.tmp 2,.tmp 3] fun g0 w0 gen g9 hfr e9 n8=>?_;refine e_ ?_;refine k_ [2,3,82] [] (fun i σ=>σ.tm 5=.bool true/\σ.tm 6=.int .i64 1) (([]:List PVl)) ?_ ?_ ?_
  ·simp only [go_sem, *]
   exact f_
  ·
   intro i x σ gr0 o5 hgf l6 l9 m6 hx hxm hm hlt jI jN jT jA ⟨j5,j6⟩;simp at hx
  ·
   intro σ ga0 q9 hgf l6 l8 m5 jT jA ⟨j5,j6⟩;refine e_ ?_
   rfl
 | unit =>
  intro hz ha h;rw [aF5];clear hz ha;rw [PVl.r7];have dt:decide True=true:=rfl;have z0:(((0:Nat):Int)==0)=true:=rfl;have z2:(((2:Nat):Int)==2)=true:=rfl;refine g_ Tryz.func162 [.tmp 2,.tmp 3] fun g0 w0 gen g9 hfr e9 n8=>?_;refine e_ ?_;refine k_ [2,3,82] [] (fun i σ=>σ.tm 5=.bool true/\σ.tm 6=.int .i64 1) (([]:List PVl)) ?_ ?_ ?_
  ·simp only [go_sem, *]
   exact f_
  ·
   intro i x σ gr0 o5 hgf l6 l9 m6 hx hxm hm hlt jI jN jT jA ⟨j5,j6⟩;simp at hx
  ·
   intro σ ga0 q9 hgf l6 l8 m5 jT jA ⟨j5,j6⟩;refine e_ ?_
   rfl
 | @pair a b x y s t _ _ ih1 ih2 =>
  intro hz ha h;rw [ad8] at hz;rw [S4] at ha ⊢;have hc:∀ (i:Nat) (z:PVl),[x,y][i]? = some z->∃ n:Nat,[E5 a,E5 b][i]? = some n/\c_ env 162 [.agg z.cells] (.tup [.int .i64 n,.bool true]):=by
   intro i z hz'
   match i with
   | 0=>simp at hz';subst hz';exact ⟨_,rfl,ih1 a_ a_⟩
   | 1=>simp at hz';subst hz';exact ⟨_,rfl,ih2 a_ a_⟩
   | i+2=>simp at hz'
  have cq4:∀ i,([E5 a,E5 b].take i).sum<=1000:=by
   intro i
   match i with
   | 0=>simp
   | 1=>simp;omega
   | i+2=>simp;omega
  have aD0:1+([E5 a,E5 b].take 2).sum=E5 a+E5 b+1:=by simp;omega
  clear ih1 ih2 hz ha;generalize E5 a+E5 b+1=R at *;generalize [E5 a,E5 b]=ns at *;have h2:[x,y].length=2:=rfl;rw [PVl.r7];generalize [x,y]=xs at *;have dt:decide True=true:=rfl;have z0:(((0:Nat):Int)==0)=true:=rfl;have z2:(((2:Nat):Int)==2)=true:=rfl;refine g_ Tryz.func162 [.tmp 2,.tmp 3] fun g0 w0 gen g9 hfr e9 n8=>?_;refine e_ ?_;refine k_ [2,3,82] [] (fun i σ=>σ.tm 5=.bool true/\σ.tm 6=.int .i64 ((1+(ns.take i).sum:Nat):Int)) (xs) ?_ ?_ ?_
  ·simp only [go_sem, *]
   exact ⟨f_,rfl⟩
  ·
   intro i x σ gr0 o5 hgf l6 l9 m6 hx hxm hm hlt jI jN jT jA ⟨j5,j6⟩;obtain ⟨n,hn,h1⟩:=hc i x hx;have hs:=bi6 hn;have hb:=cq4 (i+1);have hw1:IntKind.i64.wrap (((1+(ns.take i).sum:Nat):Int)+(n:Int))=((1+(ns.take (i+1)).sum:Nat):Int):=x7 a_ a_ a_;clear hc cq4 hb hs hn aD0;generalize 1+(ns.take (i+1)).sum=s2 at *;generalize 1+(ns.take i).sum=s1 at *;refine e_ ?_;exact f_
  ·
   intro σ ga0 q9 hgf l6 l8 m5 jT jA ⟨j5,j6⟩;rw [h2,aD0] at j6;clear hc cq4 aD0;exact i_
theorem cY2 (hv:ao9 a v t) (hz:a8 t<=4096) (ha:TyG a):c_ env 101 [.agg v.cells] (.int .i64 0):=by
 intro h;have h1:=cY3 hv hz (by have:=ha.2;omega);have d1:decide ((E5 a:Int)>64)=false:=by have:=ha.2;simp;omega
 exact d_ Tryz.func101 [.tmp 2]
theorem cz8 (n:Nat) (hn:n<=4096):c_ env 163 [.int .i64 n] (.int .i64 (n+1:Nat)):=by
 intro h;have d1:((4096:Int)<(n:Int))=False:=by simp;omega
 have d3:IntKind.i64.wrap ((n:Int)+1)=((n+1:Nat):Int):=x7 a_ a_ a_;exact d_ Tryz.func163 [.tmp 2]
theorem cJ3 (hv:ao9 a v t):a8 t<=4096->c_ env 102 [.agg v.cells] (.int .i64 (a8 t)):=by
 induction hv with
 | num n =>
  intro hz h;rw [Y2] at hz ⊢;have h1:=cz8 n a_;clear hz;rw [PVl.r7];generalize n+1=n1 at *;refine g_ Tryz.func102 [.tmp 2] fun g0 w0 gen g9 hfr e9 n8=>?_
  repeat' (first
   |exact hin _|exact agf l_
   | (first|refine wp rfl ?_|refine spt rfl ?_|refine spf rfl ?_|(refine spl (fun hc=>?_) fun hc=>?_)<;>(try rw [L1] at hc)<;>try simp only [hc]|refine cp h1 ?_|refine Y7 g9 ?_ ?_ ?_)<;>try simp only [go_sem, *])
  refine k_ [2,34] [] (fun i σ=>σ.tm 3=.int .i64 n1) (([]:List PVl)) ?_ ?_ ?_
  ·simp only [go_sem, *]
   exact f_
  ·
   intro i x σ gr1 I2 hgf l6 z7 z9 hx hxm hm hlt jI jN jT jA j3;simp at hx
  ·
   intro σ ga1 I1 hgf l6 z6 z8 jT jA j3
   repeat' (first
    |exact hin _|exact agf l_
    | (first|refine wp rfl ?_|refine spt rfl ?_|refine spf rfl ?_|(refine spl (fun hc=>?_) fun hc=>?_)<;>(try rw [L1] at hc)<;>try simp only [hc]|refine Y7 g9 ?_ ?_ ?_)<;>try simp only [go_sem, *])
 | list l =>
  intro hz h;rw [aE6] at hz ⊢;obtain ⟨bR8,hlen⟩:=ao9.mem hz;have hln:=bb8 l;have ad5:=fun i x=>ints_at (l:=l) (i:=i) (x:=x);rw [PVl.r7];generalize ints (l.map fun (n:Nat)=>(n:Int))=L at *;refine g_ Tryz.func102 [.tmp 2] fun g0 w0 gen g9 hfr e9 n8=>?_
  repeat' (first
   |exact hin _|exact agf l_
   | (first|refine wp rfl ?_|refine spt rfl ?_|refine spf rfl ?_|(refine spl (fun hc=>?_) fun hc=>?_)<;>(try rw [L1] at hc)<;>try simp only [hc]|refine Y7 g9 ?_ ?_ ?_)<;>try simp only [go_sem, *])
  refine k_ [1,18] [⟨gen,0,0⟩] (fun i σ=>σ.tm 3=.int .i64 (lsz (l.take i):Nat)) (l) ?_ ?_ ?_
  ·simp only [go_sem, *]
   exact ⟨f_,rfl⟩
  ·
   intro i x σ gr0 o5 hgf l6 l9 m6 hx hxm hm hlt jI jN jT jA j3;have hg:=ad5 i x hx;have hxb:=bR8 x hxm;have hs:=ce3 hx;have hle:=bm4 l (i+1);have h1:=cz8 x a_;have d3:IntKind.i64.wrap (1+((x+1:Nat):Int))=((x+2:Nat):Int):=x7 a_ a_ a_;have d4:IntKind.i64.wrap (((lsz (l.take i):Nat):Int)+((x+2:Nat):Int))=((lsz (l.take (i+1)):Nat):Int):=x7 a_ a_ a_;have d5:decide (((lsz (l.take (i+1)):Nat):Int)>4096)=false:=by simp;omega
   clear ad5 hz bR8 hs hle hxb;generalize lsz (l.take (i+1))=s2 at *;generalize lsz (l.take i)=s1 at *;generalize x+1=x1 at *;generalize x+2=x2 at *
   repeat' (first
    |exact hin _|exact agf l_
    | (first|refine wp rfl ?_|refine spt rfl ?_|refine spf rfl ?_|(refine spl (fun hc=>?_) fun hc=>?_)<;>(try rw [L1] at hc)<;>try simp only [hc]|refine D3 ?_|refine cp h1 ?_|refine Y7 g9 ?_ ?_ ?_)<;>try simp only [go_sem, *])
  ·
   intro σ ga0 q9 hgf l6 l8 m5 jT jA j3;rw [L2] at j3;clear ad5 hz bR8
   repeat' (first
    |exact hin _|exact agf l_
    | (first|refine wp rfl ?_|refine spt rfl ?_|refine spf rfl ?_|(refine spl (fun hc=>?_) fun hc=>?_)<;>(try rw [L1] at hc)<;>try simp only [hc]|refine Y7 g9 ?_ ?_ ?_)<;>try simp only [go_sem, *])
   refine k_ [2,34] [] (fun i σ=>σ.tm 3=.int .i64 (lsz l:Nat)) (([]:List PVl)) ?_ ?_ ?_
   ·simp only [go_sem, *]
   ·
    intro i x σ gr1 I2 hgf l6 C1 C6 hx hxm hm hlt jI jN jT jA j3';have z7:=o7 (show gen<gr1 by omega);have z9:=n6 (show gen<gr1 by omega);simp at hx
   ·
    intro σ ga1 I1 hgf l6 C0 C5 jT jA j3';have z6:=o7 (show gen<ga1 by omega);have z8:=n6 (show gen<ga1 by omega);exact x_
 | unit =>
  intro hz h;clear hz;rw [PVl.r7,bi8];refine g_ Tryz.func102 [.tmp 2] fun g0 w0 gen g9 hfr e9 n8=>?_
  repeat' (first
   |exact hin _|exact agf l_
   | (first|refine wp rfl ?_|refine spt rfl ?_|refine spf rfl ?_|(refine spl (fun hc=>?_) fun hc=>?_)<;>(try rw [L1] at hc)<;>try simp only [hc]|refine Y7 g9 ?_ ?_ ?_)<;>try simp only [go_sem, *])
  refine k_ [2,34] [] (fun i σ=>σ.tm 3=.int .i64 1) (([]:List PVl)) ?_ ?_ ?_
  ·simp only [go_sem, *]
   exact f_
  ·
   intro i x σ gr1 I2 hgf l6 z7 z9 hx hxm hm hlt jI jN jT jA j3;simp at hx
  ·
   intro σ ga1 I1 hgf l6 z6 z8 jT jA j3
   repeat' (first
    |exact hin _|exact agf l_
    | (first|refine wp rfl ?_|refine spt rfl ?_|refine spf rfl ?_|(refine spl (fun hc=>?_) fun hc=>?_)<;>(try rw [L1] at hc)<;>try simp only [hc]|refine Y7 g9 ?_ ?_ ?_)<;>try simp only [go_sem, *])
   rfl
 | @pair a b x y s t _ _ ih1 ih2 =>
  intro hz h;rw [ad8] at hz ⊢;have hc:∀ (i:Nat) (z:PVl),[x,y][i]? = some z->∃ n:Nat,[a8 s,a8 t][i]? = some n/\c_ env 102 [.agg z.cells] (.int .i64 n):=by
   intro i z hz'
   match i with
   | 0=>simp at hz';subst hz';exact ⟨_,rfl,ih1 a_⟩
   | 1=>simp at hz';subst hz';exact ⟨_,rfl,ih2 a_⟩
   | i+2=>simp at hz'
  have cq4:∀ i,([a8 s,a8 t].take i).sum<=10000:=by
   intro i
   match i with
   | 0=>simp
   | 1=>simp;omega
   | i+2=>simp;omega
  have aD0:1+([a8 s,a8 t].take 2).sum=a8 s+a8 t+1:=by simp;omega
  clear ih1 ih2 hz;generalize a8 s+a8 t+1=R at *;generalize [a8 s,a8 t]=ns at *;have h2:[x,y].length=2:=rfl;rw [PVl.r7];generalize [x,y]=xs at *;refine g_ Tryz.func102 [.tmp 2] fun g0 w0 gen g9 hfr e9 n8=>?_
  repeat' (first
   |exact hin _|exact agf l_
   | (first|refine wp rfl ?_|refine spt rfl ?_|refine spf rfl ?_|(refine spl (fun hc=>?_) fun hc=>?_)<;>(try rw [L1] at hc)<;>try simp only [hc]|refine Y7 g9 ?_ ?_ ?_)<;>try simp only [go_sem, *])
  refine k_ [2,34] [] (fun i σ=>σ.tm 3=.int .i64 ((1+(ns.take i).sum:Nat):Int)) (xs) ?_ ?_ ?_
  ·simp only [go_sem, *]
   exact ⟨f_,rfl⟩
  ·
   intro i x σ gr1 I2 hgf l6 z7 z9 hx hxm hm hlt jI jN jT jA j3;obtain ⟨n,hn,h1⟩:=hc i x hx;have hs:=bi6 hn;have hb:=cq4 (i+1);have hw1:IntKind.i64.wrap (((1+(ns.take i).sum:Nat):Int)+(n:Int))=((1+(ns.take (i+1)).sum:Nat):Int):=x7 a_ a_ a_;clear hc cq4 hb hs hn aD0;generalize 1+(ns.take (i+1)).sum=s2 at *;generalize 1+(ns.take i).sum=s1 at *
   repeat' (first
    |exact hin _|exact agf l_
    | (first|refine wp rfl ?_|refine spt rfl ?_|refine spf rfl ?_|(refine spl (fun hc=>?_) fun hc=>?_)<;>(try rw [L1] at hc)<;>try simp only [hc]|refine D3 ?_|refine cp h1 ?_|refine Y7 g9 ?_ ?_ ?_)<;>try simp only [go_sem, *])
   exact f_
  ·
   intro σ ga1 I1 hgf l6 z6 z8 jT jA j3;rw [h2,aD0] at j3;clear hc cq4 aD0;exact x_
end Go.Proofs.YtmfhhhhnokhggaaGreatDoor
