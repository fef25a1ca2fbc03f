/-
 Walks: several parts in one text.
-/
import Derived.Test.YtmfhhhhnokhggaaGreatDoorK7
import Derived.Test.YtmfhhhhnokhggaaGreatDoorK9
set_option linter.unusedSimpArgs false
set_option linter.unusedVariables false
set_option maxRecDepth 20000
set_option maxHeartbeats 4000000
namespace Go.Proofs.YtmfhhhhnokhggaaGreatDoor
open Go GoAbs Go.Proofs
theorem bg4 (g:List Ty) (hg:∀ y∈g,TyG y) (hl:g.length<=16) (t:Tm) (ht:TmS t) :
  ∃ (s:Ty) (e:Int),c_ env 187 [.sl .any (g.map Ty.cells),.agg t.cells] (.tup [.agg s.cells,.int .i64 e])/\TyW s/\(e=0->l7 TyG g t s/\TyG s/\a8 t<=4096):=by
 obtain ⟨tg,tz⟩:=ht;have tw:=tg.toW;have gw:∀ y∈g,TyW y:=fun y hy=>(hg y hy).1.W;have h1:=av7 g hg hl;have n0:((0:Int) != 0)=false:=rfl;have key:∃ (s:Ty) (e:Int),c_ env 177 [.sl .any (g.map Ty.cells),.agg t.cells] (.tup [.agg s.cells,.int .i64 e])/\TyW s/\(e=0->l7 TyG g t s/\TyG s/\a8 t<=4096):=by
  by_cases hz:a8 t<=4096
  ·rcases bB0 tg g hg with ⟨s,hT,hs⟩|⟨e,hE⟩
   ·exact ⟨s,0,ap3 g t s hT gw tw (tg.am0 hz) a_,hs.1.W,fun _=>⟨hT,hs,hz⟩⟩
   ·exact ⟨_,e,aN7 g t e hE gw tw (tg.am0 hz) a_,.mk _ _ b_ b_,fun e0=>by have:=hE.ne;rw [e0] at this;cases this⟩
  ·have he:ag1 t=4:=by rw [tg.aS6 a_,y9 hz]
   have h2:=ag6 t tw;rw [he] at h2;have hz0:(Ty.mk 0 []).cells=[.int .i64 0,.sl .any []]:=by rw [Ty.l4];rfl
   have n4:((4:Int) != 0)=true:=rfl;refine ⟨.mk 0 [],4,?_,.mk _ _ b_ b_,fun h=>by cases h⟩;rw [hz0];clear h1 hg hl gw tg tz tw hz he n0;intro h;exact d_ Tryz.func177 [.cell 4 29,.tmp 5]
 obtain ⟨s,e,h2,h3,h4⟩:=key;refine ⟨s,e,?_,h3,h4⟩;clear hg hl gw tg tz tw h3 h4;intro h;exact d_ Tryz.func187 [.cell 4 29,.tmp 5]
theorem ba7 (g:List Ty) (hg:∀ y∈g,TyG y) (hl:g.length<=100) (f:Fm) (hf:FmS f) :
  ∃ e:Int,c_ env 66 [.sl .any (g.map Ty.cells),.agg f.cells] (.int .i64 e)/\(e=0->Jd g f):=by
 obtain ⟨fg,fz,al⟩:=hf;have fw:=fg.toW;have gw:∀ y∈g,TyW y:=fun y hy=>(hg y hy).1.W;have h1:=aa9 f fw;have n0:((0:Int) != 0)=false:=rfl;have n4:((4:Int) != 0)=true:=rfl;by_cases hz:s6 f<=4096
 ·rw [fg.am0 hz] at h1
  rcases dc5 fg g hg with hT|⟨e,hE⟩
  ·have h2:=bQ3 _ f g (w7 _) hT fg hz fw gw a_
   refine ⟨0,?_,fun _=>⟨hT,fg,hz,al⟩⟩;clear hg hl fg fz fw gw hz hT n4;intro h;exact d_ Tryz.func66 [.tmp 4]
  ·have h2:=cZ5 hE fg hz fw gw a_
   have hne:=hE.ne;refine ⟨e,?_,fun e0=>by subst e0;cases hne⟩;clear hg hl fg fz fw gw hz hE n4 hne;intro h;exact d_ Tryz.func66 [.tmp 4]
 ·rw [show Q0 f=4 by rw [fg.aS6 a_,y9 hz]] at h1
  refine ⟨4,?_,fun h=>by cases h⟩;clear hg hl fg fz fw gw hz n0;intro h;exact d_ Tryz.func66 [.tmp 4]
theorem ca9 (g:List Ty) (hg:∀ y∈g,TyG y) (hl:g.length<=16) (f:Fm) (hf:FmS f) :
  ∃ e:Int,c_ env 25 [.sl .any (g.map Ty.cells),.agg f.cells] (.int .i64 e)/\(e=0->Jd g f):=by
 obtain ⟨e,h2,h3⟩:=ba7 g hg a_ f hf;have h1:=av7 g hg hl;have n0:((0:Int) != 0)=false:=rfl;refine ⟨e,?_,h3⟩;clear hg hl hf h3;intro h;exact d_ Tryz.func25 [.tmp 4]
def ckV (g:List Ty) (hs:List Fm):V:=.agg [.sl .any [],.sl .any (g.map Ty.cells),.sl .any (hs.map Fm.cells)]
variable {g:List Ty} {hs:List Fm}
theorem da2 (S:GoAbs.Id->Prop):InV S (ckV g hs):=by simp [ckV,InV,InL,S8,ae0,ai5,aG9]
theorem aN6 (g:List Ty) (hs:List Fm) (hl:g.length<=16) (hh:hs.length<=16) (a b:Nat) (ha:a<=10) (hb:b<=10) :
  c_ env 133 [ckV g hs,.int .i64 a,.int .i64 b] (.int .i64 (if g.length+a<=16/\hs.length+b<=16 then 0 else 3)):=by
 intro h;have w1:IntKind.i64.wrap ((g.length:Int)+a)=((g.length+a:Nat):Int):=x7 a_ a_ a_;have w2:IntKind.i64.wrap ((hs.length:Int)+b)=((hs.length+b:Nat):Int):=x7 a_ a_ a_;unfold ckV;by_cases h1:g.length+a<=16
 ·have d1:decide (((g.length+a:Nat):Int)>16)=false:=by simp;omega
  by_cases h2:hs.length+b<=16
  ·have d2:decide (((hs.length+b:Nat):Int)>16)=false:=by simp;omega
   rw [B8 ⟨h1,h2⟩];clear hl hh ha hb h1 h2;exact d_ Tryz.func133 [.tmp 6]
  ·have d2:decide (((hs.length+b:Nat):Int)>16)=true:=by simp;omega
   rw [y9 (fun h=>h2 h.2)];clear hl hh ha hb h1 h2;exact d_ Tryz.func133 [.tmp 6]
 ·have d1:decide (((g.length+a:Nat):Int)>16)=true:=by simp;omega
  rw [y9 (fun h=>h1 h.1)];clear hl hh ha hb h1;exact d_ Tryz.func133 [.tmp 6]
theorem aZ8 (g:List Ty) (hs:List Fm) (hh:hs.length<=16) (f:Fm) :
  c_ env 134 [ckV g hs,.agg f.cells] (ckV g (hs++[f])):=by
 intro h;have b1:(hs.length+1) * 88<=140737488355328:=by omega
 have b2:hs.length+1<=140737488355328:=by omega
 have hts:(hs++[f]).map Fm.cells=hs.map Fm.cells++[f.cells]:=by simp
 have hin:=da2 (g:=g) (hs:=hs++[f]);have hv0:V.agg [.sl .any [],.sl .any (g.map Ty.cells),.sl .any (hs.map Fm.cells++[f.cells])]=ckV g (hs++[f]):=by rw [ckV,hts]
 have hwk:A7 (hs.map Fm.cells++[f.cells])=hs.map Fm.cells++[f.cells]:=by have:=aF8 (hs++[f]);rwa [hts] at this
 generalize ckV g (hs++[f])=v at hin hv0 ⊢;unfold ckV;have t1:(0:Int)<=(hs.length:Int):=by omega
 have t2:((hs.length:Int)).toNat=hs.length:=aA4 _;have t3:List.take hs.length (hs.map Fm.cells)=hs.map Fm.cells:=ak6 b_;have t4:0<=hs.length:=by omega
 have t5:hs.length<=hs.length:=w7 _;have mn:∀ (f:Operand->V),Option.map f none=none:=fun _=>rfl;clear hh;exact d_ Tryz.func134 [.cell 4 99]
theorem aR9 (g m:List Ty) (hs:List Fm) (hg:g.length<=16) (hm:m.length<=10) (hh:hs.length<=16) (hw:∀ x∈hs,FmW x) :
  c_ env 184 [ckV g hs,.sl .any (m.map Ty.cells)] (ckV (g++m) (hs.map fun x=>x.up (m.length:Int) 0)):=by
 intro h;have b1:(g.length+m.length) * 32<=140737488355328:=by omega
 have b2:g.length+m.length<=140737488355328:=by omega
 have hin:=da2 (g:=g++m) (hs:=hs.map fun x=>x.up (m.length:Int) 0);have hv0:V.agg [.sl .any [],.sl .any (g.map Ty.cells++m.map Ty.cells),.sl .any ((hs.map fun x=>x.up (m.length:Int) 0).map Fm.cells)]=ckV (g++m) (hs.map fun x=>x.up (m.length:Int) 0):=by rw [ckV,U0]
 generalize ckV (g++m) (hs.map fun x=>x.up (m.length:Int) 0)=v at hin hv0 ⊢;unfold ckV;have t1:(0:Int)<=(g.length:Int):=by omega
 have t2:((g.length:Int)).toNat=g.length:=aA4 _;have t3:List.take g.length (g.map Ty.cells)=g.map Ty.cells:=ak6 b_;have t4:0<=g.length:=by omega
 have t5:g.length<=g.length:=w7 _;have mn:∀ (f:Operand->V),Option.map f none=none:=fun _=>rfl;have hlh:hs.length<=100000:=by omega
 clear hg hm hh;refine g_ Tryz.func184 [.cell 4 99] fun g0 w0 gen g9 hfr e9 n8=>?_;refine e_ ?_;have hwg:A7 (g.map Ty.cells++m.map Ty.cells)=g.map Ty.cells++m.map Ty.cells:=by have:=F4 (g++m);rwa [U0] at this
 refine k_ [1,4,5,23] [⟨gen,0,1⟩] (fun i σ=>∃ v,σ.h ⟨gen,1,14⟩=some (.box [.sl .any [],.sl (.own ⟨gen,1,12⟩) (g.map Ty.cells++m.map Ty.cells),v])/\Q4 h σ.h v 5 (((hs.take i).map fun x=>x.up (m.length:Int) 0).map Fm.cells)) (hs) ?_ ?_ ?_
 ·simp only [go_sem, *]
  exact ⟨f_,_,rfl,.inl rfl⟩
 ·clear hv0
  intro i x σ gr0 o5 hgf l6 l9 m6 hx hxm hm hlt jI jN jT jA ⟨v,jb,jO0⟩;have hc:=ap2 (m.length:Int) x (hw x hxm) 0;have hts:((hs.take (i+1)).map fun x=>x.up (m.length:Int) 0).map Fm.cells=((hs.take i).map fun x=>x.up (m.length:Int) 0).map Fm.cells++[(x.up (m.length:Int) 0).cells]:=by rw [p9 hx,U0];rfl
  exact p_
 ·
  intro σ ga0 q9 hgf l6 l8 m5 jT jA ⟨v1,jb,jO1⟩;rw [L2] at jO1;obtain ⟨c1,rfl⟩:=jO1.val;clear jO1;exact i_
def aj3 (n:Nat) (l:List Int):List Int:=(l.filter fun x=>decide (x>=(n:Int))).map fun x=>x - (n:Int)
theorem bK6 {n:Nat} {l:List Int} {i:Nat} {x:Int} (h:l[i]? = some x):aj3 n (l.take (i+1))=if decide (x>=(n:Int))=true then aj3 n (l.take i)++[x - (n:Int)] else aj3 n (l.take i):=by
 rw [bC8,h];unfold aj3;simp only [Option.toList_some,List.filter_append,U0];split
 ·rename_i h1;simp [List.filter,h1]
 ·rename_i h1;simp [List.filter,h1]
theorem aS4 (n:Nat) (l:List Int) (hn:n<=10) (hl:l.length<=100000) (hr:∀ x∈l,0<=x/\x<=1000000):c_ env 185 [.sl .any (ints l),.int .i64 n] (.sl .any (ints (aj3 n l))):=by
 intro h;have hv0:aj3 n l=aj3 n l:=rfl;generalize hvv:aj3 n l=v at hv0 ⊢;clear hv0;refine g_ Tryz.func185 [.tmp 4] fun g0 w0 gen g9 hfr e9 n8=>?_
 repeat' (first
  | (first|refine wp rfl ?_|refine spt rfl ?_|refine spf rfl ?_|(refine spl (fun hc=>?_) fun hc=>?_)<;>(try rw [L1] at hc)<;>try simp only [hc])<;>try simp only [go_sem, *])
 refine k_ [1,4,8] [] (fun i σ=>Q4 h σ.h (σ.tm 5) 1 (ints (aj3 n (l.take i)))) (l) ?_ ?_ ?_
 ·simp only [go_sem, *]
  exact ⟨f_,.inl (by simp [aj3,ints])⟩
 ·clear hvv
  intro i x σ gr0 o5 hgf l6 l9 m6 hx hxm hm hlt jI jN jT jA jO0;have hx1:(ints l)[i]? = some [.int .i64 x]:=by simp [ints,hx]
  have hxr:=hr x hxm;have hlen:(aj3 n (l.take i)).length<=100000:=by
   unfold aj3;rw [ao2];exact S1 (List.length_filter_le _ _) (by rw [ae6];omega)
  have hil:(ints (aj3 n (l.take i))).length=(aj3 n (l.take i)).length:=by simp [ints]
  cases hd:decide (x>=(n:Int)) with
  | true =>
   have hts:ints (aj3 n (l.take (i+1)))=ints (aj3 n (l.take i))++[[.int .i64 (x - (n:Int))]]:=by rw [bK6 hx,hd];simp [ints]
   have hw1:IntKind.i64.wrap (x - (n:Int))=x - (n:Int):=x7 a_ a_ a_
   repeat' (first
    |(refine X6 jO0 t_ rfl r_ s_ j_ (by intro hd;cases hd) ?_;intro v' h' log' jO jK jAg jAb jF;simp only [go_sem, *])
    | (first|refine wp rfl ?_|refine spt rfl ?_|refine spf rfl ?_|(refine spl (fun hc=>?_) fun hc=>?_)<;>(try rw [L1] at hc)<;>try simp only [hc]|refine D3 ?_)<;>try simp only [go_sem, *])
  | false =>
   have hts:ints (aj3 n (l.take (i+1)))=ints (aj3 n (l.take i)):=by rw [bK6 hx,hd];simp
   repeat' (first
    | (first|refine wp rfl ?_|refine spt rfl ?_|refine spf rfl ?_|(refine spl (fun hc=>?_) fun hc=>?_)<;>(try rw [L1] at hc)<;>try simp only [hc]|refine D3 ?_)<;>try simp only [go_sem, *])
 ·
  intro σ ga0 q9 hgf l6 l8 m5 jT jA jO1;rw [L2,hvv] at jO1;obtain ⟨c1,jt5⟩:=jO1.val;clear jO1 hvv;exact x_
def cM2 (l:List Int):Bool:=match l with|x::_=>x==0 | []=>false
theorem cX5 (l:List Int):c_ env 186 [.sl .any (ints l)] (.bool (cM2 l)):=by
 intro h;cases l with
 | nil =>
  have e:ints []=[]:=rfl;have d0:decide (((0:Nat):Int)>0)=false:=rfl;rw [e];unfold cM2;exact d_ Tryz.func186 [.tmp 2]
 | cons x l =>
  have e:(ints (x::l))[0]? = some [.int .i64 x]:=rfl;have e2:(ints (x::l)).length=l.length+1:=by simp [ints]
  have d1:decide (((l.length+1:Nat):Int)>0)=true:=by simp<;>omega
  have d2:0<l.length+1:=by omega
  unfold cM2;simp only;generalize ints (x::l)=L at *;cases hx:(x==0)
  all_goals
   exact d_ Tryz.func186 [.tmp 2]
theorem aS0 (f:Fm) (hf:FmW f) (s:Tm) (hs:TmW s):c_ env 189 [.agg f.cells,.agg s.cells] (P6 (D8 f 0 s)):=by
 have h1:=dr2 f hf 0 s hs;intro h;unfold P6 at h1 ⊢;generalize D8 f 0 s=p at *;clear hf hs;obtain ⟨x,e⟩:=p;exact d_ Tryz.func189 [.cell 4 36,.tmp 5]
theorem aX6 (g:List Ty) (hs:List Fm) (hg:∀ y∈g,TyG y) (hl:g.length<=16) (t:Tm) (ht:TmS t) (k:Int) (hk:k=1\/k=2) :
  ∃ e:Int,c_ env 142 [ckV g hs,.agg t.cells,.int .i64 k] (.int .i64 e)/\(e=0->l7 TyG g t (if k=1 then c8 else r5)/\a8 t<=4096):=by
 obtain ⟨s,e,h1,h2,h3⟩:=bg4 g hg hl t ht;have n0:((0:Int) != 0)=false:=rfl;by_cases he:e=0
 ·subst he
  obtain ⟨q1,q2,q3⟩:=h3 rfl;cases hk2:(s.kind != k) with
  | true =>
   refine ⟨7,?_,fun h=>by cases h⟩;clear hk ht hg hl q1 q2 q3 h2 h3;intro h;unfold ckV;exact d_ Tryz.func142 [.tmp 6]
  | false =>
   refine ⟨0,?_,fun _=>⟨?_,q3⟩⟩
   ·clear hk ht hg hl q1 q2 q3 h2 h3
    intro h;unfold ckV;exact d_ Tryz.func142 [.tmp 6]
   ·have hk3:s.kind=k:=by simpa using hk2
    have:s=if k=1 then c8 else r5:=by
     obtain ⟨q2,_⟩:=q2;rcases hk with rfl|rfl
     ·cases q2<;>simp [c8,r5,O7,B6,x9,Ty.kind] at hk3 ⊢
     ·cases q2<;>simp [c8,r5,O7,B6,x9,Ty.kind] at hk3 ⊢
    rw [<- this];exact q1
 ·have hne:(e != 0)=true:=by simpa using he
  refine ⟨e,?_,fun h=>absurd h he⟩;clear hk ht hg hl he h2 h3;intro h;unfold ckV;exact d_ Tryz.func142 [.tmp 6]
def Inf (g:List Ty) (hs:List Fm) (p:Pf):Prop:=∃ (f:Fm) (u:List Int) (e:Int),c_ env 51 [ckV g hs,.agg p.cells] (.tup [.agg (pvC f u),.int .i64 e])/\aa8 g u /\
 ((e≠0/\f=A0/\u=[])\/(e=0/\Sq g hs f))
def Rul (g:List Ty) (hs:List Fm) (p:Pf):Prop:=∃ (f:Fm) (u:List Int) (e:Int),c_ env 87 [ckV g hs,.agg p.cells] (.tup [.agg f.cells,.sl .any (ints u),.int .i64 e])/\FmW f/\aa8 g u /\
 (e=0->FmS f/\(s6 f<=4096->Sq g hs f))
theorem bz7:pvC A0 []=[.int .i64 0,.int .i64 0,.sl .any [],.sl .any [],.sl .any [],.sl .any []]:=rfl
theorem M0 {p:Pf} (h:Rul g hs p):Inf g hs p:=by
 obtain ⟨f,u,e,h1,fw,uk,h4⟩:=h;have hz:=bz7;have n0:((0:Int) != 0)=false:=rfl;have n4:((4:Int) != 0)=true:=rfl;by_cases he:e=0
 ·subst he
  obtain ⟨⟨fg,fz⟩,hs'⟩:=h4 rfl;have h2:=aa9 f fw;by_cases hsz:s6 f<=4096
  ·rw [fg.am0 hsz] at h2
   have h3:=bP9 f fw;rw [Fm.has,fg.am0 hsz] at h3;simp only [bV5,B2,r6,al3] at h3;have e1:((1:Int)==1)=true:=rfl;rw [e1,B8 rfl] at h3;cases hc:f.fl.c with
   | true =>
    rw [hc] at h3;refine ⟨f,u,0,?_,uk,.inr ⟨rfl,hs' hsz⟩⟩;have hv0:([.int .i64 f.kind,.int .i64 f.type.kind,.sl .any (f.type.args.map Ty.cells),.sl .any (f.a7.map Tm.cells),.sl .any (f.args.map Fm.cells),.sl .any (ints u)]:List V)=pvC f u:=rfl;clear fg fz hs' fw uk h4 hsz hc e1 hz n4;intro h;unfold ckV at h1 ⊢;exact d_ Tryz.func51 [.cell 4 38,.tmp 5]
   | false =>
    rw [hc] at h3;refine ⟨f,[],0,?_,.nil,.inr ⟨rfl,hs' hsz⟩⟩;have hv0:([.int .i64 f.kind,.int .i64 f.type.kind,.sl .any (f.type.args.map Ty.cells),.sl .any (f.a7.map Tm.cells),.sl .any (f.args.map Fm.cells),.sl .any []]:List V)=pvC f []:=rfl;clear fg fz hs' fw uk h4 hsz hc e1 hz n4;intro h;unfold ckV at h1 ⊢;exact d_ Tryz.func51 [.cell 4 38,.tmp 5]
  ·rw [show Q0 f=4 by rw [fg.aS6 a_,y9 hsz]] at h2
   refine ⟨A0,[],4,?_,.nil,.inl ⟨by decide,rfl,rfl⟩⟩;rw [hz];clear fg fz hs' fw uk h4 hsz hz;intro h;unfold ckV at h1 ⊢;exact d_ Tryz.func51 [.cell 4 38,.tmp 5]
 ·have hne:(e != 0)=true:=by simpa using he
  refine ⟨A0,[],e,?_,.nil,.inl ⟨he,rfl,rfl⟩⟩;rw [hz];clear h4 fw uk hz he n0 n4;intro h;unfold ckV at h1 ⊢;exact d_ Tryz.func51 [.cell 4 38,.tmp 5]
theorem aE9 (k:Int) (l:List Pf):(pfK k l).cells=[.int .i64 k,.int .i64 0,.int .i64 0,.sl .any [],.sl .any [],.sl .any [],.sl .any (l.map Pf.cells)]:=by rw [pfK,Pf.r7];rfl
theorem U8:FmW A0:=.mk _ _ _ _ (.mk _ _ b_ b_) b_ b_ b_ b_
variable {f:Fm} {u:List Int}
theorem dF5 {e:Int} (h:(e≠0/\f=A0/\u=[])\/(e=0/\Sq g hs f)):FmW f:=by
 rcases h with ⟨_,rfl,_⟩|⟨_,h⟩
 ·exact U8
 ·exact h.jd.fg.toW
theorem al7 {v:List Int} (hg:g.length<=16) (hu:aa8 g u) (hv:aa8 g v):c_ env 132 [.sl .any (ints u),.sl .any (ints v)] (.sl .any (ints (V9 u v))) :=
 ds6 u v (by have:=hu.len;omega) (by have:=hv.len;omega) (hu.rng a_) (hv.rng a_)
variable {a b:Pf}
theorem di5 (c:ak7 g hs) (ha:Inf g hs a) (hb:Inf g hs b):Rul g hs (pfK 3 [a,b]):=by
 obtain ⟨fa,ua,ea,h1,ka,oa⟩:=ha;obtain ⟨fb,ub,eb,h2,kb,ob⟩:=hb;have hz:=S5;have hp:=aE9 3 [a,b];simp only [E0,B7] at hp;have wb:=dF5 ob;rcases oa with ⟨he,rfl,rfl⟩|⟨rfl,sa⟩
 ·have hne:(ea != 0)=true:=by simpa using he
  refine ⟨A0,[],ea,?_,U8,.nil,fun h=>absurd h he⟩;rw [hz,hp];have hi:ints []=[]:=rfl;rw [hi];clear he ob ka kb wb hp hz h2 c;intro h;unfold ckV at h1 ⊢;exact o_ Tryz.func87 [.cell 4 36,.tmp 5,.tmp 6]
 ·refine ⟨o8 2 fa fb,V9 ua ub,eb,?_,.mk _ _ _ _ aQ2 b_ b_ b_ (by simp [sa.jd.fg.toW,wb]),ka.union kb,fun h=>?_⟩
  ·have h3:=aZ9 2 fa fb sa.jd.fg.toW wb
   have h4:=al7 c.gl ka kb;have n0:((0:Int) != 0)=false:=rfl;rw [hp];clear ob ka kb wb hp hz c sa;intro h;unfold ckV at h1 h2 ⊢;exact o_ Tryz.func87 [.cell 4 36,.tmp 5,.tmp 6]
  ·subst h
   rcases ob with ⟨he,_⟩|⟨_,sb⟩
   ·exact absurd rfl he
   ·have z1:=sa.jd.sz
    have z2:=sb.jd.sz;exact ⟨⟨.two (.inl rfl) sa.jd.fg sb.jd.fg,by rw [y8];omega,.two (.inl rfl) sa.jd.al sb.jd.al⟩,fun hz=>by rw [y8] at hz;exact sa.ed4 sb a_⟩
variable {k:Int}
theorem cg8 (hk:k=4\/k=5) (c:ak7 g hs) (ha:Inf g hs a):Rul g hs (pfK k [a]):=by
 obtain ⟨fa,ua,ea,h1,ka,oa⟩:=ha;have hz:=S5;have hp:=aE9 k [a];simp only [E0,B7] at hp;have hi:ints []=[]:=rfl;have n0:((0:Int) != 0)=false:=rfl;rcases oa with ⟨he,rfl,rfl⟩|⟨rfl,sa⟩
 ·have hne:(ea != 0)=true:=by simpa using he
  refine ⟨A0,[],ea,?_,U8,.nil,fun h=>absurd h he⟩;rw [hz,hp,hi];clear he ka hp hz c hi n0;rcases hk with rfl|rfl
  all_goals
   intro h;unfold ckV at h1 ⊢;exact o_ Tryz.func87 [.cell 4 36,.tmp 5,.tmp 6]
 ·cases hf:(fa.kind != 2) with
  | true =>
   refine ⟨A0,[],10,?_,U8,.nil,fun h=>by cases h⟩;rw [hz,hp,hi];clear ka hp hz c sa hi;rcases hk with rfl|rfl
   all_goals
    intro h;unfold ckV at h1 ⊢;exact o_ Tryz.func87 [.cell 4 36,.tmp 5,.tmp 6]
  | false =>
   obtain ⟨x,y,rfl⟩:=sa.jd.k2 (.inl rfl) (by simpa using hf);obtain ⟨sx,sy⟩:=sa.ed3;have e1:(o8 2 x y).args.map Fm.cells=[x.cells,y.cells]:=rfl;have w0:IntKind.i64.wrap (4 - 4)=0:=rfl;have w1:IntKind.i64.wrap (5 - 4)=1:=rfl;have t0:((0:Int)).toNat=0:=rfl;have t1:((1:Int)).toNat=1:=rfl;rcases hk with rfl|rfl
   ·refine ⟨x,ua,0,?_,sx.jd.fg.toW,ka,fun _=>⟨sx.S,fun _=>sx⟩⟩
    rw [hp];clear ka hp hz c sa sx sy hi;intro h;unfold ckV at h1 ⊢;exact o_ Tryz.func87 [.cell 4 36,.tmp 5,.tmp 6]
   ·refine ⟨y,ua,0,?_,sy.jd.fg.toW,ka,fun _=>⟨sy.S,fun _=>sy⟩⟩
    rw [hp];clear ka hp hz c sa sx sy hi;intro h;unfold ckV at h1 ⊢;exact o_ Tryz.func87 [.cell 4 36,.tmp 5,.tmp 6]
theorem cf5 (f:Fm) (p:Pf):(at2 f p).cells=[.int .i64 6,.int .i64 0,.int .i64 0,.sl .any [],.sl .any [],.sl .any [f.cells],.sl .any [p.cells]]:=by rw [at2,Pf.r7];rfl
theorem bT3 (t:Tm):(E9 t).cells=[.int .i64 18,.int .i64 0,.int .i64 0,.sl .any [],.sl .any [t.cells],.sl .any [],.sl .any []]:=by rw [E9,Pf.r7];rfl
theorem cf4 (i:Int):(ae3 i).cells=[.int .i64 1,.int .i64 i,.int .i64 0,.sl .any [],.sl .any [],.sl .any [],.sl .any []]:=by rw [ae3,Pf.r7];rfl
theorem di7 (c:ak7 g hs) (hf:FmS f) (ha:hs.length+1<=16->Jd g f->Inf g (hs++[f]) a):Rul g hs (at2 f a):=by
 obtain ⟨e0,h0,j0⟩:=ca9 g c.gg c.gl f hf;have hz:=S5;have hp:=cf5 f a;have hi:ints []=[]:=rfl;have n0:((0:Int) != 0)=false:=rfl;have n3:((3:Int) != 0)=true:=rfl;by_cases he0:e0=0
 ·subst he0
  have jf:=j0 rfl;have h2:=aN6 g hs c.gl c.hl 0 1 a_ a_;by_cases hl:hs.length+1<=16
  ·rw [B8 ⟨c.gl,hl⟩] at h2
   obtain ⟨fa,ua,ea,h1,ka,oa⟩:=ha hl jf;have wa:=dF5 oa;have h3:=aZ8 g hs c.hl f;have h4:=aZ9 3 f fa hf.g.toW wa;refine ⟨o8 3 f fa,ua,ea,?_,.mk _ _ _ _ aQ2 b_ b_ b_ (by simp [hf.g.toW,wa]),ka,fun h=>?_⟩
   ·rw [hp]
    clear ha oa wa ka hl jf j0 hf c hz hp hi n3;intro h;unfold ckV at h1 h2 h3 ⊢;exact o_ Tryz.func87 [.cell 4 36,.tmp 5,.tmp 6]
   ·subst h
    rcases oa with ⟨he,_⟩|⟨_,sa⟩
    ·exact absurd rfl he
    ·have z1:=jf.sz
     have z2:=sa.jd.sz;exact ⟨⟨.two (.inr rfl) jf.fg sa.jd.fg,by rw [y8];omega,.two (.inr rfl) jf.al sa.jd.al⟩,fun hz=>by rw [y8] at hz;exact sa.eh3 jf a_⟩
  ·rw [y9 (fun h=>hl h.2)] at h2
   refine ⟨A0,[],3,?_,U8,.nil,fun h=>by cases h⟩;rw [hz,hp,hi];clear ha hl jf j0 hf c hz hp hi;intro h;unfold ckV at h2 ⊢;exact o_ Tryz.func87 [.cell 4 36,.tmp 5,.tmp 6]
 ·have hne:(e0 != 0)=true:=by simpa using he0
  refine ⟨A0,[],e0,?_,U8,.nil,fun h=>absurd h he0⟩;rw [hz,hp,hi];clear ha j0 hf c hz hp hi he0 n0 n3;intro h;unfold ckV;exact o_ Tryz.func87 [.cell 4 36,.tmp 5,.tmp 6]
theorem di6 (c:ak7 g hs) (ha:Inf g hs a) (hb:Inf g hs b):Rul g hs (pfK 7 [a,b]):=by
 obtain ⟨fa,ua,ea,h1,ka,oa⟩:=ha;obtain ⟨fb,ub,eb,h2,kb,ob⟩:=hb;have hz:=S5;have hp:=aE9 7 [a,b];simp only [E0,B7] at hp;have hi:ints []=[]:=rfl;have n0:((0:Int) != 0)=false:=rfl;rcases oa with ⟨he,rfl,rfl⟩|⟨rfl,sa⟩
 ·have hne:(ea != 0)=true:=by simpa using he
  refine ⟨A0,[],ea,?_,U8,.nil,fun h=>absurd h he⟩;rw [hz,hp,hi];clear he ob ka kb hp hz h2 c hi n0;intro h;unfold ckV at h1 ⊢;exact o_ Tryz.func87 [.cell 4 36,.tmp 5,.tmp 6]
 ·cases hf:(fa.kind != 3) with
  | true =>
   refine ⟨A0,[],10,?_,U8,.nil,fun h=>by cases h⟩;rw [hz,hp,hi];clear ob ka kb hp hz h2 c hi sa;intro h;unfold ckV at h1 ⊢;exact o_ Tryz.func87 [.cell 4 36,.tmp 5,.tmp 6]
  | false =>
   obtain ⟨x,y,rfl⟩:=sa.jd.k2 (.inr rfl) (by simpa using hf);have e1:(o8 3 x y).args.map Fm.cells=[x.cells,y.cells]:=rfl;rcases ob with ⟨he,rfl,rfl⟩|⟨rfl,sb⟩
   ·have hne:(eb != 0)=true:=by simpa using he
    refine ⟨A0,[],eb,?_,U8,.nil,fun h=>absurd h he⟩;rw [hz,hp,hi];clear he ka kb hp hz c hi sa;intro h;unfold ckV at h1 h2 ⊢;exact o_ Tryz.func87 [.cell 4 36,.tmp 5,.tmp 6]
   ·have hy:=sa.jd.by9
    have h3:=bu7 hy.1 sb.jd (by have:=c.gl;omega);have h4:=al7 c.gl ka kb;refine ⟨y,V9 ua ub,O5 x fb,?_,hy.2.fg.toW,ka.union kb,fun h=>⟨⟨hy.2.fg,by have:=hy.2.sz;omega,hy.2.al⟩,fun _=>sa.eh2 c.cx sb h⟩⟩;rw [hp];clear ka kb hp hz c hi sa sb hy;intro h;unfold ckV at h1 h2 ⊢;exact o_ Tryz.func87 [.cell 4 36,.tmp 5,.tmp 6]
variable {t:Tm}
theorem di8 (c:ak7 g hs) (ht:TmS t):Rul g hs (E9 t):=by
 obtain ⟨e,h1,h3⟩:=aX6 g hs c.gg c.gl t ht 1 (.inl rfl);have h2:=bD6 t t ht.g.toW ht.g.toW;have hp:=bT3 t;have hi:ints []=[]:=rfl;refine ⟨u6 t t,[],e,?_,.mk _ _ _ _ aQ2 b_ (by simp [ht.g.toW]) b_ b_,.nil,fun h=>?_⟩
 ·rw [hp,hi]
  clear h3 ht c hp hi;intro h;unfold ckV at h1 ⊢;exact o_ Tryz.func87 [.cell 4 36,.tmp 5,.tmp 6]
 ·obtain ⟨q1,q2⟩:=h3 h
  have q1:l7 TyG g t c8:=q1;exact ⟨⟨.eq ht.g ht.g,by rw [D7];omega,.eq⟩,fun hz=>by rw [D7] at hz;exact Sq.refl q1 ht.g a_⟩
theorem dy6 {i:Nat} (c:ak7 g hs):Rul g hs (ae3 i):=by
 have hz:=S5;have hp:=cf4 i;have hi:ints []=[]:=rfl;have hl:=c.hl;by_cases h1:i<hs.length
 ·have hx:hs[hs.length - 1 - i]? = some (hs[hs.length - 1 - i]'a_):=W4 a_
  generalize hs[hs.length - 1 - i]'a_=x at hx;have sx:=Sq.hyp c.cx (Q7 hx);have d1:decide ((i:Int)>=(hs.length:Int))=false:=by simp;omega
  have w1:IntKind.i64.wrap ((hs.length:Int) - 1)=((hs.length - 1:Nat):Int):=x7 a_ a_ a_;have w2:IntKind.i64.wrap (((hs.length - 1:Nat):Int) - (i:Int))=((hs.length - 1 - i:Nat):Int):=x7 a_ a_ a_;have t2:(((hs.length - 1 - i:Nat):Int)).toNat=hs.length - 1 - i:=aA4 _;have hx1:(hs.map Fm.cells)[hs.length - 1 - i]? = some x.cells:=by rw [ah6,hx];rfl
  refine ⟨x,[],0,?_,sx.jd.fg.toW,.nil,fun _=>⟨sx.S,fun _=>sx⟩⟩;rw [hp,hi];clear sx c hp hi hz h1;intro h;unfold ckV;exact o_ Tryz.func87 [.cell 4 36,.tmp 5,.tmp 6]
 ·have d1:decide ((i:Int)>=(hs.length:Int))=true:=by simp;omega
  refine ⟨A0,[],8,?_,U8,.nil,fun h=>by cases h⟩;rw [hz,hp,hi];clear c hp hi hz h1 hl;intro h;unfold ckV;exact o_ Tryz.func87 [.cell 4 36,.tmp 5,.tmp 6]
def aU2 (F:FuncId) (g:List Ty) (hs:List Fm) (p:Pf):Prop:=∃ (f:Fm) (u:List Int) (e:Int),c_ env F [ckV g hs,.agg p.cells] (.tup [.agg f.cells,.sl .any (ints u),.int .i64 e])/\FmW f/\aa8 g u /\
 (e=0->FmS f/\(s6 f<=4096->Sq g hs f))
theorem aa8.out {m:List Ty} (h:aa8 (g++m) u):aa8 g (aj3 m.length u):=h.sub
variable {s:Ty}
theorem aS7 (c:ak7 g hs) (ha:Inf g hs a) (j:Jd (g++[s]) f) (ht:l7 TyG g t s) (gt:TmS t) (zt:a8 t<=4096) :
  ∃ (u:List Int) (e:Int),c_ env 190 [ckV g hs,.agg a.cells,.agg f.cells,.agg t.cells] (.tup [.sl .any (ints u),.int .i64 e])/\aa8 g u /\
   (e=0->∃ x,Sq g hs x/\(D8 f 0 t).2=0/\O5 (D8 f 0 t).1 x=0):=by
 obtain ⟨fa,ua,ea,h1,ka,oa⟩:=ha;have hi:ints []=[]:=rfl;have n0:((0:Int) != 0)=false:=rfl;have hgl:=c.gl;rcases oa with ⟨he,rfl,rfl⟩|⟨rfl,sa⟩
 ·have hne:(ea != 0)=true:=by simpa using he
  refine ⟨[],ea,?_,.nil,fun h=>absurd h he⟩;rw [hi];clear he ka c hi j ht gt zt hgl n0;intro h;unfold ckV at h1 ⊢;exact d_ Tryz.func190 [.tmp 8,.tmp 9]
 ·have h2:=aS0 f j.fg.toW t gt.g.toW
  by_cases hp:(D8 f 0 t).2=0
  ·obtain ⟨q1,q2⟩:=j.put a_ ht gt.g zt hp
   rw [<- q1] at q2;have h3:=bu7 q2 sa.jd a_;refine ⟨ua,O5 (D8 f 0 t).1 fa,?_,ka,fun h=>⟨fa,sa,hp,h⟩⟩;unfold P6 at h2;rw [hp] at h2;generalize (D8 f 0 t).1=y at *;clear ka c hi j ht gt zt hgl hp q1 q2 sa;intro h;unfold ckV at h1 ⊢;exact d_ Tryz.func190 [.tmp 8,.tmp 9]
  ·have hne:((D8 f 0 t).2 != 0)=true:=by simpa using hp
   refine ⟨[],(D8 f 0 t).2,?_,.nil,fun h=>absurd h hp⟩;rw [hi];unfold P6 at h2;generalize (D8 f 0 t).1=y at *;generalize (D8 f 0 t).2=e at *;clear ka c hi j ht gt zt hgl hp sa;intro h;unfold ckV at h1 ⊢;exact d_ Tryz.func190 [.tmp 8,.tmp 9]
theorem di3 (hk:k=8\/k=12) (c:ak7 g hs) (hC:N0 1 s) (ha:g.length+1<=16->Inf (g++[s]) (hs.map fun x=>x.up 1 0) a):aU2 136 g hs (ae2 k s a):=by
 have hs':TyG s:=hC.G a_;obtain ⟨P,hP⟩:∃ P,ae2 k s a=P:=⟨_,rfl⟩;have p1:P.kind=k:=by rw [<- hP];rfl
 have p2:P.type=s:=by rw [<- hP];rfl
 have p3:P.args.map Pf.cells=[a.cells]:=by rw [<- hP];rfl
 rw [hP];clear hP;have hz:=S5;have hi:ints []=[]:=rfl;have n0:((0:Int) != 0)=false:=rfl;have n3:((3:Int) != 0)=true:=rfl;have h2:=aN6 g hs c.gl c.hl 1 0 a_ a_;by_cases hl:g.length+1<=16
 ·rw [B8 ⟨hl,c.hl⟩] at h2
  obtain ⟨fa,ua,ea,h1,ka,oa⟩:=ha hl;have h3:=aR9 g [s] hs c.gl b_ c.hl (fun x hx=>(c.hy x hx).fg.toW);have e1:((([s]:List Ty).length:Nat):Int)=1:=rfl;rw [e1] at h3;simp only [E0,B7] at h3;rcases oa with ⟨he,rfl,rfl⟩|⟨rfl,sa⟩
  ·have hne:(ea != 0)=true:=by simpa using he
   refine ⟨A0,[],ea,?_,U8,.nil,fun h=>absurd h he⟩;rw [hz,hi];clear he ka hz c hi n3 hk hs' hC ha hl e1;intro h;unfold ckV at h1 h2 h3 ⊢;exact d_ Tryz.func136 [.cell 4 36,.tmp 5,.tmp 6]
  ·have h5:=aS4 1 ua a_ (by have:=ka.len;simp at this;omega) (ka.rng (by simp;have:=c.gl;omega))
   have hw:FmW (fmQ 4 s fa)/\FmW (fmQ 6 s fa):=⟨.mk _ _ _ _ hs'.1.W b_ b_ b_ (by simp [sa.jd.fg.toW]),.mk _ _ _ _ hs'.1.W b_ b_ b_ (by simp [sa.jd.fg.toW])⟩;have hu:aa8 g (aj3 1 ua):=aa8.out (m:=[s]) ka;have z1:=sa.jd.sz;rcases hk with rfl|rfl
   ·have h4:=aK9 4 s fa hs'.1.W sa.jd.fg.toW
    refine ⟨fmQ 4 s fa,aj3 1 ua,0,?_,hw.1,hu,fun _=>⟨⟨.q b_ hs' sa.jd.fg,by rw [G6];omega,.q (fun _=>hC) sa.jd.al⟩,fun hz=>by rw [G6] at hz;exact sa.allI c.cx (.inl rfl) hs' hC a_⟩⟩;clear ka hz c hi n3 hs' hC ha hl e1 hw hu sa z1;intro h;unfold ckV at h1 h2 h3 ⊢;exact d_ Tryz.func136 [.cell 4 36,.tmp 5,.tmp 6]
   ·have h6:=cX5 ua
    cases hh:cM2 ua with
    | true =>
     rw [hh] at h6;refine ⟨A0,[],12,?_,U8,.nil,fun h=>by cases h⟩;rw [hz,hi];clear ka hz c hi n3 hs' hC ha hl e1 hw hu sa hh h5 z1;intro h;unfold ckV at h1 h2 h3 ⊢;exact d_ Tryz.func136 [.cell 4 36,.tmp 5,.tmp 6]
    | false =>
     rw [hh] at h6;have h4:=aK9 6 s fa hs'.1.W sa.jd.fg.toW;refine ⟨fmQ 6 s fa,aj3 1 ua,0,?_,hw.2,hu,fun _=>⟨⟨.q b_ hs' sa.jd.fg,by rw [G6];omega,.q (fun _=>hC) sa.jd.al⟩,fun hz=>by rw [G6] at hz;exact sa.allI c.cx (.inr rfl) hs' hC a_⟩⟩;clear ka hz c hi n3 hs' hC ha hl e1 hw hu sa hh z1;intro h;unfold ckV at h1 h2 h3 ⊢;exact d_ Tryz.func136 [.cell 4 36,.tmp 5,.tmp 6]
 ·rw [y9 (fun h=>hl h.1)] at h2
  refine ⟨A0,[],3,?_,U8,.nil,fun h=>by cases h⟩;rw [hz,hi];clear hz c hi n0 hs' hC ha hl hk;intro h;unfold ckV at h2 ⊢;exact d_ Tryz.func136 [.cell 4 36,.tmp 5,.tmp 6]
theorem bp9 (hg:g.length<=16) (ht:l7 TyG g t s) (gt:TmG t) (zt:a8 t<=4096):c_ env 188 [.agg t.cells] (.sl .any (ints (aF6 t))) :=
 dJ1 t gt.toW (gt.am0 zt) (ht.least _ a_ a_) a_
theorem dy4 (hk:k=9\/k=13) (c:ak7 g hs) (ht:TmS t) (ha:Inf g hs a):aU2 137 g hs (aY4 k t a):=by
 obtain ⟨P,hP⟩:∃ P,aY4 k t a=P:=⟨_,rfl⟩;have p1:P.kind=k:=by rw [<- hP];rfl
 have p2:P.a7.map Tm.cells=[t.cells]:=by rw [<- hP];rfl
 have p3:P.args.map Pf.cells=[a.cells]:=by rw [<- hP];rfl
 rw [hP];clear hP;have hz:=S5;have hi:ints []=[]:=rfl;have n0:((0:Int) != 0)=false:=rfl;obtain ⟨s,e,h0,sw,j0⟩:=bg4 g c.gg c.gl t ht;by_cases he0:e=0
 ·subst he0
  obtain ⟨hT,gs,zt⟩:=j0 rfl;obtain ⟨fa,ua,ea,h1,ka,oa⟩:=ha;rcases oa with ⟨he,rfl,rfl⟩|⟨rfl,sa⟩
  ·have hne:(ea != 0)=true:=by simpa using he
   refine ⟨A0,[],ea,?_,U8,.nil,fun h=>absurd h he⟩;rw [hz,hi];clear he ka hz c hi hk sw j0 ht hT gs zt;intro h;unfold ckV at h1 ⊢;exact d_ Tryz.func137 [.cell 4 36,.tmp 5,.tmp 6]
  ·have h2:=bp9 c.gl hT ht.g zt
   have kt:=aa8.term hT;have h3:=al7 c.gl ka kt;obtain ⟨kk,hkk⟩:∃ kk:Int,(if k=9 then 4 else 6)=kk:=⟨_,rfl⟩;obtain ⟨uu,huu⟩:∃ uu:List Int,(if k=9 then V9 ua (aF6 t) else ua)=uu:=⟨_,rfl⟩;have ku:aa8 g uu:=by
    rw [<- huu];split
    ·exact ka.union kt
    ·exact ka
   have ay9:kk=4\/kk=6:=by rw [<- hkk];split<;>simp
   cases hf:(fa.kind != kk) with
   | true =>
    refine ⟨A0,[],10,?_,U8,.nil,fun h=>by cases h⟩;rw [hz,hi];clear ka hz c hi sw j0 ht hT gs zt ku kt ay9 sa;rcases hk with rfl|rfl
    ·obtain rfl:4=kk:=hkk
     clear huu;intro h;unfold ckV at h1 ⊢;exact d_ Tryz.func137 [.cell 4 36,.tmp 5,.tmp 6]
    ·obtain rfl:6=kk:=hkk
     clear huu;intro h;unfold ckV at h1 ⊢;exact d_ Tryz.func137 [.cell 4 36,.tmp 5,.tmp 6]
   | false =>
    obtain ⟨s',x,rfl⟩:=sa.jd.k4 (k:=kk) a_ (by simpa using hf);obtain ⟨gs',jx,_⟩:=sa.jd.by8;have e1:(fmQ kk s' x).args.map Fm.cells=[x.cells]:=rfl;have e2:(fmQ kk s' x).type=s':=rfl;have h4:=U2 s' gs'.1.W s sw;cases hsm:Ty.same s' s with
    | false =>
     rw [hsm] at h4;refine ⟨A0,[],7,?_,U8,.nil,fun h=>by cases h⟩;rw [hz,hi];clear ka hz c hi sw j0 ht hT gs zt ku kt ay9 sa gs' jx hsm;rcases hk with rfl|rfl
     ·obtain rfl:4=kk:=hkk
      clear huu;intro h;unfold ckV at h1 ⊢;exact d_ Tryz.func137 [.cell 4 36,.tmp 5,.tmp 6]
     ·obtain rfl:6=kk:=hkk
      clear huu;intro h;unfold ckV at h1 ⊢;exact d_ Tryz.func137 [.cell 4 36,.tmp 5,.tmp 6]
    | true =>
     rw [hsm] at h4;obtain rfl:=Ty.N6 hsm;have h5:=aS0 x jx.fg.toW t ht.g.toW;refine ⟨(D8 x 0 t).1,uu,(D8 x 0 t).2,?_,cD9 jx c.gl hT ht.g zt,ku,fun h=>?_⟩
     ·unfold P6 at h5
      generalize (D8 x 0 t).1=y at *;generalize (D8 x 0 t).2=ey at *;clear ka hz c hi sw j0 ht hT gs zt ku kt ay9 sa gs' jx hsm;rcases hk with rfl|rfl
      ·obtain rfl:4=kk:=hkk
       obtain rfl:V9 ua (aF6 t)=uu:=huu;intro h;unfold ckV at h1 ⊢;exact d_ Tryz.func137 [.cell 4 36,.tmp 5,.tmp 6]
      ·obtain rfl:6=kk:=hkk
       obtain rfl:ua=uu:=huu;intro h;unfold ckV at h1 ⊢;exact d_ Tryz.func137 [.cell 4 36,.tmp 5,.tmp 6]
     ·have:=sa.ec8 ay9 (by have:=c.gl;omega) hT ht.g zt h
      exact ⟨this.S,fun _=>this⟩
 ·have hne:(e != 0)=true:=by simpa using he0
  refine ⟨A0,[],e,?_,U8,.nil,fun h=>absurd h he0⟩;rw [hz,hi];clear hz c hi sw j0 ht ha hk he0 n0;intro h;unfold ckV;exact d_ Tryz.func137 [.cell 4 36,.tmp 5,.tmp 6]
theorem dy5 (hk:k=10\/k=14) (c:ak7 g hs) (hf:FmS f) (ht:TmS t) (ha:Inf g hs a):aU2 138 g hs (aA6 k f t a):=by
 obtain ⟨P,hP⟩:∃ P,aA6 k f t a=P:=⟨_,rfl⟩;have p1:P.kind=k:=by rw [<- hP];rfl
 have p2:P.a7.map Tm.cells=[t.cells]:=by rw [<- hP];rfl
 have p3:P.N5.map Fm.cells=[f.cells]:=by rw [<- hP];rfl
 have p4:P.args.map Pf.cells=[a.cells]:=by rw [<- hP];rfl
 rw [hP];clear hP;have hz:=S5;have hi:ints []=[]:=rfl;have n0:((0:Int) != 0)=false:=rfl;obtain ⟨e0,h0,j0⟩:=ca9 g c.gg c.gl f hf;by_cases he0:e0=0
 ·subst he0
  have jf:=j0 rfl;obtain ⟨kk,hkk⟩:∃ kk:Int,(if k=10 then 5 else 7)=kk:=⟨_,rfl⟩;have ay9:kk=5\/kk=7:=by rw [<- hkk];split<;>simp
  cases hfk:(f.kind != kk) with
  | true =>
   refine ⟨A0,[],10,?_,U8,.nil,fun h=>by cases h⟩;rw [hz,hi];clear hz c hi j0 ht hf ha jf ay9;rcases hk with rfl|rfl
   ·obtain rfl:5=kk:=hkk
    intro h;unfold ckV;exact d_ Tryz.func138 [.cell 4 36,.tmp 5,.tmp 6]
   ·obtain rfl:7=kk:=hkk
    intro h;unfold ckV;exact d_ Tryz.func138 [.cell 4 36,.tmp 5,.tmp 6]
  | false =>
   obtain ⟨s',x,rfl⟩:=jf.k4 (k:=kk) a_ (by simpa using hfk);obtain ⟨gs',jx,_⟩:=jf.by8;have e1:(fmQ kk s' x).args.map Fm.cells=[x.cells]:=rfl;have e2:(fmQ kk s' x).type=s':=rfl;obtain ⟨s,e,h1,sw,j1⟩:=bg4 g c.gg c.gl t ht;by_cases he:e=0
   ·subst he
    obtain ⟨hT,gs,zt⟩:=j1 rfl;have h4:=U2 s' gs'.1.W s sw;cases hsm:Ty.same s' s with
    | false =>
     rw [hsm] at h4;refine ⟨A0,[],7,?_,U8,.nil,fun h=>by cases h⟩;rw [hz,hi];clear hz c hi j0 ht hf ha jf ay9 sw j1 hT gs zt hsm gs' jx;rcases hk with rfl|rfl
     ·obtain rfl:5=kk:=hkk
      intro h;unfold ckV;exact d_ Tryz.func138 [.cell 4 36,.tmp 5,.tmp 6]
     ·obtain rfl:7=kk:=hkk
      intro h;unfold ckV;exact d_ Tryz.func138 [.cell 4 36,.tmp 5,.tmp 6]
    | true =>
     rw [hsm] at h4;obtain rfl:=Ty.N6 hsm;obtain ⟨up,ep,h5,kp,jp⟩:=aS7 c ha jx hT ht zt;have h2:=bp9 c.gl hT ht.g zt;have kt:=aa8.term hT;have h3:=al7 c.gl kp kt;obtain ⟨uu,huu⟩:∃ uu:List Int,(if k=10 then V9 up (aF6 t) else up)=uu:=⟨_,rfl⟩;have ku:aa8 g uu:=by
      rw [<- huu];split
      ·exact kp.union kt
      ·exact kp
     refine ⟨fmQ kk s' x,uu,ep,?_,jf.fg.toW,ku,fun h=>?_⟩
     ·clear hz c hi j0 ht hf ha jf ay9 sw j1 hT gs zt hsm gs' jx ku kt kp jp
      rcases hk with rfl|rfl
      ·obtain rfl:5=kk:=hkk
       obtain rfl:V9 up (aF6 t)=uu:=huu;intro h;unfold ckV at h5 ⊢;exact d_ Tryz.func138 [.cell 4 36,.tmp 5,.tmp 6]
      ·obtain rfl:7=kk:=hkk
       obtain rfl:up=uu:=huu;intro h;unfold ckV at h5 ⊢;exact d_ Tryz.func138 [.cell 4 36,.tmp 5,.tmp 6]
     ·obtain ⟨y,sy,q1,q2⟩:=jp h
      have:=Sq.exI c.cx ay9 (by have:=c.gl;omega) jf hT ht.g zt sy q1 q2;exact ⟨this.S,fun _=>this⟩
   ·have hne:(e != 0)=true:=by simpa using he
    refine ⟨A0,[],e,?_,U8,.nil,fun h=>absurd h he⟩;rw [hz,hi];clear hz c hi j0 ht hf ha jf ay9 sw j1 he gs' jx;rcases hk with rfl|rfl
    ·obtain rfl:5=kk:=hkk
     intro h;unfold ckV;exact d_ Tryz.func138 [.cell 4 36,.tmp 5,.tmp 6]
    ·obtain rfl:7=kk:=hkk
     intro h;unfold ckV;exact d_ Tryz.func138 [.cell 4 36,.tmp 5,.tmp 6]
 ·have hne:(e0 != 0)=true:=by simpa using he0
  refine ⟨A0,[],e0,?_,U8,.nil,fun h=>absurd h he0⟩;rw [hz,hi];clear hz c hi j0 ht hf ha hk he0 n0;intro h;unfold ckV;exact d_ Tryz.func138 [.cell 4 36,.tmp 5,.tmp 6]
theorem aN3 (g:List Ty) (s:Ty):A7 (g.map Ty.cells++[s.cells])=g.map Ty.cells++[s.cells]:=by
 have:=F4 (g++[s]);simpa using this
theorem ct6 (c:ak7 g hs) (hf:FmS f) (ha:Inf g hs a) (hb:Inf g hs b):aU2 143 g hs (ai8 f a b):=by
 obtain ⟨P,hP⟩:∃ P,ai8 f a b=P:=⟨_,rfl⟩;have p1:P.kind=19:=by rw [<- hP];rfl
 have p2:P.N5.map Fm.cells=[f.cells]:=by rw [<- hP];rfl
 have p3:P.args.map Pf.cells=[a.cells,b.cells]:=by rw [<- hP];rfl
 rw [hP];clear hP;have hz:=S5;have hi:ints []=[]:=rfl;have n0:((0:Int) != 0)=false:=rfl;have hgl:=c.gl;obtain ⟨e0,h0,j0⟩:=ba7 (g++[c8]) (fun y hy=>by rcases Q8.1 hy with hy|hy;exact c.gg y hy;simp at hy;subst hy;exact TyG.nat) (by simp;omega) f hf;rw [U0] at h0;simp only [E0,B7] at h0;have hN:=s8;have hwg:=aN3 g c8;have b1:(g.length+1) * 32<=140737488355328:=by omega
 have b2:g.length+1<=140737488355328:=by omega
 have t1:(0:Int)<=(g.length:Int):=by omega
 have t2:((g.length:Int)).toNat=g.length:=aA4 _;have t3:List.take g.length (g.map Ty.cells)=g.map Ty.cells:=ak6 b_;have t4:0<=g.length:=by omega
 have t5:g.length<=g.length:=w7 _;have mn:∀ (f:Operand->V),Option.map f none=none:=fun _=>rfl;by_cases he0:e0=0
 ·subst he0
  have jf:=j0 rfl;obtain ⟨fa,ua,ea,h1,ka,oa⟩:=ha;rcases oa with ⟨he,rfl,rfl⟩|⟨rfl,sa⟩
  ·have hne:(ea != 0)=true:=by simpa using he
   refine ⟨A0,[],ea,?_,U8,.nil,fun h=>absurd h he⟩;rw [hz,hi];clear hz c hi j0 hf hb jf he ka hgl;intro h;unfold ckV at h1 ⊢;exact d_ Tryz.func143 [.cell 4 36,.tmp 5,.tmp 6]
  ·cases hfk:(fa.kind != 1) with
   | true =>
    refine ⟨A0,[],10,?_,U8,.nil,fun h=>by cases h⟩;rw [hz,hi];clear hz c hi j0 hf hb jf ka sa hgl;intro h;unfold ckV at h1 ⊢;exact d_ Tryz.func143 [.cell 4 36,.tmp 5,.tmp 6]
   | false =>
    obtain ⟨x,y,rfl⟩:=sa.jd.k1 (by simpa using hfk);obtain ⟨q1,q2,q3,q4,q5⟩:=sa.jd.of_eq;have e1:(u6 x y).a7.map Tm.cells=[x.cells,y.cells]:=rfl;obtain ⟨up,ep,h5,kp,jp⟩:=aS7 c hb jf q1 ⟨q3,a_⟩ a_;by_cases he:ep=0
    ·subst he
     have h6:=aS0 f jf.fg.toW y q4.toW;obtain ⟨z,sz,r1,r2⟩:=jp rfl;refine ⟨(D8 f 0 y).1,up,(D8 f 0 y).2,?_,cD9 jf c.gl q2 q4 a_,kp,fun h=>?_⟩
     ·unfold P6 at h6
      generalize (D8 f 0 y).1=w at *;generalize (D8 f 0 y).2=ew at *;clear hz c hi j0 hf hb jf ka sa hgl q1 q2 q3 q4 q5 kp jp sz r1 r2;intro h;unfold ckV at h1 h5 ⊢;exact d_ Tryz.func143 [.cell 4 36,.tmp 5,.tmp 6]
     ·have:=Sq.subst c.cx a_ jf sa sz r1 r2 h
      exact ⟨this.S,fun _=>this⟩
    ·have hne:(ep != 0)=true:=by simpa using he
     refine ⟨A0,[],ep,?_,U8,.nil,fun h=>absurd h he⟩;rw [hz,hi];clear hz c hi j0 hf hb jf ka sa hgl q1 q2 q3 q4 q5 kp jp he;intro h;unfold ckV at h1 h5 ⊢;exact d_ Tryz.func143 [.cell 4 36,.tmp 5,.tmp 6]
 ·have hne:(e0 != 0)=true:=by simpa using he0
  refine ⟨A0,[],e0,?_,U8,.nil,fun h=>absurd h he0⟩;rw [hz,hi];clear hz c hi j0 hf ha hb he0 n0 hgl;intro h;unfold ckV;exact d_ Tryz.func143 [.cell 4 36,.tmp 5,.tmp 6]
end Go.Proofs.YtmfhhhhnokhggaaGreatDoor
