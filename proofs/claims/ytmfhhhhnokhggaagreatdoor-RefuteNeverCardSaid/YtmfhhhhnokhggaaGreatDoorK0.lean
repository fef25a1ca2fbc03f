/-
 Walks: several parts in one text.
-/
import Derived.Test.YtmfhhhhnokhggaaGreatDoorBase
import Derived.Test.YtmfhhhhnokhggaaGreatDoorAbsD
set_option linter.unusedSimpArgs false
set_option linter.unusedVariables false
set_option maxRecDepth 20000
set_option maxHeartbeats 4000000
namespace Go.Proofs.YtmfhhhhnokhggaaGreatDoor
open Go GoAbs Go.Proofs
def env:Nat->Option (List V)
 | 0=>some [.int .i64 0,.int .i64 0,.int .i64 1,.int .i64 2,.int .i64 0,.int .i64 1,.int .i64 3,.int .i64 0,.int .i64 2,.int .i64 3,.int .i64 2,.int .i64 1,.int .i64 1,.int .i64 0]
 | _=>none
theorem s8:c_ env 11 [] (.agg c8.cells):=by
 intro h;refine g_ Tryz.func11 [.cell 0 29] fun g0 w0 gen g9 hfr e9 n8=>?_;refine e_ ?_
 rfl
theorem B9:c_ env 46 [] (.agg r5.cells):=by
 intro h;refine g_ Tryz.func46 [.cell 0 29] fun g0 w0 gen g9 hfr e9 n8=>?_;refine e_ ?_
 rfl
theorem bf3:c_ env 72 [] (.agg O7.cells):=by
 intro h;refine g_ Tryz.func72 [.cell 0 29] fun g0 w0 gen g9 hfr e9 n8=>?_;refine e_ ?_
 rfl
theorem U1:∀ t:Ty,TyW t->c_ env 27 [.agg t.cells] (.agg t.cells):=by
 intro t
 induction t using Ty.ind with|h t ih=>?_
 intro ht h;have hlen:=ht.len;have ih':∀ x∈t.args,c_ env 27 [.agg x.cells] (.agg x.cells):=fun x hx=>ih x hx (ht.arg hx);clear ih;refine g_ Tryz.func27 [.cell 2 29] fun g0 w0 gen g9 hfr e9 n8=>?_;refine e_ ?_;refine E6 (fun i σ=>σ.tm 9=.int .i64 i/\σ.tm 8=.int .i64 t.args.length/\σ.tm 7=.sl .any (t.args.map Ty.cells)/\σ.tm 1=.ptr ⟨gen,0,0⟩ 0/\σ.tm 2=.ptr ⟨gen,0,1⟩ 0 /\
  σ.h ⟨gen,0,0⟩=some (.box t.cells)/\σ.h ⟨gen,0,1⟩=some (.box [.int .i64 0,.sl .full []])/\m8 h σ.h/\Q4 h σ.h (σ.tm 3) 2 ((t.args.take i).map Ty.cells)) t.args.length ?_ ?_
 ·simp only [go_sem, *]
  exact ⟨rfl,.new (.new (.refl _) (e9 _ _)) (e9 _ _),.inl b_⟩
 intro i σ hi ⟨j1,j2,j3,j4,j5,j6,j7,j8,j9⟩;refine at5 (fun gn hgn=>?_);have hgf:=o0 hgn;have l6:∀ r i,h ⟨gn,r,i⟩=none:=fun r i=>F3 j8 (hgf r i);have e1:=ah8 hgn j6;have e2:=Z4 hgn j6;have hw:=E2 (i:=i) a_;rcases R0 i t.args.length with hlt|hge
 ·have hd:=Z5 hlt
  obtain ⟨x,hx⟩:∃ x,t.args[i]? = some x:=⟨_,W4 hlt⟩;have hm:=aP5 hlt;have b1:(i+1) * 32<=140737488355328:=by omega
  have b2:i+1<=140737488355328:=by omega
  have hts:=p9 (f:=Ty.cells) hx;have hc:=ih' x (Q7 hx);rcases j9 with j9|⟨id,j9,j10,j11⟩
  ·
   clear hgn;refine e_ ?_;exact ⟨by repeat (first|assumption|refine m8.new ?_ (l6 _ _)|refine m8.new ?_ j11),.inr ⟨_,rfl,j_,by first|exact l6 _ _|assumption⟩⟩
  ·
   have e3:=n9 hgn j10;have e4:=p6 hgn j10;have e5:=az6 j6 j10;have e6:=az6 j7 j10;clear hgn;refine e_ ?_;exact ⟨by repeat (first|assumption|refine m8.new ?_ (l6 _ _)|refine m8.new ?_ j11),.inr ⟨_,rfl,j_,by first|exact l6 _ _|assumption⟩⟩
 ·have hd:=T5 hge
  clear hgn;obtain rfl:i=t.args.length:=by omega
  rw [L2] at j9;obtain ⟨c,j9⟩:=j9.val;refine e_ ?_;rw [Ty.l4]
theorem al6:∀ t:Tm,TmW t->c_ env 29 [.agg t.cells] (.agg t.cells):=by
 intro t
 induction t using Tm.ind with|h t ih=>?_
 intro ht h;have hlen:=ht.len;have ih':∀ x∈t.args,c_ env 29 [.agg x.cells] (.agg x.cells):=fun x hx=>ih x hx (ht.arg hx);clear ih;refine g_ Tryz.func29 [.cell 2 52] fun g0 w0 gen g9 hfr e9 n8=>?_;refine e_ ?_;refine E6 (fun i σ=>σ.tm 9=.int .i64 i/\σ.tm 8=.int .i64 t.args.length/\σ.tm 7=.sl .any (t.args.map Tm.cells)/\σ.tm 1=.ptr ⟨gen,0,0⟩ 0/\σ.tm 2=.ptr ⟨gen,0,1⟩ 0 /\
  σ.h ⟨gen,0,0⟩=some (.box t.cells)/\σ.h ⟨gen,0,1⟩=some (.box [.int .i64 0,.int .i64 0,.int .i64 0,.sl .full [],.sl .full []])/\m8 h σ.h/\Q4 h σ.h (σ.tm 3) 5 ((t.args.take i).map Tm.cells)) t.args.length ?_ ?_
 ·simp only [go_sem, *]
  exact ⟨rfl,.new (.new (.refl _) (e9 _ _)) (e9 _ _),.inl b_⟩
 intro i σ hi ⟨j1,j2,j3,j4,j5,j6,j7,j8,j9⟩;refine at5 (fun gn hgn=>?_);have hgf:=o0 hgn;have l6:∀ r i,h ⟨gn,r,i⟩=none:=fun r i=>F3 j8 (hgf r i);have e1:=ah8 hgn j6;have e2:=Z4 hgn j6;have hw:=E2 (i:=i) a_;rcases R0 i t.args.length with hlt|hge
 ·have hd:=Z5 hlt
  obtain ⟨x,hx⟩:∃ x,t.args[i]? = some x:=⟨_,W4 hlt⟩;have hm:=aP5 hlt;have b1:(i+1) * 72<=140737488355328:=by omega
  have b2:i+1<=140737488355328:=by omega
  have hts:=p9 (f:=Tm.cells) hx;have hc:=ih' x (Q7 hx);rcases j9 with j9|⟨id,j9,j10,j11⟩
  ·
   clear hgn;refine e_ ?_;exact ⟨by repeat (first|assumption|refine m8.new ?_ (l6 _ _)|refine m8.new ?_ j11),.inr ⟨_,rfl,j_,by first|exact l6 _ _|assumption⟩⟩
  ·
   have e3:=n9 hgn j10;have e4:=p6 hgn j10;have e5:=az6 j6 j10;have e6:=az6 j7 j10;clear hgn;refine e_ ?_;exact ⟨by repeat (first|assumption|refine m8.new ?_ (l6 _ _)|refine m8.new ?_ j11),.inr ⟨_,rfl,j_,by first|exact l6 _ _|assumption⟩⟩
 ·have hd:=T5 hge
  clear hgn;obtain rfl:i=t.args.length:=by omega
  rw [L2] at j9;obtain ⟨c,j9⟩:=j9.val;have hc:=U1 t.type ht.ty;refine e_ ?_;rw [Tm.l4]
theorem af1:∀ f:Fm,FmW f->c_ env 28 [.agg f.cells] (.agg f.cells):=by
 intro f
 induction f using Fm.ind with|h f ih=>?_
 intro ht h;have hlen:=ht.len;have cd6:=ht.au6;have ih':∀ x∈f.args,c_ env 28 [.agg x.cells] (.agg x.cells):=fun x hx=>ih x hx (ht.arg hx);clear ih;have hc0:=U1 f.type ht.ty;refine g_ Tryz.func28 [.cell 2 36] fun g0 w0 gen g9 hfr e9 n8=>?_;refine e_ ?_;clear hc0;refine E6 (fun i σ=>σ.tm 17=.int .i64 i/\σ.tm 16=.int .i64 f.a7.length/\σ.tm 15=.sl .any (f.a7.map Tm.cells)/\σ.tm 1=.ptr ⟨gen,0,0⟩ 0/\σ.tm 2=.ptr ⟨gen,0,1⟩ 0 /\
  σ.tm 3=.ptr ⟨gen,1,6⟩ 0/\σ.h ⟨gen,0,0⟩=some (.box f.cells)/\σ.h ⟨gen,0,1⟩=some (.box [.int .i64 0,.int .i64 0,.sl .full [],.sl .full [],.sl .full []])/\m8 h σ.h /\
  ∃ v,σ.h ⟨gen,1,6⟩=some (.box [.int .i64 f.kind,.int .i64 f.type.kind,.sl .any (f.type.args.map Ty.cells),v,.sl .full []])/\Q4 h σ.h v 5 ((f.a7.take i).map Tm.cells)) f.a7.length ?_ ?_
 ·simp only [go_sem, *]
  exact ⟨rfl,by repeat (first|exact m8.refl _|refine m8.new ?_ (e9 _ _)),_,rfl,.inl b_⟩
 intro i σ hi ⟨j1,j2,j3,j4,j5,j5',j6,j7,j8,v,jv,j9⟩;refine at5 (fun gn hgn=>?_);have hgf:=o0 hgn;have l6:∀ r i,h ⟨gn,r,i⟩=none:=fun r i=>F3 j8 (hgf r i);have e1:=ah8 hgn j6;have e2:=Z4 hgn j6;have hw:=E2 (i:=i) a_;rcases R0 i f.a7.length with hlt|hge
 ·have hd:=Z5 hlt
  obtain ⟨x,hx⟩:∃ x,f.a7[i]? = some x:=⟨_,W4 hlt⟩;have hm:=aP5 hlt;have b1:(i+1) * 72<=140737488355328:=by omega
  have b2:i+1<=140737488355328:=by omega
  have hts:=p9 (f:=Tm.cells) hx;have hc:=al6 x (ht.term (Q7 hx));clear ih';rcases j9 with rfl|⟨id,rfl,j10,j11⟩
  ·
   clear hgn;refine e_ ?_;exact ⟨by repeat (first|assumption|refine m8.new ?_ (l6 _ _)|refine m8.new ?_ (e9 _ _)),_,rfl,.inr ⟨_,rfl,j_,by first|exact l6 _ _|assumption⟩⟩
  ·
   have e3:=n9 hgn j10;have e4:=p6 hgn j10;have e5:=az6 j6 j10;have e6:=az6 j7 j10;have e7:=az6 jv j10;have e8:=cC9 jv j10;clear hgn;refine e_ ?_;exact ⟨by repeat (first|assumption|refine m8.new ?_ (l6 _ _)|refine m8.new ?_ (e9 _ _)|refine m8.new ?_ j11),_,rfl,.inr ⟨_,rfl,j_,by first|exact l6 _ _|assumption⟩⟩
 have hd:=T5 hge;clear hgn;obtain rfl:i=f.a7.length:=by omega
 rw [L2] at j9;obtain ⟨c,rfl⟩:=j9.val;clear j9;refine e_ ?_;refine E6 (fun i σ=>σ.tm 32=.int .i64 i/\σ.tm 31=.int .i64 f.args.length/\σ.tm 30=.sl .any (f.args.map Fm.cells)/\σ.tm 1=.ptr ⟨gen,0,0⟩ 0/\σ.tm 2=.ptr ⟨gen,0,1⟩ 0 /\
  σ.tm 3=.ptr ⟨gen,1,6⟩ 0/\σ.h ⟨gen,0,0⟩=some (.box f.cells)/\σ.h ⟨gen,0,1⟩=some (.box [.int .i64 0,.int .i64 0,.sl .full [],.sl .full [],.sl .full []])/\m8 h σ.h /\
  ∃ v,σ.h ⟨gen,1,6⟩=some (.box [.int .i64 f.kind,.int .i64 f.type.kind,.sl .any (f.type.args.map Ty.cells),.sl c (f.a7.map Tm.cells),v])/\Q4 h σ.h v 5 ((f.args.take i).map Fm.cells)) f.args.length ?_ ?_
 ·simp only [go_sem, *]
  exact ⟨rfl,_,rfl,.inl b_⟩
 clear jv j1 j2 j3 j4 j5 j5' j6 j7 j8 hd hge hw hi hgf l6 e1 e2;clear σ;intro i σ hi ⟨j1,j2,j3,j4,j5,j5',j6,j7,j8,v,jv,j9⟩;refine at5 (fun gn' hgn=>?_);have hgf:=o0 hgn;have l6:∀ r i,h ⟨gn',r,i⟩=none:=fun r i=>F3 j8 (hgf r i);have e1:=ah8 hgn j6;have e2:=Z4 hgn j6;have hw:=E2 (i:=i) a_;rcases R0 i f.args.length with hlt|hge
 ·have hd:=Z5 hlt
  obtain ⟨x,hx⟩:∃ x,f.args[i]? = some x:=⟨_,W4 hlt⟩;have hm:=aP5 hlt;have b1:(i+1) * 88<=140737488355328:=by omega
  have b2:i+1<=140737488355328:=by omega
  have hts:=p9 (f:=Fm.cells) hx;have hc:=ih' x (Q7 hx);clear ih';rcases j9 with rfl|⟨id,rfl,j10,j11⟩
  ·
   clear hgn;refine e_ ?_;exact ⟨by repeat (first|assumption|refine m8.new ?_ (l6 _ _)|refine m8.new ?_ (e9 _ _)),_,rfl,.inr ⟨_,rfl,j_,by first|exact l6 _ _|assumption⟩⟩
  ·
   have e3:=n9 hgn j10;have e4:=p6 hgn j10;have e5:=az6 j6 j10;have e6:=az6 j7 j10;have e7:=az6 jv j10;have e8:=cC9 jv j10;clear hgn;refine e_ ?_;exact ⟨by repeat (first|assumption|refine m8.new ?_ (l6 _ _)|refine m8.new ?_ (e9 _ _)|refine m8.new ?_ j11),_,rfl,.inr ⟨_,rfl,j_,by first|exact l6 _ _|assumption⟩⟩
 have hd:=T5 hge;clear hgn;obtain rfl:i=f.args.length:=by omega
 rw [L2] at j9;obtain ⟨c',rfl⟩:=j9.val;clear j9;refine e_ ?_;rw [Fm.l4]
theorem Ty.bL6:∀ {l l':List Ty},Ty.A5 l l'=true->l.length=l'.length
 | [],[],_=>rfl
 | a::l,b::l',h=>by
  simp only [Ty.A5,A3] at h;simp [Ty.bL6 h.2]
 | [],_::_,h=>by simp [Ty.A5] at h
 | _::_,[],h=>by simp [Ty.A5] at h
theorem Ty.bL4:∀ {l l':List Ty},l.length=l'.length->(∀ (j:Nat) x y,l[j]? = some x->l'[j]? = some y->Ty.same x y=true)->Ty.A5 l l'=true
 | [],[],_,_=>by simp [Ty.A5]
 | a::l,b::l',h,q=>by
  simp only [Ty.A5,A3];exact ⟨q 0 a b rfl rfl,Ty.bL4 (by simpa using h) fun j x y h1 h2=>q (j+1) x y (by simpa using h1) (by simpa using h2)⟩
 | [],_::_,h,_=>by simp at h
 | _::_,[],h,_=>by simp at h
theorem Ty.bL5:∀ {l l':List Ty},Ty.A5 l l'=true->∀ (j:Nat) x y,l[j]? = some x->l'[j]? = some y->Ty.same x y=true
 | [],_,_,j,x,y,h1,h2=>by simp at h1
 | a::l,b::l',h,0,x,y,h1,h2=>by
  simp only [Ty.A5,A3] at h;simp at h1 h2;subst h1;subst h2;exact h.1
 | a::l,b::l',h,j+1,x,y,h1,h2=>by
  simp only [Ty.A5,A3] at h;exact Ty.bL5 h.2 j x y (by simpa using h1) (by simpa using h2)
 | _::_,[],h,j,x,y,h1,h2=>by simp at h2
theorem U2:∀ a:Ty,TyW a->∀ b:Ty,TyW b->c_ env 78 [.agg a.cells,.agg b.cells] (.bool (Ty.same a b)):=by
 intro a
 induction a using Ty.ind with|h a ih=>?_
 intro ha b hb h;have hlen:=ha.len;have ao0:=hb.len;have ih':∀ x∈a.args,∀ y∈b.args,c_ env 78 [.agg x.cells,.agg y.cells] (.bool (Ty.same x y)):=fun x hx y hy=>ih x hx (ha.arg hx) y (hb.arg hy);clear ih;refine g_ Tryz.func78 [.tmp 4] fun g0 w0 gen g9 hfr e9 n8=>?_;by_cases hk:a.kind=b.kind
 case neg =>
  have hk1:(a.kind != b.kind)=true:=by simp [hk]
  have hk2:(a.kind==b.kind)=false:=by simp [hk]
  have hs:Ty.same a b=false:=by rw [Ty.aw6,hk2];rfl
  clear ih';exact i_
 by_cases hl:a.args.length=b.args.length
 case neg =>
  have hk0:(a.kind != b.kind)=false:=by simp [hk]
  have hk1:((a.args.length:Int) != (b.args.length:Int))=true:=by simp;omega
  have hs:Ty.same a b=false:=by
   rw [Ty.aw6];cases e:Ty.A5 a.args b.args with
   | true=>exact absurd (Ty.bL6 e) hl
   | false=>simp
  clear ih';exact i_
 have hk0:(b.kind != b.kind)=false:=by simp
 have hk1:((b.args.length:Int) != (b.args.length:Int))=false:=by simp
 clear ao0;refine e_ ?_;refine E6 (fun i σ=>σ.tm 23=.int .i64 i/\σ.tm 22=.int .i64 b.args.length/\σ.tm 2=.ptr ⟨gen,0,0⟩ 0/\σ.tm 3=.ptr ⟨gen,0,1⟩ 0 /\
  σ.h ⟨gen,0,0⟩=some (.box a.cells)/\σ.h ⟨gen,0,1⟩=some (.box b.cells)/\m8 h σ.h/\∀ j x y,j<i->a.args[j]? = some x->b.args[j]? = some y->Ty.same x y=true) b.args.length ?_ ?_
 ·simp only [go_sem, *]
  exact ⟨rfl,.new (.new (.refl _) (e9 _ _)) (e9 _ _),fun j x y hj=>absurd hj a_⟩
 intro i σ hi ⟨j1,j2,j3,j4,j5,j6,j7,j8⟩;refine at5 (fun gn hgn=>?_);have hw:=E2 (i:=i) a_;clear hgn;have hs0:Ty.same a b=Ty.A5 a.args b.args:=by rw [Ty.aw6,hk];simp
 rcases R0 i b.args.length with hlt|hge
 ·have hd:=Z5 hlt
  obtain ⟨x,hx⟩:∃ x,a.args[i]? = some x:=⟨_,W4 a_⟩;obtain ⟨y,hy⟩:∃ y,b.args[i]? = some y:=⟨_,W4 hlt⟩;have hc:=ih' x (Q7 hx) y (Q7 hy);clear ih';cases hxy:Ty.same x y with
  | false =>
   have hs:Ty.same a b=false:=by
    rw [hs0];cases e:Ty.A5 a.args b.args with
    | true=>rw [Ty.bL5 e i x y hx hy] at hxy;cases hxy
    | false=>rfl
   clear j8 hs0;rw [hxy] at hc;exact i_
  | true =>
   rw [hxy] at hc;have j8':∀ j x y,j<i+1->a.args[j]? = some x->b.args[j]? = some y->Ty.same x y=true:=by
    intro j x' y' hj h1 h2;rcases R0 j i with h|h
    ·exact j8 j x' y' h h1 h2
    ·obtain rfl:j=i:=by omega
     rw [hx] at h1;rw [hy] at h2;cases h1;cases h2;exact hxy
   clear j8 hs0;refine e_ ?_;exact j8'
 ·have hd:=T5 hge
  obtain rfl:i=b.args.length:=by omega
  have hs:Ty.same a b=true:=by
   rw [hs0];refine Ty.bL4 hl fun j x y h1 h2=>j8 j x y ?_ h1 h2;have:=(F2.1 h1).1;omega
  clear ih' j8 hs0;exact i_
theorem an8 (i:Int):c_ env 13 [.int .i64 i] (.agg (a9 i).cells):=by
 intro h;refine g_ Tryz.func13 [.cell 2 52] fun g0 w0 gen g9 hfr e9 n8=>?_
 first|refine e_ ?_|exact i_
 all_goals simp [a9,Tm.r7,Ty.O0,Ty.N9]
theorem bD6 (a b:Tm) (ha:TmW a) (hb:TmW b):c_ env 12 [.agg a.cells,.agg b.cells] (.agg (u6 a b).cells):=by
 intro h;refine g_ Tryz.func12 [.cell 4 36] fun g0 w0 gen g9 hfr e9 n8=>?_;have zq0:=al6 _ ha;have zq1:=al6 _ hb
 first|refine e_ ?_|exact i_
 all_goals simp [u6,Fm.r7,Ty.O0,Ty.N9]
theorem aZ9 (k:Int) (a b:Fm) (ha:FmW a) (hb:FmW b):c_ env 70 [.int .i64 k,.agg a.cells,.agg b.cells] (.agg (o8 k a b).cells):=by
 intro h;refine g_ Tryz.func70 [.cell 6 36] fun g0 w0 gen g9 hfr e9 n8=>?_;have zq0:=af1 _ ha;have zq1:=af1 _ hb
 first|refine e_ ?_|exact i_
 all_goals simp [o8,Fm.r7,Ty.O0,Ty.N9]
theorem aK9 (k:Int) (t:Ty) (a:Fm) (ht:TyW t) (ha:FmW a):c_ env 10 [.int .i64 k,.agg t.cells,.agg a.cells] (.agg (fmQ k t a).cells):=by
 intro h;refine g_ Tryz.func10 [.cell 6 36] fun g0 w0 gen g9 hfr e9 n8=>?_;have zq0:=af1 _ ha;have zq1:=U1 _ ht
 first|refine e_ ?_|exact i_
 all_goals simp [fmQ,Fm.r7,Ty.O0,Ty.N9]
theorem bu8 (a b:Ty) (ha:TyW a) (hb:TyW b):c_ env 73 [.agg a.cells,.agg b.cells] (.agg (B6 a b).cells):=by
 intro h;refine g_ Tryz.func73 [.cell 4 29] fun g0 w0 gen g9 hfr e9 n8=>?_;have zq0:=U1 _ ha;have zq1:=U1 _ hb
 first|refine e_ ?_|exact i_
 all_goals simp [B6,Ty.r7]
theorem W6 (a b:Ty) (ha:TyW a) (hb:TyW b):c_ env 74 [.agg a.cells,.agg b.cells] (.agg (x9 a b).cells):=by
 intro h;refine g_ Tryz.func74 [.cell 4 29] fun g0 w0 gen g9 hfr e9 n8=>?_;have zq0:=U1 _ ha;have zq1:=U1 _ hb
 first|refine e_ ?_|exact i_
 all_goals simp [x9,Ty.r7]
theorem dS5 (l:List Int):c_ env 5 [.sl .any (ints l)] (.bool (decide ((l.length:Int)<=500))):=by
 intro h;exact d_ Tryz.func5 [.tmp 2]
theorem dS6 (n k:Int) (hk:k≠0):c_ env 52 [.int .i64 n,.int .i64 k] (.int .i64 (cr4 n k)):=by
 intro h;refine g_ Tryz.func52 [.tmp 4] fun g0 w0 gen g9 hfr e9 n8=>?_
 first|refine e_ ?_|exact i_
 all_goals simp [cr4]
theorem c_N (k:Int) (l:List Tm) (hl:l.length<=1000) (hw0:∀ x∈l,TmW x):c_ env 76 [.int .i64 k,.sl .any (l.map Tm.cells)] (.agg (tm0 k l).cells):=by
 intro h;have ih':∀ x∈l,c_ env 29 [.agg x.cells] (.agg x.cells):=fun x hx=>al6 x (hw0 x hx);clear hw0;refine g_ Tryz.func76 [.cell 4 52] fun g0 w0 gen g9 hfr e9 n8=>?_;refine e_ ?_;refine E6 (fun i σ=>σ.tm 10=.int .i64 i/\σ.tm 9=.int .i64 l.length/\σ.tm 8=.sl .any (l.map Tm.cells)/\σ.tm 0=.int .i64 k/\σ.tm 4=.ptr ⟨gen,0,0⟩ 0 /\
  σ.h ⟨gen,0,0⟩=some (.box [.int .i64 0,.int .i64 0,.int .i64 0,.sl .full [],.sl .full []])/\m8 h σ.h/\Q4 h σ.h (σ.tm 5) 5 ((l.take i).map Tm.cells)) l.length ?_ ?_
 ·simp only [go_sem, *]
  exact ⟨rfl,.new (.refl _) (e9 _ _),.inl b_⟩
 intro i σ hi ⟨j1,j2,j3,j4,j5,j6,j8,j9⟩;refine at5 (fun gn hgn=>?_);have hgf:=o0 hgn;have l6:∀ r i,h ⟨gn,r,i⟩=none:=fun r i=>F3 j8 (hgf r i);have e1:=ah8 hgn j6;have e2:=Z4 hgn j6;have hw:=E2 (i:=i) a_;rcases R0 i l.length with hlt|hge
 ·have hd:=Z5 hlt
  obtain ⟨x,hx⟩:∃ x,l[i]? = some x:=⟨_,W4 hlt⟩;have hm:=aP5 hlt;have b1:(i+1) * 72<=140737488355328:=by omega
  have b2:i+1<=140737488355328:=by omega
  have hts:=p9 (f:=Tm.cells) hx;have hc:=ih' x (Q7 hx);rcases j9 with j9|⟨id,j9,j10,j11⟩
  ·
   clear hgn;refine e_ ?_;exact ⟨by repeat (first|assumption|refine m8.new ?_ (l6 _ _)|refine m8.new ?_ j11),.inr ⟨_,rfl,j_,by first|exact l6 _ _|assumption⟩⟩
  ·
   have e3:=n9 hgn j10;have e4:=p6 hgn j10;have e5:=az6 j6 j10;clear hgn;refine e_ ?_;exact ⟨by repeat (first|assumption|refine m8.new ?_ (l6 _ _)|refine m8.new ?_ j11),.inr ⟨_,rfl,j_,by first|exact l6 _ _|assumption⟩⟩
 ·have hd:=T5 hge
  clear hgn;obtain rfl:i=l.length:=by omega
  rw [L2] at j9;obtain ⟨c,j9⟩:=j9.val;refine e_ ?_;simp [tm0,Tm.r7,Ty.O0,Ty.N9]
theorem c_T (k:Int) (t:Ty) (l:List Tm) (ht:TyW t) (hl:l.length<=1000) (hw0:∀ x∈l,TmW x) :
  c_ env 77 [.int .i64 k,.agg t.cells,.sl .any (l.map Tm.cells)] (.agg (tmT k t l).cells):=by
 intro h;have h1:=c_N k l hl hw0;have h2:=U1 t ht;clear hw0;rw [tm0,Tm.r7] at h1;simp only [Ty.O0,Ty.N9,B7] at h1;refine g_ Tryz.func77 [.cell 6 52] fun g0 w0 gen g9 hfr e9 n8=>?_
 first|refine e_ ?_|exact i_
 all_goals simp [tmT,Tm.r7,tm0,Tm.l4,Tm.kind,Tm.index,Tm.type,Tm.args]
theorem cJ2 (n:Nat) (hn:n<=1000000):c_ env 68 [.int .i64 n] (.agg (G3 n).cells):=by
 intro h;have h1:=c_N 4 [] b_ b_;simp only [B7] at h1;refine g_ Tryz.func68 [.cell 2 52] fun g0 w0 gen g9 hfr e9 n8=>?_;refine e_ ?_;refine E6 (fun i σ=>σ.tm 0=.int .i64 ((n - i:Nat):Int)/\σ.tm 2=.ptr ⟨gen,0,0⟩ 0/\σ.tm 3=.ptr ⟨gen,1,1⟩ 0 /\
  σ.h ⟨gen,0,0⟩=some (.box [.int .i64 0,.int .i64 0,.int .i64 0,.sl .full [],.sl .full []])/\σ.h ⟨gen,1,1⟩=some (.box (G3 i).cells)/\m8 h σ.h) n ?_ ?_
 ·simp only [go_sem, *]
  exact ⟨b_,rfl,by repeat (first|exact m8.refl _|refine m8.new ?_ (e9 _ _))⟩
 intro i σ hi ⟨j1,j2,j3,j4,j5,j6⟩;have hN:G3 (i+1)=tm0 5 [G3 i]:=rfl;rcases R0 i n with hlt|hge
 ·have hd:decide (((n - i:Nat):Int)>0)=true:=by simp;omega
  have hw:IntKind.i64.wrap (((n - i:Nat):Int) - 1)=((n - (i+1):Nat):Int):=x7 a_ a_ a_;rw [tm0] at hN
  repeat' (first
   | (first|refine wp rfl ?_|refine spt rfl ?_|refine spf rfl ?_|(refine spl (fun hc=>?_) fun hc=>?_)<;>(try rw [L1] at hc)<;>try simp only [hc])<;>try simp only [go_sem, *])
  refine ax7 ⟨gen,1,1⟩ (by simp only [go_sem, *];rfl) ?_;simp only [go_sem, *];refine D3 ?_;simp only [go_sem, *];exact ⟨by rw [Tm.r7];rfl,by repeat (first|assumption|refine m8.new ?_ (e9 _ _))⟩
 ·have hd:decide (((n - i:Nat):Int)>0)=false:=by simp;omega
  obtain rfl:i=n:=by omega
  exact i_
theorem cW4 (n:Nat) (hn:n<=1000):c_ env 30 [.int .i64 n] (.tup [.agg (G3 n).cells,.int .i64 0]):=by
 intro h;have h1:=cJ2 n a_;have d1:decide ((n:Int)<0)=false:=by simp
 have d2:decide ((n:Int)>=4096)=false:=by simp;omega
 exact d_ Tryz.func30 [.cell 2 52,.tmp 3]
theorem bG1 (n:Nat) (hn:n<=1000):c_ env 14 [.int .i64 n] (.agg (G3 n).cells):=by
 intro h;have h1:=cW4 n hn;exact d_ Tryz.func14 [.cell 2 52]
theorem cV9 (f:Tm) (l:List Tm) (hf:TmW f) (hl:l.length<=1000) (hw:∀ x∈l,TmW x) :
  c_ env 79 [.agg f.cells,.sl .any (l.map Tm.cells)] (.agg (ax8 f l).cells):=by
 intro h;have hin:∀ S,InV S (.agg (ax8 f l).cells):=fun S=>by simp [InV,at6]
 generalize hv:V.agg (ax8 f l).cells=v at hin ⊢;refine g_ Tryz.func79 [.cell 4 52] fun g0 w0 gen g9 hfr e9 n8=>?_;refine e_ ?_;refine k_ [2,4,7] [⟨gen,0,1⟩] (fun i σ=>∃ f':Tm,TmW f'/\σ.h ⟨gen,0,0⟩=some (.box f'.cells)/\V.agg (ax8 f' (l.drop i)).cells=v) (l) ?_ ?_ ?_
 ·simp only [go_sem, *]
  exact ⟨by repeat (first|exact m8.refl _|refine m8.new ?_ (e9 _ _)),f,hf,rfl,hv⟩
 ·
  intro i x σ gr0 o5 hgf l6 l9 m6 hx hxm hm hlt jI jN jT jA ⟨f',hf',jf,jv⟩;rw [s9 hx,aH3] at jv;have hc:=c_N 3 [f',x] b_ (by simp [hf',hw x hxm]);simp only [E0,B7] at hc;have hwx:=hw x hxm;clear hw;refine e_ ?_;exact ⟨by repeat (first|assumption|refine m8.new ?_ (l6 _ _)|refine m8.new ?_ (e9 _ _)),_,bn9 b_ (by simp [hf',hwx]),rfl,jv⟩
 ·
  intro σ ga0 q9 hgf l6 l8 m5 jT jA ⟨f',hf',jf,jv⟩;rw [y6,aR7] at jv;subst jv;exact i_
theorem dK0 (g:List Ty) (t:Ty) (hg:g.length<=1000) (hw:∀ x∈g,TyW x) (ht:TyW t) :
  c_ env 75 [.sl .any (g.map Ty.cells),.agg t.cells] (.sl .any (ints (aV9 g t g.length))):=by
 intro h;refine g_ Tryz.func75 [.tmp 4] fun g0 w0 gen g9 hfr e9 n8=>?_
 repeat' (first
  |(refine ⟨?_,?_⟩;focus ((repeat' (first|refine ⟨?_,?_⟩|refine .inr ?_));all_goals kernel_rfl))
  |exact hin _|exact agf l_
  | (first|refine wp rfl ?_|refine spt rfl ?_|refine spf rfl ?_|(refine spl (fun hc=>?_) fun hc=>?_)<;>(try rw [L1] at hc)<;>try simp only [hc]|refine Y7 g9 ?_ ?_ ?_)<;>try simp only [go_sem, *])
 refine k_ [0,3,4] [⟨gen,0,0⟩] (fun i σ=>Q4 h σ.h (σ.tm 5) 1 (ints (aV9 g t i))) (g) ?_ ?_ ?_
 ·simp only [go_sem, *]
  exact ⟨by repeat (first|exact m8.refl _|refine m8.new ?_ (e9 _ _)),.inl rfl⟩
 ·
  intro i x σ gr0 o5 hgf l6 l9 m6 hx hxm hm hlt jI jN jT jA jO0;have hvl:=bM2 (g:=g) (t:=t) (n:=i);have hw1:IntKind.i64.wrap ((g.length:Int) - 1)=((g.length - 1:Nat):Int):=x7 a_ a_ a_;have hw2:IntKind.i64.wrap (((g.length - 1:Nat):Int) - (i:Int))=((g.length - 1 - i:Nat):Int):=x7 a_ a_ a_;obtain ⟨y,hy⟩:∃ y,g[g.length - 1 - i]? = some y:=⟨_,W4 a_⟩;have hc:=U2 y (hw y (Q7 hy)) t ht;have hva:ci5 g t i=Ty.same y t:=by simp [ci5,hy]
  have hvs:=cv8 (g:=g) (t:=t) (n:=i);rw [hva] at hvs;clear hw hva;cases hs:Ty.same y t with
  | true =>
   rw [hs] at hc hvs;simp only [p7] at hvs
   repeat' (first
    |(refine ⟨?_,?_⟩;focus ((repeat' (first|refine ⟨?_,?_⟩|refine .inr ?_));all_goals kernel_rfl))
    |(refine X6 jO0 t_ rfl r_ s_ j_ (by intro hd;cases hd) ?_;intro v' h' log' jO jK jAg jAb jF;simp only [go_sem, *])
    | (first|refine wp rfl ?_|refine spt rfl ?_|refine spf rfl ?_|(refine spl (fun hc=>?_) fun hc=>?_)<;>(try rw [L1] at hc)<;>try simp only [hc]|refine cp hc ?_|refine D3 ?_)<;>try simp only [go_sem, *])
   have jO':Q4 h h' v' 1 (ints (aV9 g t i++[(i:Int)])):=by simpa [ints] using jO
   first|exact jO'|exact ⟨jAg (by repeat (first|assumption|refine m8.new ?_ (l6 _ _))),jO'⟩
  | false =>
   rw [hs] at hc hvs;simp only [B2,r6,ae7] at hvs
   repeat' (first
    |(refine ⟨?_,?_⟩;focus ((repeat' (first|refine ⟨?_,?_⟩|refine .inr ?_));all_goals kernel_rfl))
    | (first|refine wp rfl ?_|refine spt rfl ?_|refine spf rfl ?_|(refine spl (fun hc=>?_) fun hc=>?_)<;>(try rw [L1] at hc)<;>try simp only [hc]|refine cp hc ?_|refine D3 ?_)<;>try simp only [go_sem, *])
   first|done|exact ⟨by repeat (first|assumption|refine m8.new ?_ (l6 _ _)),jO0⟩|trace_state
 ·
  intro σ ga0 q9 hgf l6 l8 m5 jT jA jO;obtain ⟨c,jO⟩:=jO.val;clear hw;exact x_
theorem cX7 (t:Tm) (ht:TmW t):c_ env 118 [.agg t.cells] (.agg (am5 t).cells):=by
 intro h;have h1:=c_T 2 c8 [t] J9 b_ (by simp [ht]);simp only [E0,B7] at h1;refine g_ Tryz.func118 [.cell 2 52] fun g0 w0 gen g9 hfr e9 n8=>?_;have zq0:=s8;refine e_ ?_
 rfl
theorem cY6 (b f n:Tm) (hb:TmW b) (hf:TmW f) (hn:TmW n):c_ env 119 [.agg b.cells,.agg f.cells,.agg n.cells] (.agg (bT7 b f n).cells):=by
 intro h;have h1:=c_T 6 c8 [b,f,n] J9 b_ (by simp [hb,hf,hn]);simp only [E0,B7] at h1;refine g_ Tryz.func119 [.cell 6 52] fun g0 w0 gen g9 hfr e9 n8=>?_;have zq0:=s8;refine e_ ?_
 rfl
theorem dI5:c_ env 120 [] (.agg aF0.cells):=by
 intro h;have h1:=c_N 4 [] b_ b_;simp only [B7] at h1;refine g_ Tryz.func120 [.cell 0 52] fun g0 w0 gen g9 hfr e9 n8=>?_
 repeat' (first
  |exact hin _|exact agf l_
  | (first|refine wp rfl ?_|refine cp h1 ?_|refine cp (an8 _) ?_|refine cp (cX7 _ (by repeat (first|assumption|exact A6 _|exact ah9|exact ae4|exact ab6|exact aj5|refine ad7 ?_|refine G9 ?_ ?_|refine au7 ?_ ?_ ?_|refine V0 ?_|refine aj4 ?_ ?_ ?_))) ?_|refine cp (cY6 _ _ _ (by repeat (first|assumption|exact A6 _|exact ah9|exact ae4|exact ab6|exact aj5|refine ad7 ?_|refine G9 ?_ ?_|refine au7 ?_ ?_ ?_|refine V0 ?_|refine aj4 ?_ ?_ ?_)) (by repeat (first|assumption|exact A6 _|exact ah9|exact ae4|exact ab6|exact aj5|refine ad7 ?_|refine G9 ?_ ?_|refine au7 ?_ ?_ ?_|refine V0 ?_|refine aj4 ?_ ?_ ?_)) (by repeat (first|assumption|exact A6 _|exact ah9|exact ae4|exact ab6|exact aj5|refine ad7 ?_|refine G9 ?_ ?_|refine au7 ?_ ?_ ?_|refine V0 ?_|refine aj4 ?_ ?_ ?_))) ?_|refine Y7 g9 ?_ ?_ ?_)<;>try simp only [go_sem, *])
 rfl
theorem cW5:c_ env 80 [] (.agg aL3.cells):=by
 intro h;have h1:=c_N 5 [a9 0] b_ (by simp [A6]);simp only [E0,B7] at h1;refine g_ Tryz.func80 [.cell 0 52] fun g0 w0 gen g9 hfr e9 n8=>?_
 repeat' (first
  |exact hin _|exact agf l_
  | (first|refine wp rfl ?_|refine cp h1 ?_|refine cp (an8 _) ?_|refine cp (cX7 _ (by repeat (first|assumption|exact A6 _|exact ah9|exact ae4|exact ab6|exact aj5|refine ad7 ?_|refine G9 ?_ ?_|refine au7 ?_ ?_ ?_|refine V0 ?_|refine aj4 ?_ ?_ ?_))) ?_|refine cp (cY6 _ _ _ (by repeat (first|assumption|exact A6 _|exact ah9|exact ae4|exact ab6|exact aj5|refine ad7 ?_|refine G9 ?_ ?_|refine au7 ?_ ?_ ?_|refine V0 ?_|refine aj4 ?_ ?_ ?_)) (by repeat (first|assumption|exact A6 _|exact ah9|exact ae4|exact ab6|exact aj5|refine ad7 ?_|refine G9 ?_ ?_|refine au7 ?_ ?_ ?_|refine V0 ?_|refine aj4 ?_ ?_ ?_)) (by repeat (first|assumption|exact A6 _|exact ah9|exact ae4|exact ab6|exact aj5|refine ad7 ?_|refine G9 ?_ ?_|refine au7 ?_ ?_ ?_|refine V0 ?_|refine aj4 ?_ ?_ ?_))) ?_|refine Y7 g9 ?_ ?_ ?_)<;>try simp only [go_sem, *])
 rfl
theorem dS9:c_ env 81 [] (.agg aM5.cells):=by
 intro h;have h1:=c_N 3 [aF0,a9 0] b_ (by simp [A6,ae4]);simp only [E0,B7] at h1;refine g_ Tryz.func81 [.cell 0 52] fun g0 w0 gen g9 hfr e9 n8=>?_
 repeat' (first
  |exact hin _|exact agf l_
  | (first|refine wp rfl ?_|refine cp h1 ?_|refine cp dI5 ?_|refine cp (an8 _) ?_|refine cp (cX7 _ (by repeat (first|assumption|exact A6 _|exact ah9|exact ae4|exact ab6|exact aj5|refine ad7 ?_|refine G9 ?_ ?_|refine au7 ?_ ?_ ?_|refine V0 ?_|refine aj4 ?_ ?_ ?_))) ?_|refine cp (cY6 _ _ _ (by repeat (first|assumption|exact A6 _|exact ah9|exact ae4|exact ab6|exact aj5|refine ad7 ?_|refine G9 ?_ ?_|refine au7 ?_ ?_ ?_|refine V0 ?_|refine aj4 ?_ ?_ ?_)) (by repeat (first|assumption|exact A6 _|exact ah9|exact ae4|exact ab6|exact aj5|refine ad7 ?_|refine G9 ?_ ?_|refine au7 ?_ ?_ ?_|refine V0 ?_|refine aj4 ?_ ?_ ?_)) (by repeat (first|assumption|exact A6 _|exact ah9|exact ae4|exact ab6|exact aj5|refine ad7 ?_|refine G9 ?_ ?_|refine au7 ?_ ?_ ?_|refine V0 ?_|refine aj4 ?_ ?_ ?_))) ?_|refine Y7 g9 ?_ ?_ ?_)<;>try simp only [go_sem, *])
 rfl
theorem dS7 (l:List Int):dR6 Tryz.prog env 6 [.sl .any (ints l)] (F0 l 0):=by
 intro h id hid;refine g_ Tryz.func6 [.tmp 2] fun g0 w0 gen g9 hfr e9 n8=>?_;refine e_ ?_;refine dG1 g9 hid rfl (by simp only [go_sem, *];rfl) (e9 _ _) (by simp only [F0,go_sem, *]) (by repeat (first|exact m8.refl _|refine m8.new ?_ (e9 _ _)))
theorem J2 (l:List Int) (hl:l.length<=1000) (d:GoAbs.Id) (a:Nat) (n:Int) :
  m_ env 18 [.ptr d 0,.int .i64 n] d (.box (F0 l a)) (.int .i64 (r8 l a n).1) (.box (F0 l (r8 l a n).2)):=by
 intro h hd;unfold F0 at hd ⊢;cases hn:decide (n<1) with
 | true =>
  have hv:r8 l a n=(0,a):=by simp at hn;simp [r8,hn]
  rw [hv];exact n_ Tryz.func18 [.tmp 4]
 | false =>
  cases hm:decide ((a:Int)>=(l.length:Int)) with
  | true =>
   have hv:r8 l a n=(0,a):=by simp at hm;simp [r8,hm]
   rw [hv];exact n_ Tryz.func18 [.tmp 4]
  | false =>
   simp at hn hm;obtain ⟨x,hx⟩:∃ x,l[a]? = some x:=⟨_,W4 hm⟩;have hv:r8 l a n=(cr4 x n,a+1):=by
    have:¬ (n<1\/l.length<=a):=by omega
    simp [r8,this,hx]
   have h1:=dS6 x n a_;have hw:=E2 (i:=a) a_;have hix:(ints l)[a]? = some [.int .i64 x]:=by rw [bx4,hx];rfl
   have hn':decide (n<1)=false:=by simp;omega
   have hm':decide ((a:Int)>=(l.length:Int))=false:=by simp;omega
   rw [hv];clear hn hm;exact n_ Tryz.func18 [.tmp 4]
theorem cW8 (l:List Int) (hl:l.length<=1000) (d:GoAbs.Id):∀ (n:Nat),n<=1000->∀ a:Nat,
  m_ env 35 [.ptr d 0,.int .i64 n] d (.box (F0 l a)) (.agg (mkType l n a).1.cells) (.box (F0 l (mkType l n a).2)):=by
 intro n
 induction n with
 | zero =>
  intro _ a h hd;have hz:decide (((0:Nat):Int)>0)=false:=rfl;rcases df4 (r8 l a 7).1 with hk|hk|hk|hk|hk|hk|hk|hk
  all_goals
   simp only [mkType,hk,Int.reduceBEq,p7,B2,r6];have zq0:=s8;have zq1:=B9;have zq2:=bf3;have hNx:=J2 l hl d;exact n_ Tryz.func35 [.cell 4 29]
 | succ n ih =>
  intro hn a h hd;have ih':=ih a_;have hz:decide (((n+1:Nat):Int)>0)=true:=by simp<;>omega
  have hw:IntKind.i64.wrap (((n+1:Nat):Int) - 1)=(n:Int):=x7 a_ a_ a_;clear ih;rcases df4 (r8 l a 7).1 with hk|hk|hk|hk|hk|hk|hk|hk
  all_goals
   simp only [mkType,hk,Int.reduceBEq,p7,B2,r6];have wt:=fun n a=>aP6 (l:=l) n a;refine g_ Tryz.func35 [.cell 4 29] fun g0 w0 gen g9 hfr e9 n8=>?_;have f1:=n9 hfr hd;have f2:=p6 hfr hd
   repeat' (first
    |exact agb l_
    | (first|refine wp rfl ?_|refine spt rfl ?_|refine spf rfl ?_|(refine spl (fun hc=>?_) fun hc=>?_)<;>(try rw [L1] at hc)<;>try simp only [hc]|refine cp s8 ?_|refine cp B9 ?_|refine cp bf3 ?_|refine cp (bu8 _ _ (wt _ _) (wt _ _)) ?_|refine cp (W6 _ _ (wt _ _) (wt _ _)) ?_|refine ct (J2 l hl d _ _) q_ ?_|refine ct (ih' _) q_ ?_|refine aX7 g9 hd ?_ ?_ ?_ ?_ ?_)<;>try simp only [go_sem, *])
theorem cr3 (l:List Int) (hl:l.length<=1000) (n a:Nat) (hn:n<=1000:=by omega):∃ s a2,N0 n s/\tyH s<=n+1/\TyF s/\TyW s /\
  ∀ d,m_ env 35 [.ptr d 0,.int .i64 n] d (.box (F0 l a)) (.agg s.cells) (.box (F0 l a2)) :=
 have h:=aq0 (l:=l) n a
 ⟨_,_,h,h.H,h.F,h.F.W,fun d=>cW8 l hl d n hn a⟩
theorem bZ5:∀ t:Ty,TyW t->c_ env 155 [.agg t.cells] (ad6 t.nodes):=by
 intro t
 induction t using Ty.ind with|h t ih=>?_
 intro ht h;have hlen:=ht.len;have ih':∀ x∈t.args,c_ env 155 [.agg x.cells] (ad6 x.nodes):=fun x hx=>ih x hx (ht.arg hx);clear ih;have hin:∀ S,InV S (ad6 t.nodes):=fun S=>by cases t.nodes<;>simp [ad6,InV,InL]
 generalize hv:ad6 t.nodes=v at hin ⊢;refine g_ Tryz.func155 [.tmp 2,.tmp 3] fun g0 w0 gen g9 hfr e9 n8=>?_
 repeat' (first
  |refine bp6 (id:=0) (fun σ=>σ.tm 1=.ptr ⟨gen,0,0⟩ 0/\σ.h ⟨gen,0,0⟩=some (.box t.cells)/\m8 h σ.h/\∃ w,au8 t.kind=some w/\σ.tm 4=.int .i64 w) ?_ ?_
  |refine K8 ?_|refine P8 ?_|refine K7 ?_|refine C8 ?_|refine P7 ?_|refine B5 ?_|refine E4 ?_|refine B4 ?_
  |refine A8 (by decide) ?_|refine Y5 ?_|refine S2 ?_
  |(refine ⟨?_,?_⟩;focus ((repeat' (first|refine ⟨?_,?_⟩|refine .inr ?_));all_goals kernel_rfl))
  |refine K3 rfl ?_|refine K1 rfl ?_|(refine M6 rfl (fun hc=>?_) (fun hc=>?_)<;>(try rw [L1] at hc)<;>(try simp only [hc]))
  | ((first|refine D2 ?_|(refine A9 (fun hb=>?_) (fun hb=>?_)<;>(try simp only [E7,M9] at hb))|refine D3 ?_|refine aC5 g9 (by first|exact hin _|simp only [go_sem,L6]) f_ ?_)<;>simp only [go_sem, *]))
 ·exact ⟨.new (.refl _) (e9 _ _),0,rfl,rfl⟩
 ·exact ⟨.new (.refl _) (e9 _ _),0,rfl,rfl⟩
 ·exact ⟨.new (.refl _) (e9 _ _),0,rfl,rfl⟩
 ·exact ⟨.new (.refl _) (e9 _ _),2,rfl,rfl⟩
 ·exact ⟨.new (.refl _) (e9 _ _),2,rfl,rfl⟩
 ·rw [<- hv,Ty.V1];simp [au8,ad6, *]
 intro σ ⟨j1,j2,j3,w,j4,j5⟩;cases hw:((t.args.length:Int)==w) with
 | false =>
  have hw':((t.args.length:Int) != w)=true:=by simp [bne,hw]
  have hv':ad6 none=v:=by rw [<- hv,Ty.V1,j4];simp [hw]
  subst hv';clear hw hv ih';exact i_
 | true =>
  have hw':((t.args.length:Int) != w)=false:=by simp [bne,hw]
  have hv':ad6 (Ty.A2 1 t.args)=v:=by rw [<- hv,Ty.V1,j4];simp [hw]
  clear hw hv;refine e_ ?_;refine E6 (fun i σ=>σ.tm 27=.int .i64 i/\σ.tm 26=.int .i64 t.args.length/\σ.tm 25=.sl .any (t.args.map Ty.cells) /\
   σ.h ⟨gen,0,0⟩=some (.box t.cells)/\m8 h σ.h/\∃ n,σ.tm 5=.int .i64 n/\ad6 (Ty.A2 n (t.args.drop i))=v) t.args.length ?_ ?_
  ·simp only [go_sem, *]
   exact ⟨rfl,_,rfl,hv'⟩
  clear j1 j2 j3 j5 hw' hv';clear σ;intro i σ hi ⟨j1,j2,j3,j4,j5,n,j6,j7⟩;refine at5 (fun gn hgn=>?_);have hgf:=o0 hgn;have l6:∀ r i,h ⟨gn,r,i⟩=none:=fun r i=>F3 j5 (hgf r i);have e1:=ah8 hgn j4;have e2:=Z4 hgn j4;have hw:=E2 (i:=i) a_;clear hgn;rcases R0 i t.args.length with hlt|hge
  ·have hd:=Z5 hlt
   obtain ⟨x,hx⟩:∃ x,t.args[i]? = some x:=⟨_,W4 hlt⟩;rw [s9 hx] at j7;have hc:=ih' x (Q7 hx);clear ih';cases hn:x.nodes with
   | none =>
    rw [hn] at hc;rw [Ty.P3 hn] at j7;subst j7;exact i_
   | some k =>
    rw [hn] at hc;rw [Ty.H2 hn] at j7;refine e_ ?_;exact ⟨by repeat (first|assumption|refine m8.new ?_ (l6 _ _)),_,rfl,j7⟩
  ·have hd:=T5 hge
   obtain rfl:i=t.args.length:=by omega
   rw [y6,Ty.N1] at j7;subst j7;clear ih';exact i_
theorem aN5 (t:Ty) (ht:TyW t):c_ env 96 [.agg t.cells] (two (chk 64 t.nodes)):=by
 intro h;have hc:=bZ5 t ht;have hin:∀ S,InV S (two (chk 64 t.nodes)):=fun S=>by simp [two,InV,InL]
 cases hn:t.nodes with
 | none =>
  rw [hn] at hc hin;refine g_ Tryz.func96 [.tmp 2,.tmp 3] fun g0 w0 gen g9 hfr e9 n8=>?_
  first|refine e_ ?_|exact i_
  all_goals simp [two,chk]
 | some n =>
  rw [hn] at hc hin;refine g_ Tryz.func96 [.tmp 2,.tmp 3] fun g0 w0 gen g9 hfr e9 n8=>?_
  repeat' (first
   |exact hin _|exact agf l_
   | (first|refine wp rfl ?_|refine spt rfl ?_|refine spf rfl ?_|(refine spl (fun hc=>?_) fun hc=>?_)<;>(try rw [L1] at hc)<;>try simp only [hc]|refine cp hc ?_|refine Y7 g9 ?_ ?_ ?_)<;>try simp only [go_sem, *])
  all_goals (try simp only [aW3,bV0] at *)
  all_goals first|(have hcn:¬ 64<n:=by omega);simp [two,chk,hcn]|(have hcn:64<n:=by omega);simp [two,chk,hcn]
theorem ag7 (t:Ty) (ht:TyW t):c_ env 56 [.agg t.cells] (.int .i64 (ae5 t)):=by
 intro h;have hc:=aN5 t ht;unfold two at hc;refine g_ Tryz.func56 [.tmp 2] fun g0 w0 gen g9 hfr e9 n8=>?_
 first|refine e_ ?_|exact i_
 all_goals simp [ae5]
theorem bY3 (t:Ty):c_ env 220 [.agg t.cells] (.bool (Z1 t)):=by
 intro h;refine g_ Tryz.func220 [.tmp 2] fun g0 w0 gen g9 hfr e9 n8=>?_
 repeat' (first
  |exact hin _|exact agf l_
  | (first|refine wp rfl ?_|(refine gs (fun hb=>?_) fun hb=>?_)<;>try simp only [E7,M9] at hb|refine Y7 g9 ?_ ?_ ?_)<;>try simp only [go_sem, *])
 all_goals simp_all [Z1]
theorem dp9 (k:Int):c_ env 222 [.int .i64 k] (.bool (typed k)):=by
 intro h;refine g_ Tryz.func222 [.tmp 2] fun g0 w0 gen g9 hfr e9 n8=>?_
 repeat' (first
  |exact hin _|exact agf l_
  | (first|refine wp rfl ?_|(refine gs (fun hb=>?_) fun hb=>?_)<;>try simp only [E7,M9] at hb|refine Y7 g9 ?_ ?_ ?_)<;>try simp only [go_sem, *])
 all_goals simp_all [typed]
theorem dp0 (k:Int):c_ env 221 [.int .i64 k] (ad6 (arity k)):=by
 intro h;have hin:∀ S,InV S (ad6 (arity k)):=fun S=>by cases arity k<;>simp [ad6,InV,InL]
 have hk:k<1\/14<=k\/k=1\/k=2\/k=3\/k=4\/k=5\/k=6\/k=7\/k=8\/k=9\/k=10\/k=11\/k=12\/k=13:=by omega
 rcases hk with hk|hk|hk
 ·have hv:ad6 none=ad6 (arity k):=by simp [arity,hk]
  rw [<- hv];clear hv hin;refine g_ Tryz.func221 [.tmp 2,.tmp 3] fun g0 w0 gen g9 hfr e9 n8=>?_
  repeat' (first
   |exact hin _|exact agf l_
   | (first|refine wp rfl ?_|refine spt rfl ?_|refine spf rfl ?_|(refine spl (fun hc=>?_) fun hc=>?_)<;>(try rw [L1] at hc)<;>try simp only [hc]|(refine gs (fun hb=>?_) fun hb=>?_)<;>try simp only [E7,M9] at hb|refine Y7 g9 ?_ ?_ ?_)<;>try simp only [go_sem, *])
  all_goals (exfalso;first|(simp_all;done)|(simp_all;omega))
 ·have hv:ad6 none=ad6 (arity k):=by simp [arity,hk]
  rw [<- hv];clear hv hin;refine g_ Tryz.func221 [.tmp 2,.tmp 3] fun g0 w0 gen g9 hfr e9 n8=>?_
  first|refine e_ ?_|exact i_
  all_goals (exfalso;first|(simp_all;done)|(simp_all;omega))
 ·have hv:∃ a,arity k=some a/\((env 0).getD [])[k.toNat]? = some (.int .i64 a):=by
   rcases hk with rfl|rfl|rfl|rfl|rfl|rfl|rfl|rfl|rfl|rfl|rfl|rfl|rfl<;>exact ⟨_,rfl,rfl⟩
  obtain ⟨a,h1,h2⟩:=hv;rw [h1];clear hin;have k1:decide (k<1)=false:=by simp;omega
  have k2:decide (14<=k)=false:=by simp;omega
  have k3:0<=k:=by omega
  have k4:k<((14:Nat):Int):=by omega
  have k6:env 0=some [.int .i64 0,.int .i64 0,.int .i64 1,.int .i64 2,.int .i64 0,.int .i64 1,.int .i64 3,.int .i64 0,.int .i64 2,.int .i64 3,.int .i64 2,.int .i64 1,.int .i64 1,.int .i64 0]:=rfl;have h3:[V.int .i64 0,.int .i64 0,.int .i64 1,.int .i64 2,.int .i64 0,.int .i64 1,.int .i64 3,.int .i64 0,.int .i64 2,.int .i64 3,.int .i64 2,.int .i64 1,.int .i64 1,.int .i64 0][0+k.toNat * 1]? = some (.int .i64 a):=by rw [aW6,Nat.mul_one];exact h2
  have k5:k.toNat<14:=by omega
  clear h2 hk;exact d_ Tryz.func221 [.tmp 2,.tmp 3]
theorem aZ6 (t:Ty) (ht:TyW t):c_ env 96 [.agg t.cells] (.tup [.int .i64 (chk 64 t.nodes).1,.int .i64 (ae5 t)]):=aN5 t ht
theorem bk7:∀ t:Tm,TmW t->c_ env 199 [.agg t.cells] (ad6 t.nodes):=by
 intro t
 induction t using Tm.ind with|h t ih=>?_
 intro ht h;have hlen:=ht.len;have ih':∀ x∈t.args,c_ env 199 [.agg x.cells] (ad6 x.nodes):=fun x hx=>ih x hx (ht.arg hx);clear ih;have hin:∀ S,InV S (ad6 t.nodes):=fun S=>by cases t.nodes<;>simp [ad6,InV,InL]
 have hct:=aZ6 t.type ht.ty;have hca:=dp0 t.kind;generalize hv:ad6 t.nodes=v at hin ⊢;cases ha:arity t.kind with
 | none =>
  rw [ha] at hca;have hv':ad6 none=v:=by rw [<- hv,Tm.V1];simp [L5,ha]
  subst hv';clear ih' hct;exact d_ Tryz.func199 [.tmp 2,.tmp 3]
 | some a =>
 rw [ha] at hca;refine g_ Tryz.func199 [.tmp 2,.tmp 3] fun g0 w0 gen g9 hfr e9 n8=>?_
 repeat' (first
  |refine cx2 (id:=2) (fun σ=>σ.tm 1=.ptr ⟨gen,0,0⟩ 0/\σ.h ⟨gen,0,0⟩=some (.box t.cells)/\m8 h σ.h/\((t.args.length:Int)==a&&decide (0<=t.index)&&(t.index==0||t.kind==1))=true) ?_ ?_
  |refine K8 ?_|refine P8 ?_|refine K7 ?_|refine C8 ?_|refine P7 ?_|refine B5 ?_|refine E4 ?_|refine B4 ?_
  |refine A8 (by decide) ?_|refine Y5 ?_|refine S2 ?_
  |(refine ⟨?_,?_⟩;focus ((repeat' (first|refine ⟨?_,?_⟩|refine .inr ?_));all_goals kernel_rfl))
  |refine K3 rfl ?_|refine K1 rfl ?_|(refine M6 rfl (fun hc=>?_) (fun hc=>?_)<;>(try rw [L1] at hc)<;>(try simp only [hc]))
  | ((first|refine D2 ?_|(refine A9 (fun hb=>?_) (fun hb=>?_)<;>(try simp only [E7,M9] at hb))|refine D3 ?_|refine y7 (hca) ?_|refine aC5 g9 (by first|exact hin _|simp only [go_sem,L6]) f_ ?_)<;>simp only [go_sem, *]))
 all_goals first
  | (clear ih' hca hct;rw [<- hv,Tm.V1];simp_all [L5,ad6];done)
  | (clear ih' hca hct;rw [<- hv,Tm.V1];clear hv hin;have hh:L5 t.kind t.index t.type t.args.length=false:=by { simp_all [L5];intros;omega };rw [hh];rfl)
  | (clear ih' hca hct;refine ⟨.new (.refl _) (e9 _ _),?_⟩;simp_all;done)
  | (clear ih' hca hct;refine ⟨.new (.refl _) (e9 _ _),?_⟩;simp_all;omega)
  | skip
 clear hca;intro σ ⟨j1,j2,j3,hd0⟩
 repeat' (first
  |(refine dm1 (t:=45) (fun σ=>σ.tm 1=.ptr ⟨gen,0,0⟩ 0/\σ.h ⟨gen,0,0⟩=some (.box t.cells)/\m8 h σ.h/\L5 t.kind t.index t.type t.args.length=true) rfl (fun hc=>?_) (fun hc=>?_) ?_<;>(try rw [L1] at hc)<;>(try simp only [hc]))
  |refine K8 ?_|refine P8 ?_|refine K7 ?_|refine C8 ?_|refine P7 ?_|refine B5 ?_|refine E4 ?_|refine B4 ?_
  |refine A8 (by decide) ?_|refine Y5 ?_|refine S2 ?_
  |(refine ⟨?_,?_⟩;focus ((repeat' (first|refine ⟨?_,?_⟩|refine .inr ?_));all_goals kernel_rfl))
  |refine K3 rfl ?_|refine K1 rfl ?_|(refine M6 rfl (fun hc=>?_) (fun hc=>?_)<;>(try rw [L1] at hc)<;>(try simp only [hc]))
  | ((first|refine D2 ?_|(refine A9 (fun hb=>?_) (fun hb=>?_)<;>(try simp only [E7,M9] at hb))|refine D3 ?_|refine y7 (hct) ?_|refine y7 (bY3 _) ?_|refine y7 (dp9 _) ?_|refine aC5 g9 (by first|exact hin _|simp only [go_sem,L6]) f_ ?_)<;>simp only [go_sem, *]))
 all_goals first
  | (clear ih' hct;rw [<- hv,Tm.V1];simp_all [L5,ad6];done)
  | (clear ih' hct;simp_all [L5];done)
  | skip
 clear hct j1 j2 j3 hd0;clear σ;intro σ ⟨j1,j2,j3,j4⟩;have hv':ad6 (Tm.A2 1 t.args)=v:=by rw [<- hv,Tm.V1,j4];simp
 clear hv;refine e_ ?_;refine E6 (fun i σ=>σ.tm 61=.int .i64 i/\σ.tm 60=.int .i64 t.args.length/\σ.tm 59=.sl .any (t.args.map Tm.cells) /\
  σ.h ⟨gen,0,0⟩=some (.box t.cells)/\m8 h σ.h/\∃ n,σ.tm 8=.int .i64 n/\ad6 (Tm.A2 n (t.args.drop i))=v) t.args.length ?_ ?_
 ·simp only [go_sem, *]
  exact ⟨rfl,_,rfl,hv'⟩
 clear j1 j2 j3 j4 hv';clear σ;intro i σ hi ⟨j1,j2,j3,j4,j5,n,j6,j7⟩;refine at5 (fun gn hgn=>?_);have hgf:=o0 hgn;have l6:∀ r i,h ⟨gn,r,i⟩=none:=fun r i=>F3 j5 (hgf r i);have e1:=ah8 hgn j4;have e2:=Z4 hgn j4;have hw:=E2 (i:=i) a_;clear hgn;rcases R0 i t.args.length with hlt|hge
 ·have hd:=Z5 hlt
  obtain ⟨x,hx⟩:∃ x,t.args[i]? = some x:=⟨_,W4 hlt⟩;rw [s9 hx] at j7;have hc:=ih' x (Q7 hx);clear ih';cases hn:x.nodes with
  | none =>
   rw [hn] at hc;rw [Tm.P3 hn] at j7;subst j7;exact i_
  | some k =>
   rw [hn] at hc;rw [Tm.H2 hn] at j7;refine e_ ?_;exact ⟨by repeat (first|assumption|refine m8.new ?_ (l6 _ _)),_,rfl,j7⟩
 ·have hd:=T5 hge
  obtain rfl:i=t.args.length:=by omega
  rw [y6,Tm.N1] at j7;subst j7;clear ih';exact i_
theorem cX3 (t:Fm) (ht:FmW t):c_ env 198 [.agg t.cells] (.bool (formed t.kind t.type t.a7.length t.args.length)):=by
 intro h;have hct:=aZ6 t.type ht.ty;generalize hv:formed t.kind t.type t.a7.length t.args.length=v;refine g_ Tryz.func198 [.tmp 2] fun g0 w0 gen g9 hfr e9 n8=>?_
 repeat' (first
  |refine bp6 (id:=0) (fun σ=>σ.tm 1=.ptr ⟨gen,0,0⟩ 0/\σ.h ⟨gen,0,0⟩=some (.box t.cells)/\m8 h σ.h/\∃ a b c,ap7 t.kind=some (a,b,c)/\σ.tm 3=.int .i64 a/\σ.tm 4=.int .i64 b/\σ.tm 5=.bool c) ?_ ?_
  |refine K8 ?_|refine P8 ?_|refine K7 ?_|refine C8 ?_|refine P7 ?_|refine B5 ?_|refine E4 ?_|refine B4 ?_
  |refine A8 (by decide) ?_|refine Y5 ?_|refine S2 ?_
  |(refine ⟨?_,?_⟩;focus ((repeat' (first|refine ⟨?_,?_⟩|refine .inr ?_));all_goals kernel_rfl))
  |refine K3 rfl ?_|refine K1 rfl ?_|(refine M6 rfl (fun hc=>?_) (fun hc=>?_)<;>(try rw [L1] at hc)<;>(try simp only [hc]))
  | ((first|refine D2 ?_|(refine A9 (fun hb=>?_) (fun hb=>?_)<;>(try simp only [E7,M9] at hb))|refine D3 ?_|refine aC5 g9 (by first|exact hin _|simp only [go_sem,L6]) f_ ?_)<;>simp only [go_sem, *]))
 all_goals first
  |exact ⟨.new (.refl _) (e9 _ _),_,_,_,rfl,rfl,rfl,rfl⟩
  | (clear hct;rw [<- hv];simp_all [formed,ap7];done)
  | skip
 intro σ ⟨j1,j2,j3,a,b,c,hw,j4,j5,j6⟩;have hv':((if c then ae5 t.type==0 else Z1 t.type)&&(t.a7.length:Int)==a&&(t.args.length:Int)==b)=v:=by rw [<- hv];simp [formed,hw]
 clear hv;cases c with
 | true =>
  repeat' (first
   |exact hin _|exact agf l_
   | (first|refine wp rfl ?_|refine spt rfl ?_|refine spf rfl ?_|(refine spl (fun hc=>?_) fun hc=>?_)<;>(try rw [L1] at hc)<;>try simp only [hc]|(refine gs (fun hb=>?_) fun hb=>?_)<;>try simp only [E7,M9] at hb|refine cp hct ?_|refine Y7 g9 ?_ ?_ ?_)<;>try simp only [go_sem, *])
  all_goals (clear hct;subst hv';simp_all;done)
 | false =>
  clear hct
  repeat' (first
   |exact hin _|exact agf l_
   | (first|refine wp rfl ?_|refine spt rfl ?_|refine spf rfl ?_|(refine spl (fun hc=>?_) fun hc=>?_)<;>(try rw [L1] at hc)<;>try simp only [hc]|(refine gs (fun hb=>?_) fun hb=>?_)<;>try simp only [E7,M9] at hb|refine cp (bY3 _) ?_|refine Y7 g9 ?_ ?_ ?_)<;>try simp only [go_sem, *])
  all_goals (subst hv';simp_all;done)
def bR3 (o:Option Int) (a:List Fm):Option Int:=match o with|none=>none|some n=>Fm.A2 n a
theorem cb6 (a:List Fm):bR3 none a=none:=rfl
theorem cb7 (n:Int) (a:List Fm):bR3 (some n) a=Fm.A2 n a:=rfl
theorem bu0:∀ t:Fm,FmW t->c_ env 161 [.agg t.cells] (ad6 t.nodes):=by
 intro t
 induction t using Fm.ind with|h t ih=>?_
 intro ht h;have hlen:=ht.len;have ao0:=ht.au6;have ih':∀ x∈t.args,c_ env 161 [.agg x.cells] (ad6 x.nodes):=fun x hx=>ih x hx (ht.arg hx);clear ih;have hin:∀ S,InV S (ad6 t.nodes):=fun S=>by cases t.nodes<;>simp [ad6,InV,InL]
 have hcf:=cX3 t ht;generalize hv:ad6 t.nodes=v at hin ⊢;cases hf:formed t.kind t.type t.a7.length t.args.length with
 | false =>
  rw [hf] at hcf;have hv':ad6 none=v:=by rw [<- hv,Fm.V1,hf];simp
  subst hv';clear ih' hv;exact d_ Tryz.func161 [.tmp 2,.tmp 3]
 | true =>
 rw [hf] at hcf;have hv':ad6 (bR3 (Tm.A2 1 t.a7) t.args)=v:=by rw [<- hv,Fm.V1,hf];rfl
 clear hv;refine g_ Tryz.func161 [.tmp 2,.tmp 3] fun g0 w0 gen g9 hfr e9 n8=>?_;refine e_ ?_;clear hcf;refine E6 (fun i σ=>σ.tm 1=.ptr ⟨gen,0,0⟩ 0/\σ.tm 19=.int .i64 i/\σ.tm 18=.int .i64 t.a7.length/\σ.tm 17=.sl .any (t.a7.map Tm.cells) /\
  σ.h ⟨gen,0,0⟩=some (.box t.cells)/\m8 h σ.h/\∃ n,σ.tm 4=.int .i64 n/\ad6 (bR3 (Tm.A2 n (t.a7.drop i)) t.args)=v) t.a7.length ?_ ?_
 ·simp only [go_sem, *]
  exact ⟨rfl,by repeat (first|exact m8.refl _|assumption|refine m8.new ?_ (e9 _ _)),_,rfl,hv'⟩
 clear hv';intro i σ hi ⟨j0,j1,j2,j3,j4,j5,n,j6,j7⟩;refine at5 (fun gn hgn=>?_);have hgf:=o0 hgn;have l6:∀ r i,h ⟨gn,r,i⟩=none:=fun r i=>F3 j5 (hgf r i);have e1:=ah8 hgn j4;have e2:=Z4 hgn j4;have hw:=E2 (i:=i) a_;clear hgn;rcases R0 i t.a7.length with hlt|hge
 ·have hd:=Z5 hlt
  obtain ⟨x,hx⟩:∃ x,t.a7[i]? = some x:=⟨_,W4 hlt⟩;rw [s9 hx] at j7;have hc:=bk7 x (ht.term (Q7 hx));clear ih';cases hn:x.nodes with
  | none =>
   rw [hn] at hc;rw [Tm.P3 hn,cb6] at j7;subst j7;exact i_
  | some k =>
   rw [hn] at hc;rw [Tm.H2 hn] at j7;refine e_ ?_;exact ⟨by repeat (first|assumption|refine m8.new ?_ (l6 _ _)),_,rfl,j7⟩
 have hd:=T5 hge;obtain rfl:i=t.a7.length:=by omega
 rw [y6,Tm.N1,cb7] at j7;have hv':=j7;clear j7;refine e_ ?_;refine E6 (fun i σ=>σ.tm 1=.ptr ⟨gen,0,0⟩ 0/\σ.tm 37=.int .i64 i/\σ.tm 36=.int .i64 t.args.length/\σ.tm 35=.sl .any (t.args.map Fm.cells) /\
  σ.h ⟨gen,0,0⟩=some (.box t.cells)/\m8 h σ.h/\∃ n,σ.tm 4=.int .i64 n/\ad6 (Fm.A2 n (t.args.drop i))=v) t.args.length ?_ ?_
 ·simp only [go_sem, *]
  exact ⟨rfl,_,rfl,hv'⟩
 clear j0 j1 j2 j3 j4 j5 j6 hv' hge hd hi e1 e2 hgf l6 hw;clear σ;intro i σ hi ⟨j0,j1,j2,j3,j4,j5,n,j6,j7⟩;refine at5 (fun gn hgn=>?_);have hgf:=o0 hgn;have l6:∀ r i,h ⟨gn,r,i⟩=none:=fun r i=>F3 j5 (hgf r i);have e1:=ah8 hgn j4;have e2:=Z4 hgn j4;have hw:=E2 (i:=i) a_;clear hgn;rcases R0 i t.args.length with hlt|hge
 ·have hd:=Z5 hlt
  obtain ⟨x,hx⟩:∃ x,t.args[i]? = some x:=⟨_,W4 hlt⟩;rw [s9 hx] at j7;have hc:=ih' x (Q7 hx);clear ih';cases hn:x.nodes with
  | none =>
   rw [hn] at hc;rw [Fm.P3 hn] at j7;subst j7;exact i_
  | some k =>
   rw [hn] at hc;rw [Fm.H2 hn] at j7;refine e_ ?_;exact ⟨by repeat (first|assumption|refine m8.new ?_ (l6 _ _)),_,rfl,j7⟩
 ·have hd:=T5 hge
  obtain rfl:i=t.args.length:=by omega
  rw [y6,Fm.N1] at j7;subst j7;clear ih';exact i_
theorem aN4 (t:Fm) (ht:FmW t):c_ env 100 [.agg t.cells] (two (chk 4096 t.nodes)):=by
 intro h;have hc:=bu0 t ht;have hin:∀ S,InV S (two (chk 4096 t.nodes)):=fun S=>by simp [two,InV,InL]
 cases hn:t.nodes with
 | none =>
  rw [hn] at hc hin;refine g_ Tryz.func100 [.tmp 2,.tmp 3] fun g0 w0 gen g9 hfr e9 n8=>?_
  first|refine e_ ?_|exact i_
  all_goals simp [two,chk]
 | some n =>
  rw [hn] at hc hin;refine g_ Tryz.func100 [.tmp 2,.tmp 3] fun g0 w0 gen g9 hfr e9 n8=>?_
  repeat' (first
   |exact hin _|exact agf l_
   | (first|refine wp rfl ?_|refine spt rfl ?_|refine spf rfl ?_|(refine spl (fun hc=>?_) fun hc=>?_)<;>(try rw [L1] at hc)<;>try simp only [hc]|refine cp hc ?_|refine Y7 g9 ?_ ?_ ?_)<;>try simp only [go_sem, *])
  all_goals (try simp only [aW3,bV0] at *)
  all_goals first|(have hcn:¬ 4096<n:=by omega);simp [two,chk,hcn]|(have hcn:4096<n:=by omega);simp [two,chk,hcn]
theorem ax1 (t:Fm) (ht:FmW t):c_ env 60 [.agg t.cells] (.int .i64 (Q0 t)):=by
 intro h;have hc:=aN4 t ht;unfold two at hc;refine g_ Tryz.func60 [.tmp 2] fun g0 w0 gen g9 hfr e9 n8=>?_
 first|refine e_ ?_|exact i_
 all_goals simp [Q0]
theorem bf4 (t:Ty):c_ env 127 [.agg t.cells] (.bool (Z1 t)):=by
 intro h;unfold Z1;cases hk:(t.kind==0) with
 | true =>
  refine g_ Tryz.func127 [.tmp 2] fun g0 w0 gen g9 hfr e9 n8=>?_
  first|refine e_ ?_|exact i_
  all_goals simp
 | false =>
  refine g_ Tryz.func127 [.tmp 2] fun g0 w0 gen g9 hfr e9 n8=>?_
  first|refine e_ ?_|exact i_
  all_goals simp
theorem cm8:∀ t:Ty,TyW t->c_ env 116 [.agg t.cells] (.bool t.J4):=by
 intro t
 induction t using Ty.ind with|h t ih=>?_
 intro ht h;have hlen:=ht.len;have ih':∀ x∈t.args,c_ env 116 [.agg x.cells] (.bool x.J4):=fun x hx=>ih x hx (ht.arg hx);clear ih;have hv0:=t.aq6.symm;generalize hvv:t.J4=v at hv0 ⊢;clear hvv;refine g_ Tryz.func116 [.tmp 2] fun g0 w0 gen g9 hfr e9 n8=>?_
 repeat' (first
  |refine bp6 (id:=0) (fun σ=>σ.tm 1=.ptr ⟨gen,0,0⟩ 0/\σ.h ⟨gen,0,0⟩=some (.box t.cells)/\m8 h σ.h/\∃ w,au8 t.kind=some w/\σ.tm 3=.int .i64 w) ?_ ?_
  |refine K8 ?_|refine P8 ?_|refine K7 ?_|refine C8 ?_|refine P7 ?_|refine B5 ?_|refine E4 ?_|refine B4 ?_
  |refine A8 (by decide) ?_|refine Y5 ?_|refine S2 ?_
  |(refine ⟨?_,?_⟩;focus ((repeat' (first|refine ⟨?_,?_⟩|refine .inr ?_));all_goals kernel_rfl))
  |refine K3 rfl ?_|refine K1 rfl ?_|(refine M6 rfl (fun hc=>?_) (fun hc=>?_)<;>(try rw [L1] at hc)<;>(try simp only [hc]))
  | ((first|refine D2 ?_|(refine A9 (fun hb=>?_) (fun hb=>?_)<;>(try simp only [E7,M9] at hb))|refine D3 ?_|refine aC5 g9 (by first|exact hin _|simp only [go_sem,L6]) f_ ?_)<;>simp only [go_sem, *]))
 ·exact ⟨.new (.refl _) (e9 _ _),0,rfl,rfl⟩
 ·exact ⟨.new (.refl _) (e9 _ _),0,rfl,rfl⟩
 ·exact ⟨.new (.refl _) (e9 _ _),0,rfl,rfl⟩
 ·exact ⟨.new (.refl _) (e9 _ _),2,rfl,rfl⟩
 ·exact ⟨.new (.refl _) (e9 _ _),2,rfl,rfl⟩
 ·rw [<- hv0];simp [au8, *]
 intro σ ⟨j1,j2,j3,w,j4,j5⟩;rw [j4] at hv0;simp only at hv0;clear j4;cases hw:((t.args.length:Int)==w) with
 | false =>
  have hw':((t.args.length:Int) != w)=true:=by simp [bne,hw]
  rw [hw,J6] at hv0;subst hv0;clear hw ih';exact i_
 | true =>
  have hw':((t.args.length:Int) != w)=false:=by simp [bne,hw]
  rw [hw,J7] at hv0;clear hw;refine e_ ?_;refine k_ [21] [] (fun i σ=>(t.args.drop i).all Ty.J4=v) (t.args) ?_ ?_ ?_
  ·simp only [go_sem, *]
   all_goals exact hv0
  ·clear hv0 hw' j5
   intro i x σ gr0 o5 hgf l6 l9 m6 hx hxm hm hlt jI jN jT jA jv;rw [s9 hx,aQ7] at jv;have hc:=ih' x hxm;clear ih';cases hn:x.J4 with
   | false =>
    rw [hn] at hc;rw [hn,J6] at jv;subst jv;exact i_
   | true =>
    rw [hn] at hc;rw [hn,J7] at jv;refine e_ ?_
    first|exact f_|exact ⟨f_,jv⟩
  ·clear hv0 hw' j5
   intro σ ga0 q9 hgf l6 l8 m5 jT jA jv;rw [y6,aQ9] at jv;subst jv;clear ih';exact i_
theorem cK3:∀ t:Ty,TyW t->c_ env 117 [.agg t.cells] (.int .i64 t.szW):=by
 intro t
 induction t using Ty.ind with|h t ih=>?_
 intro ht h;have hlen:=ht.len;have ih':∀ x∈t.args,c_ env 117 [.agg x.cells] (.int .i64 x.szW):=fun x hx=>ih x hx (ht.arg hx);clear ih;have hv0:=t.aY7.symm;generalize hvv:t.szW=v at hv0 ⊢;clear hvv;refine g_ Tryz.func117 [.tmp 2] fun g0 w0 gen g9 hfr e9 n8=>?_;refine e_ ?_;refine k_ [2,7] [] (fun i σ=>∃ n,σ.tm 3=.int .i64 n/\Ty.Q6 n (t.args.drop i)=v) (t.args) ?_ ?_ ?_
 ·simp only [go_sem, *]
  exact ⟨f_,_,rfl,hv0⟩
 ·clear hv0
  intro i x σ gr0 o5 hgf l6 l9 m6 hx hxm hm hlt jI jN jT jA ⟨n,jn,jv⟩;rw [s9 hx,Ty.U7] at jv;have hc:=ih' x hxm;clear ih';refine e_ ?_;exact ⟨f_,_,rfl,jv⟩
 ·clear hv0
  intro σ ga0 q9 hgf l6 l8 m5 jT jA ⟨n,jn,jv⟩;rw [y6,Ty.aa1] at jv;subst jv;clear ih';exact i_
theorem ab0 (t:Ty) (ht:TyW t):c_ env 67 [.agg t.cells] (.int .i64 (ae5 t)):=by
 intro h;have h1:=cm8 t ht;have h2:=cK3 t ht;have hsz:=t.aa2;have hv0:(chk 64 t.nodes).2=ae5 t:=rfl;generalize hvv:ae5 t=v at hv0 ⊢;clear hvv;unfold Ty.J4 at h1;cases hn:t.nodes with
 | none =>
  rw [hn] at h1 hv0;simp only [chk,bV4] at h1 hv0;subst hv0;clear h2 hsz;exact d_ Tryz.func67 [.tmp 2]
 | some n =>
  rw [hsz n hn] at h2;rw [hn] at h1 hv0;simp only [chk,bV3] at h1 hv0;clear hsz hn;cases hd:decide (n>64) with
  | true =>
   have:64<n:=by simpa using hd
   rw [B8 this] at hv0;subst hv0;exact d_ Tryz.func67 [.tmp 2]
  | false =>
   have:¬ 64<n:=by simpa using hd
   rw [y9 this] at hv0;subst hv0;exact d_ Tryz.func67 [.tmp 2]
theorem cK2 (k:Int):c_ env 180 [.int .i64 k] (.int .i64 (aw3 k)):=by
 intro h;have hv0:aw3 k=aw3 k:=rfl;generalize hvv:aw3 k=v at hv0 ⊢;clear hv0;refine g_ Tryz.func180 [.tmp 2] fun g0 w0 gen g9 hfr e9 n8=>?_
 repeat' (first
  |exact hin _|exact agf l_
  | (first|refine wp rfl ?_|refine spt rfl ?_|refine spf rfl ?_|(refine spl (fun hc=>?_) fun hc=>?_)<;>(try rw [L1] at hc)<;>try simp only [hc]|refine Y7 g9 ?_ ?_ ?_)<;>try simp only [go_sem, *])
 all_goals (rw [<- hvv];first|(simp_all [aw3];done)|rfl)
theorem bf7:∀ t:Tm,TmW t->c_ env 128 [.agg t.cells] (.bool t.J4):=by
 intro t
 induction t using Tm.ind with|h t ih=>?_
 intro ht h;have hlen:=ht.len;have ih':∀ x∈t.args,c_ env 128 [.agg x.cells] (.bool x.J4):=fun x hx=>ih x hx (ht.arg hx);clear ih;have hA:=cK2 t.kind;have hZ:=bf4 t.type;have hC:=ab0 t.type ht.ty;have hv0:=t.aq6.symm;rw [cv4] at hv0;generalize hvv:t.J4=v at hv0 ⊢;clear hvv;cases h1:((t.args.length:Int) != aw3 t.kind) with
 | true =>
  simp only [h1,E7,J6] at hv0;subst hv0;clear ih' hZ hC;exact d_ Tryz.func128 [.tmp 2]
 | false =>
 cases h2:decide (t.index<0) with
 | true =>
  simp only [h2,E7,aG6,J6] at hv0;subst hv0;clear ih' hZ hC;exact d_ Tryz.func128 [.tmp 2]
 | false =>
 have hv1:(!(t.kind != 1&&t.index != 0)&&(if typed t.kind then ae5 t.type==0 else Z1 t.type)&&t.args.all Tm.J4)=v:=by simpa [h1,h2] using hv0
 clear hv0;refine g_ Tryz.func128 [.tmp 2] fun g0 w0 gen g9 hfr e9 n8=>?_
 repeat' (first
  |refine cx2 (id:=1) (fun σ=>σ.tm 1=.ptr ⟨gen,0,0⟩ 0/\σ.h ⟨gen,0,0⟩=some (.box t.cells)/\m8 h σ.h/\((if typed t.kind then ae5 t.type==0 else Z1 t.type)&&t.args.all Tm.J4)=v) ?_ ?_
  |refine K8 ?_|refine P8 ?_|refine K7 ?_|refine C8 ?_|refine P7 ?_|refine B5 ?_|refine E4 ?_|refine B4 ?_
  |refine A8 (by decide) ?_|refine Y5 ?_|refine S2 ?_
  |(refine ⟨?_,?_⟩;focus ((repeat' (first|refine ⟨?_,?_⟩|refine .inr ?_));all_goals kernel_rfl))
  |refine K3 rfl ?_|refine K1 rfl ?_|(refine M6 rfl (fun hc=>?_) (fun hc=>?_)<;>(try rw [L1] at hc)<;>(try simp only [hc]))
  | ((first|refine D2 ?_|(refine A9 (fun hb=>?_) (fun hb=>?_)<;>(try simp only [E7,M9] at hb))|refine D3 ?_|refine y7 (hA) ?_|refine aC5 g9 (by first|exact hin _|simp only [go_sem,L6]) f_ ?_)<;>simp only [go_sem, *]))
 rotate_right
 ·intro σ ⟨j1,j2,j3,hv2⟩
  clear h1 h2 hv1 hA
  repeat' (first
   |refine bp6 (id:=0) (fun σ=>σ.tm 1=.ptr ⟨gen,0,0⟩ 0/\σ.h ⟨gen,0,0⟩=some (.box t.cells)/\m8 h σ.h/\t.args.all Tm.J4=v) ?_ ?_
   |refine K8 ?_|refine P8 ?_|refine K7 ?_|refine C8 ?_|refine P7 ?_|refine B5 ?_|refine E4 ?_|refine B4 ?_
   |refine A8 (by decide) ?_|refine Y5 ?_|refine S2 ?_
   |(refine ⟨?_,?_⟩;focus ((repeat' (first|refine ⟨?_,?_⟩|refine .inr ?_));all_goals kernel_rfl))
   |refine K3 rfl ?_|refine K1 rfl ?_|(refine M6 rfl (fun hc=>?_) (fun hc=>?_)<;>(try rw [L1] at hc)<;>(try simp only [hc]))
   | ((first|refine D2 ?_|(refine A9 (fun hb=>?_) (fun hb=>?_)<;>(try simp only [E7,M9] at hb))|refine D3 ?_|refine y7 (hZ) ?_|refine y7 (hC) ?_|refine aC5 g9 (by first|exact hin _|simp only [go_sem,L6]) f_ ?_)<;>simp only [go_sem, *]))
  rotate_right
  ·intro σ ⟨j1,j2,j3,hv3⟩
   clear hZ hC hv2;refine e_ ?_;refine k_ [42] [] (fun i σ=>(t.args.drop i).all Tm.J4=v) (t.args) ?_ ?_ ?_
   ·simp only [go_sem, *]
    all_goals exact hv3
   ·clear hv3
    intro i x σ gr0 o5 hgf l6 l9 m6 hx hxm hm hlt jI jN jT jA jv;rw [s9 hx,aQ7] at jv;have hc:=ih' x hxm;clear ih';cases hn:x.J4 with
    | false =>
     rw [hn] at hc;rw [hn,J6] at jv;subst jv;exact i_
    | true =>
     rw [hn] at hc;rw [hn,J7] at jv;refine e_ ?_
     first|exact f_|exact ⟨f_,jv⟩
   ·clear hv3
    intro σ ga0 q9 hgf l6 l8 m5 jT jA jv;rw [y6,aQ9] at jv;subst jv;clear ih'
    first|refine e_ ?_|exact i_
  all_goals (clear ih' hZ hC;subst hv2;simp_all [typed,bne];done)
 all_goals (clear ih' hZ hC hA;subst hv1;first|(simp_all [typed,bne];done)|exact ⟨f_,by simp_all [typed,bne]⟩)
theorem I0 {a b:Int} {r:Bool} (h:(a==b)=r):(a != b)=!r:=by simp [bne,h]
theorem bn6:∀ {l l':List Ty},Ty.A5 l l'=true->l.length=l'.length
 | [],[],_=>rfl
 | a::l,b::l',h=>by simp only [Ty.A5,A3] at h;simp [bn6 h.2]
 | [],_::_,h=>by simp [Ty.A5] at h
 | _::_,[],h=>by simp [Ty.A5] at h
theorem bn5:∀ {l l':List Tm},Tm.A5 l l'=true->l.length=l'.length
 | [],[],_=>rfl
 | a::l,b::l',h=>by simp only [Tm.A5,A3] at h;simp [bn5 h.2]
 | [],_::_,h=>by simp [Tm.A5] at h
 | _::_,[],h=>by simp [Tm.A5] at h
theorem bn4:∀ {l l':List Fm},Fm.A5 l l'=true->l.length=l'.length
 | [],[],_=>rfl
 | a::l,b::l',h=>by simp only [Fm.A5,A3] at h;simp [bn4 h.2]
 | [],_::_,h=>by simp [Fm.A5] at h
 | _::_,[],h=>by simp [Fm.A5] at h
theorem cu3 {l l':List Ty} (h:((l.length:Int)==(l'.length:Int))=false):Ty.A5 l l'=false:=by
 cases e:Ty.A5 l l' with
 | true=>rw [bn6 e] at h;simp at h
 | false=>rfl
theorem aY6 {l l':List Tm} (h:((l.length:Int)==(l'.length:Int))=false):Tm.A5 l l'=false:=by
 cases e:Tm.A5 l l' with
 | true=>rw [bn5 e] at h;simp at h
 | false=>rfl
theorem cu2 {l l':List Fm} (h:((l.length:Int)==(l'.length:Int))=false):Fm.A5 l l'=false:=by
 cases e:Fm.A5 l l' with
 | true=>rw [bn4 e] at h;simp at h
 | false=>rfl
theorem aO8 {α β:Type} {l:List α} {l':List β} (h:((l.length:Int)==(l'.length:Int))=true):∀ (i:Nat) (x:α),l[i]? = some x->∃ y,l'[i]? = some y:=by
 intro i x hx;have:=(F2.1 hx).1;simp at h;exact ⟨_,W4 a_⟩
theorem aH6:∀ a:Ty,TyW a->∀ b:Ty,TyW b->c_ env 236 [.agg a.cells,.agg b.cells] (.bool (Ty.same a b)):=by
 intro a
 induction a using Ty.ind with|h a ih=>?_
 intro ha b hb h;have hlen:=ha.len;have ih':∀ x∈a.args,∀ y∈b.args,c_ env 236 [.agg x.cells,.agg y.cells] (.bool (Ty.same x y)):=fun x hx y hy=>ih x hx (ha.arg hx) y (hb.arg hy);clear ih ha hb;have hse:=(Ty.aw6 a b).symm;generalize Ty.same a b=v at hse ⊢;cases k1:(a.kind==b.kind) with
 | false =>
  rw [k1] at hse;simp only [J6] at hse;subst hse;have k1':=I0 k1;clear k1 ih';exact d_ Tryz.func236 [.tmp 4]
 | true =>
 have k1':=I0 k1;cases k2:((a.args.length:Int)==(b.args.length:Int)) with
 | false =>
  rw [k1,cu3 k2] at hse;simp only [aG6] at hse;subst hse;have k2':=I0 k2;clear k1 k2 ih';exact d_ Tryz.func236 [.tmp 4]
 | true =>
  have k2':=I0 k2;have ad5:=aO8 k2;rw [k1] at hse;simp only [J7] at hse;have hln:a.args.length<=b.args.length/\b.args.length<=a.args.length:=by simp at k2;omega
  clear k1 k2;simp only [E7] at k1' k2';refine g_ Tryz.func236 [.tmp 4] fun g0 w0 gen g9 hfr e9 n8=>?_;refine e_ ?_;refine k_ [3,22] [⟨gen,0,1⟩] (fun i σ=>Ty.A5 (a.args.drop i) (b.args.drop i)=v) (a.args) ?_ ?_ ?_
  ·simp only [go_sem, *]
   first|done|exact f_|exact ⟨f_,hse⟩|exact hse
  ·clear hse
   intro i x σ gr0 o5 hgf l6 l9 m6 hx hxm hm hlt jI jN jT jA jv;obtain ⟨y,hy⟩:=ad5 i x hx;rw [s9 hx,s9 hy,Ty.A5] at jv;have hc:=ih' x hxm y (Q7 hy);clear ih' ad5;cases hxy:Ty.same x y with
   | false =>
    rw [hxy] at hc jv;simp only [J6] at jv;subst jv;exact i_
   | true =>
    rw [hxy] at hc jv;simp only [J7] at jv;refine e_ ?_
    first|done|exact f_|exact ⟨f_,jv⟩|exact jv
  ·clear hse
   intro σ ga0 q9 hgf l6 l8 m5 jT jA jv;have hq:a.args.length=b.args.length:=by omega
   rw [y6,hq,y6,Ty.A5] at jv;subst jv;clear ih' ad5 hq hln;exact i_
theorem cl6:∀ a:Tm,TmW a->∀ b:Tm,TmW b->c_ env 237 [.agg a.cells,.agg b.cells] (.bool (Tm.same a b)):=by
 intro a
 induction a using Tm.ind with|h a ih=>?_
 intro ha b hb h;have hlen:=ha.len;have ih':∀ x∈a.args,∀ y∈b.args,c_ env 237 [.agg x.cells,.agg y.cells] (.bool (Tm.same x y)):=fun x hx y hy=>ih x hx (ha.arg hx) y (hb.arg hy);have hT:=aH6 a.type ha.ty b.type hb.ty;clear ih ha hb;have hse:=(Tm.aw6 a b).symm;generalize Tm.same a b=v at hse ⊢;cases k1:(a.kind==b.kind) with
 | false =>
  rw [k1] at hse;simp only [J6] at hse;subst hse;have k1':=I0 k1;clear k1 ih';exact d_ Tryz.func237 [.tmp 4]
 | true =>
 have k1':=I0 k1;rw [k1] at hse;simp only [J7] at hse;cases k3:(a.index==b.index) with
 | false =>
  rw [k3] at hse;simp only [J6] at hse;subst hse;have k3':=I0 k3;clear k1 k3 ih';exact d_ Tryz.func237 [.tmp 4]
 | true =>
 have k3':=I0 k3;rw [k3] at hse;simp only [J7] at hse;cases k4:Ty.same a.type b.type with
 | false =>
  rw [k4] at hse hT;simp only [J6] at hse;subst hse;clear k1 k3 k4 ih';exact d_ Tryz.func237 [.tmp 4]
 | true =>
 rw [k4] at hse hT;simp only [J7] at hse;clear k1 k3 k4;cases k2:((a.args.length:Int)==(b.args.length:Int)) with
 | false =>
  rw [aY6 k2] at hse;subst hse;have k2':=I0 k2;clear k2 ih';exact d_ Tryz.func237 [.tmp 4]
 | true =>
  have k2':=I0 k2;have ad5:=aO8 k2;have hln:a.args.length<=b.args.length/\b.args.length<=a.args.length:=by simp at k2;omega
  clear k2;simp only [E7] at k1' k2' k3';refine g_ Tryz.func237 [.tmp 4] fun g0 w0 gen g9 hfr e9 n8=>?_;refine e_ ?_;refine k_ [3,37] [⟨gen,0,1⟩] (fun i σ=>Tm.A5 (a.args.drop i) (b.args.drop i)=v) (a.args) ?_ ?_ ?_
  ·simp only [go_sem, *]
   first|done|exact f_|exact ⟨f_,hse⟩|exact hse
  ·clear hse
   intro i x σ gr0 o5 hgf l6 l9 m6 hx hxm hm hlt jI jN jT jA jv;obtain ⟨y,hy⟩:=ad5 i x hx;rw [s9 hx,s9 hy,Tm.A5] at jv;have hc:=ih' x hxm y (Q7 hy);clear ih' ad5;cases hxy:Tm.same x y with
   | false =>
    rw [hxy] at hc jv;simp only [J6] at jv;subst jv;exact i_
   | true =>
    rw [hxy] at hc jv;simp only [J7] at jv;refine e_ ?_
    first|done|exact f_|exact ⟨f_,jv⟩|exact jv
  ·clear hse
   intro σ ga0 q9 hgf l6 l8 m5 jT jA jv;have hq:a.args.length=b.args.length:=by omega
   rw [y6,hq,y6,Tm.A5] at jv;subst jv;clear ih' ad5 hq hln;exact i_
theorem aV1:∀ a:Fm,FmW a->∀ b:Fm,FmW b->c_ env 218 [.agg a.cells,.agg b.cells] (.bool (Fm.same a b)):=by
 intro a
 induction a using Fm.ind with|h a ih=>?_
 intro ha b hb h;have hlen:=ha.len;have cd6:=ha.au6;have ih':∀ x∈a.args,∀ y∈b.args,c_ env 218 [.agg x.cells,.agg y.cells] (.bool (Fm.same x y)):=fun x hx y hy=>ih x hx (ha.arg hx) y (hb.arg hy);have hT:=aH6 a.type ha.ty b.type hb.ty;have ht':∀ x∈a.a7,∀ y∈b.a7,c_ env 237 [.agg x.cells,.agg y.cells] (.bool (Tm.same x y)):=fun x hx y hy=>cl6 x (ha.term hx) y (hb.term hy);clear ih ha hb;have hse:=(Fm.aw6 a b).symm;generalize Fm.same a b=v at hse ⊢;cases k1:(a.kind==b.kind) with
 | false =>
  rw [k1] at hse;simp only [J6] at hse;subst hse;have k1':=I0 k1;clear k1 ih' ht';exact d_ Tryz.func218 [.tmp 4]
 | true =>
 have k1':=I0 k1;rw [k1] at hse;simp only [J7] at hse;cases k4:Ty.same a.type b.type with
 | false =>
  rw [k4] at hse hT;simp only [J6] at hse;subst hse;clear k1 k4 ih' ht';exact d_ Tryz.func218 [.tmp 4]
 | true =>
 rw [k4] at hse hT;simp only [J7] at hse;clear k1 k4;cases k3:((a.a7.length:Int)==(b.a7.length:Int)) with
 | false =>
  rw [aY6 k3] at hse;simp only [J6] at hse;subst hse;have k3':=I0 k3;clear k3 ih' ht';exact d_ Tryz.func218 [.tmp 4]
 | true =>
 have k3':=I0 k3;have cB0:=aO8 k3;have dX0:a.a7.length<=b.a7.length/\b.a7.length<=a.a7.length:=by simp at k3;omega
 clear k3;cases k2:((a.args.length:Int)==(b.args.length:Int)) with
 | false =>
  rw [cu2 k2] at hse;simp only [aG6] at hse;subst hse;have k2':=I0 k2;clear k2 ih' ht' cB0 dX0;exact d_ Tryz.func218 [.tmp 4]
 | true =>
  have k2':=I0 k2;have ad5:=aO8 k2;have hln:a.args.length<=b.args.length/\b.args.length<=a.args.length:=by simp at k2;omega
  clear k2;simp only [E7] at k1' k2' k3';refine g_ Tryz.func218 [.tmp 4] fun g0 w0 gen g9 hfr e9 n8=>?_;refine e_ ?_;refine k_ [2,3,41] [⟨gen,0,0⟩,⟨gen,0,1⟩] (fun i σ=>(Tm.A5 (a.a7.drop i) (b.a7.drop i)&&Fm.A5 a.args b.args)=v) (a.a7) ?_ ?_ ?_
  ·simp only [go_sem, *]
   first|done|exact f_|exact ⟨f_,hse⟩|exact hse
  ·clear hse ih' ad5
   intro i x σ gr0 o5 hgf l6 l9 m6 hx hxm hm hlt jI jN jT jA jv;obtain ⟨y,hy⟩:=cB0 i x hx;rw [s9 hx,s9 hy,Tm.A5] at jv;have hc:=ht' x hxm y (Q7 hy);clear ht' cB0;cases hxy:Tm.same x y with
   | false =>
    rw [hxy] at hc jv;simp only [J6] at jv;subst jv;exact i_
   | true =>
    rw [hxy] at hc jv;simp only [J7] at jv;refine e_ ?_
    first|done|exact f_|exact ⟨f_,jv⟩|exact jv
  clear hse ht' cB0;intro σ ga0 q9 hgf l6 l8 m5 jT jA jv0;have hq:a.a7.length=b.a7.length:=by omega
  rw [y6,hq,y6,Tm.A5] at jv0;simp only [J7] at jv0;clear hq dX0;refine e_ ?_;refine k_ [3,58] [⟨gen,0,1⟩] (fun i σ=>Fm.A5 (a.args.drop i) (b.args.drop i)=v) (a.args) ?_ ?_ ?_
  ·simp only [go_sem, *]
   first|done|exact f_|exact ⟨f_,jv0⟩|exact jv0
  ·clear jv0
   intro i x σ gr1 I2 hgf l6 C1 C6 hx hxm hm hlt jI jN jT jA jv;have z7:=o7 (show gen<gr1 by omega);have z9:=n6 (show gen<gr1 by omega);obtain ⟨y,hy⟩:=ad5 i x hx;rw [s9 hx,s9 hy,Fm.A5] at jv;have hc:=ih' x hxm y (Q7 hy);clear ih' ad5;cases hxy:Fm.same x y with
   | false =>
    rw [hxy] at hc jv;simp only [J6] at jv;subst jv;exact i_
   | true =>
    rw [hxy] at hc jv;simp only [J7] at jv;refine e_ ?_
    first|done|exact f_|exact ⟨f_,jv⟩|exact jv
  ·clear jv0
   intro σ ga1 I1 hgf l6 C0 C5 jT jA jv;have z6:=o7 (show gen<ga1 by omega);have z8:=n6 (show gen<ga1 by omega);have hq:a.args.length=b.args.length:=by omega
   rw [y6,hq,y6,Fm.A5] at jv;subst jv;clear ih' ad5 hq hln;exact i_
theorem al4 (g l:List Ty) (hg:g.length<=1000) (hl:l.length<=1000) :
  c_ env 71 [.sl .any (g.map Ty.cells),.sl .any (l.map Ty.cells)] (.sl .any ((g++l).map Ty.cells)):=by
 intro h;have b1:g.length * 32<=140737488355328:=by omega
 have b2:g.length<=140737488355328:=by omega
 have b3:(g.length+l.length) * 32<=140737488355328:=by omega
 have b4:g.length+l.length<=140737488355328:=by omega
 have z:0+g.length=g.length:=by omega
 refine g_ Tryz.func71 [.tmp 4] fun g0 w0 gen g9 hfr e9 n8=>?_
 first|refine e_ ?_|exact i_
 all_goals (rw [<- U0,F4])
theorem M3:∀ t:Tm,TmW t->c_ env 181 [.agg t.cells] (.int .i64 t.szW):=by
 intro t
 induction t using Tm.ind with|h t ih=>?_
 intro ht h;have hlen:=ht.len;have ih':∀ x∈t.args,c_ env 181 [.agg x.cells] (.int .i64 x.szW):=fun x hx=>ih x hx (ht.arg hx);clear ih;have hv0:=t.aY7.symm;generalize hvv:t.szW=v at hv0 ⊢;clear hvv;refine g_ Tryz.func181 [.tmp 2] fun g0 w0 gen g9 hfr e9 n8=>?_;refine e_ ?_;refine k_ [2,7] [] (fun i σ=>∃ n,σ.tm 3=.int .i64 n/\Tm.Q6 n (t.args.drop i)=v) (t.args) ?_ ?_ ?_
 ·simp only [go_sem, *]
  exact ⟨f_,_,rfl,hv0⟩
 ·clear hv0
  intro i x σ gr0 o5 hgf l6 l9 m6 hx hxm hm hlt jI jN jT jA ⟨n,jn,jv⟩;rw [s9 hx,Tm.U7] at jv;have hc:=ih' x hxm;clear ih';refine e_ ?_;exact ⟨f_,_,rfl,jv⟩
 ·clear hv0
  intro σ ga0 q9 hgf l6 l8 m5 jT jA ⟨n,jn,jv⟩;rw [y6,Tm.aa1] at jv;subst jv;clear ih';exact i_
theorem ag6 (t:Tm) (ht:TmW t):c_ env 179 [.agg t.cells] (.int .i64 (ag1 t)):=by
 intro h;have h1:=bf7 t ht;have h2:=M3 t ht;have hsz:=t.aa2;have hv0:(chk 4096 t.nodes).2=ag1 t:=rfl;generalize hvv:ag1 t=v at hv0 ⊢;clear hvv;unfold Tm.J4 at h1;cases hn:t.nodes with
 | none =>
  rw [hn] at h1 hv0;simp only [chk,bV4] at h1 hv0;subst hv0;clear h2 hsz;exact d_ Tryz.func179 [.tmp 2]
 | some n =>
  rw [hsz n hn] at h2;rw [hn] at h1 hv0;simp only [chk,bV3] at h1 hv0;clear hsz hn;cases hd:decide (n>4096) with
  | true =>
   have:4096<n:=by simpa using hd
   rw [B8 this] at hv0;subst hv0;exact d_ Tryz.func179 [.tmp 2]
  | false =>
   have:¬ 4096<n:=by simpa using hd
   rw [y9 this] at hv0;subst hv0;exact d_ Tryz.func179 [.tmp 2]
theorem bq2 (k:Int):c_ env 122 [.int .i64 k] (.bool (X8 k)):=by
 intro h;have hvv:X8 k=X8 k:=rfl;generalize hvv:X8 k=v;refine g_ Tryz.func122 [.tmp 2] fun g0 w0 gen g9 hfr e9 n8=>?_
 repeat' (first
  |exact hin _|exact agf l_
  | (first|refine wp rfl ?_|(refine gs (fun hb=>?_) fun hb=>?_)<;>try simp only [E7,M9] at hb|refine Y7 g9 ?_ ?_ ?_)<;>try simp only [go_sem, *])
 all_goals (rw [<- hvv];simp_all [X8])
theorem aS2:∀ t:Fm,FmW t->c_ env 145 [.agg t.cells] (.int .i64 t.szW):=by
 intro t
 induction t using Fm.ind with|h t ih=>?_
 intro ht h;have hlen:=ht.len;have ao0:=ht.au6;have ih':∀ x∈t.args,c_ env 145 [.agg x.cells] (.int .i64 x.szW):=fun x hx=>ih x hx (ht.arg hx);clear ih;have hv0:=t.aY7.symm;generalize hvv:t.szW=v at hv0 ⊢;clear hvv;refine g_ Tryz.func145 [.tmp 2] fun g0 w0 gen g9 hfr e9 n8=>?_;refine e_ ?_;refine k_ [1,2,9] [⟨gen,0,0⟩] (fun i σ=>∃ n,σ.tm 3=.int .i64 n/\Fm.Q6 (Tm.Q6 n (t.a7.drop i)) t.args=v) (t.a7) ?_ ?_ ?_
 ·simp only [go_sem, *]
  exact ⟨f_,_,rfl,hv0⟩
 ·clear hv0 ih'
  intro i x σ gr0 o5 hgf l6 l9 m6 hx hxm hm hlt jI jN jT jA ⟨n,jn,jv⟩;rw [s9 hx,Tm.U7] at jv;have hc:=M3 x (ht.term hxm);refine e_ ?_;exact ⟨f_,_,rfl,jv⟩
 clear hv0;intro σ ga0 q9 hgf l6 l8 m5 jT jA ⟨n,jn,jv⟩;rw [y6,Tm.aa1] at jv;refine e_ ?_;refine k_ [2,21] [] (fun i σ=>∃ n,σ.tm 3=.int .i64 n/\Fm.Q6 n (t.args.drop i)=v) (t.args) ?_ ?_ ?_
 ·simp only [go_sem, *]
  first|exact ⟨_,rfl,jv⟩|exact ⟨f_,_,rfl,jv⟩
 ·clear jv
  intro i x σ gr1 I2 hgf l6 C1 C6 hx hxm hm hlt jI jN jT jA ⟨n',jn',jv⟩;have z7:=o7 (show gen<gr1 by omega);have z9:=n6 (show gen<gr1 by omega);rw [s9 hx,Fm.U7] at jv;have hc:=ih' x hxm;clear ih';refine e_ ?_;exact ⟨f_,_,rfl,jv⟩
 ·clear jv
  intro σ ga1 I1 hgf l6 C0 C5 jT jA ⟨n',jn',jv⟩;have z6:=o7 (show gen<ga1 by omega);have z8:=n6 (show gen<ga1 by omega);rw [y6,Fm.aa1] at jv;subst jv;clear ih';exact i_
end Go.Proofs.YtmfhhhhnokhggaaGreatDoor
