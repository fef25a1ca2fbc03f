/-
 Walks: several parts in one text.
-/
import Derived.Test.YtmfhhhhnokhggaaGreatDoorKI
import Derived.Test.YtmfhhhhnokhggaaGreatDoorKH
import Derived.Test.YtmfhhhhnokhggaaGreatDoorKC
set_option linter.unusedSimpArgs false
set_option linter.unusedVariables false
set_option maxRecDepth 20000
set_option maxHeartbeats 4000000
namespace Go.Proofs.YtmfhhhhnokhggaaGreatDoor
open Go GoAbs Go.Proofs
theorem dp6 (l:List Int) (hl:l.length<=1000):∀ n:Nat,aR5 l n:=by
 intro n
 induction n with
 | zero=>intro g hs a c;exact cW6 l hl a c
 | succ n ih =>
  intro g hs a c;have hr:=H8 (l:=l) (a:=a) (n:=17) a_ a_;obtain h|h|h|h|h|h|h|h|h|h|h|h|h|h|h|h|h:(r8 l a 17).1=0\/(r8 l a 17).1=1\/(r8 l a 17).1=2\/(r8 l a 17).1=3\/(r8 l a 17).1=4\/(r8 l a 17).1=5\/(r8 l a 17).1=6\/(r8 l a 17).1=7\/(r8 l a 17).1=8\/(r8 l a 17).1=9\/(r8 l a 17).1=10\/(r8 l a 17).1=11\/(r8 l a 17).1=12\/(r8 l a 17).1=13\/(r8 l a 17).1=14\/(r8 l a 17).1=15\/(r8 l a 17).1=16:=by omega
  ·exact cH5 hl ih c rfl h
  ·exact cH6 hl ih c rfl h
  ·exact cH7 hl ih c rfl h
  ·exact cH8 hl ih c rfl h
  ·exact bG2 hl ih c rfl (.inl ⟨rfl,rfl⟩) h
  ·exact bG3 hl ih c rfl (.inl ⟨rfl,rfl,rfl⟩) h
  ·obtain ⟨t,at',mt,wt,sT,Tt⟩:=aB2 l hl c .nat (r8 l a 17).2
   have hr2:=H8 (l:=l) (a:=at') (n:=2) a_ a_;obtain h0|h1:(r8 l at' 2).1=0\/(r8 l at' 2).1=1:=by omega
   ·exact bG4 hl c rfl (.inl ⟨rfl,rfl,rfl⟩) h t at' _ mt wt sT Tt h0 rfl
   ·exact bG4 hl c rfl (.inr ⟨rfl,rfl,rfl⟩) h t at' _ mt wt sT Tt h1 rfl
  ·exact cH9 hl ih c rfl h
  ·exact cI0 hl ih c rfl h
  ·exact bG5 hl ih c rfl (.inl ⟨rfl,rfl,rfl⟩) .nat h
  ·exact bG5 hl ih c rfl (.inr ⟨rfl,rfl,rfl⟩) .list h
  ·exact cl1 hl ih c rfl h
  ·exact cl2 hl ih c rfl h
  ·exact cl3 hl ih c rfl h
  ·exact bG2 hl ih c rfl (.inr ⟨rfl,rfl⟩) h
  ·exact bG3 hl ih c rfl (.inr ⟨rfl,rfl,rfl⟩) h
  ·exact cl4 hl ih c rfl h
inductive be7 (l:List Int):Nat->Nat->Pf->Fm->List Int->Nat->Prop
 | fin {a c a':Nat} {f:Fm} {u:List Int} {e:Int} (hN:r8 l a 4=((c:Int),a')) (hc:c<4) (hI:c_ env 16 [.sl .any [],sqV [] [],.agg (E9 (G3 c)).cells] (.tup [.agg (pvC f u),.int .i64 e])) :
   be7 l 0 a (E9 (G3 c)) f u a'
 | hit {k a a':Nat} {p:Pf} {f:Fm} {u:List Int} (hT:∀ d,m_ env 15 [.ptr d 0,.sl .any [],sqV [] [],.int .i64 4] d (.box (F0 l a)) (.agg p.cells) (.box (F0 l a')))
   (hI:c_ env 16 [.sl .any [],sqV [] [],.agg p.cells] (.tup [.agg (pvC f u),.int .i64 0])):be7 l (k+1) a p f u a'
 | miss {k a b a':Nat} {p q:Pf} {f x:Fm} {u v:List Int} {e:Int} (hT:∀ d,m_ env 15 [.ptr d 0,.sl .any [],sqV [] [],.int .i64 4] d (.box (F0 l a)) (.agg q.cells) (.box (F0 l b)))
   (hI:c_ env 16 [.sl .any [],sqV [] [],.agg q.cells] (.tup [.agg (pvC x v),.int .i64 e])) (he:e≠0) (h:be7 l k b p f u a'):be7 l (k+1) a p f u a'
theorem dx8:Plc 4 [] []:=⟨b_,b_,b_,b_⟩
theorem dh9 (l:List Int) (hl:l.length<=1000):∀ k a,∃ (p:Pf) (f:Fm) (u:List Int) (a':Nat),be7 l k a p f u a'/\(Sq [] [] f\/(f=A0/\u=[]))
 | 0,a=>by
  have hr:=H8 (l:=l) (a:=a) (n:=4) a_ a_;generalize hq:r8 l a 4=q at hr;obtain ⟨c,a'⟩:=q;simp only at hr;obtain ⟨m,rfl⟩:=Int.eq_ofNat_of_zero_le hr.1;obtain ⟨f,u,e,hI,_,o⟩:=bO9 (g:=[]) (hs:=[]) (p:=E9 (G3 m)) dx8.ck (.refl ⟨am8 m,by rw [Y2];omega⟩) (Q2 (aq2 m));refine ⟨_,f,u,a',.fin hq a_ hI,?_⟩;rcases o with ⟨_,h1,h2⟩|⟨_,h⟩
  ·exact .inr ⟨h1,h2⟩
  ·exact .inl h
 | k+1,a=>by
  obtain ⟨p,b,gp,wp,hT⟩:=dp6 l hl 4 [] [] a dx8;obtain ⟨f,u,e,hI,_,o⟩:=bO9 dx8.ck gp wp;rcases o with ⟨he,h1,h2⟩|⟨rfl,h⟩
  ·obtain ⟨p',f',u',a',h3,h4⟩:=dh9 l hl k b
   exact ⟨p',f',u',a',.miss hT hI he h3,h4⟩
  ·exact ⟨p,f,u,b,.hit hT hI,.inl h⟩
theorem dp7 (l:List Int) (hl:l.length<=1000) (a:Nat):∃ (p:Pf) (f:Fm) (u:List Int) (a':Nat),(Sq [] [] f\/(f=A0/\u=[])) /\
  ∀ d,m_ env 7 [.ptr d 0,.sl .any [],sqV [] [],.int .i64 4] d (.box (F0 l a)) (.tup [.agg p.cells,.agg (pvC f u)]) (.box (F0 l a')):=by
 obtain ⟨p,f,u,a',hR,hS⟩:=dh9 l hl 4 a;refine ⟨p,f,u,a',hS,fun d h hd=>?_⟩;clear hS;have hz:=bz7;have n0:((0:Int)==0)=true:=rfl;have hsq:sqV [] []=.agg [.sl .any [],.sl .any []]:=rfl;rw [hsq];refine g_ Tryz.func7 [.cell 8 34,.cell 9 38] fun g0 w0 gen g9 hfr e9 n8=>?_;have f1:=n9 hfr hd;have f2:=p6 hfr hd;refine e_ ?_;refine E6 (fun i σ=>σ.tm 16=.int .i64 i/\σ.tm 0=.ptr d 0/\σ.tm 1=.sl .any []/\σ.tm 3=.int .i64 4/\σ.tm 6=.ptr ⟨gen,0,0⟩ 0/\σ.tm 8=.ptr ⟨gen,0,1⟩ 0/\σ.tm 9=.ptr ⟨gen,0,2⟩ 0 /\
  σ.h ⟨gen,0,0⟩=some (.box [.sl .any [],.sl .any []])/\σ.h ⟨gen,0,1⟩=some (.box [.int .i64 0,.int .i64 0,.int .i64 0,.sl .full [],.sl .full [],.sl .full [],.sl .full []]) /\
  σ.h ⟨gen,0,2⟩=some (.box [.int .i64 0,.int .i64 0,.sl .full [],.sl .full [],.sl .full [],.sl .full []])/\a6 d h σ.h/\∃ b,be7 l (4 - i) b p f u a'/\σ.h d=some (.box (F0 l b))) 4 ?_ ?_
 ·simp only [go_sem, *]
  exact ⟨rfl,by repeat (first|exact a6.refl _ _|refine a6.new ?_ (e9 _ _)),a,hR,rfl⟩
 clear hR;intro i σ hi ⟨j1,j2,j3,j4,j5,j6,j7,b1,b2,b3,jA,b,hR,bd⟩;refine at5 (fun gn hgn=>?_);have hgf:=o0 hgn;have e1:=ah8 hgn b1;have e2:=Z4 hgn b1;have f3:=n9 hgn bd;have f4:=p6 hgn bd;have hfn:=p5 hd jA hgf (fun r i e=>by rw [e] at bd;rw [hgf] at bd;cases bd);have hw:=E2 (i:=i) a_;clear hgn;rcases R0 i 4 with hlt|hge
 ·have dl:decide ((i:Int)<4)=true:=by simp;omega
  obtain ⟨k,hk⟩:∃ k,4 - i=k+1:=⟨3 - i,a_⟩;have hk':4 - (i+1)=k:=by omega
  rw [hk] at hR;generalize hP:p=P at hR;cases hR with
  | hit hT hI =>
   subst hP;rw [hsq] at hI;have hTd:=hT d;rw [hsq] at hTd;clear hT hk hk';exact ah3
  | @miss _ _ _ _ _ _ _ _ _ _ e hT hI he hR =>
   subst hP;rw [hsq] at hI;have hTd:=hT d;rw [hsq] at hTd;have hne:(e==(0:Int))=false:=by simpa using he
   clear hT hk he;refine e_ ?_;exact ⟨by repeat (first|assumption|refine a6.set ?_|refine a6.new ?_ (hfn _ _)),_,hR,rfl⟩
 ·obtain rfl:i=4:=by omega
  have dl:decide (((4:Nat):Int)<4)=false:=rfl;have hz4:4 - 4=0:=rfl;rw [hz4] at hR;generalize hP:p=P at hR;cases hR with
  | @fin _ c _ _ _ e hN hc hI =>
   subst hP;rw [hsq] at hI;have hN1:(r8 l b 4).1=(c:Int):=by rw [hN]
   have hN2:(r8 l b 4).2=a':=by rw [hN]
   have h1:=bG1 c a_;have h2:=as5 (G3 c) (aq2 c);generalize E9 (G3 c)=R at *;clear hN hc hi hw;have hNx:=J2 l hl d;exact ah3
theorem dp3 {f:Fm} (hf:Sq [] [] f):∃ e:Int,c_ env 8 [.agg f.cells,.int .i64 3,.int .i64 3,.int .i64 20000] (.tup [.sl .any [],.bool false,.int .i64 e]):=by
 have j:=hf.jd;have zf:=j.sz;have he:=j.fg.am0 zf;have h1:=ay2 [] b_ b_ f j.ty he zf j.fg.toW;rw [B7] at h1;have h2:=bk2 f j.fg.toW he a_;obtain ⟨jb,tk,sz,tr⟩:=bB3 _ (w7 _) j;rw [Q3] at jb tr;have tb:=tr (fun p hp=>hf.tr p hp b_);generalize f.univ.1=k at *;generalize f.univ.2=b at *;have h3:=ay1 b jb.fg.toW;have zb:=jb.sz;have eh:b.has 4=(b.fl.d,0):=by
  unfold Fm.has;rw [jb.fg.am0 zb]
  rfl
 rw [eh] at h3;unfold al3 at h3;cases hd:b.fl.d with
 | false =>
  rw [hd] at h3;exact ⟨14,cy9 (by decide) (cI4 h1 h2 h3)⟩
 | true =>
  rw [hd] at h3;have hC:=bG9 h1 h2 h3;obtain ⟨E,hE⟩:∃ E:Ty->Int,∀ t∈k,c_ env 20 [.agg t.cells,.int .i64 (3:Nat),.int .i64 (3:Nat)] (.int .i64 (E t))/\(E t=0->PlT t):=by
   have key:∀ t:Ty,∃ e:Int,t∈k->c_ env 20 [.agg t.cells,.int .i64 (3:Nat),.int .i64 (3:Nat)] (.int .i64 e)/\(e=0->PlT t):=fun t=>by
    by_cases ht:t∈k
    ·obtain ⟨e,h1,h2⟩:=dr5 (tk t ht) (b:=3) (m:=3) a_ a_
     exact ⟨e,fun _=>⟨h1,h2⟩⟩
    ·exact ⟨0,fun h=>absurd h ht⟩
   obtain ⟨E,hE⟩:=cw5 key;exact ⟨E,hE⟩
  by_cases h0:aJ1 E k=0
  ·have pl:∀ t∈k,PlT t:=fun t ht=>(hE t ht).2 (bv7 h0 t ht)
   have dc:Dc k b:=Dc.of jb.ty jb.fg hd a_;obtain ⟨T,hT0⟩:=dk4 (ts:=k);have hT:∀ l∈tries 3 3 k,ah4 k l (T l):=fun l hl=>hT0 l (bJ7 (b:=3) (m:=3) a_ k (fun t ht=>⟨pl t ht,(tk t ht).G a_,by have:=(tk t ht).sz1;omega⟩) l hl);have hF:=cW2 (w:=20000) (H:=bx1 b T) (L:=tries 3 3 k) hC (fun t ht=>by rw [<- bv7 h0 t ht];exact (hE t ht).1) a_ a_
    (bP5 3 3 (fun S=>by simp [S8]) (fun S=>by simp only [go_sem, *]) rfl (F4 k)) (bx5 (b:=3) (m:=3) a_ a_ k [] pl (by simp;omega)) (fun l hl=>ci3 (hT l hl) a_ dc a_)
   have hN:(aO7 (bx1 b T) (tries 3 3 k) 20000).1=none :=
    cb0 _ _ fun l hl w b u hh=>cp8 (hT l hl) dc a_ a_ tb (lim:=w) (u:=u) hh
   unfold cb1 at hF;rw [hN] at hF;simp only [Option.getD_none,bV4,B7] at hF;exact ⟨_,hF⟩
  ·exact ⟨_,dp2 hC (fun t ht=>(hE t ht).1) a_ rfl h0⟩
theorem dp1:c_ env 8 [.agg A0.cells,.int .i64 (3:Nat),.int .i64 (3:Nat),.int .i64 (20000:Nat)] (.tup [.sl .any [],.bool false,.int .i64 2]):=by
 have h1:=ax1 A0 U8;rw [show Q0 A0=2 by rfl] at h1;have h2:c_ env 53 [.sl .any [],.agg A0.cells] (.int .i64 2):=by
  have h3:=au0 [] b_ b_;rw [B7] at h3;have n0:((0:Int) != 0)=false:=rfl;have n2:((2:Int) != 0)=true:=rfl;intro h;exact d_ Tryz.func53 [.tmp 4]
 exact cy9 (by decide) (cI3 (by decide) h2)
theorem bD8 (l:List Int):c_ env 3 [.sl .any (ints l)] (.bool true):=by
 have hS:=cY8;have hF:=dS5 l;cases hf:decide ((l.length:Int)<=500) with
 | false =>
  rw [hf] at hF;clear hf;intro h;exact d_ Tryz.func3 [.tmp 2]
 | true =>
 rw [hf] at hF;have hl:l.length<=1000:=by simp at hf;omega
 clear hf;have hN:=dS7 l;obtain ⟨p,f,u,a',hs,hR⟩:=dp7 l hl 0;obtain ⟨e,h1⟩:∃ e:Int,c_ env 8 [.agg f.cells,.int .i64 3,.int .i64 3,.int .i64 20000] (.tup [.sl .any [],.bool false,.int .i64 e]):=by
  rcases hs with hs|⟨rfl,_⟩
  ·exact dp3 hs
  ·exact ⟨2,dp1⟩
 have h2:=bG7 dx8.ck;have hsq:sqV [] []=.agg [.sl .any [],.sl .any []]:=rfl;rw [hsq] at h2 hR;have n0:((0:Int)==0)=true:=rfl;have n1:((0:Int) != 0)=false:=rfl;have m0:((((0:Nat):Int))==0)=true:=rfl;clear hs;cases he:(e != 0) with
 | true =>
  intro h;refine g_ Tryz.func3 [.tmp 2] fun g0 w0 gen g9 hfr e9 n8=>?_
  repeat' (first
   |exact hin _|exact agf l_
   | (first|refine wp rfl ?_|refine spt rfl ?_|refine spf rfl ?_|(refine spl (fun hc=>?_) fun hc=>?_)<;>(try rw [L1] at hc)<;>try simp only [hc]|(refine gs (fun hb=>?_) fun hb=>?_)<;>try simp only [E7,M9] at hb|refine cp hS ?_|refine cp hF ?_|refine bF5 ⟨gen,1000,0⟩ (hN) (by first|exact e9 _ _|simp only [go_sem, *]) ?_|(refine ct (hR _) ?_ ?_;focus ((simp only [go_sem, *]<;>rfl);done))|refine cp h1 ?_|refine Y7 g9 ?_ ?_ ?_)<;>try simp only [go_sem, *])
 | false =>
  intro h;refine g_ Tryz.func3 [.tmp 2] fun g0 w0 gen g9 hfr e9 n8=>?_
  repeat' (first
   |exact hin _|exact agf l_
   | (first|refine wp rfl ?_|refine spt rfl ?_|refine spf rfl ?_|(refine spl (fun hc=>?_) fun hc=>?_)<;>(try rw [L1] at hc)<;>try simp only [hc]|(refine gs (fun hb=>?_) fun hb=>?_)<;>try simp only [E7,M9] at hb|refine cp hS ?_|refine cp hF ?_|refine bF5 ⟨gen,1000,0⟩ (hN) (by first|exact e9 _ _|simp only [go_sem, *]) ?_|(refine ct (hR _) ?_ ?_;focus ((simp only [go_sem, *]<;>rfl);done))|refine cp h1 ?_|refine cp h2 ?_|refine Y7 g9 ?_ ?_ ?_)<;>try simp only [go_sem, *])
end Go.Proofs.YtmfhhhhnokhggaaGreatDoor
