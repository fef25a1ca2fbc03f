/-
 Walks: several parts in one text.
-/
import Derived.Test.YtmfhhhhnokhggaaGreatDoorKB
set_option linter.unusedSimpArgs false
set_option linter.unusedVariables false
set_option maxRecDepth 20000
set_option maxHeartbeats 4000000
namespace Go.Proofs.YtmfhhhhnokhggaaGreatDoor
open Go GoAbs Go.Proofs
theorem bK9 {g:List Ty} {hs:List Fm} {k:Int} {a b:Pf} (hk:k=11\/k=15) (c:ak7 g hs) (ha:Inf g hs a)
  (hb:∀ s x,TyG s->Jd (g++[s]) x->g.length+1<=16->hs.length+1<=16->Inf (g++[s]) ((hs.map fun x=>x.up 1 0)++[x]) b):aU2 139 g hs (pfK k [a,b]):=by
 obtain ⟨P,hP⟩:∃ P,pfK k [a,b]=P:=⟨_,rfl⟩;have p1:P.kind=k:=by rw [<- hP];rfl
 have p2:P.args.map Pf.cells=[a.cells,b.cells]:=by rw [<- hP];rfl
 rw [hP];clear hP;have hz:=S5;have hi:ints []=[]:=rfl;have n0:((0:Int) != 0)=false:=rfl;have n3:((3:Int) != 0)=true:=rfl;have hgl:=c.gl;have hhl:=c.hl;obtain ⟨fa,ua,ea,h1,ka,oa⟩:=ha;rcases oa with ⟨he,rfl,rfl⟩|⟨rfl,sa⟩
 ·have hne:(ea != 0)=true:=by simpa using he
  refine ⟨A0,[],ea,?_,U8,.nil,fun h=>absurd h he⟩;rw [hz,hi];clear he ka hz c hi hk hb hgl hhl n3;intro h;unfold ckV at h1 ⊢;exact d_ Tryz.func139 [.cell 4 36,.tmp 5,.tmp 6]
 obtain ⟨kk,hkk⟩:∃ kk:Int,(if k=11 then 5 else 7)=kk:=⟨_,rfl⟩;have ay9:kk=5\/kk=7:=by rw [<- hkk];split<;>simp
 cases hf:(fa.kind != kk) with
 | true =>
  refine ⟨A0,[],10,?_,U8,.nil,fun h=>by cases h⟩;rw [hz,hi];clear ka hz c hi ay9 sa hb hgl hhl n3;rcases hk with rfl|rfl
  ·obtain rfl:5=kk:=hkk
   intro h;unfold ckV at h1 ⊢;exact d_ Tryz.func139 [.cell 4 36,.tmp 5,.tmp 6]
  ·obtain rfl:7=kk:=hkk
   intro h;unfold ckV at h1 ⊢;exact d_ Tryz.func139 [.cell 4 36,.tmp 5,.tmp 6]
 | false =>
 obtain ⟨s,x,rfl⟩:=sa.jd.k4 (k:=kk) a_ (by simpa using hf);obtain ⟨gs,jx,_⟩:=sa.jd.by8;have e1:(fmQ kk s x).args.map Fm.cells=[x.cells]:=rfl;have e2:(fmQ kk s x).type=s:=rfl;have h2:=aN6 g hs c.gl c.hl 1 1 a_ a_;by_cases hl:g.length+1<=16/\hs.length+1<=16
 ·rw [B8 hl] at h2
  have h3:=aR9 g [s] hs c.gl b_ c.hl (fun x hx=>(c.hy x hx).fg.toW);have e3:((([s]:List Ty).length:Nat):Int)=1:=rfl;rw [e3] at h3;simp only [E0,B7] at h3;have h4:=aZ8 (g++[s]) (hs.map fun x=>x.up 1 0) (by simpa using c.hl) x;obtain ⟨fb,ub,eb,h5,kb,ob⟩:=hb s x gs jx hl.1 hl.2;rcases ob with ⟨he,rfl,rfl⟩|⟨rfl,sb⟩
  ·have hne:(eb != 0)=true:=by simpa using he
   refine ⟨A0,[],eb,?_,U8,.nil,fun h=>absurd h he⟩;rw [hz,hi];clear ka kb hz c hi ay9 sa hb hgl hhl n3 gs jx hl he e3;rcases hk with rfl|rfl
   ·obtain rfl:5=kk:=hkk
    intro h;unfold ckV at h1 h2 h3 h4 h5 ⊢;exact d_ Tryz.func139 [.cell 4 36,.tmp 5,.tmp 6]
   ·obtain rfl:7=kk:=hkk
    intro h;unfold ckV at h1 h2 h3 h4 h5 ⊢;exact d_ Tryz.func139 [.cell 4 36,.tmp 5,.tmp 6]
  have z0:=sb.jd.sz;have h6:=bu6 fb sb.jd.fg.toW 0;have h7:=cJ1 sb.jd.ty sb.jd.fg z0 (by simp;omega);have h9:=aS4 1 ub a_ (by have:=kb.len;simp at this;omega) (kb.rng (by simp;omega));have ko:aa8 g (aj3 1 ub):=aa8.out (m:=[s]) kb;have h10:=al7 c.gl ka ko;have h11:=cX5 ub;have fin:∀ f':Fm,(f'=fb\/((C9 fb).2=0/\f'=(C9 fb).1))->f'.am4 0=false->FmW f'/\FmW (f'.up (-1) 1)/\FmS (f'.up (-1) 1)/\(s6 (f'.up (-1) 1)<=4096->Sq g hs (f'.up (-1) 1)):=fun f' h1 h2=>by
   refine ⟨?_,Sq.opened c hl.1 ay9 sa sb h1 h2⟩;rcases h1 with rfl|⟨e,rfl⟩
   ·exact sb.jd.fg.toW
   ·exact (aT7 sb.jd.ty e sb.jd.fg z0 (by simp;omega)).2.1.toW
  have hw0:=sb.jd.fg.toW;have n12:(((12:Int)) != 0)=true:=rfl;cases hh:fb.am4 0 with
  | true =>
   rw [hh] at h6;unfold P6 at h7;by_cases he:(C9 fb).2=0
   ·cases hh2:(C9 fb).1.am4 0 with
    | true =>
     obtain ⟨a1,a2,_⟩:=aT7 sb.jd.ty he sb.jd.fg z0 (by simp;omega);have h8:=bu6 (C9 fb).1 a2.toW 0;rw [hh2] at h8;rw [he] at h7;generalize (C9 fb).1=f' at *;refine ⟨A0,[],6,?_,U8,.nil,fun h=>by cases h⟩;rw [hz,hi];clear ka kb hz c hi ay9 sa hb hgl hhl n3 gs jx hl e3 z0 h9 ko h10 h11 fin hw0 sb a1 a2 hh hh2 he;rcases hk with rfl|rfl
     ·obtain rfl:5=kk:=hkk
      intro h;unfold ckV at h1 h2 h3 h4 h5 ⊢;exact d_ Tryz.func139 [.cell 4 36,.tmp 5,.tmp 6]
     ·obtain rfl:7=kk:=hkk
      intro h;unfold ckV at h1 h2 h3 h4 h5 ⊢;exact d_ Tryz.func139 [.cell 4 36,.tmp 5,.tmp 6]
    | false =>
     obtain ⟨w1,w2,w3,w4⟩:=fin _ (.inr ⟨he,rfl⟩) hh2;have h8:=bu6 (C9 fb).1 w1 0;rw [hh2] at h8;rw [he] at h7;have h12:=ap2 (-1) (C9 fb).1 w1 1;generalize (C9 fb).1=f' at *;rcases hk with rfl|rfl
     ·obtain rfl:5=kk:=hkk
      refine ⟨f'.up (-1) 1,V9 ua (aj3 1 ub),0,?_,w2,ka.union ko,fun _=>⟨w3,w4⟩⟩;clear ka kb hz c hi ay9 sa hb hgl hhl n3 gs jx hl e3 z0 ko fin hw0 sb hh hh2 he w1 w2 w3 w4;intro h;unfold ckV at h1 h2 h3 h4 h5 ⊢;exact d_ Tryz.func139 [.cell 4 36,.tmp 5,.tmp 6]
     ·obtain rfl:7=kk:=hkk
      cases h0:cM2 ub with
      | true =>
       rw [h0] at h11;refine ⟨A0,[],12,?_,U8,.nil,fun h=>by cases h⟩;rw [hz,hi];clear ka kb hz c hi ay9 sa hb hgl hhl n3 gs jx hl e3 z0 ko fin hw0 sb hh hh2 he w1 w2 w3 w4;intro h;unfold ckV at h1 h2 h3 h4 h5 ⊢;exact d_ Tryz.func139 [.cell 4 36,.tmp 5,.tmp 6]
      | false =>
       rw [h0] at h11;refine ⟨f'.up (-1) 1,V9 ua (aj3 1 ub),0,?_,w2,ka.union ko,fun _=>⟨w3,w4⟩⟩;clear ka kb hz c hi ay9 sa hb hgl hhl n3 gs jx hl e3 z0 ko fin hw0 sb hh hh2 he w1 w2 w3 w4;intro h;unfold ckV at h1 h2 h3 h4 h5 ⊢;exact d_ Tryz.func139 [.cell 4 36,.tmp 5,.tmp 6]
   ·have hne:((C9 fb).2 != 0)=true:=by simpa using he
    generalize (C9 fb).1=f' at *;generalize (C9 fb).2=er at *;refine ⟨A0,[],er,?_,U8,.nil,fun h=>absurd h he⟩;rw [hz,hi];clear ka kb hz c hi ay9 sa hb hgl hhl n3 gs jx hl e3 z0 h9 ko h10 h11 fin hw0 sb hh he;rcases hk with rfl|rfl
    ·obtain rfl:5=kk:=hkk
     intro h;unfold ckV at h1 h2 h3 h4 h5 ⊢;exact d_ Tryz.func139 [.cell 4 36,.tmp 5,.tmp 6]
    ·obtain rfl:7=kk:=hkk
     intro h;unfold ckV at h1 h2 h3 h4 h5 ⊢;exact d_ Tryz.func139 [.cell 4 36,.tmp 5,.tmp 6]
  | false =>
   rw [hh] at h6;obtain ⟨w1,w2,w3,w4⟩:=fin _ (.inl rfl) hh;have h12:=ap2 (-1) fb w1 1;rcases hk with rfl|rfl
   ·obtain rfl:5=kk:=hkk
    refine ⟨fb.up (-1) 1,V9 ua (aj3 1 ub),0,?_,w2,ka.union ko,fun _=>⟨w3,w4⟩⟩;clear ka kb hz c hi ay9 sa hb hgl hhl n3 gs jx hl e3 z0 ko fin hw0 sb hh w1 w2 w3 w4 h7;intro h;unfold ckV at h1 h2 h3 h4 h5 ⊢;exact d_ Tryz.func139 [.cell 4 36,.tmp 5,.tmp 6]
   ·obtain rfl:7=kk:=hkk
    cases h0:cM2 ub with
    | true =>
     rw [h0] at h11;refine ⟨A0,[],12,?_,U8,.nil,fun h=>by cases h⟩;rw [hz,hi];clear ka kb hz c hi ay9 sa hb hgl hhl n3 gs jx hl e3 z0 ko fin hw0 sb hh w1 w2 w3 w4 h7;intro h;unfold ckV at h1 h2 h3 h4 h5 ⊢;exact d_ Tryz.func139 [.cell 4 36,.tmp 5,.tmp 6]
    | false =>
     rw [h0] at h11;refine ⟨fb.up (-1) 1,V9 ua (aj3 1 ub),0,?_,w2,ka.union ko,fun _=>⟨w3,w4⟩⟩;clear ka kb hz c hi ay9 sa hb hgl hhl n3 gs jx hl e3 z0 ko fin hw0 sb hh w1 w2 w3 w4 h7;intro h;unfold ckV at h1 h2 h3 h4 h5 ⊢;exact d_ Tryz.func139 [.cell 4 36,.tmp 5,.tmp 6]
 ·rw [y9 hl] at h2
  refine ⟨A0,[],3,?_,U8,.nil,fun h=>by cases h⟩;rw [hz,hi];clear ka hz c hi ay9 sa hb hgl hhl gs jx hl;rcases hk with rfl|rfl
  ·obtain rfl:5=kk:=hkk
   intro h;unfold ckV at h1 h2 ⊢;exact d_ Tryz.func139 [.cell 4 36,.tmp 5,.tmp 6]
  ·obtain rfl:7=kk:=hkk
   intro h;unfold ckV at h1 h2 ⊢;exact d_ Tryz.func139 [.cell 4 36,.tmp 5,.tmp 6]
end Go.Proofs.YtmfhhhhnokhggaaGreatDoor
