/-
 Walks: several parts in one text.
-/
import Derived.Test.YtmnplkmphgkooaaGreatDoorMh
import Derived.Test.YtmnplkmphgkooaaGreatDoorMa
import Derived.Test.YtmnplkmphgkooaaGreatDoorAbsDc
import Derived.Test.YtmnplkmphgkooaaGreatDoorTe
import Derived.Test.YtmnplkmphgkooaaGreatDoorTf
set_option linter.unusedSimpArgs false
set_option linter.unusedVariables false
set_option maxRecDepth 20000
set_option maxHeartbeats 4000000
namespace Go.Proofs.YtmnplkmphgkooaaGreatDoor
open Go GoAbs Go.Proofs
theorem ctT_W {k:Int} {a b:Ty} (ha:TyW a) (hb:TyW b):TyW (.mk k [a,b]):=.mk _ _ (by simp) (by simp [ha,hb])
theorem c_ctJoin (k:Int) (a b:Ty) (ha:TyW a) (hb:TyW b):Pure Tryz.prog env 103 [.int .i64 k,.agg a.cells,.agg b.cells]
  (.tup [.agg (if tyErr (.mk k [a,b]) != 0 then tZero else .mk k [a,b]).cells,.bool (tyErr (.mk k [a,b])==0),.int .i64 (tyErr (.mk k [a,b]))]):=by
 intro h
 have h1:=c_typesCheck _ (ctT_W (k:=k) ha hb)
 rw [mk_T] at h1
 have hz:=tZero_cells
 have hm:=mk_T (k:=k) (a:=a) (b:=b)
 generalize tyErr (.mk k [a,b])=e at *
 cases q1:(e != 0) with
 | true =>
  have q2:(e==0)=false:=by simpa using q1
  simp only [if_true,q2,hz]
  exact ek_ Tryz.func103 [.cell 6 29,.tmp 7,.tmp 8]
 | false =>
  have q2:e=0:=by simpa using q1
  subst q2
  simp only [Bool.false_eq_true,if_false,hm,beq_self_eq_true]
  exact ek_ Tryz.func103 [.cell 6 29,.tmp 7,.tmp 8]
theorem c_ctJoinR {k:Int} (hk:k=3∨k=4) {x y:Ty × Int} (hx:x.2=0∧TyG x.1) (hy:y.2=0∧TyG y.1):∃ v,Pure Tryz.prog env 103 [.int .i64 k,.agg x.1.cells,.agg y.1.cells] v ∧
  (∀ S,InV S v)∧(((ctJoin k x y).2=0∧v=.tup [.agg (ctJoin k x y).1.cells,.bool true,.int .i64 0])∨(ctJoin k x y=(tZero,4)∧v=.tup [.agg tZero.cells,.bool false,.int .i64 4])):=by
 refine ⟨_,c_ctJoin k x.1 y.1 hx.2.1.W hy.2.1.W,fun S=>by simp [InV,InL,InL_Ty],?_⟩
 rcases ctJoin_ok hk (.inl hx) (.inl hy) with ⟨h1,h2⟩|h4
 ·left
  refine ⟨h1,?_⟩
  have h0:tyErr (.mk k [x.1,y.1])=0:=by
   unfold ctJoin at h1
   rw [hx.1,hy.1] at h1
   have n0:((0:Int) != 0)=false:=rfl
   rw [n0] at h1
   simp only [Bool.false_eq_true,if_false] at h1
   split at h1
   ·exact h1
   ·rename_i h;simpa using h
  unfold ctJoin
  rw [hx.1,hy.1,h0]
  rfl
 ·right
  refine ⟨h4,?_⟩
  unfold ctJoin at h4
  rw [hx.1,hy.1] at h4
  have n0:((0:Int) != 0)=false:=rfl
  rw [n0] at h4
  simp only [Bool.false_eq_true,if_false] at h4
  split at h4
  ·simp only [Prod.mk.injEq,true_and] at h4
   rw [h4];rfl
  ·simp at h4
theorem c_ctOf {f:Fm} (hC:FmC f):FmW f→∃ v,CtR f v∧(∀ S,InV S v)∧Pure Tryz.prog env 57 [.agg f.cells] v:=by
 have hz:=tZero_cells
 have n0:((0:Int) != 0)=false:=rfl
 have n4:((4:Int) != 0)=true:=rfl
 have sub1:IntKind.i64.wrap (((1:Nat):Int) - 1)=0:=by decide
 have sub2:IntKind.i64.wrap (((2:Nat):Int) - 1)=1:=by decide
 induction hC with
 | @eq t l =>
  intro hw
  refine ⟨_,.inl ⟨by rw [ctk_1.1],rfl⟩,fun S=>by simp [InV,InL,InL_Ty],?_⟩
  rw [ctk_1.2]
  simp only [Bool.false_eq_true,if_false,hz]
  intro h
  have hk:(Fm.mk 1 t l []).kind=1:=rfl
  generalize Fm.mk 1 t l []=f at *
  exact ek_ Tryz.func57 [.cell 2 29,.tmp 3,.tmp 4]
 | @two k t l a b hk ca cb iha ihb =>
  intro hw
  obtain ⟨va,ra,ia,pa⟩:=iha (hw.arg (show a∈(Fm.mk k t l [a,b]).args by simp [Fm.args]))
  obtain ⟨vb,rb,ib,pb⟩:=ihb (hw.arg (show b∈(Fm.mk k t l [a,b]).args by simp [Fm.args]))
  have oa:=ca.ok
  have ob:=cb.ok
  have hka:(Fm.mk k t l [a,b]).kind=k:=rfl
  have hmap:(Fm.mk k t l [a,b]).args.map Fm.cells=[a.cells,b.cells]:=rfl
  clear iha ihb ca cb hw
  have bad:∀ {x:Fm},(x.fl.c=false→x.ct=(tUnit,0))→x.ct=(tZero,4)→x.fl.c=true:=by
   intro x h1 h2
   cases hc:x.fl.c
   ·have:=h1 hc;rw [h2] at this;simp [tZero,tUnit] at this
   ·rfl
  have jz:∀ {k:Int} {x y:Ty × Int},CtOk x→y=(tZero,4)→ctJoin k x y=(tZero,4):=by
   intro k x y hx hy
   unfold ctJoin
   rcases hx with ⟨e,_⟩|e<;>rw [e,hy]<;>rfl
  have jy:∀ {k:Int} {x y:Ty × Int},x=(tZero,4)→ctJoin k x y=(tZero,4):=by
   intro k x y hx
   unfold ctJoin
   rw [hx];rfl
  rcases hk with rfl|rfl
  ·simp only [CtR,ctk_2.1,ctk_2.2]
   rcases rb with ⟨eb,rfl⟩|⟨eb,xb,bb,wxb,rfl⟩
   case inr =>
    have hb:=bad ob.2 eb
    refine ⟨_,.inr ⟨?_,tZero,false,tZero_W,rfl⟩,fun S=>by simp [InV,InL,InL_Ty],?_⟩
    ·rw [hb];split
     ·exact jz oa.1 eb
     ·exact eb
    intro h
    rw [hz]
    clear ib ia pa oa ob bad jz jy
    generalize Fm.mk 2 t l [a,b]=f at *
    exact ek_ Tryz.func57 [.cell 2 29,.tmp 3,.tmp 4]
   rcases ra with ⟨ea,rfl⟩|⟨ea,xa,ba,wxa,rfl⟩
   case inr =>
    have ha:=bad oa.2 ea
    have wl:TyW (if b.fl.c=true then b.ct.1 else tZero):=by
     split
     ·rcases ob.1 with ⟨_,g⟩|e
      ·exact g.1.W
      ·rw [e];exact tZero_W
     ·exact tZero_W
    refine ⟨_,.inr ⟨?_,_,b.fl.c,wl,rfl⟩,fun S=>by simp [InV,InL,InL_Ty],?_⟩
    ·rw [ha];simp only [if_true];split
     ·exact jy ea
     ·exact ea
    intro h
    clear ib ia oa ob bad jz jy wl eb ea ha
    generalize (if b.fl.c=true then b.ct.1 else tZero)=y at *
    generalize b.fl.c=cb at *
    have hin:∀ S,InV S (V.tup [.agg y.cells,.bool cb,.int .i64 4]):=fun S=>by simp [InV,InL,InL_Ty]
    generalize Fm.mk 2 t l [a,b]=f at *
    exact ek_ Tryz.func57 [.cell 2 29,.tmp 3,.tmp 4]
   cases ha:a.fl.c with
   | false =>
    rw [ha] at pa
    simp only [Bool.false_eq_true,if_false,Bool.or_false] at pa ⊢
    refine ⟨_,.inl ⟨eb,rfl⟩,fun S=>by simp [InV,InL,InL_Ty],?_⟩
    intro h
    clear ib ia oa ob bad jz jy eb ea ha
    generalize (if b.fl.c=true then b.ct.1 else tZero)=y at *
    generalize b.fl.c=cb at *
    have hin:∀ S,InV S (V.tup [.agg y.cells,.bool cb,.int .i64 0]):=fun S=>by simp [InV,InL,InL_Ty]
    generalize Fm.mk 2 t l [a,b]=f at *
    exact ek_ Tryz.func57 [.cell 2 29,.tmp 3,.tmp 4]
   | true =>
   rw [ha] at pa
   cases hb:b.fl.c with
   | false =>
    rw [hb] at pb
    simp only [Bool.false_eq_true,if_false,if_true,Bool.or_true] at pa pb ⊢
    refine ⟨_,.inl ⟨ea,rfl⟩,fun S=>by simp [InV,InL,InL_Ty],?_⟩
    intro h
    clear ib ia oa ob bad jz jy eb ea ha hb
    generalize a.ct.1=y at *
    have hin:∀ S,InV S (V.tup [.agg y.cells,.bool true,.int .i64 0]):=fun S=>by simp [InV,InL,InL_Ty]
    generalize Fm.mk 2 t l [a,b]=f at *
    exact ek_ Tryz.func57 [.cell 2 29,.tmp 3,.tmp 4]
   | true =>
    rw [hb] at pb
    simp only [if_true,Bool.or_true] at pa pb ⊢
    have gx:a.ct.2=0∧TyG a.ct.1:=by
     rcases oa.1 with g|e
     ·exact g
     ·rw [e] at ea;cases ea
    have gy:b.ct.2=0∧TyG b.ct.1:=by
     rcases ob.1 with g|e
     ·exact g
     ·rw [e] at eb;cases eb
    obtain ⟨v,pj,hin,hv⟩:=c_ctJoinR (.inl rfl) gx gy
    refine ⟨v,?_,hin,?_⟩
    ·rcases hv with ⟨e1,rfl⟩|⟨e1,rfl⟩
     ·exact .inl ⟨e1,rfl⟩
     ·exact .inr ⟨e1,tZero,false,tZero_W,rfl⟩
    have hv':∃ (y:Ty) (c:Bool) (e:Int),v=.tup [.agg y.cells,.bool c,.int .i64 e]:=by
     rcases hv with ⟨_,rfl⟩|⟨_,rfl⟩<;>exact ⟨_,_,_,rfl⟩
    clear hv ib ia oa ob bad jz jy eb ea ha hb gx gy
    obtain ⟨y,c,e,rfl⟩:=hv'
    generalize a.ct.1=ya at *
    generalize b.ct.1=yb at *
    intro h
    generalize Fm.mk 2 t l [a,b]=f at *
    exact ek_ Tryz.func57 [.cell 2 29,.tmp 3,.tmp 4]
  ·simp only [CtR,ctk_3.1,ctk_3.2]
   rcases rb with ⟨eb,rfl⟩|⟨eb,xb,bb,wxb,rfl⟩
   case inr =>
    have hb:=bad ob.2 eb
    refine ⟨_,.inr ⟨?_,tZero,false,tZero_W,rfl⟩,fun S=>by simp [InV,InL,InL_Ty],?_⟩
    ·rw [hb];simp only [if_true];split
     ·exact jz oa.1 eb
     ·exact eb
    intro h
    rw [hz]
    clear ib ia pa oa ob bad jz jy
    generalize Fm.mk 3 t l [a,b]=f at *
    exact ek_ Tryz.func57 [.cell 2 29,.tmp 3,.tmp 4]
   cases hb:b.fl.c with
   | false =>
    rw [hb] at pb
    simp only [Bool.false_eq_true,if_false] at pb ⊢
    refine ⟨_,.inl ⟨trivial,rfl⟩,fun S=>by simp [InV,InL,InL_Ty],?_⟩
    intro h
    rw [hz]
    clear ib ia pa oa ob bad jz jy eb hb
    generalize Fm.mk 3 t l [a,b]=f at *
    exact ek_ Tryz.func57 [.cell 2 29,.tmp 3,.tmp 4]
   | true =>
   rw [hb] at pb
   simp only [if_true] at pb ⊢
   rcases ra with ⟨ea,rfl⟩|⟨ea,xa,ba,wxa,rfl⟩
   case inr =>
    have ha:=bad oa.2 ea
    have wl:TyW b.ct.1:=by
     rcases ob.1 with ⟨_,g⟩|e
     ·exact g.1.W
     ·rw [e];exact tZero_W
    refine ⟨_,.inr ⟨?_,_,true,wl,rfl⟩,fun S=>by simp [InV,InL,InL_Ty],?_⟩
    ·rw [ha];simp only [if_true];exact jy ea
    intro h
    clear ib ia oa ob bad jz jy wl eb ea ha hb
    generalize b.ct.1=y at *
    have hin:∀ S,InV S (V.tup [.agg y.cells,.bool true,.int .i64 4]):=fun S=>by simp [InV,InL,InL_Ty]
    generalize Fm.mk 3 t l [a,b]=f at *
    exact ek_ Tryz.func57 [.cell 2 29,.tmp 3,.tmp 4]
   cases ha:a.fl.c with
   | false =>
    rw [ha] at pa
    simp only [Bool.false_eq_true,if_false] at pa ⊢
    refine ⟨_,.inl ⟨eb,rfl⟩,fun S=>by simp [InV,InL,InL_Ty],?_⟩
    intro h
    clear ib ia oa ob bad jz jy eb ea ha hb
    generalize b.ct.1=y at *
    have hin:∀ S,InV S (V.tup [.agg y.cells,.bool true,.int .i64 0]):=fun S=>by simp [InV,InL,InL_Ty]
    generalize Fm.mk 3 t l [a,b]=f at *
    exact ek_ Tryz.func57 [.cell 2 29,.tmp 3,.tmp 4]
   | true =>
    rw [ha] at pa
    simp only [if_true] at pa ⊢
    have gx:a.ct.2=0∧TyG a.ct.1:=by
     rcases oa.1 with g|e
     ·exact g
     ·rw [e] at ea;cases ea
    have gy:b.ct.2=0∧TyG b.ct.1:=by
     rcases ob.1 with g|e
     ·exact g
     ·rw [e] at eb;cases eb
    obtain ⟨v,pj,hin,hv⟩:=c_ctJoinR (.inr rfl) gx gy
    refine ⟨v,?_,hin,?_⟩
    ·rcases hv with ⟨e1,rfl⟩|⟨e1,rfl⟩
     ·exact .inl ⟨e1,rfl⟩
     ·exact .inr ⟨e1,tZero,false,tZero_W,rfl⟩
    have hv':∃ (y:Ty) (c:Bool) (e:Int),v=.tup [.agg y.cells,.bool c,.int .i64 e]:=by
     rcases hv with ⟨_,rfl⟩|⟨_,rfl⟩<;>exact ⟨_,_,_,rfl⟩
    clear hv ib ia oa ob bad jz jy eb ea ha hb gx gy
    obtain ⟨y,c,e,rfl⟩:=hv'
    generalize a.ct.1=ya at *
    generalize b.ct.1=yb at *
    intro h
    generalize Fm.mk 3 t l [a,b]=f at *
    exact ek_ Tryz.func57 [.cell 2 29,.tmp 3,.tmp 4]
 | @q k s l a hk hs ca iha =>
  intro hw
  obtain ⟨va,ra,ia,pa⟩:=iha (hw.arg (show a∈(Fm.mk k s l [a]).args by simp [Fm.args]))
  have oa:=ca.ok
  have hka:(Fm.mk k s l [a]).kind=k:=rfl
  have hty:(Fm.mk k s l [a]).type=s:=rfl
  have hmap:(Fm.mk k s l [a]).args.map Fm.cells=[a.cells]:=rfl
  have jz:∀ {k:Int} {y:Ty × Int},y=(tZero,4)→ctJoin k (s,0) y=(tZero,4):=by
   intro k y hy
   unfold ctJoin
   rw [hy];rfl
  have er:∀ {x:Fm},(x.fl.c=false→x.ct=(tUnit,0))→x.ct=(tZero,4)→x.fl.c=true:=by
   intro x h1 h2
   cases hc:x.fl.c
   ·have:=h1 hc;rw [h2] at this;simp [tZero,tUnit] at this
   ·rfl
  clear iha ca hw
  rcases ra with ⟨ea,rfl⟩|⟨ea,xa,ba,wxa,rfl⟩
  case inr =>
   have ha:=er oa.2 ea
   have hct:(Fm.mk k s l [a]).ct=(tZero,4):=by
    rcases hk with rfl|rfl|hk
    ·rw [ctk_4.1,ha];exact jz ea
    ·rw [ctk_5.1,ha];exact jz ea
    ·rw [(ctk_67 hk).1];exact ea
   refine ⟨_,.inr ⟨hct,tZero,false,tZero_W,rfl⟩,fun S=>by simp [InV,InL,InL_Ty],?_⟩
   intro h
   rw [hz]
   have k1:(k==1)=false:=by rcases hk with rfl|rfl|rfl|rfl<;>rfl
   clear ia oa er jz hct hk
   generalize Fm.mk k s l [a]=f at *
   exact ek_ Tryz.func57 [.cell 2 29,.tmp 3,.tmp 4]
  have gx:a.ct.2=0∧TyG a.ct.1:=by
   rcases oa.1 with g|e
   ·exact g
   ·rw [e] at ea;cases ea
  cases ha:a.fl.c with
  | false =>
   rw [ha] at pa
   simp only [Bool.false_eq_true,if_false] at pa
   by_cases h5:k=5
   ·subst h5
    simp only [CtR,ctk_5.1,ctk_5.2,ha,Bool.false_eq_true,if_false,if_true]
    refine ⟨_,.inl ⟨trivial,rfl⟩,fun S=>by simp [InV,InL,InL_Ty],?_⟩
    intro h
    have hin:∀ S,InV S (V.tup [.agg s.cells,.bool true,.int .i64 0]):=fun S=>by simp [InV,InL,InL_Ty]
    clear ia oa er jz gx ea ha
    generalize Fm.mk 5 s l [a]=f at *
    subst hty
    exact ek_ Tryz.func57 [.cell 2 29,.tmp 3,.tmp 4]
   ·have hc:(Fm.mk k s l [a]).fl.c=false∧(Fm.mk k s l [a]).ct.2=0:=by
     rcases hk with rfl|rfl|hk
     ·rw [ctk_4.1,ctk_4.2,ha];exact ⟨rfl,rfl⟩
     ·exact absurd rfl h5
     ·rw [(ctk_67 hk).1,(ctk_67 hk).2,ha];exact ⟨rfl,gx.1⟩
    refine ⟨_,.inl ⟨hc.2,rfl⟩,fun S=>by simp [InV,InL,InL_Ty],?_⟩
    intro h
    rw [hc.1]
    simp only [Bool.false_eq_true,if_false,hz]
    have k5:(k==5)=false:=by simpa using h5
    have k2:(k==2)=false:=by rcases hk with rfl|rfl|rfl|rfl<;>rfl
    have k1:(k==1)=false:=by rcases hk with rfl|rfl|rfl|rfl<;>rfl
    clear ia oa er jz gx ea ha hc h5 hk
    generalize Fm.mk k s l [a]=f at *
    exact ek_ Tryz.func57 [.cell 2 29,.tmp 3,.tmp 4]
  | true =>
   rw [ha] at pa
   simp only [if_true] at pa
   rcases hk with rfl|rfl|hk
   ·simp only [CtR,ctk_4.1,ctk_4.2,ha,if_true]
    obtain ⟨v,pj,hin,hv⟩:=c_ctJoinR (x:=(s,0)) (.inr rfl) ⟨rfl,hs⟩ gx
    refine ⟨v,?_,hin,?_⟩
    ·rcases hv with ⟨e1,rfl⟩|⟨e1,rfl⟩
     ·exact .inl ⟨e1,rfl⟩
     ·exact .inr ⟨e1,tZero,false,tZero_W,rfl⟩
    have hv':∃ (y:Ty) (c:Bool) (e:Int),v=.tup [.agg y.cells,.bool c,.int .i64 e]:=by
     rcases hv with ⟨_,rfl⟩|⟨_,rfl⟩<;>exact ⟨_,_,_,rfl⟩
    clear hv ia oa er jz gx ea ha
    obtain ⟨y,c,e,rfl⟩:=hv'
    generalize a.ct.1=ya at *
    intro h
    generalize Fm.mk 4 s l [a]=f at *
    subst hty
    simp only at pj
    exact ek_ Tryz.func57 [.cell 2 29,.tmp 3,.tmp 4]
   ·simp only [CtR,ctk_5.1,ctk_5.2,ha,if_true]
    obtain ⟨v,pj,hin,hv⟩:=c_ctJoinR (x:=(s,0)) (.inl rfl) ⟨rfl,hs⟩ gx
    refine ⟨v,?_,hin,?_⟩
    ·rcases hv with ⟨e1,rfl⟩|⟨e1,rfl⟩
     ·exact .inl ⟨e1,rfl⟩
     ·exact .inr ⟨e1,tZero,false,tZero_W,rfl⟩
    have hv':∃ (y:Ty) (c:Bool) (e:Int),v=.tup [.agg y.cells,.bool c,.int .i64 e]:=by
     rcases hv with ⟨_,rfl⟩|⟨_,rfl⟩<;>exact ⟨_,_,_,rfl⟩
    clear hv ia oa er jz gx ea ha
    obtain ⟨y,c,e,rfl⟩:=hv'
    generalize a.ct.1=ya at *
    intro h
    generalize Fm.mk 5 s l [a]=f at *
    subst hty
    simp only at pj
    exact ek_ Tryz.func57 [.cell 2 29,.tmp 3,.tmp 4]
   ·simp only [CtR,(ctk_67 hk).1,(ctk_67 hk).2,ha,if_true]
    refine ⟨_,.inl ⟨gx.1,rfl⟩,fun S=>by simp [InV,InL,InL_Ty],?_⟩
    intro h
    have hin:∀ S,InV S (V.tup [.agg a.ct.1.cells,.bool true,.int .i64 0]):=fun S=>by simp [InV,InL,InL_Ty]
    have k5:(k==5)=false:=by rcases hk with rfl|rfl<;>rfl
    have k4:(k==4)=false:=by rcases hk with rfl|rfl<;>rfl
    have k3:(k==3)=false:=by rcases hk with rfl|rfl<;>rfl
    have k2:(k==2)=false:=by rcases hk with rfl|rfl<;>rfl
    have k1:(k==1)=false:=by rcases hk with rfl|rfl<;>rfl
    clear ia oa er jz gx ea ha hk
    generalize a.ct.1=ya at *
    generalize Fm.mk k s l [a]=f at *
    exact ek_ Tryz.func57 [.cell 2 29,.tmp 3,.tmp 4]
theorem c_hc (f:Fm) (hf:FmW f):Pure Tryz.prog env 77 [.agg f.cells] (.bool f.hc):=by
 intro h
 have h1:=c_Content f hf
 unfold Fm.hc
 generalize f.has 1=p at *
 exact ek_ Tryz.func77 [.tmp 2]
theorem c_scVar (i:Int):Pure Tryz.prog env 164 [.int .i64 i] (.agg (tmVar i).cells):=by
 intro h
 have hv:(tmVar i).cells=[.int .i64 1,.int .i64 i,.int .i64 0,.sl .any [],.sl .any []]:=by simp [tmVar,Tm.mk_cells,Ty.mk_kind,Ty.mk_args]
 rw [hv]
 exact ek_ Tryz.func164 [.cell 2 32]
theorem c_scUnit:Pure Tryz.prog env 78 [] (.agg (tm0 13 []).cells):=by
 intro h
 have hv:(tm0 13 []).cells=[.int .i64 13,.int .i64 0,.int .i64 0,.sl .any [],.sl .any []]:=by simp [tm0,Tm.mk_cells,Ty.mk_kind,Ty.mk_args]
 rw [hv]
 exact ek_ Tryz.func78 [.cell 0 32]
theorem c_rlCall (t:Tm) (ht:TmW t):Pure Tryz.prog env 126 [.agg t.cells] (.agg (rlCall t).cells):=by
 intro h
 have h1:=c_sLift 1 t ht 0
 have h2:=c_scVar 0
 have hin:∀ S,InV S (V.agg (rlCall t).cells):=fun S=>by simp [InV,InL_Tm]
 have hv:(rlCall t).cells=[.int .i64 3,.int .i64 0,.int .i64 0,.sl .any [],.sl .any [(t.sl 1 0).cells,(tmVar 0).cells]]:=by simp [rlCall,tm0,Tm.mk_cells,Ty.mk_kind,Ty.mk_args]
 rw [hv] at hin ⊢
 clear hv
 generalize t.sl 1 0=x at *
 generalize tmVar 0=y at *
 exact ek_ Tryz.func126 [.cell 2 32]
theorem c_rlPart1 (k:Int) (t:Tm):Pure Tryz.prog env 122 [.int .i64 k,.agg t.cells] (.agg (tm0 k [t]).cells):=by
 intro h
 have hin:∀ S,InV S (V.agg (tm0 k [t]).cells):=fun S=>by simp [InV,InL_Tm]
 have hv:(tm0 k [t]).cells=[.int .i64 k,.int .i64 0,.int .i64 0,.sl .any [],.sl .any [t.cells]]:=by simp [tm0,Tm.mk_cells,Ty.mk_kind,Ty.mk_args]
 rw [hv] at hin ⊢
 clear hv
 exact ek_ Tryz.func122 [.cell 4 32]
theorem c_rlBuild (k:Int) (s:Ty) (l:List Fm) (hs:TyW s) (hl:l.length≤2) (hw:∀ x∈l,FmW x) :
  Pure Tryz.prog env 127 [.int .i64 k,.agg s.cells,.sl .any (l.map Fm.cells)] (fmErrV (if decide ((Fm.mk k s [] l).szW>4096) then (zeroF,4) else (.mk k s [] l,0))):=by
 intro h
 have h1:=c_Size (.mk k s [] l) (.mk _ _ _ _ hs (by simp) (by simp) (by omega) hw)
 rw [Fm.mk_cells] at h1
 have hin:∀ S,InV S (fmErrV (Fm.mk k s [] l,0)):=fun S=>by simp [fmErrV,InV,InL,InL_Fm]
 simp only [List.map_nil] at h1
 generalize (Fm.mk k s [] l).szW=n at *
 cases q1:decide (n>4096) with
 | true =>
  simp only [if_true,fmErrV,zeroF,Fm.mk_cells,Ty.mk_kind,Ty.mk_args,List.map_nil]
  clear hin
  exact ek_ Tryz.func127 [.cell 6 36,.tmp 7]
 | false =>
  simp only [Bool.false_eq_true,if_false,fmErrV,Fm.mk_cells,List.map_nil] at hin ⊢
  exact ek_ Tryz.func127 [.cell 6 36,.tmp 7]
theorem c_rlTwo (k:Int) (x y:Fm × Int) (a b:Fm) (s t:Tm) (hx:FmW x.1) (hy:FmW y.1)
  (h1:Pure Tryz.prog env 79 [.agg a.cells,.agg s.cells] (fmErrV x))
  (h2:Pure Tryz.prog env 79 [.agg b.cells,.agg t.cells] (fmErrV y)) :
  Pure Tryz.prog env 123 [.int .i64 k,.agg a.cells,.agg s.cells,.agg b.cells,.agg t.cells] (fmErrV (mTwo k x y)):=by
 intro h
 obtain ⟨xf,xe⟩:=x
 obtain ⟨yf,ye⟩:=y
 simp only [fmErrV] at h1 h2 hx hy
 unfold mTwo
 have h3:=c_rlBuild k tZero [xf,yf] tZero_W (by simp) (by simp [hx,hy])
 have e1:Fm.mk k tZero [] [xf,yf]=fmTwo k xf yf:=rfl
 rw [e1] at h3
 have hin:∀ S,InV S (fmErrV (if decide ((fmTwo k xf yf).szW>4096)=true then (zeroF,4) else (fmTwo k xf yf,0))):=fun S=>by simp [fmErrV,InV,InL,InL_Fm]
 rw [tZero_cells] at h3
 simp only [List.map_cons,List.map_nil] at h3
 simp only
 cases q1:(xe != 0) with
 | true =>
  clear h3 hin
  simp only [if_true,fmErrV,zeroF,Fm.mk_cells,Ty.mk_kind,Ty.mk_args,List.map_nil]
  exact ek_ Tryz.func123 [.cell 10 36,.tmp 11]
 | false =>
 cases q2:(ye != 0) with
 | true =>
  clear h3 hin
  simp only [if_true,Bool.false_eq_true,if_false,fmErrV,zeroF,Fm.mk_cells,Ty.mk_kind,Ty.mk_args,List.map_nil]
  exact ek_ Tryz.func123 [.cell 10 36,.tmp 11]
 | false =>
 simp only [Bool.false_eq_true,if_false]
 generalize (if decide ((fmTwo k xf yf).szW>4096)=true then (zeroF,(4:Int)) else (fmTwo k xf yf,0))=r at *
 obtain ⟨rf,re⟩:=r
 simp only [fmErrV] at h3 hin ⊢
 exact ek_ Tryz.func123 [.cell 10 36,.tmp 11]
theorem c_exists:∀ t:Fm,FmW t→Pure Tryz.prog env 167 [.agg t.cells] (.int .i64 t.exs):=by
 intro t
 induction t using Fm.ind with|h t ih=>?_
 intro ht h
 have hlen:=ht.len
 have ih':∀ x∈t.args,Pure Tryz.prog env 167 [.agg x.cells] (.int .i64 x.exs):=fun x hx=>ih x hx (ht.arg hx)
 clear ih
 have hv0:=t.exs_eq.symm
 generalize hvv:t.exs=v at hv0 ⊢
 clear hvv
 have hw1:IntKind.i64.wrap (0+1)=1:=rfl
 have hw3:IntKind.i64.wrap 1=1:=rfl
 cases k5:(t.kind==5)
 all_goals
  simp only [k5,if_true,Bool.false_eq_true,if_false] at hv0
  refine en_ Tryz.func167 [.tmp 2] fun g0 w0 gen hrel hfr hfr' hres=>?_
  refine wq_ ?_
  refine ar_ [2,12] [] (fun i σ=>Agree h σ.h∧∃ n,σ.tm 3=.int .i64 n∧Fm.exsL n (t.args.drop i)=v) (t.args).length ?_ ?_ ?_
  ·simp only [go_sem, *]
   first|exact ⟨_,rfl,hv0⟩|exact ⟨ag_,_,rfl,hv0⟩
  ·clear hv0
   intro i σ gr0 hgl_gr0 hgn hlt jI jN jS ⟨jA,n,jn,jv⟩
   obtain ⟨jT,jB⟩:=jS
   simp only [go_sem] at jT jB
   obtain ⟨hgf,hgf0,eg_gen_gr0,eh_gen_gr0⟩:=rnd hgn hgl_gr0 jA
   obtain ⟨x,hx,hxm,hm⟩:=rnx hlt
   clear hgn
   rw [drop_get hx,Fm.exsL_cons] at jv
   have hc:=ih' x hxm
   have hw2:IntKind.i64.wrap (n+x.exs)=addW n x.exs:=rfl
   clear ih'
   refine wq_ ?_
   first|exact ⟨_,rfl,jv⟩|exact ⟨ag_,_,rfl,jv⟩
  ·clear hv0
   intro σ ga0 hgl_ga0 hgn jS ⟨jA,n,jn,jv⟩
   obtain ⟨jT,jB⟩:=jS
   simp only [go_sem] at jT jB
   obtain ⟨hgf,hgf0,eg_gen_ga0,eh_gen_ga0⟩:=rnd hgn hgl_ga0 jA
   clear hgn
   rw [List.drop_length,Fm.exsL_nil] at jv
   subst jv
   clear ih'
   exact wk_
theorem c_LiftFormula1 (by':Int) (A d:GoAbs.Id) (cs:List V) (t:Tm) (ht:TmW t) (b:Int) (u:Unit) :
  TurnsE Tryz.prog env 190 (.agg t.cells::.int .i64 b::[.ptr A 0]) [(A,.box [.int .i64 by'])] d (.box cs) (.agg (t.sl by' b).cells) (.box cs):=by
 intro h he hd
 simp only [List.mem_cons,List.not_mem_nil,or_false,forall_eq] at he
 rw [hset_id hd]
 have hc:=c_sLift by' t ht b
 have hin:∀ S,InV S (V.agg (t.sl by' b).cells):=fun S=>by simp [InV,InL_Tm]
 generalize t.sl by' b=x at *
 clear hd
 refine en_ Tryz.func190 [.cell 5 32] fun g0 w0 gen hrel hfr hfr' hres=>?_
 have f1:=fresh_ne hfr he
 have f2:=fresh_ne' hfr he
 exact wk_
theorem c_LiftFormula (f:Fm) (hf:FmW f) (b:Int):Pure Tryz.prog env 163 [.agg f.cells,.int .i64 b] (.agg (f.slf b).cells):=by
 intro h
 unfold Fm.slf
 refine en_ Tryz.func163 [.cell 4 36] fun g0 w0 gen hrel hfr hfr' hres=>?_
 have nA:(⟨gen,0,1⟩:GoAbs.Id)≠⟨gen,0,0⟩:=by simp
 have hc:=c_sEach (fun _:Unit=>f.cells) (fun t d=>t.sl b d) (fun _ _ u=>u) 190 [.ptr ⟨gen,0,1⟩ 0] rfl (fun _ _=>InL_Fm f) ⟨gen,0,1⟩ ⟨gen,0,0⟩ (.box [.int .i64 b]) nA
  (fun t ht b' u=>c_LiftFormula1 b _ _ _ t ht b' u) f hf 0 ()
 clear nA
 generalize f.ev (fun t d=>t.sl b d) 0=g at hc ⊢
 repeat' (first
  |exact hin _|exact agf (by assumption)
  | (first|refine wp rfl ?_|(refine Call1_turnE (hc) ?_ ?_ ?_;(focus ((simp only [go_sem, *]<;>(repeat (first|assumption|rfl|refine And.intro ?_ ?_)));done));(focus ((simp only [go_sem, *]<;>first|rfl|assumption);done)))|refine finF hrel ?_ ?_ ?_)<;>try simp only [go_sem, *])
theorem slf_W {b:Int}:∀ (f:Fm) (d:Int),FmW f→FmW (f.ev (fun t e=>t.sl b e) d):=by
 intro f
 induction f using Fm.ind with|h f ih=>?_
 intro d hf
 rw [Fm.ev_eq]
 refine .mk _ _ _ _ hf.ty (by rw [List.length_map];exact hf.tlen) ?_ (by rw [List.length_map];exact hf.len) ?_
 ·intro x hx
  obtain ⟨y,hy,rfl⟩:=List.mem_map.1 hx
  exact sl_W _ _ (hf.term hy)
 ·intro x hx
  obtain ⟨y,hy,rfl⟩:=List.mem_map.1 hx
  exact ih y hy _ (hf.arg hy)
theorem rlPart_W {b:Bool} {k:Int} {t:Tm} (h:TmW t):TmW (rlPart b k t):=by
 unfold rlPart;split
 ·exact tm0_W1 h
 ·exact h
theorem rlUp_W {b:Bool} {t:Tm} (h:TmW t):TmW (rlUp b t):=by
 unfold rlUp rlCall;split
 ·exact tm0_W2 (sl_W _ _ h) (tmVar_W _)
 ·exact sl_W _ _ h
theorem rlBuild_W {k:Int} {s:Ty} (hs:TyW s) {x:Fm × Int} (hx:FmW x.1):FmW (rlBuild k s x).1:=by
 unfold rlBuild
 repeat' split
 ·exact zeroF_W'
 ·exact zeroF_W'
 ·exact .mk _ _ _ _ hs (by simp) (by simp) (by simp) (by simp [hx])
theorem CtOk_W {p:Ty × Int} (h:CtOk p):TyW p.1:=by
 rcases h with ⟨_,h⟩|rfl
 ·exact h.1.W
 ·exact tZero_W
theorem cty_W {f:Fm} (hC:FmC f):TyW f.cty.1:=by
 unfold Fm.cty;split
 ·exact tZero_W
 ·exact CtOk_W hC.ok.1
theorem rlOf_W:∀ (n:Nat) (f:Fm) (t:Tm),FmC f→FmW f→TmW t→FmW (rlOf n f t).1
 | 0,_,_,_,_,_=>zeroF_W'
 | n+1,f,t,hC,hf,ht=>by
  have hg:∀ i,(f.args.getD i zeroF∈f.args)∨f.args.getD i zeroF=zeroF:=fun i=>by
   rw [List.getD_eq_getElem?_getD]
   cases hh:f.args[i]? with
   | none=>exact .inr rfl
   | some x=>exact .inl (List.mem_of_getElem? hh)
  have hC2:∀ i,i<f.args.length→FmC (f.args.getD i zeroF)∧FmW (f.args.getD i zeroF):=fun i hi=>by
   rw [List.getD_eq_getElem?_getD,List.getElem?_eq_getElem hi]
   have hm:f.args[i]∈f.args:=List.getElem_mem hi
   exact ⟨hC.arg hm,hf.arg hm⟩
  have hl:((f.kind==2)=true→2≤f.args.length)∧((f.kind==3)=true→2≤f.args.length)∧((f.kind==4||f.kind==6||f.kind==7)=true→1≤f.args.length)∧((f.kind==5)=true→1≤f.args.length):=by
   cases hC with
   | eq=>simp [Fm.kind]
   | two hk _ _=>rcases hk with rfl|rfl<;>simp [Fm.kind,Fm.args]
   | q hk _ _=>rcases hk with rfl|rfl|rfl|rfl<;>simp [Fm.kind,Fm.args]
  obtain ⟨l2,l3,l4,l5⟩:=hl
  rw [rlOf]
  split
  ·exact zeroF_W'
  split
  ·rename_i h;have h2:=l2 h
   obtain ⟨a1,a2⟩:=hC2 0 (by omega)
   obtain ⟨b1,b2⟩:=hC2 1 (by omega)
   exact mTwo_W (rlOf_W n _ _ a1 a2 (rlPart_W ht)) (rlOf_W n _ _ b1 b2 (rlPart_W ht))
  split
  ·rename_i h;have h2:=l3 h
   obtain ⟨a1,a2⟩:=hC2 0 (by omega)
   obtain ⟨b1,b2⟩:=hC2 1 (by omega)
   unfold rlImp
   repeat' split
   ·exact mTwo_W (rlOf_W n _ _ a1 a2 ht) (rlOf_W n _ _ b1 b2 ht)
   ·exact zeroF_W'
   ·exact rlBuild_W (cty_W a1) (mTwo_W (rlOf_W n _ _ (a1.ev _) (slf_W _ _ a2) (tmVar_W _)) (rlOf_W n _ _ (b1.ev _) (slf_W _ _ b2) (rlUp_W ht)))
  split
  ·rename_i h;have h2:=l4 h
   obtain ⟨a1,a2⟩:=hC2 0 (by omega)
   exact rlBuild_W hf.ty (rlOf_W n _ _ a1 a2 (rlUp_W ht))
  split
  ·rename_i h;have h2:=l5 h
   obtain ⟨a1,a2⟩:=hC2 0 (by omega)
   unfold rlEx
   split
   ·exact zeroF_W'
   ·exact rlOf_W n _ _ (a1.ev _) (fsp_W (rlPart_W ht) _ _ a2) (rlPart_W ht)
  ·exact hf
theorem c_ctType (f:Fm) (hC:FmC f) (hf:FmW f):Pure Tryz.prog env 24 [.agg f.cells] (tyErrV f.cty):=by
 intro h
 have h1:=c_fmCheck f hf
 obtain ⟨v,hv,hin,h2⟩:=c_ctOf hC hf
 have ho:=hC.ok
 have hz:=tZero_cells
 have n0:((0:Int) != 0)=false:=rfl
 have n4:((4:Int) != 0)=true:=rfl
 have hu:tUnit.cells=[.int .i64 5,.sl .any []]:=by simp [tUnit,Ty.mk_cells]
 unfold Fm.cty
 generalize fmErr f=e at *
 cases q1:(e != 0) with
 | true =>
  simp only [if_true,tyErrV,hz]
  clear h2 hin hv ho
  exact ek_ Tryz.func24 [.cell 2 29,.tmp 3]
 | false =>
 simp only [Bool.false_eq_true,if_false]
 rcases hv with ⟨e0,rfl⟩|⟨e4,x,b,hx,rfl⟩
 ·have hp:f.ct=(f.ct.1,0):=by rw [← e0]
  cases qc:f.fl.c with
  | true =>
   rw [qc] at h2
   simp only [if_true] at h2
   rw [hp]
   simp only [tyErrV]
   have hin2:∀ S,InV S (V.tup [.agg f.ct.1.cells,.int .i64 0]):=fun S=>by simp [InV,InL,InL_Ty]
   clear hin ho
   generalize f.ct.1=y at *
   exact ek_ Tryz.func24 [.cell 2 29,.tmp 3]
  | false =>
   rw [ho.2 qc]
   rw [qc] at h2
   simp only [Bool.false_eq_true,if_false,hz] at h2
   simp only [tyErrV,hu]
   clear hin ho
   exact ek_ Tryz.func24 [.cell 2 29,.tmp 3]
 ·rw [e4]
  simp only [tyErrV,hz]
  clear hin ho
  exact ek_ Tryz.func24 [.cell 2 29,.tmp 3]
theorem c_rlImp (r:Fm→Tm→Fm × Int) (f a b:Fm) (hmap:f.args.map Fm.cells=[a.cells,b.cells]) (ca:FmC a) (wa:FmW a) (wb:FmW b) (t:Tm) (ht:TmW t) (hrW:∀ x y,FmC x→FmW x→TmW y→FmW (r x y).1) (cb:FmC b)
  (H1:Pure Tryz.prog env 79 [.agg a.cells,.agg t.cells] (fmErrV (r a t)))
  (H2:Pure Tryz.prog env 79 [.agg b.cells,.agg t.cells] (fmErrV (r b t)))
  (H3:Pure Tryz.prog env 79 [.agg (a.slf 1).cells,.agg (tmVar 0).cells] (fmErrV (r (a.slf 1) (tmVar 0))))
  (H4:∀ u,TmW u→Pure Tryz.prog env 79 [.agg (b.slf 1).cells,.agg u.cells] (fmErrV (r (b.slf 1) u))) :
  Pure Tryz.prog env 124 [.agg f.cells,.agg t.cells] (fmErrV (rlImp r a b t)):=by
 intro h
 have k1:=c_hc a wa
 have k2:=c_hc b wb
 have k3:=c_ctType a ca wa
 have k4:=c_LiftFormula a wa 1
 have k5:=c_LiftFormula b wb 1
 have k6:=c_sLift 1 t ht 0
 have k7:=c_rlCall t ht
 have k8:=c_scVar 0
 have hin:∀ S,InV S (fmErrV (rlImp r a b t)):=fun S=>by simp [fmErrV,InV,InL,InL_Fm]
 have sa:FmW (a.slf 1):=slf_W _ _ wa
 have sb:FmW (b.slf 1):=slf_W _ _ wb
 have sca:FmC (a.slf 1):=ca.ev _
 have scb:FmC (b.slf 1):=cb.ev _
 unfold rlImp at hin ⊢
 cases q1:a.hc with
 | false =>
  rw [q1] at k1 hin
  simp only [Bool.not_false,if_true] at hin ⊢
  have k9:=c_rlTwo 3 _ _ a b t t (hrW _ _ ca wa ht) (hrW _ _ cb wb ht) H1 H2
  clear k2 k3 k4 k5 k6 k7 k8 H1 H2 H3 H4 hrW
  generalize mTwo 3 (r a t) (r b t)=p at *
  obtain ⟨pf,pe⟩:=p
  simp only [fmErrV] at k9 hin ⊢
  exact ek_ Tryz.func124 [.cell 4 36,.tmp 5]
 | true =>
 rw [q1] at k1 hin
 simp only [Bool.not_true,Bool.false_eq_true,if_false] at hin ⊢
 have cw:=cty_W ca
 generalize a.cty=c at *
 obtain ⟨cT,ce⟩:=c
 simp only [tyErrV] at k3 hin cw ⊢
 cases q2:(ce != 0) with
 | true =>
  simp only [if_true,fmErrV,zeroF,Fm.mk_cells,Ty.mk_kind,Ty.mk_args,List.map_nil]
  clear k2 k4 k5 k6 k7 k8 H1 H2 H3 H4 hin hrW
  exact ek_ Tryz.func124 [.cell 4 36,.tmp 5]
 | false =>
 rw [q2] at hin
 simp only [Bool.false_eq_true,if_false] at hin ⊢
 have hu:TmW (rlUp b.hc t):=rlUp_W ht
 have k9:=c_rlTwo 3 _ _ (a.slf 1) (b.slf 1) (tmVar 0) (rlUp b.hc t) (hrW _ _ sca sa (tmVar_W 0)) (hrW _ _ scb sb hu) H3 (H4 _ hu)
 have wM:FmW (mTwo 3 (r (a.slf 1) (tmVar 0)) (r (b.slf 1) (rlUp b.hc t))).1:=mTwo_W (hrW _ _ sca sa (tmVar_W 0)) (hrW _ _ scb sb hu)
 clear H1 H2 H3 H4 hrW
 generalize mTwo 3 (r (a.slf 1) (tmVar 0)) (r (b.slf 1) (rlUp b.hc t))=p at *
 obtain ⟨pf,pe⟩:=p
 simp only [fmErrV] at k9 wM
 have k10:=c_rlBuild 4 cT [pf] cw (by simp) (by simp [wM])
 have e1:Fm.mk 4 cT [] [pf]=fmQ 4 cT pf:=rfl
 rw [e1] at k10
 simp only [List.map_cons,List.map_nil] at k10
 unfold rlBuild at hin ⊢
 simp only at hin ⊢
 generalize a.slf 1=a1 at *
 generalize b.slf 1=b1 at *
 generalize tmVar 0=v0 at *
 unfold rlUp at *
 cases q4:b.hc with
 | true =>
  rw [q4] at k2 k9
  simp only [if_true] at k9
  generalize rlCall t=u at *
  cases q3:(pe != 0) with
  | true =>
   clear k10 hin hu
   simp only [if_true,fmErrV,zeroF,Fm.mk_cells,Ty.mk_kind,Ty.mk_args,List.map_nil]
   exact ek_ Tryz.func124 [.cell 4 36,.tmp 5]
  | false =>
   rw [q3] at hin
   simp only [Bool.false_eq_true,if_false] at hin ⊢
   clear hu
   generalize (if decide ((fmQ 4 cT pf).szW>4096)=true then (zeroF,(4:Int)) else (fmQ 4 cT pf,0))=z at *
   obtain ⟨zf,ze⟩:=z
   simp only [fmErrV] at k10 hin ⊢
   exact ek_ Tryz.func124 [.cell 4 36,.tmp 5]
 | false =>
  rw [q4] at k2 k9
  simp only [Bool.false_eq_true,if_false] at k9
  generalize t.sl 1 0=u at *
  clear k7
  cases q3:(pe != 0) with
  | true =>
   clear k10 hin hu
   simp only [if_true,fmErrV,zeroF,Fm.mk_cells,Ty.mk_kind,Ty.mk_args,List.map_nil]
   exact ek_ Tryz.func124 [.cell 4 36,.tmp 5]
  | false =>
   rw [q3] at hin
   simp only [Bool.false_eq_true,if_false] at hin ⊢
   clear hu
   generalize (if decide ((fmQ 4 cT pf).szW>4096)=true then (zeroF,(4:Int)) else (fmQ 4 cT pf,0))=z at *
   obtain ⟨zf,ze⟩:=z
   simp only [fmErrV] at k10 hin ⊢
   exact ek_ Tryz.func124 [.cell 4 36,.tmp 5]
theorem c_rlEx (r:Fm→Tm→Fm × Int) (f a:Fm) (hmap:f.args.map Fm.cells=[a.cells]) (wa:FmW a) (t:Tm) (ht:TmW t)
  (H:∀ x y,TmW x→TmW y→Pure Tryz.prog env 79 [.agg (a.sp x).cells,.agg y.cells] (fmErrV (r (a.sp x) y))) :
  Pure Tryz.prog env 128 [.agg f.cells,.agg t.cells] (fmErrV (rlEx r a t)):=by
 intro h
 have k1:=c_hc a wa
 have k2:=c_rlPart1 11 t
 have k3:=c_rlPart1 12 t
 have k4:=c_exists a wa
 have hx:TmW (rlPart a.hc 11 t):=rlPart_W ht
 have hy:TmW (rlPart a.hc 12 t):=rlPart_W ht
 have k5:=c_Nodes _ hx
 have k6:=c_Grown a wa _ hx
 have k7:=c_PutFormula a wa _ hx
 have k8:=H _ _ hx hy
 have hw:IntKind.i64.wrap (a.grown (rlPart a.hc 11 t) - a.exs)=subW (a.grown (rlPart a.hc 11 t)) a.exs:=rfl
 have hin:∀ S,InV S (fmErrV (r (a.sp (rlPart a.hc 11 t)) (rlPart a.hc 12 t))):=fun S=>by simp [fmErrV,InV,InL,InL_Fm]
 unfold rlEx
 clear H
 generalize r (a.sp (rlPart a.hc 11 t)) (rlPart a.hc 12 t)=p at *
 obtain ⟨pf,pe⟩:=p
 simp only [fmErrV] at k8 hin
 generalize a.sp (rlPart a.hc 11 t)=g at *
 generalize a.grown (rlPart a.hc 11 t)=n1 at *
 generalize a.exs=n2 at *
 generalize subW n1 n2=n3 at *
 generalize (rlPart a.hc 11 t).szW=n4 at *
 unfold rlPart at *
 clear hx hy
 cases q0:a.hc with
 | true =>
  rw [q0] at k1 k5 k6 k7 k8
  simp only [if_true] at k5 k6 k7 k8
  generalize tm0 11 [t]=x at *
  generalize tm0 12 [t]=y at *
  cases q1:decide (n4>4096) with
  | true =>
   simp only [Bool.true_or,if_true,fmErrV,zeroF,Fm.mk_cells,Ty.mk_kind,Ty.mk_args,List.map_nil]
   clear hin k4 k6 k7 k8
   exact ek_ Tryz.func128 [.cell 4 36,.tmp 5]
  | false =>
  cases q2:decide (n3>4096) with
  | true =>
   simp only [Bool.false_or,if_true,fmErrV,zeroF,Fm.mk_cells,Ty.mk_kind,Ty.mk_args,List.map_nil]
   clear hin k7 k8
   exact ek_ Tryz.func128 [.cell 4 36,.tmp 5]
  | false =>
   simp only [Bool.or_false,Bool.false_eq_true,if_false,fmErrV]
   exact ek_ Tryz.func128 [.cell 4 36,.tmp 5]
 | false =>
  rw [q0] at k1 k5 k6 k7 k8
  simp only [Bool.false_eq_true,if_false] at k5 k6 k7 k8
  clear k2 k3
  cases q1:decide (n4>4096) with
  | true =>
   simp only [Bool.true_or,if_true,fmErrV,zeroF,Fm.mk_cells,Ty.mk_kind,Ty.mk_args,List.map_nil]
   clear hin k4 k6 k7 k8
   exact ek_ Tryz.func128 [.cell 4 36,.tmp 5]
  | false =>
  cases q2:decide (n3>4096) with
  | true =>
   simp only [Bool.false_or,if_true,fmErrV,zeroF,Fm.mk_cells,Ty.mk_kind,Ty.mk_args,List.map_nil]
   clear hin k7 k8
   exact ek_ Tryz.func128 [.cell 4 36,.tmp 5]
  | false =>
   simp only [Bool.or_false,Bool.false_eq_true,if_false,fmErrV]
   exact ek_ Tryz.func128 [.cell 4 36,.tmp 5]
theorem c_rlOf:∀ (n:Nat) (f:Fm),fdp f≤n→FmC f→FmW f→∀ t:Tm,TmW t→Pure Tryz.prog env 79 [.agg f.cells,.agg t.cells] (fmErrV (rlOf n f t)):=by
 intro n
 induction n with
 | zero=>intro f hd;have:=(show 1≤fdp f by (cases f;rw [fdp];omega));omega
 | succ n ih =>
  intro f hd hC hf t ht h
  have h1:=c_Nodes t ht
  have hin0:∀ S,InV S (fmErrV (rlOf (n+1) f t)):=fun S=>by simp [fmErrV,InV,InL,InL_Fm]
  cases q1:decide (t.szW>4096) with
  | true =>
   rw [rlOf,q1]
   simp only [if_true,fmErrV,zeroF,Fm.mk_cells,Ty.mk_kind,Ty.mk_args,List.map_nil]
   clear hin0
   exact ek_ Tryz.func79 [.cell 4 36,.tmp 5]
  | false =>
  have hm:=rlOf_else (n:=n) (f:=f) (t:=t) (by simpa using q1)
  rw [hm] at hin0 ⊢
  clear hm
  have evW:∀ {x:Fm},FmW x→FmW (x.slf 1):=fun h=>slf_W _ _ h
  have evd:∀ {x:Fm},fdp (x.slf 1)=fdp x:=fun {x}=>fdp_ev _ _
  cases hC with
  | @eq ty l =>
   have hk:(Fm.mk 1 ty l []).kind=1:=rfl
   change ∀ S,InV S (fmErrV (Fm.mk 1 ty l [],0)) at hin0
   show Ret _ _ _ _ h (fmErrV (Fm.mk 1 ty l [],0)) h
   simp only [fmErrV] at hin0 ⊢
   clear ih hd hf evW evd
   generalize Fm.mk 1 ty l []=f at *
   exact ek_ Tryz.func79 [.cell 4 36,.tmp 5]
  | @two k ty l a b hk ca cb =>
   have da:fdp a≤n∧fdp b≤n:=by
    have x1:=fdp_arg (f:=.mk k ty l [a,b]) (x:=a) (by simp [Fm.args])
    have x2:=fdp_arg (f:=.mk k ty l [a,b]) (x:=b) (by simp [Fm.args])
    omega
   have wa:FmW a:=hf.arg (x:=a) (by simp [Fm.args])
   have wb:FmW b:=hf.arg (x:=b) (by simp [Fm.args])
   have hmap:(Fm.mk k ty l [a,b]).args.map Fm.cells=[a.cells,b.cells]:=rfl
   have hkk:(Fm.mk k ty l [a,b]).kind=k:=rfl
   rcases hk with rfl|rfl
   ·change ∀ S,InV S (fmErrV (rlAnd (rlOf n) a b t)) at hin0
    show Ret _ _ _ _ h (fmErrV (rlAnd (rlOf n) a b t)) h
    unfold rlAnd at hin0 ⊢
    have k1:=c_hc a wa
    have k2:=c_hc b wb
    have k3:=c_rlPart1 11 t
    have k4:=c_rlPart1 12 t
    have x1:TmW (rlPart (a.hc&&b.hc) 11 t):=rlPart_W ht
    have x2:TmW (rlPart (a.hc&&b.hc) 12 t):=rlPart_W ht
    have k5:=c_rlTwo 2 _ _ a b _ _ (rlOf_W n a _ ca wa x1) (rlOf_W n b _ cb wb x2) (ih a da.1 ca wa _ x1) (ih b da.2 cb wb _ x2)
    clear ih hf evW evd x1 x2
    generalize mTwo 2 (rlOf n a (rlPart (a.hc&&b.hc) 11 t)) (rlOf n b (rlPart (a.hc&&b.hc) 12 t))=p at *
    obtain ⟨pf,pe⟩:=p
    simp only [fmErrV] at k5 hin0 ⊢
    unfold rlPart at k5
    generalize tm0 11 [t]=x at *
    generalize tm0 12 [t]=y at *
    generalize a.hc=ha at *
    generalize b.hc=hb at *
    generalize Fm.mk 2 ty l [a,b]=f at *
    cases ha<;>cases hb<;>simp only [Bool.and_self,Bool.and_true,Bool.and_false,Bool.false_eq_true,if_true,if_false] at k5
    all_goals
     exact ek_ Tryz.func79 [.cell 4 36,.tmp 5]
   ·change ∀ S,InV S (fmErrV (rlImp (rlOf n) a b t)) at hin0
    show Ret _ _ _ _ h (fmErrV (rlImp (rlOf n) a b t)) h
    have k5:=c_rlImp (rlOf n) (Fm.mk 3 ty l [a,b]) a b hmap ca wa wb t ht (fun x y hx wx wy=>rlOf_W n x y hx wx wy) cb (ih a da.1 ca wa t ht) (ih b da.2 cb wb t ht)
     (ih (a.slf 1) (by rw [evd];exact da.1) (ca.ev _) (evW wa) _ (tmVar_W _)) (fun u hu=>ih (b.slf 1) (by rw [evd];exact da.2) (cb.ev _) (evW wb) _ hu)
    clear ih hf evW evd
    generalize rlImp (rlOf n) a b t=p at *
    obtain ⟨pf,pe⟩:=p
    simp only [fmErrV] at k5 hin0 ⊢
    generalize Fm.mk 3 ty l [a,b]=f at *
    exact ek_ Tryz.func79 [.cell 4 36,.tmp 5]
  | @q k ty l a hk hs ca =>
   have da:fdp a≤n:=by
    have x1:=fdp_arg (f:=.mk k ty l [a]) (x:=a) (by simp [Fm.args])
    omega
   have wa:FmW a:=hf.arg (x:=a) (by simp [Fm.args])
   have hmap:(Fm.mk k ty l [a]).args.map Fm.cells=[a.cells]:=rfl
   have hkk:(Fm.mk k ty l [a]).kind=k:=rfl
   have hty:(Fm.mk k ty l [a]).type=ty:=rfl
   have key:∀ (k':Int) (b:Bool),∃ (pf x:Fm) (pe e:Int),rlBuild k' ty (rlOf n a (rlUp b t))=(pf,pe)∧Pure Tryz.prog env 79 [.agg a.cells,.agg (rlUp b t).cells] (.tup [.agg x.cells,.int .i64 e]) ∧
     ((e != 0)=true→pf=zeroF∧pe=e)∧((e != 0)=false→Pure Tryz.prog env 127 [.int .i64 k',.agg ty.cells,.sl .any [x.cells]] (.tup [.agg pf.cells,.int .i64 pe])):=by
    intro k' b
    have k9:=ih a da ca wa _ (rlUp_W (b:=b) ht)
    have wx:=rlOf_W n a _ ca wa (rlUp_W (b:=b) ht)
    generalize rlOf n a (rlUp b t)=z at *
    obtain ⟨x,e⟩:=z
    have k10:=c_rlBuild k' ty [x] hs.1.W (by simp) (by simpa using wx)
    simp only [List.map_cons,List.map_nil] at k10
    generalize hpq:rlBuild k' ty (x,e)=p
    obtain ⟨pf,pe⟩:=p
    unfold rlBuild at hpq
    refine ⟨pf,x,pe,e,rfl,k9,fun he=>?_,fun he=>?_⟩
    ·simp only [he,if_true,Prod.mk.injEq] at hpq
     exact ⟨hpq.1.symm,hpq.2.symm⟩
    ·simp only [he,Bool.false_eq_true,if_false] at hpq
     have k11:Pure Tryz.prog env 127 [.int .i64 k',.agg ty.cells,.sl .any [x.cells]] (fmErrV (pf,pe)):=by rw [← hpq];exact k10
     exact k11
   have hz:zeroF.cells=[.int .i64 0,.int .i64 0,.sl .any [],.sl .any [],.sl .any []]:=by simp [zeroF,Fm.mk_cells,Ty.mk_kind,Ty.mk_args]
   have kU:=c_sLift 1 t ht 0
   have kC:=c_rlCall t ht
   rcases hk with rfl|rfl|rfl|rfl
   ·have k1:=c_hc a wa
    change ∀ S,InV S (fmErrV (rlBuild 4 ty (rlOf n a (rlUp a.hc t)))) at hin0
    show Ret _ _ _ _ h (fmErrV (rlBuild 4 ty (rlOf n a (rlUp a.hc t)))) h
    obtain ⟨pf,x,pe,e,e1,k9,kE,kO⟩:=key 4 a.hc
    rw [e1] at hin0 ⊢
    simp only [fmErrV] at hin0 ⊢
    clear key ih hf evW evd e1 ca wa
    unfold rlUp at k9
    generalize rlCall t=u1 at *
    generalize t.sl 1 0=u2 at *
    generalize a.hc=ha at *
    generalize Fm.mk 4 ty l [a]=f at *
    subst hty
    cases ha<;>simp only [Bool.false_eq_true,if_true,if_false] at k9
    all_goals
     cases he:(e != 0) with
     | true =>
      obtain ⟨rfl,rfl⟩:=kE he
      rw [hz] at hin0 ⊢
      clear kO
      exact ek_ Tryz.func79 [.cell 4 36,.tmp 5]
     | false =>
      have k10:=kO he
      clear kO kE
      exact ek_ Tryz.func79 [.cell 4 36,.tmp 5]
   ·change ∀ S,InV S (fmErrV (rlEx (rlOf n) a t)) at hin0
    show Ret _ _ _ _ h (fmErrV (rlEx (rlOf n) a t)) h
    have k5:=c_rlEx (rlOf n) (Fm.mk 5 ty l [a]) a hmap wa t ht (fun x y hx hy=>ih (a.sp x) (by unfold Fm.sp;rw [fdp_ev];exact da) (ca.ev _) (fsp_W hx _ _ wa) _ hy)
    clear ih hf evW evd key kU kC
    generalize rlEx (rlOf n) a t=p at *
    obtain ⟨pf,pe⟩:=p
    simp only [fmErrV] at k5 hin0 ⊢
    generalize Fm.mk 5 ty l [a]=f at *
    exact ek_ Tryz.func79 [.cell 4 36,.tmp 5]
   ·change ∀ S,InV S (fmErrV (rlBuild 4 ty (rlOf n a (rlUp false t)))) at hin0
    show Ret _ _ _ _ h (fmErrV (rlBuild 4 ty (rlOf n a (rlUp false t)))) h
    obtain ⟨pf,x,pe,e,e1,k9,kE,kO⟩:=key 4 false
    rw [e1] at hin0 ⊢
    simp only [fmErrV] at hin0 ⊢
    clear key ih hf evW evd e1 ca wa kC
    unfold rlUp at k9
    simp only [Bool.false_eq_true,if_false] at k9
    generalize t.sl 1 0=u2 at *
    generalize Fm.mk 6 ty l [a]=f at *
    subst hty
    cases he:(e != 0) with
    | true =>
     obtain ⟨rfl,rfl⟩:=kE he
     rw [hz] at hin0 ⊢
     clear kO
     exact ek_ Tryz.func79 [.cell 4 36,.tmp 5]
    | false =>
     have k10:=kO he
     clear kO kE
     exact ek_ Tryz.func79 [.cell 4 36,.tmp 5]
   ·change ∀ S,InV S (fmErrV (rlBuild 7 ty (rlOf n a (rlUp false t)))) at hin0
    show Ret _ _ _ _ h (fmErrV (rlBuild 7 ty (rlOf n a (rlUp false t)))) h
    obtain ⟨pf,x,pe,e,e1,k9,kE,kO⟩:=key 7 false
    rw [e1] at hin0 ⊢
    simp only [fmErrV] at hin0 ⊢
    clear key ih hf evW evd e1 ca wa kC
    unfold rlUp at k9
    simp only [Bool.false_eq_true,if_false] at k9
    generalize t.sl 1 0=u2 at *
    generalize Fm.mk 7 ty l [a]=f at *
    subst hty
    cases he:(e != 0) with
    | true =>
     obtain ⟨rfl,rfl⟩:=kE he
     rw [hz] at hin0 ⊢
     clear kO
     exact ek_ Tryz.func79 [.cell 4 36,.tmp 5]
    | false =>
     have k10:=kO he
     clear kO kE
     exact ek_ Tryz.func79 [.cell 4 36,.tmp 5]
theorem c_rlF (f:Fm) (hC:FmC f) (hf:FmW f) (t:Tm) (ht:TmW t):Pure Tryz.prog env 36 [.agg f.cells,.agg t.cells] (fmErrV (rlF f t)):=by
 intro h
 have h1:=c_fmCheck f hf
 have h2:=c_termsCheck t ht
 have h3:=c_FarFormula f hf
 have h4:=c_Far t ht
 have h5:=c_hc f hf
 have h6:=c_scUnit
 have wt:TmW (if f.hc then t else tm0 13 []):=by split;exact ht;exact tm0_W0
 have h7:=c_rlOf _ f (Nat.le_refl _) hC hf _ wt
 have hin:∀ S,InV S (fmErrV (rlOf (fdp f) f (if f.hc then t else tm0 13 []))):=fun S=>by simp [fmErrV,InV,InL,InL_Fm]
 unfold rlF
 clear wt
 generalize rlOf (fdp f) f (if f.hc then t else tm0 13 [])=r at *
 obtain ⟨rf,re⟩:=r
 simp only [fmErrV] at h7 hin
 generalize fmErr f=e1 at *
 generalize tmErr t=e2 at *
 generalize f.far=b1 at *
 generalize (!t.least 268435456)=b2 at *
 cases q1:(e1 != 0) with
 | true =>
  clear h7 hin
  simp only [if_true,fmErrV,zeroF,Fm.mk_cells,Ty.mk_kind,Ty.mk_args,List.map_nil]
  exact ek_ Tryz.func36 [.cell 4 36,.tmp 5]
 | false =>
 cases q2:(e2 != 0) with
 | true =>
  clear h7 hin
  simp only [Bool.false_eq_true,if_false,if_true,fmErrV,zeroF,Fm.mk_cells,Ty.mk_kind,Ty.mk_args,List.map_nil]
  exact ek_ Tryz.func36 [.cell 4 36,.tmp 5]
 | false =>
 cases b1
 case true =>
  clear h7 hin
  simp only [Bool.false_eq_true,if_false,if_true,Bool.true_or,fmErrV,zeroF,Fm.mk_cells,Ty.mk_kind,Ty.mk_args,List.map_nil]
  exact ek_ Tryz.func36 [.cell 4 36,.tmp 5]
 cases b2
 case true =>
  clear h7 hin
  simp only [Bool.false_eq_true,if_false,if_true,Bool.or_true,fmErrV,zeroF,Fm.mk_cells,Ty.mk_kind,Ty.mk_args,List.map_nil]
  exact ek_ Tryz.func36 [.cell 4 36,.tmp 5]
 simp only [Bool.false_eq_true,if_false,Bool.or_self,fmErrV]
 generalize f.hc=hb at *
 cases hb
 ·simp only [Bool.false_eq_true,if_false] at h7
  generalize tm0 13 []=u at *
  exact ek_ Tryz.func36 [.cell 4 36,.tmp 5]
 ·simp only [if_true] at h7
  exact ek_ Tryz.func36 [.cell 4 36,.tmp 5]
end Go.Proofs.YtmnplkmphgkooaaGreatDoor
