/-
 Walks: the types of terms (references).
-/
import Derived.Test.YteaijonkbbkkjaaGreatDoorMg
import Derived.Test.YteaijonkbbkkjaaGreatDoorMc
import Derived.Test.YteaijonkbbkkjaaGreatDoorAbsD
set_option linter.unusedSimpArgs false
set_option linter.unusedVariables false
set_option maxRecDepth 20000
set_option maxHeartbeats 4000000
namespace Go.Proofs.YteaijonkbbkkjaaGreatDoor
open Go GoAbs Go.Proofs
theorem db1 (t:Ty) (ht:TyG t):Pure Tryz.prog env 237 [.agg t.cells] (.tup [.agg t.cells,.int .i64 0]):=by
 intro h;have h1:=ag2 t ht.1.W;rw [ht.err] at h1;have n0:((0:Int) != 0)=false:=rfl;clear ht;exact ek_ Tryz.func237 [.cell 2 27,.tmp 3]
theorem ap1 (g:List Ty) (k:Int) (ty:Ty) (hty:TyW ty) (l:List Tm) (ts:List Ty) (s:Ty) (hN:S7 TyG k ty ts s) (hlen:l.length=ts.length) (hts:∀ y∈ts,TyW y)
  (ih:∀ (j:Nat) (x:Tm) (a:Ty),l[j]? = some x→ts[j]? = some a→Pure Tryz.prog env 224 [.sl .any (g.map Ty.cells),.agg x.cells] (.tup [.agg a.cells,.int .i64 0])) :
  Pure Tryz.prog env 224 [.sl .any (g.map Ty.cells),.agg (tmT k ty l).cells] (.tup [.agg s.cells,.int .i64 0]):=by
 intro h;have hk1:(k==1)=false:=by cases hN<;>rfl
 have hk2:(k==2)=false:=by cases hN<;>rfl
 have hl3:l.length≤3:=by rw [hlen];cases hN<;>simp
 have e1:(tmT k ty l).kind=k:=rfl;have e2:(tmT k ty l).type=ty:=rfl;have e3:(tmT k ty l).args=l:=rfl;generalize tmT k ty l=t at *;have n0:((0:Int) != 0)=false:=rfl;have I8:∀ (i:Nat) (x:Tm),l[i]? = some x→∃ a,ts[i]? = some a:=fun i x hx=>⟨_,List.getElem?_eq_getElem (by have:=(List.getElem?_eq_some_iff.1 hx).1;omega)⟩;have aI8:ts.take l.length=ts:=by rw [hlen,List.take_length]
 clear hlen;refine en_ Tryz.func224 [.cell 4 27,.tmp 5] fun g0 w0 gen b7 hfr c6 m0=>?_;refine wq_ ?_;refine ar_ [0,3,4,67] [⟨gen,0,0⟩,⟨gen,0,1⟩] (fun i σ=>g9 h σ.h∧T7 h σ.h (σ.tm 8) 2 ((ts.take i).map Ty.cells)) (l).length ?_ ?_ ?_
 ·simp only [go_sem, *]
  exact ⟨ag_,.inl rfl⟩
 ·clear aI8 hN hts
  intro i σ gr0 l6 hgn hlt jI jN jS ⟨jA,jO0⟩;obtain ⟨jT,jB⟩:=jS;simp only [go_sem] at jT jB;obtain ⟨hgf,m6,n7,n8⟩:=rnd hgn l6 jA;obtain ⟨x,hx,hxm,hm⟩:=rnx hlt;clear hgn;obtain ⟨a,ha⟩:=I8 i x hx;have hc:=ih i x a hx ha;have hts:(ts.take (i+1)).map Ty.cells=(ts.take i).map Ty.cells++[a.cells]:=by rw [B4 ha]
  have htl:(ts.take i).length=i:=by rw [List.length_take];have:=(List.getElem?_eq_some_iff.1 ha).1;omega
  clear ih I8
  repeat' (first
   |(refine ⟨?_,?_⟩;focus ((repeat' (first|refine ⟨?_,?_⟩|refine .inr ?_));all_goals kernel_rfl))
   |(refine U6 jO0 kp_ rfl so_ fr_ sg_ (by intro hd;cases hd) ?_;intro v' h' log' jO jK jAg jAb jF;simp only [go_sem, *])
   | (first|refine wp rfl ?_|refine spt rfl ?_|refine spf rfl ?_|(refine spl (fun hc=>?_) fun hc=>?_)<;>(try rw [beq_iff_eq] at hc)<;>try simp only [hc]|(refine gs (fun hb=>?_) fun hb=>?_)<;>try simp only [Bool.not_true,Bool.not_false] at hb|refine cp hc ?_|refine u7 ?_)<;>try simp only [go_sem, *])
  exact jAg (by repeat (first|exact jA|refine g9.new ?_ (m6 _ _)))
 ·
  intro σ ga0 l9 hgn jS ⟨jA,jO0⟩;obtain ⟨jT,jB⟩:=jS;simp only [go_sem] at jT jB;obtain ⟨hgf,m6,n9,o0⟩:=rnd hgn l9 jA;clear hgn;rw [aI8] at jO0;obtain ⟨c,jO0⟩:=jO0.val;clear ih I8 aI8;have hS:∀ y,TyW y→Pure Tryz.prog env 13 [.agg y.cells,.agg y.cells] (.bool true):=fun y hy=>by
   have:=ah2 y hy y hy;rw [Ty.O6] at this;exact this
  have aM1:True:=trivial;cases hN with
  | @app _ a _ =>
   have wa:=hts a sp_;have s1:=hS a wa;have f1:(G1 a s).kind=4:=rfl;have f2:(G1 a s).args=[a,s]:=rfl;have q4:((4:Int) != 4)=false:=rfl;clear hS hts;have zq0:=D8;have zq1:=N2;exact wk_
  | zero =>
   skip
   clear hS hts;have zq0:=D8;have zq1:=N2;exact wk_
  | succ =>
   have s1:=hS r5 K4;clear hS hts;have zq0:=D8;have zq1:=N2;exact wk_
  | av8 =>
   have wt:=hts ty sp_;have s1:=hS ty wt;have w1:=aG7 wt wt;have w2:=aG7 K4 w1;have s2:=hS _ w2;have s3:=hS _ K4;have r1:=an6 ty ty wt wt;have r2:=an6 r5 _ K4 w1;have r3:=R9 ty wt;clear hS hts;have zq0:=D8;have zq1:=N2;exact wk_
  | nil =>
   skip
   clear hS hts;have zq0:=D8;have zq1:=N2;exact wk_
  | cons =>
   have s1:=hS r5 K4;have s2:=hS C8 Z0;clear hS hts;have zq0:=D8;have zq1:=N2;exact wk_
  | fold =>
   have wt:=hts ty sp_;have s1:=hS ty wt;have w1:=aG7 wt wt;have w2:=aG7 Z0 w1;have w3:=aG7 K4 w2;have s2:=hS _ w3;have s3:=hS _ Z0;have r1:=an6 ty ty wt wt;have r2:=an6 C8 _ Z0 w1;have r4:=an6 r5 _ K4 w2;have r3:=R9 ty wt;clear hS hts;have zq0:=D8;have zq1:=N2;exact wk_
  | @pair _ a b hp =>
   have wa:=hts a sp_;have wb:=hts b sp_;have r1:=aL1 a b wa wb;have r2:=db1 _ hp;clear hS hts;have zq0:=D8;have zq1:=N2;exact wk_
  | @fst _ _ b =>
   have f1:(E9 s b).kind=3:=rfl;have f2:(E9 s b).args=[s,b]:=rfl;have q3:((3:Int) != 3)=false:=rfl;clear hS hts;have zq0:=D8;have zq1:=N2;exact wk_
  | @snd _ a _ =>
   have f1:(E9 a s).kind=3:=rfl;have f2:(E9 a s).args=[a,s]:=rfl;have q3:((3:Int) != 3)=false:=rfl;clear hS hts;have zq0:=D8;have zq1:=N2;exact wk_
  | unit =>
   skip
   clear hS hts;have zq0:=aE2;have zq1:=D8;have zq2:=N2;exact wk_
theorem bP5 {g:List Ty} {t:Tm} {s:Ty} (h:w7 TyG g t s):(∀ y∈g,TyW y)→TmW t→g.length+m7 t≤1000000 →
  Pure Tryz.prog env 224 [.sl .any (g.map Ty.cells),.agg t.cells] (.tup [.agg s.cells,.int .i64 0]):=by
 induction h with
 | @var g i t hi hg =>
  intro hw _ hb h;rw [ao7] at hb;have e1:(u5 (i:Int)).kind=1:=rfl;have e2:(u5 (i:Int)).index=(i:Int):=rfl;have hc:=R9 t (hw t (List.mem_of_getElem? hg));have w1:IntKind.i64.wrap ((g.length:Int) - 1)=((g.length - 1:Nat):Int):=w8 om_ om_ om_;have w2:IntKind.i64.wrap (((g.length - 1:Nat):Int) - (i:Int))=((g.length - 1 - i:Nat):Int):=w8 om_ om_ om_;have hd:decide ((i:Int)≥(g.length:Int))=false:=by simp;omega
  generalize u5 (i:Int)=x at *;clear hw hi;exact ek_ Tryz.func224 [.cell 4 27,.tmp 5]
 | @lam g a b t ht _ ih =>
  intro hw hW hb h;rw [P9] at hb;have wa:=hW.ty;have wt:TmW t:=hW.arg (by simp [tmT,Tm.args]);have hwa:TyW a:=wa;have hc:=ih (by intro y hy;rcases List.mem_append.1 hy with hy|hy;exact hw y hy;simp at hy;subst hy;exact hwa) wt (by simp;omega);have wb:TyW b:=by have:=ht.1.W;exact this.arg (by simp [G1,Ty.args])
  have r1:=an6 a b hwa wb;have r2:=db1 _ ht;have e1:(tmT 2 a [t]).kind=2:=rfl;have e2:(tmT 2 a [t]).type=a:=rfl;have e3:(tmT 2 a [t]).args=[t]:=rfl;have n0:((0:Int) != 0)=false:=rfl;have hwk:B2 (g.map Ty.cells++[a.cells])=(g++[a]).map Ty.cells:=by rw [← H8 (g++[a])];simp
  have b3:(g.length+1) * 32≤140737488355328:=by omega
  have b4:g.length+1≤140737488355328:=by omega
  have t1:(0:Int)≤(g.length:Int):=by omega
  have t2:((g.length:Int)).toNat=g.length:=Int.toNat_natCast _;have t3:List.take g.length (g.map Ty.cells)=g.map Ty.cells:=List.take_of_length_le sp_;have t4:0≤g.length:=by omega
  have t5:g.length≤g.length:=Nat.le_refl _;have mn:∀ (f:Operand→V),Option.map f none=none:=fun _=>rfl;have ml:(g.map Ty.cells).length=g.length:=by simp
  generalize tmT 2 a [t]=x at *;clear hw hW ih wa wt wb hwa ht;exact ek_ Tryz.func224 [.cell 4 27,.tmp 5]
 | @n0 g k ty s hN =>
  intro hw hW hb;exact ap1 g k ty hW.ty [] [] s hN rfl sp_ (by intro j x a hx;simp at hx)
 | @n1 g k ty s a x hN h1 ih1 =>
  intro hw hW hb;have z:m7 (tmT k ty [x])=m7 x+1:=P9;have w1:TmW x:=hW.arg (by simp [tmT,Tm.args]);refine ap1 g k ty hW.ty [x] [a] s hN rfl (by simp [(h1.W hw w1).1]) ?_;intro j y b hy hb'
  match j with
  | 0=>simp at hy hb';subst hy;subst hb';exact ih1 hw w1 om_
  | j+1=>simp at hy
 | @n2 g k ty s a b x y hN h1 h2 ih1 ih2 =>
  intro hw hW hb;have z:m7 (tmT k ty [x,y])=m7 x+m7 y+1:=by simp [tmT,m7,F8]
  have w1:TmW x:=hW.arg (by simp [tmT,Tm.args]);have w2:TmW y:=hW.arg (by simp [tmT,Tm.args]);refine ap1 g k ty hW.ty [x,y] [a,b] s hN rfl (by simp [(h1.W hw w1).1,(h2.W hw w2).1]) ?_;intro j u v hu hv
  match j with
  | 0=>simp at hu hv;subst hu;subst hv;exact ih1 hw w1 om_
  | 1=>simp at hu hv;subst hu;subst hv;exact ih2 hw w2 om_
  | j+2=>simp at hu
 | @n3 g k ty s a b c x y z hN h1 h2 h3 ih1 ih2 ih3 =>
  intro hw hW hb;have zz:m7 (tmT k ty [x,y,z])=m7 x+(m7 y+m7 z)+1:=ai6;have w1:TmW x:=hW.arg (by simp [tmT,Tm.args]);have w2:TmW y:=hW.arg (by simp [tmT,Tm.args]);have w3:TmW z:=hW.arg (by simp [tmT,Tm.args]);refine ap1 g k ty hW.ty [x,y,z] [a,b,c] s hN rfl (by simp [(h1.W hw w1).1,(h2.W hw w2).1,(h3.W hw w3).1]) ?_;intro j u v hu hv
  match j with
  | 0=>simp at hu hv;subst hu;subst hv;exact ih1 hw w1 om_
  | 1=>simp at hu hv;subst hu;subst hv;exact ih2 hw w2 om_
  | 2=>simp at hu hv;subst hu;subst hv;exact ih3 hw w3 om_
  | j+3=>simp at hu
end Go.Proofs.YteaijonkbbkkjaaGreatDoor
