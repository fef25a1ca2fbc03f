/-
 Walks: a candidate out of the deck; the law of ContestAnd.
-/
import Derived.Test.YtbfilinnoedfeaaGreatDoorSj
import Derived.Test.YtbfilinnoedfeaaGreatDoorSl
import Derived.Test.YtbfilinnoedfeaaGreatDoorTf
import Derived.Test.YtbfilinnoedfeaaGreatDoorTg
import Derived.Test.YtbfilinnoedfeaaGreatDoorNy
import Derived.Test.YtbfilinnoedfeaaGreatDoorMd
import Derived.Test.YtbfilinnoedfeaaGreatDoorAbsD
import Derived.Test.YtbfilinnoedfeaaGreatDoorNx
import Derived.Test.YtbfilinnoedfeaaGreatDoorMa
import Derived.Test.YtbfilinnoedfeaaGreatDoorWu
import Derived.Test.YtbfilinnoedfeaaGreatDoorAbsDd
set_option linter.unusedSimpArgs false
set_option linter.unusedVariables false
set_option maxRecDepth 20000
set_option maxHeartbeats 4000000
namespace Go.Proofs.YtbfilinnoedfeaaGreatDoor
open Go GoAbs Go.Proofs
theorem c_Pick (l:List Int) (hl:l.length≤1000) {t:Ty} (hG:TyG t) (a:Nat):∃ (x:Tm) (a':Nat),Cl x t∧tmSz x≤700∧TmW x ∧
  ∀ d,Turns Tryz.prog env 19 [.ptr d 0,.agg t.cells] d (.box (deckC l a)) (.agg x.cells) (.box (deckC l a')):=by
 have h1:=c_r32Candidates 2 (by omega) hG.1 hG.err (n:=tyH t) (Nat.le_refl _)
 have hp:=candN_pos' hG.1 (m:=2) (n:=tyH t) (Nat.le_refl _)
 have hln:=@candN_len (tyH t) 2 t
 have hok:=candN_ok' (K:=10) hG.1 (m:=2) (by omega) hG.2 (n:=tyH t) (g:=[]) (Nat.le_refl _)
 replace h1:Pure Tryz.prog env 51 [.agg t.cells,.int .i64 2] (.tup [.sl .any ((candN (tyH t) t 2).map Tm.cells),.int .i64 0]):=h1
 generalize candN (tyH t) t 2=N at *
 have hr:=nextD_range (l:=l) (a:=a) (n:=N.length) (by omega) (by omega)
 have hN:=fun d=>c_Next l hl d a N.length
 generalize nextD l a N.length=q at hr hN
 obtain ⟨k,a'⟩:=q
 simp only at hr hN
 obtain ⟨i,rfl⟩:∃ i:Nat,k=i:=⟨k.toNat,by omega⟩
 obtain ⟨x,hx⟩:∃ x,N[i]? = some x:=⟨_,List.getElem?_eq_getElem (by omega)⟩
 have ok:=hok x (List.mem_of_getElem? hx)
 have hz:=hG.2
 have sz:=ok.sz
 refine ⟨x,a',⟨ok.ty,ok.gd,by omega⟩,by omega,ok.w,?_⟩
 replace hN:∀ d,Turns Tryz.prog env 27 [.ptr d 0,.int .i64 N.length] d (.box (deckC l a)) (.int .i64 (i:Nat)) (.box (deckC l a')):=hN
 have hti:Int.toNat (i:Int)=i:=rfl
 have h0i:(0≤(i:Int))=True:=by simp
 have hl0:((N.length:Int)==0)=false:=beq_eq_false_iff_ne.2 (by omega)
 clear hok ok sz hz hG hr
 intro d h hd
 refine en Tryz.func19 [.cell 4 36] rfl rfl fun g0 w0 gen hrel hfr hfr' hres=>?_
 have f1:=fresh_ne hfr hd
 have f2:=fresh_ne' hfr hd
 repeat' (first
  |exact agb (by assumption)
  | (first|refine wp rfl ?_|refine spt rfl ?_|refine spf rfl ?_|(refine spl (fun hc=>?_) fun hc=>?_)<;>(try rw [beq_iff_eq] at hc)<;>try simp only [hc]|refine cp h1 ?_|(refine ct (hN d) ?_ ?_;focus ((simp only [go_sem, *]<;>rfl);done))|refine finT hrel hd ?_ ?_ ?_ ?_ ?_)<;>try simp only [go_sem, *])
theorem c_r28Join (a b:Ty) (s t:Tm):Pure Tryz.prog env 21 [.agg a.cells,.agg b.cells,.agg s.cells,.agg t.cells] (.agg (chJoin a b s t).cells):=by
 intro h
 have h1:=c_r28none a
 have h2:=c_r28none b
 have h3:=c_r24Node 10 [s,t]
 have hin:∀ S,InV S (V.agg (chJoin a b s t).cells):=fun S=>by simp [InV,InL_Tm]
 unfold chJoin at hin ⊢
 simp only [List.map_cons,List.map_nil] at h3
 generalize tm0 10 [s,t]=p at *
 generalize (a.kind==5)=q1 at *
 generalize (b.kind==5)=q2 at *
 cases q1<;>cases q2<;>simp only [if_true,Bool.false_eq_true,if_false] at hin ⊢
 all_goals
  refine en Tryz.func21 [.cell 8 36] rfl rfl fun g0 w0 gen hrel hfr hfr' hres=>?_
  repeat' (first
   |exact hin _|exact agf (by assumption)
   | (first|refine wp rfl ?_|refine spt rfl ?_|refine spf rfl ?_|(refine spl (fun hc=>?_) fun hc=>?_)<;>(try rw [beq_iff_eq] at hc)<;>try simp only [hc]|refine cp h1 ?_|refine cp h2 ?_|refine cp h3 ?_|refine finF hrel ?_ ?_ ?_)<;>try simp only [go_sem, *])
theorem c_limits32 (e:Int):Pure Tryz.prog env 18 [.int .i64 e] (.bool (e==4||e==5||e==3)):=by
 intro h
 generalize hv:(e==4||e==5||e==3)=v
 refine en Tryz.func18 [.tmp 2] rfl rfl fun g0 w0 gen hrel hfr hfr' hres=>?_
 repeat' (first
  |exact hin _|exact agf (by assumption)
  | (first|refine wp rfl ?_|(refine gs (fun hb=>?_) fun hb=>?_)<;>try simp only [Bool.not_true,Bool.not_false] at hb|refine finF hrel ?_ ?_ ?_)<;>try simp only [go_sem, *])
 all_goals (rw [← hv];simp_all)
theorem decV_of {a:Ans} (h:codes a.2.2):∃ (b:Bool) (k e:Int),decV a=.tup [.bool b,.int .i64 k,.int .i64 e]∧(e=0∧a.2.2=0∧a.1=b∨e=4∨e=5):=by
 unfold decV
 rcases h with h|h|h
 ·rw [if_neg (by simp [h])]
  exact ⟨_,_,_,rfl,.inl ⟨rfl,h,rfl⟩⟩
 ·rw [if_pos (by simp [h]),h]
  exact ⟨_,_,_,rfl,.inr (.inl rfl)⟩
 ·rw [if_pos (by simp [h]),h]
  exact ⟨_,_,_,rfl,.inr (.inr rfl)⟩
theorem c_ContestAnd (l:List Int):Pure Tryz.prog env 4 [.sl .any (ints l)] (.bool true):=by
 have hS:=c_awake32
 have hF:=c_Few l
 cases hf:decide ((l.length:Int)≤500) with
 | false =>
  rw [hf] at hF
  clear hf
  intro h
  refine en Tryz.func4 [.tmp 2] rfl rfl fun g0 w0 gen hrel hfr hfr' hres=>?_
  repeat' (first
   |(refine ⟨?_,?_⟩;focus ((repeat' (first|refine ⟨?_,?_⟩|refine .inr ?_));all_goals kernel_rfl))
   |exact hin _|exact agf (by assumption)
   | (first|refine wp rfl ?_|refine spt rfl ?_|refine spf rfl ?_|(refine spl (fun hc=>?_) fun hc=>?_)<;>(try rw [beq_iff_eq] at hc)<;>try simp only [hc]|(refine gs (fun hb=>?_) fun hb=>?_)<;>try simp only [Bool.not_true,Bool.not_false] at hb|refine cp hS ?_|refine cp hF ?_|refine finF hrel ?_ ?_ ?_)<;>try simp only [go_sem, *])
 | true =>
 rw [hf] at hF
 have hl:l.length≤1000:=by simp at hf;omega
 clear hf
 have hN:=c_New l
 obtain ⟨f,a1,mf,fW,Tf⟩:=c_Pure l hl 2 (by omega) [] 0 (by simp) (by simp)
 obtain ⟨g,a2,mg,gW,Tg⟩:=c_Pure l hl 2 (by omega) [] a1 (by simp) (by simp)
 replace Tf:∀ d,Turns Tryz.prog env 15 [.ptr d 0,.sl .any [],.int .i64 2] d (.box (deckC l 0)) (.agg f.cells) (.box (deckC l a1)):=Tf
 replace Tg:∀ d,Turns Tryz.prog env 15 [.ptr d 0,.sl .any [],.int .i64 2] d (.box (deckC l a1)) (.agg g.cells) (.box (deckC l a2)):=Tg
 have f2:=MkFm.two2 (by omega) mf
 have g2:=MkFm.two2 (by omega) mg
 have fG:FmG false f:=mf.G (by simp)
 have gG:FmG false g:=mg.G (by simp)
 have w1:=c_r28Witness fG fW
 have w2:=c_r28Witness gG gW
 have c1:=c_r28Challenge fG fW
 have c2:=c_r28Challenge gG gW
 have l4:=c_limits32 4
 have e4:((4:Int)==4||(4:Int)==5||(4:Int)==3)=true:=rfl
 rw [e4] at l4
 have l5:=c_limits32 5
 have e5:((5:Int)==4||(5:Int)==5||(5:Int)==3)=true:=rfl
 rw [e5] at l5
 have l0:=c_limits32 0
 have e0:((0:Int)==4||(0:Int)==5||(0:Int)==3)=false:=rfl
 rw [e0] at l0
 have n4:((4:Int) != 0)=true:=rfl
 have n5:((5:Int) != 0)=true:=rfl
 have n0:((0:Int) != 0)=false:=rfl
 have lf:f.look.2=0∨f.look.2=4:=by
  rcases fG.look with ⟨_,e1,e2,_,_⟩|e
  ·exact .inl (by rw [e1];exact e2)
  ·exact .inr e
 have lg:g.look.2=0∨g.look.2=4:=by
  rcases gG.look with ⟨_,e1,e2,_,_⟩|e
  ·exact .inl (by rw [e1];exact e2)
  ·exact .inr e
 clear e4 e5 e0 mf mg
 rcases lf with lf|lf
 case inr =>
  rw [lf] at w1 c1
  clear lf f2 g2 fG gG
  rcases lg with lg|lg
  ·rw [lg] at w2 c2
   intro h
   refine en Tryz.func4 [.tmp 2] rfl rfl fun g0 w0 gen hrel hfr hfr' hres=>?_
   repeat' (first
    |(refine ⟨?_,?_⟩;focus ((repeat' (first|refine ⟨?_,?_⟩|refine .inr ?_));all_goals kernel_rfl))
    |exact hin _|exact agf (by assumption)
    | (first|refine wp rfl ?_|refine spt rfl ?_|refine spf rfl ?_|(refine spl (fun hc=>?_) fun hc=>?_)<;>(try rw [beq_iff_eq] at hc)<;>try simp only [hc]|(refine gs (fun hb=>?_) fun hb=>?_)<;>try simp only [Bool.not_true,Bool.not_false] at hb|refine cp hS ?_|refine cp hF ?_|refine Call1_new ⟨gen,1000,0⟩ (hN) (by first|exact hfr' _ _|simp only [go_sem, *]) ?_|(refine ct (Tf _) ?_ ?_;focus ((simp only [go_sem, *]<;>rfl);done))|(refine ct (Tg _) ?_ ?_;focus ((simp only [go_sem, *]<;>rfl);done))|refine cp w1 ?_|refine cp w2 ?_|refine cp c1 ?_|refine cp c2 ?_|refine cp l4 ?_|refine finF hrel ?_ ?_ ?_)<;>try simp only [go_sem, *])
  ·rw [lg] at w2 c2
   intro h
   refine en Tryz.func4 [.tmp 2] rfl rfl fun g0 w0 gen hrel hfr hfr' hres=>?_
   repeat' (first
    |(refine ⟨?_,?_⟩;focus ((repeat' (first|refine ⟨?_,?_⟩|refine .inr ?_));all_goals kernel_rfl))
    |exact hin _|exact agf (by assumption)
    | (first|refine wp rfl ?_|refine spt rfl ?_|refine spf rfl ?_|(refine spl (fun hc=>?_) fun hc=>?_)<;>(try rw [beq_iff_eq] at hc)<;>try simp only [hc]|(refine gs (fun hb=>?_) fun hb=>?_)<;>try simp only [Bool.not_true,Bool.not_false] at hb|refine cp hS ?_|refine cp hF ?_|refine Call1_new ⟨gen,1000,0⟩ (hN) (by first|exact hfr' _ _|simp only [go_sem, *]) ?_|(refine ct (Tf _) ?_ ?_;focus ((simp only [go_sem, *]<;>rfl);done))|(refine ct (Tg _) ?_ ?_;focus ((simp only [go_sem, *]<;>rfl);done))|refine cp w1 ?_|refine cp w2 ?_|refine cp c1 ?_|refine cp c2 ?_|refine cp l4 ?_|refine finF hrel ?_ ?_ ?_)<;>try simp only [go_sem, *])
 rcases lg with lg|lg
 case inr =>
  rw [lf] at w1 c1
  rw [lg] at w2 c2
  clear lf lg f2 g2 fG gG
  intro h
  refine en Tryz.func4 [.tmp 2] rfl rfl fun g0 w0 gen hrel hfr hfr' hres=>?_
  repeat' (first
   |(refine ⟨?_,?_⟩;focus ((repeat' (first|refine ⟨?_,?_⟩|refine .inr ?_));all_goals kernel_rfl))
   |exact hin _|exact agf (by assumption)
   | (first|refine wp rfl ?_|refine spt rfl ?_|refine spf rfl ?_|(refine spl (fun hc=>?_) fun hc=>?_)<;>(try rw [beq_iff_eq] at hc)<;>try simp only [hc]|(refine gs (fun hb=>?_) fun hb=>?_)<;>try simp only [Bool.not_true,Bool.not_false] at hb|refine cp hS ?_|refine cp hF ?_|refine Call1_new ⟨gen,1000,0⟩ (hN) (by first|exact hfr' _ _|simp only [go_sem, *]) ?_|(refine ct (Tf _) ?_ ?_;focus ((simp only [go_sem, *]<;>rfl);done))|(refine ct (Tg _) ?_ ?_;focus ((simp only [go_sem, *]<;>rfl);done))|refine cp w1 ?_|refine cp w2 ?_|refine cp c1 ?_|refine cp c2 ?_|refine cp l0 ?_|refine cp l4 ?_|refine finF hrel ?_ ?_ ?_)<;>try simp only [go_sem, *])
 obtain ⟨_,_,tf1,tf2⟩:=f2.look lf
 obtain ⟨_,_,tg1,tg2⟩:=g2.look lg
 obtain ⟨s,a3,Cs,zs,sW,Ts⟩:=c_Pick l hl tf1 a2
 obtain ⟨t,a4,Ct,zt,tW,Tt⟩:=c_Pick l hl tg1 a3
 obtain ⟨c,a5,Cc,zc,cW,Tc⟩:=c_Pick l hl tf2 a4
 obtain ⟨k,a6,Ck,zk,kW,Tk⟩:=c_Pick l hl tg2 a5
 have law:=law_contestAnd (lim:=30000) f2 g2 lf lg Cs Ct Cc Ck zs zt zc zk
 obtain ⟨o1,o2,o3⟩:=and_ok f2 g2 lf lg Cs Ct Cc Ck zs zt zc zk
 have j1:=c_r28Join f.look.1.1 g.look.1.1 s t
 have j2:=c_r28Join f.look.1.2 g.look.1.2 c k
 have x1:=c_conHolds (fmTwo 2 f g) _ _ (fmTwo_W fW gW) (chJoin_W (a:=f.look.1.1) (b:=g.look.1.1) sW tW) (chJoin_W (a:=f.look.1.2) (b:=g.look.1.2) cW kW) 30000 (by omega) o1
 have y1:=c_conHolds f s c fW sW cW 30000 (by omega) o2
 have z1:=c_conHolds g t k gW tW kW 30000 (by omega) o3
 simp only at law
 obtain ⟨q1,q2,q3,q4⟩:=law
 obtain ⟨xb,xk,xe,ex,hx⟩:=decV_of q1
 obtain ⟨yb,yk,ye,ey,hy⟩:=decV_of q2
 obtain ⟨zb,zk',ze,ez,hz⟩:=decV_of q3
 rw [ex] at x1
 rw [ey] at y1
 rw [ez] at z1
 rw [fmTwo,Fm.mk_cells] at x1
 simp only [Ty.mk_kind,Ty.mk_args,List.map_cons,List.map_nil] at x1
 replace x1:Pure Tryz.prog env 20 [.agg [.int .i64 2,.int .i64 0,.sl .any [],.sl .any [],.sl .any [f.cells,g.cells]],.agg (chJoin f.look.1.1 g.look.1.1 s t).cells,.agg (chJoin f.look.1.2 g.look.1.2 c k).cells,.int .i64 30000] (.tup [.bool xb,.int .i64 xk,.int .i64 xe]):=x1
 replace y1:Pure Tryz.prog env 20 [.agg f.cells,.agg s.cells,.agg c.cells,.int .i64 30000] (.tup [.bool yb,.int .i64 yk,.int .i64 ye]):=y1
 replace z1:Pure Tryz.prog env 20 [.agg g.cells,.agg t.cells,.agg k.cells,.int .i64 30000] (.tup [.bool zb,.int .i64 zk',.int .i64 ze]):=z1
 have fin:xe=0→ye=0→ze=0→xb=(yb&&zb):=fun h1 h2 h3=>by
  rcases hx with ⟨_,x0,xx⟩|e|e
  ·rcases hy with ⟨_,y0,yy⟩|e|e
   ·rcases hz with ⟨_,z0,zz⟩|e|e
    ·rw [← xx,← yy,← zz];exact q4 x0 y0 z0
    ·rw [h3] at e;cases e
    ·rw [h3] at e;cases e
   ·rw [h2] at e;cases e
   ·rw [h2] at e;cases e
  ·rw [h1] at e;cases e
  ·rw [h1] at e;cases e
 have kx:xe=0∨xe=4∨xe=5:=by rcases hx with ⟨e,_⟩|e|e;exact .inl e;exact .inr (.inl e);exact .inr (.inr e)
 have ky:ye=0∨ye=4∨ye=5:=by rcases hy with ⟨e,_⟩|e|e;exact .inl e;exact .inr (.inl e);exact .inr (.inr e)
 have kz:ze=0∨ze=4∨ze=5:=by rcases hz with ⟨e,_⟩|e|e;exact .inl e;exact .inr (.inl e);exact .inr (.inr e)
 rw [lf] at w1 c1
 rw [lg] at w2 c2
 clear hx hy hz ex ey ez q1 q2 q3 q4 o1 o2 o3 Cs Ct Cc Ck zs zt zc zk tf1 tf2 tg1 tg2 lf lg f2 g2 fG gG fW gW
 generalize chJoin f.look.1.1 g.look.1.1 s t=J1 at *
 generalize chJoin f.look.1.2 g.look.1.2 c k=J2 at *
 generalize f.look.1.1=v1 at *
 generalize g.look.1.1=v2 at *
 generalize f.look.1.2=v3 at *
 generalize g.look.1.2=v4 at *
 have lim:∀ e:Int,e=4∨e=5→Pure Tryz.prog env 18 [.int .i64 e] (.bool true)∧(e != 0)=true:=by
  rintro e (rfl|rfl)
  ·exact ⟨l4,rfl⟩
  ·exact ⟨l5,rfl⟩
 clear l4 l5
 rcases kx with rfl|kx
 case inr =>
  obtain ⟨lx,nx⟩:=lim _ kx
  clear lim kx ky kz fin
  intro h
  refine en Tryz.func4 [.tmp 2] rfl rfl fun g0 w0 gen hrel hfr hfr' hres=>?_
  repeat' (first
   |(refine ⟨?_,?_⟩;focus ((repeat' (first|refine ⟨?_,?_⟩|refine .inr ?_));all_goals kernel_rfl))
   |exact hin _|exact agf (by assumption)
   | (first|refine wp rfl ?_|refine spt rfl ?_|refine spf rfl ?_|(refine spl (fun hc=>?_) fun hc=>?_)<;>(try rw [beq_iff_eq] at hc)<;>try simp only [hc]|(refine gs (fun hb=>?_) fun hb=>?_)<;>try simp only [Bool.not_true,Bool.not_false] at hb|refine cp hS ?_|refine cp hF ?_|refine Call1_new ⟨gen,1000,0⟩ (hN) (by first|exact hfr' _ _|simp only [go_sem, *]) ?_|(refine ct (Tf _) ?_ ?_;focus ((simp only [go_sem, *]<;>rfl);done))|(refine ct (Tg _) ?_ ?_;focus ((simp only [go_sem, *]<;>rfl);done))|refine cp w1 ?_|refine cp w2 ?_|refine cp c1 ?_|refine cp c2 ?_|(refine ct (Ts _) ?_ ?_;focus ((simp only [go_sem, *]<;>rfl);done))|(refine ct (Tt _) ?_ ?_;focus ((simp only [go_sem, *]<;>rfl);done))|(refine ct (Tc _) ?_ ?_;focus ((simp only [go_sem, *]<;>rfl);done))|(refine ct (Tk _) ?_ ?_;focus ((simp only [go_sem, *]<;>rfl);done))|refine cp j1 ?_|refine cp j2 ?_|refine cp x1 ?_|refine cp y1 ?_|refine cp z1 ?_|refine cp lx ?_|refine finF hrel ?_ ?_ ?_)<;>try simp only [go_sem, *])
 rcases ky with rfl|ky
 case inr =>
  obtain ⟨lx,nx⟩:=lim _ ky
  clear lim ky kz fin
  intro h
  refine en Tryz.func4 [.tmp 2] rfl rfl fun g0 w0 gen hrel hfr hfr' hres=>?_
  repeat' (first
   |(refine ⟨?_,?_⟩;focus ((repeat' (first|refine ⟨?_,?_⟩|refine .inr ?_));all_goals kernel_rfl))
   |exact hin _|exact agf (by assumption)
   | (first|refine wp rfl ?_|refine spt rfl ?_|refine spf rfl ?_|(refine spl (fun hc=>?_) fun hc=>?_)<;>(try rw [beq_iff_eq] at hc)<;>try simp only [hc]|(refine gs (fun hb=>?_) fun hb=>?_)<;>try simp only [Bool.not_true,Bool.not_false] at hb|refine cp hS ?_|refine cp hF ?_|refine Call1_new ⟨gen,1000,0⟩ (hN) (by first|exact hfr' _ _|simp only [go_sem, *]) ?_|(refine ct (Tf _) ?_ ?_;focus ((simp only [go_sem, *]<;>rfl);done))|(refine ct (Tg _) ?_ ?_;focus ((simp only [go_sem, *]<;>rfl);done))|refine cp w1 ?_|refine cp w2 ?_|refine cp c1 ?_|refine cp c2 ?_|(refine ct (Ts _) ?_ ?_;focus ((simp only [go_sem, *]<;>rfl);done))|(refine ct (Tt _) ?_ ?_;focus ((simp only [go_sem, *]<;>rfl);done))|(refine ct (Tc _) ?_ ?_;focus ((simp only [go_sem, *]<;>rfl);done))|(refine ct (Tk _) ?_ ?_;focus ((simp only [go_sem, *]<;>rfl);done))|refine cp j1 ?_|refine cp j2 ?_|refine cp x1 ?_|refine cp y1 ?_|refine cp z1 ?_|refine cp l0 ?_|refine cp lx ?_|refine finF hrel ?_ ?_ ?_)<;>try simp only [go_sem, *])
 rcases kz with rfl|kz
 case inr =>
  obtain ⟨lx,nx⟩:=lim _ kz
  clear lim kz fin
  intro h
  refine en Tryz.func4 [.tmp 2] rfl rfl fun g0 w0 gen hrel hfr hfr' hres=>?_
  repeat' (first
   |(refine ⟨?_,?_⟩;focus ((repeat' (first|refine ⟨?_,?_⟩|refine .inr ?_));all_goals kernel_rfl))
   |exact hin _|exact agf (by assumption)
   | (first|refine wp rfl ?_|refine spt rfl ?_|refine spf rfl ?_|(refine spl (fun hc=>?_) fun hc=>?_)<;>(try rw [beq_iff_eq] at hc)<;>try simp only [hc]|(refine gs (fun hb=>?_) fun hb=>?_)<;>try simp only [Bool.not_true,Bool.not_false] at hb|refine cp hS ?_|refine cp hF ?_|refine Call1_new ⟨gen,1000,0⟩ (hN) (by first|exact hfr' _ _|simp only [go_sem, *]) ?_|(refine ct (Tf _) ?_ ?_;focus ((simp only [go_sem, *]<;>rfl);done))|(refine ct (Tg _) ?_ ?_;focus ((simp only [go_sem, *]<;>rfl);done))|refine cp w1 ?_|refine cp w2 ?_|refine cp c1 ?_|refine cp c2 ?_|(refine ct (Ts _) ?_ ?_;focus ((simp only [go_sem, *]<;>rfl);done))|(refine ct (Tt _) ?_ ?_;focus ((simp only [go_sem, *]<;>rfl);done))|(refine ct (Tc _) ?_ ?_;focus ((simp only [go_sem, *]<;>rfl);done))|(refine ct (Tk _) ?_ ?_;focus ((simp only [go_sem, *]<;>rfl);done))|refine cp j1 ?_|refine cp j2 ?_|refine cp x1 ?_|refine cp y1 ?_|refine cp z1 ?_|refine cp l0 ?_|refine cp lx ?_|refine finF hrel ?_ ?_ ?_)<;>try simp only [go_sem, *])
 have fin':=fin rfl rfl rfl
 subst fin'
 clear fin lim l0
 cases yb<;>cases zb
 all_goals
  simp only [Bool.and_true,Bool.and_false] at x1
  intro h
  refine en Tryz.func4 [.tmp 2] rfl rfl fun g0 w0 gen hrel hfr hfr' hres=>?_
  repeat' (first
   |(refine ⟨?_,?_⟩;focus ((repeat' (first|refine ⟨?_,?_⟩|refine .inr ?_));all_goals kernel_rfl))
   |exact hin _|exact agf (by assumption)
   | (first|refine wp rfl ?_|refine spt rfl ?_|refine spf rfl ?_|(refine spl (fun hc=>?_) fun hc=>?_)<;>(try rw [beq_iff_eq] at hc)<;>try simp only [hc]|(refine gs (fun hb=>?_) fun hb=>?_)<;>try simp only [Bool.not_true,Bool.not_false] at hb|refine cp hS ?_|refine cp hF ?_|refine Call1_new ⟨gen,1000,0⟩ (hN) (by first|exact hfr' _ _|simp only [go_sem, *]) ?_|(refine ct (Tf _) ?_ ?_;focus ((simp only [go_sem, *]<;>rfl);done))|(refine ct (Tg _) ?_ ?_;focus ((simp only [go_sem, *]<;>rfl);done))|refine cp w1 ?_|refine cp w2 ?_|refine cp c1 ?_|refine cp c2 ?_|(refine ct (Ts _) ?_ ?_;focus ((simp only [go_sem, *]<;>rfl);done))|(refine ct (Tt _) ?_ ?_;focus ((simp only [go_sem, *]<;>rfl);done))|(refine ct (Tc _) ?_ ?_;focus ((simp only [go_sem, *]<;>rfl);done))|(refine ct (Tk _) ?_ ?_;focus ((simp only [go_sem, *]<;>rfl);done))|refine cp j1 ?_|refine cp j2 ?_|refine cp x1 ?_|refine cp y1 ?_|refine cp z1 ?_|refine finF hrel ?_ ?_ ?_)<;>try simp only [go_sem, *])
  all_goals rfl
end Go.Proofs.YtbfilinnoedfeaaGreatDoor
