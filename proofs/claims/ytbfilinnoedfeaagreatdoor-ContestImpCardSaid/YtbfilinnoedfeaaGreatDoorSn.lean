/-
 Walks: the law of ContestImp.
-/
import Derived.Test.YtbfilinnoedfeaaGreatDoorSm
set_option linter.unusedSimpArgs false
set_option linter.unusedVariables false
set_option maxRecDepth 20000
set_option maxHeartbeats 16000000
namespace Go.Proofs.YtbfilinnoedfeaaGreatDoor
open Go GoAbs Go.Proofs
theorem tyG_or {t:Ty} (h:TyF t) (hs:tySz t≤1000):(tyErr t=0∧TyG t)∨tyErr t=4:=by
 rw [h.err (by omega)]
 by_cases h64:tySz t≤64
 ·rw [if_pos h64];exact .inl ⟨rfl,h,h64⟩
 ·rw [if_neg h64];exact .inr rfl
theorem c_ContestImp (l:List Int):Pure Tryz.prog env 5 [.sl .any (ints l)] (.bool true):=by
 have hS:=c_awake32
 have hF:=c_Few l
 cases hf:decide ((l.length:Int)≤500) with
 | false =>
  rw [hf] at hF
  clear hf
  intro h
  refine en Tryz.func5 [.tmp 2] rfl rfl fun g0 w0 gen hrel hfr hfr' hres=>?_
  repeat' (first
   |(refine ⟨?_,?_⟩;focus ((repeat' (first|refine ⟨?_,?_⟩|refine .inr ?_));all_goals kernel_rfl))
   |exact hin _|exact agf (by assumption)
   | (first|refine wp rfl ?_|refine spt rfl ?_|refine spf rfl ?_|(refine spl (fun hc=>?_) fun hc=>?_)<;>(try rw [beq_iff_eq] at hc)<;>try simp only [hc]|(refine gs (fun hb=>?_) fun hb=>?_)<;>try simp only [Bool.not_true,Bool.not_false] at hb|refine cp hS ?_|refine cp hF ?_|refine finF hrel ?_ ?_ ?_)<;>try simp only [go_sem, *])
 | true =>
 rw [hf] at hF
 have hl:l.length≤1000:=by simp at hf;omega
 clear hf
 have hN:=c_New l
 obtain ⟨f,a1,mf,fW,Tf⟩:=c_Pure l hl 2 (by omega) [] 0 (by simp) (by simp)
 obtain ⟨g,a2,mg,gW,Tg⟩:=c_Pure l hl 1 (by omega) [] a1 (by simp) (by simp)
 replace Tf:∀ d,Turns Tryz.prog env 15 [.ptr d 0,.sl .any [],.int .i64 2] d (.box (deckC l 0)) (.agg f.cells) (.box (deckC l a1)):=Tf
 replace Tg:∀ d,Turns Tryz.prog env 15 [.ptr d 0,.sl .any [],.int .i64 1] d (.box (deckC l a1)) (.agg g.cells) (.box (deckC l a2)):=Tg
 have f2:=MkFm.two2 (by omega) mf
 have g2:=MkFm.two2 (by omega) mg
 have fG:FmG false f:=mf.G (by simp)
 have gG:FmG false g:=mg.G (by simp)
 have w1:=c_r28Witness fG fW
 have w2:=c_r28Witness gG gW
 have c1:=c_r28Challenge fG fW
 have c2:=c_r28Challenge gG gW
 have l4:=c_limits32 4
 have e4:((4:Int)==4||(4:Int)==5||(4:Int)==3)=true:=rfl
 rw [e4] at l4
 have l5:=c_limits32 5
 have e5:((5:Int)==4||(5:Int)==5||(5:Int)==3)=true:=rfl
 rw [e5] at l5
 have l0:=c_limits32 0
 have e0:((0:Int)==4||(0:Int)==5||(0:Int)==3)=false:=rfl
 rw [e0] at l0
 have n4:((4:Int) != 0)=true:=rfl
 have n5:((5:Int) != 0)=true:=rfl
 have n0:((0:Int) != 0)=false:=rfl
 have lf:f.look.2=0∨f.look.2=4:=by
  rcases fG.look with ⟨_,e1,e2,_,_⟩|e
  ·exact .inl (by rw [e1];exact e2)
  ·exact .inr e
 have lg:g.look.2=0∨g.look.2=4:=by
  rcases gG.look with ⟨_,e1,e2,_,_⟩|e
  ·exact .inl (by rw [e1];exact e2)
  ·exact .inr e
 clear e4 e5 e0 mf mg
 rcases lf with lf|lf
 case inr =>
  rw [lf] at w1 c1
  clear lf f2 g2 fG gG
  rcases lg with lg|lg
  ·rw [lg] at w2 c2
   intro h
   refine en Tryz.func5 [.tmp 2] rfl rfl fun g0 w0 gen hrel hfr hfr' hres=>?_
   repeat' (first
    |(refine ⟨?_,?_⟩;focus ((repeat' (first|refine ⟨?_,?_⟩|refine .inr ?_));all_goals kernel_rfl))
    |exact hin _|exact agf (by assumption)
    | (first|refine wp rfl ?_|refine spt rfl ?_|refine spf rfl ?_|(refine spl (fun hc=>?_) fun hc=>?_)<;>(try rw [beq_iff_eq] at hc)<;>try simp only [hc]|(refine gs (fun hb=>?_) fun hb=>?_)<;>try simp only [Bool.not_true,Bool.not_false] at hb|refine cp hS ?_|refine cp hF ?_|refine Call1_new ⟨gen,1000,0⟩ (hN) (by first|exact hfr' _ _|simp only [go_sem, *]) ?_|(refine ct (Tf _) ?_ ?_;focus ((simp only [go_sem, *]<;>rfl);done))|(refine ct (Tg _) ?_ ?_;focus ((simp only [go_sem, *]<;>rfl);done))|refine cp w1 ?_|refine cp w2 ?_|refine cp c1 ?_|refine cp c2 ?_|refine cp l4 ?_|refine finF hrel ?_ ?_ ?_)<;>try simp only [go_sem, *])
  ·rw [lg] at w2 c2
   intro h
   refine en Tryz.func5 [.tmp 2] rfl rfl fun g0 w0 gen hrel hfr hfr' hres=>?_
   repeat' (first
    |(refine ⟨?_,?_⟩;focus ((repeat' (first|refine ⟨?_,?_⟩|refine .inr ?_));all_goals kernel_rfl))
    |exact hin _|exact agf (by assumption)
    | (first|refine wp rfl ?_|refine spt rfl ?_|refine spf rfl ?_|(refine spl (fun hc=>?_) fun hc=>?_)<;>(try rw [beq_iff_eq] at hc)<;>try simp only [hc]|(refine gs (fun hb=>?_) fun hb=>?_)<;>try simp only [Bool.not_true,Bool.not_false] at hb|refine cp hS ?_|refine cp hF ?_|refine Call1_new ⟨gen,1000,0⟩ (hN) (by first|exact hfr' _ _|simp only [go_sem, *]) ?_|(refine ct (Tf _) ?_ ?_;focus ((simp only [go_sem, *]<;>rfl);done))|(refine ct (Tg _) ?_ ?_;focus ((simp only [go_sem, *]<;>rfl);done))|refine cp w1 ?_|refine cp w2 ?_|refine cp c1 ?_|refine cp c2 ?_|refine cp l4 ?_|refine finF hrel ?_ ?_ ?_)<;>try simp only [go_sem, *])
 rcases lg with lg|lg
 case inr =>
  rw [lf] at w1 c1
  rw [lg] at w2 c2
  clear lf lg f2 g2 fG gG
  intro h
  refine en Tryz.func5 [.tmp 2] rfl rfl fun g0 w0 gen hrel hfr hfr' hres=>?_
  repeat' (first
   |(refine ⟨?_,?_⟩;focus ((repeat' (first|refine ⟨?_,?_⟩|refine .inr ?_));all_goals kernel_rfl))
   |exact hin _|exact agf (by assumption)
   | (first|refine wp rfl ?_|refine spt rfl ?_|refine spf rfl ?_|(refine spl (fun hc=>?_) fun hc=>?_)<;>(try rw [beq_iff_eq] at hc)<;>try simp only [hc]|(refine gs (fun hb=>?_) fun hb=>?_)<;>try simp only [Bool.not_true,Bool.not_false] at hb|refine cp hS ?_|refine cp hF ?_|refine Call1_new ⟨gen,1000,0⟩ (hN) (by first|exact hfr' _ _|simp only [go_sem, *]) ?_|(refine ct (Tf _) ?_ ?_;focus ((simp only [go_sem, *]<;>rfl);done))|(refine ct (Tg _) ?_ ?_;focus ((simp only [go_sem, *]<;>rfl);done))|refine cp w1 ?_|refine cp w2 ?_|refine cp c1 ?_|refine cp c2 ?_|refine cp l0 ?_|refine cp l4 ?_|refine finF hrel ?_ ?_ ?_)<;>try simp only [go_sem, *])
 obtain ⟨hx1,hx2,tf1,tf2⟩:=f2.look lf
 obtain ⟨hx3,hx4,tg1,tg2⟩:=g2.look lg
 clear hx1 hx2 hx3 hx4
 have Fi:TyF (chFun g.look.1.2 f.look.1.2):=chFun_F tg2.1 tf2.1
 have si:=@chFun_sz g.look.1.2 f.look.1.2
 have u0:=c_r28Fun g.look.1.2 f.look.1.2
 have u1:=c_r28Fun f.look.1.1 g.look.1.1
 have u2:=c_r28Fun f.look.1.1 (chFun g.look.1.2 f.look.1.2)
 have F1:TyF (chFun f.look.1.1 g.look.1.1):=chFun_F tf1.1 tg1.1
 have F2:TyF (chFun f.look.1.1 (chFun g.look.1.2 f.look.1.2)):=chFun_F tf1.1 Fi
 have s1:=@chFun_sz f.look.1.1 g.look.1.1
 have s2:=@chFun_sz f.look.1.1 (chFun g.look.1.2 f.look.1.2)
 have z1':=tf1.2
 have z2':=tf2.2
 have z3':=tg1.2
 have z4':=tg2.2
 have k1:=c_refTyCheck _ F1.W
 have k2:=c_refTyCheck _ F2.W
 rcases tyG_or F1 (by omega) with ⟨r1,G1⟩|r1
 case inr =>
  rw [r1] at k1
  rw [lf] at w1 c1
  rw [lg] at w2 c2
  clear tf1 tf2 tg1 tg2 lf lg f2 g2 fG gG Fi si F1 F2 s1 s2 z1' z2' z3' z4' k2
  intro h
  refine en Tryz.func5 [.tmp 2] rfl rfl fun g0 w0 gen hrel hfr hfr' hres=>?_
  repeat' (first
   |(refine ⟨?_,?_⟩;focus ((repeat' (first|refine ⟨?_,?_⟩|refine .inr ?_));all_goals kernel_rfl))
   |exact hin _|exact agf (by assumption)
   | (first|refine wp rfl ?_|refine spt rfl ?_|refine spf rfl ?_|(refine spl (fun hc=>?_) fun hc=>?_)<;>(try rw [beq_iff_eq] at hc)<;>try simp only [hc]|(refine gs (fun hb=>?_) fun hb=>?_)<;>try simp only [Bool.not_true,Bool.not_false] at hb|refine cp hS ?_|refine cp hF ?_|refine Call1_new ⟨gen,1000,0⟩ (hN) (by first|exact hfr' _ _|simp only [go_sem, *]) ?_|(refine ct (Tf _) ?_ ?_;focus ((simp only [go_sem, *]<;>rfl);done))|(refine ct (Tg _) ?_ ?_;focus ((simp only [go_sem, *]<;>rfl);done))|refine cp w1 ?_|refine cp w2 ?_|refine cp c1 ?_|refine cp c2 ?_|refine cp u0 ?_|refine cp u1 ?_|refine cp u2 ?_|refine cp k1 ?_|refine finF hrel ?_ ?_ ?_)<;>try simp only [go_sem, *])
 rw [r1] at k1
 rcases tyG_or F2 (by omega) with ⟨r2,G2⟩|r2
 case inr =>
  rw [r2] at k2
  rw [lf] at w1 c1
  rw [lg] at w2 c2
  clear tf1 tf2 tg1 tg2 lf lg f2 g2 fG gG Fi si F1 F2 s1 s2 z1' z2' z3' z4'
  intro h
  refine en Tryz.func5 [.tmp 2] rfl rfl fun g0 w0 gen hrel hfr hfr' hres=>?_
  repeat' (first
   |(refine ⟨?_,?_⟩;focus ((repeat' (first|refine ⟨?_,?_⟩|refine .inr ?_));all_goals kernel_rfl))
   |exact hin _|exact agf (by assumption)
   | (first|refine wp rfl ?_|refine spt rfl ?_|refine spf rfl ?_|(refine spl (fun hc=>?_) fun hc=>?_)<;>(try rw [beq_iff_eq] at hc)<;>try simp only [hc]|(refine gs (fun hb=>?_) fun hb=>?_)<;>try simp only [Bool.not_true,Bool.not_false] at hb|refine cp hS ?_|refine cp hF ?_|refine Call1_new ⟨gen,1000,0⟩ (hN) (by first|exact hfr' _ _|simp only [go_sem, *]) ?_|(refine ct (Tf _) ?_ ?_;focus ((simp only [go_sem, *]<;>rfl);done))|(refine ct (Tg _) ?_ ?_;focus ((simp only [go_sem, *]<;>rfl);done))|refine cp w1 ?_|refine cp w2 ?_|refine cp c1 ?_|refine cp c2 ?_|refine cp u0 ?_|refine cp u1 ?_|refine cp u2 ?_|refine cp k1 ?_|refine cp k2 ?_|refine finF hrel ?_ ?_ ?_)<;>try simp only [go_sem, *])
 rw [r2] at k2
 clear r1 r2 F1 F2 s1 s2 si z1' z2' z3' z4'
 obtain ⟨fo,a3,Cf,zfo,foW,Tfo⟩:=c_Pick l hl G1 a2
 obtain ⟨ba,a4,Cb,zba,baW,Tba⟩:=c_Pick l hl G2 a3
 obtain ⟨s,a5,Cs,zs,sW,Ts⟩:=c_Pick l hl tf1 a4
 obtain ⟨k,a6,Ck,zk,kW,Tk⟩:=c_Pick l hl tg2 a5
 have law:=law_contestImp (lim:=30000) f2 g2 lf lg G1 G2 Cf Cb Cs Ck zfo zba zs zk
 obtain ⟨o1,o2,o3⟩:=imp_ok f2 g2 lf lg G1 G2 Cf Cb Cs Ck zfo zba zs zk
 have j1:=c_r28Join (chFun f.look.1.1 g.look.1.1) (chFun f.look.1.1 (chFun g.look.1.2 f.look.1.2)) fo ba
 have j2:=c_r28Join f.look.1.1 g.look.1.2 s k
 have p1:=c_r28Call f.look.1.1 (chFun g.look.1.2 f.look.1.2) ba s
 have p2:=c_r28Call g.look.1.2 f.look.1.2 (chCall f.look.1.1 (chFun g.look.1.2 f.look.1.2) ba s) k
 have p3:=c_r28Call f.look.1.1 g.look.1.1 fo s
 have p1W:=chCall_W (a:=f.look.1.1) (b:=chFun g.look.1.2 f.look.1.2) baW sW
 have p2W:=chCall_W (a:=g.look.1.2) (b:=f.look.1.2) p1W kW
 have p3W:=chCall_W (a:=f.look.1.1) (b:=g.look.1.1) foW sW
 have x1:=c_conHolds (fmTwo 3 f g) _ _ (fmTwo_W fW gW) (chJoin_W (a:=chFun f.look.1.1 g.look.1.1) (b:=chFun f.look.1.1 (chFun g.look.1.2 f.look.1.2)) foW baW) (chJoin_W (a:=f.look.1.1) (b:=g.look.1.2) sW kW) 30000 (by omega) o1
 have y1:=c_conHolds f s _ fW sW p2W 30000 (by omega) o2
 have z1:=c_conHolds g _ k gW p3W kW 30000 (by omega) o3
 simp only at law
 obtain ⟨q1,q2,q3,q4⟩:=law
 obtain ⟨xb,xk,xe,ex,hx⟩:=decV_of q1
 obtain ⟨yb,yk,ye,ey,hy⟩:=decV_of q2
 obtain ⟨zb,zk',ze,ez,hz⟩:=decV_of q3
 rw [ex] at x1
 rw [ey] at y1
 rw [ez] at z1
 rw [fmTwo,Fm.mk_cells] at x1
 simp only [Ty.mk_kind,Ty.mk_args,List.map_cons,List.map_nil] at x1
 replace x1:Pure Tryz.prog env 20 [.agg [.int .i64 3,.int .i64 0,.sl .any [],.sl .any [],.sl .any [f.cells,g.cells]],.agg (chJoin (chFun f.look.1.1 g.look.1.1) (chFun f.look.1.1 (chFun g.look.1.2 f.look.1.2)) fo ba).cells,.agg (chJoin f.look.1.1 g.look.1.2 s k).cells,.int .i64 30000] (.tup [.bool xb,.int .i64 xk,.int .i64 xe]):=x1
 replace y1:Pure Tryz.prog env 20 [.agg f.cells,.agg s.cells,.agg (chCall g.look.1.2 f.look.1.2 (chCall f.look.1.1 (chFun g.look.1.2 f.look.1.2) ba s) k).cells,.int .i64 30000] (.tup [.bool yb,.int .i64 yk,.int .i64 ye]):=y1
 replace z1:Pure Tryz.prog env 20 [.agg g.cells,.agg (chCall f.look.1.1 g.look.1.1 fo s).cells,.agg k.cells,.int .i64 30000] (.tup [.bool zb,.int .i64 zk',.int .i64 ze]):=z1
 have fin:xe=0→ye=0→ze=0→xb=(!yb||zb):=fun h1 h2 h3=>by
  rcases hx with ⟨_,x0,xx⟩|e|e
  ·rcases hy with ⟨_,y0,yy⟩|e|e
   ·rcases hz with ⟨_,z0,zz⟩|e|e
    ·rw [← xx,← yy,← zz];exact q4 x0 y0 z0
    ·rw [h3] at e;cases e
    ·rw [h3] at e;cases e
   ·rw [h2] at e;cases e
   ·rw [h2] at e;cases e
  ·rw [h1] at e;cases e
  ·rw [h1] at e;cases e
 have kx:xe=0∨xe=4∨xe=5:=by rcases hx with ⟨e,_⟩|e|e;exact .inl e;exact .inr (.inl e);exact .inr (.inr e)
 have ky:ye=0∨ye=4∨ye=5:=by rcases hy with ⟨e,_⟩|e|e;exact .inl e;exact .inr (.inl e);exact .inr (.inr e)
 have kz:ze=0∨ze=4∨ze=5:=by rcases hz with ⟨e,_⟩|e|e;exact .inl e;exact .inr (.inl e);exact .inr (.inr e)
 rw [lf] at w1 c1
 rw [lg] at w2 c2
 clear hx hy hz ex ey ez q1 q2 q3 q4 o1 o2 o3 Cf Cb Cs Ck zfo zba zs zk tf1 tf2 tg1 tg2 lf lg f2 g2 fG gG fW gW G1 G2 Fi p1W p2W p3W
 generalize chJoin (chFun f.look.1.1 g.look.1.1) (chFun f.look.1.1 (chFun g.look.1.2 f.look.1.2)) fo ba=J1 at *
 generalize chJoin f.look.1.1 g.look.1.2 s k=J2 at *
 generalize chCall g.look.1.2 f.look.1.2 (chCall f.look.1.1 (chFun g.look.1.2 f.look.1.2) ba s) k=P2 at *
 generalize chCall f.look.1.1 (chFun g.look.1.2 f.look.1.2) ba s=P1 at *
 generalize chCall f.look.1.1 g.look.1.1 fo s=P3 at *
 generalize chFun f.look.1.1 g.look.1.1=U1 at *
 generalize chFun f.look.1.1 (chFun g.look.1.2 f.look.1.2)=U2 at *
 generalize chFun g.look.1.2 f.look.1.2=U0 at *
 generalize f.look.1.1=v1 at *
 generalize g.look.1.1=v2 at *
 generalize f.look.1.2=v3 at *
 generalize g.look.1.2=v4 at *
 have lim:∀ e:Int,e=4∨e=5→Pure Tryz.prog env 18 [.int .i64 e] (.bool true)∧(e != 0)=true:=by
  rintro e (rfl|rfl)
  ·exact ⟨l4,rfl⟩
  ·exact ⟨l5,rfl⟩
 clear l4 l5
 rcases kx with rfl|kx
 case inr =>
  obtain ⟨lx,nx⟩:=lim _ kx
  clear lim kx ky kz fin
  intro h
  refine en Tryz.func5 [.tmp 2] rfl rfl fun g0 w0 gen hrel hfr hfr' hres=>?_
  repeat' (first
   |(refine ⟨?_,?_⟩;focus ((repeat' (first|refine ⟨?_,?_⟩|refine .inr ?_));all_goals kernel_rfl))
   |exact hin _|exact agf (by assumption)
   | (first|refine wp rfl ?_|refine spt rfl ?_|refine spf rfl ?_|(refine spl (fun hc=>?_) fun hc=>?_)<;>(try rw [beq_iff_eq] at hc)<;>try simp only [hc]|(refine gs (fun hb=>?_) fun hb=>?_)<;>try simp only [Bool.not_true,Bool.not_false] at hb|refine cp hS ?_|refine cp hF ?_|refine Call1_new ⟨gen,1000,0⟩ (hN) (by first|exact hfr' _ _|simp only [go_sem, *]) ?_|(refine ct (Tf _) ?_ ?_;focus ((simp only [go_sem, *]<;>rfl);done))|(refine ct (Tg _) ?_ ?_;focus ((simp only [go_sem, *]<;>rfl);done))|refine cp w1 ?_|refine cp w2 ?_|refine cp c1 ?_|refine cp c2 ?_|refine cp u0 ?_|refine cp u1 ?_|refine cp u2 ?_|refine cp k1 ?_|refine cp k2 ?_|(refine ct (Tfo _) ?_ ?_;focus ((simp only [go_sem, *]<;>rfl);done))|(refine ct (Tba _) ?_ ?_;focus ((simp only [go_sem, *]<;>rfl);done))|(refine ct (Ts _) ?_ ?_;focus ((simp only [go_sem, *]<;>rfl);done))|(refine ct (Tk _) ?_ ?_;focus ((simp only [go_sem, *]<;>rfl);done))|refine cp j1 ?_|refine cp j2 ?_|refine cp p1 ?_|refine cp p2 ?_|refine cp p3 ?_|refine cp x1 ?_|refine cp y1 ?_|refine cp z1 ?_|refine cp lx ?_|refine finF hrel ?_ ?_ ?_)<;>try simp only [go_sem, *])
 rcases ky with rfl|ky
 case inr =>
  obtain ⟨lx,nx⟩:=lim _ ky
  clear lim ky kz fin
  intro h
  refine en Tryz.func5 [.tmp 2] rfl rfl fun g0 w0 gen hrel hfr hfr' hres=>?_
  repeat' (first
   |(refine ⟨?_,?_⟩;focus ((repeat' (first|refine ⟨?_,?_⟩|refine .inr ?_));all_goals kernel_rfl))
   |exact hin _|exact agf (by assumption)
   | (first|refine wp rfl ?_|refine spt rfl ?_|refine spf rfl ?_|(refine spl (fun hc=>?_) fun hc=>?_)<;>(try rw [beq_iff_eq] at hc)<;>try simp only [hc]|(refine gs (fun hb=>?_) fun hb=>?_)<;>try simp only [Bool.not_true,Bool.not_false] at hb|refine cp hS ?_|refine cp hF ?_|refine Call1_new ⟨gen,1000,0⟩ (hN) (by first|exact hfr' _ _|simp only [go_sem, *]) ?_|(refine ct (Tf _) ?_ ?_;focus ((simp only [go_sem, *]<;>rfl);done))|(refine ct (Tg _) ?_ ?_;focus ((simp only [go_sem, *]<;>rfl);done))|refine cp w1 ?_|refine cp w2 ?_|refine cp c1 ?_|refine cp c2 ?_|refine cp u0 ?_|refine cp u1 ?_|refine cp u2 ?_|refine cp k1 ?_|refine cp k2 ?_|(refine ct (Tfo _) ?_ ?_;focus ((simp only [go_sem, *]<;>rfl);done))|(refine ct (Tba _) ?_ ?_;focus ((simp only [go_sem, *]<;>rfl);done))|(refine ct (Ts _) ?_ ?_;focus ((simp only [go_sem, *]<;>rfl);done))|(refine ct (Tk _) ?_ ?_;focus ((simp only [go_sem, *]<;>rfl);done))|refine cp j1 ?_|refine cp j2 ?_|refine cp p1 ?_|refine cp p2 ?_|refine cp p3 ?_|refine cp x1 ?_|refine cp y1 ?_|refine cp z1 ?_|refine cp l0 ?_|refine cp lx ?_|refine finF hrel ?_ ?_ ?_)<;>try simp only [go_sem, *])
 rcases kz with rfl|kz
 case inr =>
  obtain ⟨lx,nx⟩:=lim _ kz
  clear lim kz fin
  intro h
  refine en Tryz.func5 [.tmp 2] rfl rfl fun g0 w0 gen hrel hfr hfr' hres=>?_
  repeat' (first
   |(refine ⟨?_,?_⟩;focus ((repeat' (first|refine ⟨?_,?_⟩|refine .inr ?_));all_goals kernel_rfl))
   |exact hin _|exact agf (by assumption)
   | (first|refine wp rfl ?_|refine spt rfl ?_|refine spf rfl ?_|(refine spl (fun hc=>?_) fun hc=>?_)<;>(try rw [beq_iff_eq] at hc)<;>try simp only [hc]|(refine gs (fun hb=>?_) fun hb=>?_)<;>try simp only [Bool.not_true,Bool.not_false] at hb|refine cp hS ?_|refine cp hF ?_|refine Call1_new ⟨gen,1000,0⟩ (hN) (by first|exact hfr' _ _|simp only [go_sem, *]) ?_|(refine ct (Tf _) ?_ ?_;focus ((simp only [go_sem, *]<;>rfl);done))|(refine ct (Tg _) ?_ ?_;focus ((simp only [go_sem, *]<;>rfl);done))|refine cp w1 ?_|refine cp w2 ?_|refine cp c1 ?_|refine cp c2 ?_|refine cp u0 ?_|refine cp u1 ?_|refine cp u2 ?_|refine cp k1 ?_|refine cp k2 ?_|(refine ct (Tfo _) ?_ ?_;focus ((simp only [go_sem, *]<;>rfl);done))|(refine ct (Tba _) ?_ ?_;focus ((simp only [go_sem, *]<;>rfl);done))|(refine ct (Ts _) ?_ ?_;focus ((simp only [go_sem, *]<;>rfl);done))|(refine ct (Tk _) ?_ ?_;focus ((simp only [go_sem, *]<;>rfl);done))|refine cp j1 ?_|refine cp j2 ?_|refine cp p1 ?_|refine cp p2 ?_|refine cp p3 ?_|refine cp x1 ?_|refine cp y1 ?_|refine cp z1 ?_|refine cp l0 ?_|refine cp lx ?_|refine finF hrel ?_ ?_ ?_)<;>try simp only [go_sem, *])
 have fin':=fin rfl rfl rfl
 subst fin'
 clear fin lim l0
 cases yb<;>cases zb
 all_goals
  simp only [Bool.not_true,Bool.not_false,Bool.or_true,Bool.or_false] at x1
  intro h
  refine en Tryz.func5 [.tmp 2] rfl rfl fun g0 w0 gen hrel hfr hfr' hres=>?_
  repeat' (first
   |(refine ⟨?_,?_⟩;focus ((repeat' (first|refine ⟨?_,?_⟩|refine .inr ?_));all_goals kernel_rfl))
   |exact hin _|exact agf (by assumption)
   | (first|refine wp rfl ?_|refine spt rfl ?_|refine spf rfl ?_|(refine spl (fun hc=>?_) fun hc=>?_)<;>(try rw [beq_iff_eq] at hc)<;>try simp only [hc]|(refine gs (fun hb=>?_) fun hb=>?_)<;>try simp only [Bool.not_true,Bool.not_false] at hb|refine cp hS ?_|refine cp hF ?_|refine Call1_new ⟨gen,1000,0⟩ (hN) (by first|exact hfr' _ _|simp only [go_sem, *]) ?_|(refine ct (Tf _) ?_ ?_;focus ((simp only [go_sem, *]<;>rfl);done))|(refine ct (Tg _) ?_ ?_;focus ((simp only [go_sem, *]<;>rfl);done))|refine cp w1 ?_|refine cp w2 ?_|refine cp c1 ?_|refine cp c2 ?_|refine cp u0 ?_|refine cp u1 ?_|refine cp u2 ?_|refine cp k1 ?_|refine cp k2 ?_|(refine ct (Tfo _) ?_ ?_;focus ((simp only [go_sem, *]<;>rfl);done))|(refine ct (Tba _) ?_ ?_;focus ((simp only [go_sem, *]<;>rfl);done))|(refine ct (Ts _) ?_ ?_;focus ((simp only [go_sem, *]<;>rfl);done))|(refine ct (Tk _) ?_ ?_;focus ((simp only [go_sem, *]<;>rfl);done))|refine cp j1 ?_|refine cp j2 ?_|refine cp p1 ?_|refine cp p2 ?_|refine cp p3 ?_|refine cp x1 ?_|refine cp y1 ?_|refine cp z1 ?_|refine finF hrel ?_ ?_ ?_)<;>try simp only [go_sem, *])
  all_goals rfl
end Go.Proofs.YtbfilinnoedfeaaGreatDoor
