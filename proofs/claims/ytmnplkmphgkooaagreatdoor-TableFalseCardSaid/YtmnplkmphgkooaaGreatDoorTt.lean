/-
 Walks: several parts in one text.
-/
import Derived.Test.YtmnplkmphgkooaaGreatDoorMt
import Derived.Test.YtmnplkmphgkooaaGreatDoorTy
import Derived.Test.YtmnplkmphgkooaaGreatDoorNx
import Derived.Test.YtmnplkmphgkooaaGreatDoorAbsDb
import Derived.Test.YtmnplkmphgkooaaGreatDoorTa
import Derived.Test.YtmnplkmphgkooaaGreatDoorTr
import Derived.Test.YtmnplkmphgkooaaGreatDoorAbsDd
set_option linter.unusedSimpArgs false
set_option linter.unusedVariables false
set_option maxRecDepth 20000
set_option maxHeartbeats 4000000
namespace Go.Proofs.YtmnplkmphgkooaaGreatDoor
open Go GoAbs Go.Proofs
theorem ARX_fend {c:Ctx} {gen:Nat} {σ:St} (hm:c.P.follows .mixedOrders=true) (h:AR c gen [] .ret σ):ARX c (xF c) gen [] .ret σ :=
 fun g a w hx _ r=>bodyPost_M (show bodyPost c.P c.fn c.R .ret a w from h rfl hm g a w hx r.st)
theorem c_fromNum (n:Nat):Pure Tryz.prog env 62 [.agg (numVal n)] (intV n):=by
 intro h
 refine ret_of_walkX Tryz.func62 rfl (by kernel_rfl) fun g0 w0 gen hrel hfr=>?_
 have hfr':∀ r i,h ⟨gen,r,i⟩=none:=fresh_of hfr
 have hres:Tryz.f62.results.toList=[.tmp 2]:=rfl
 unfold intV numVal
 repeat' (first
  |exact agf (by assumption)
  | (first|refine ARX_seq ?_|refine ARX_region (xF_ok _) follows (by kernel_rfl) ?_|refine ARX_condP ?_|refine ARX_block ?_|refine ARX_exit ?_|refine ARX_skip ?_|refine ARX_ret ?_|refine ARX_block_end ?_|refine spt rfl ?_|refine spf rfl ?_|refine ARX_fend follows ?_|refine finF hrel ?_ ?_ ?_)<;>try simp only [go_sem, *])
theorem c_machCall1 {most f u1 u2 n:Nat} {t:Tm} {r1 r2:Res} {o:Bool} (hm:most≤65536) (hn:n≤4000) (hev:ev most f 0 t []=some (r1,u1,false)) (hcl:evCall (ev most f) u1 r1 (numR n)=some (r2,u2,o)) (ht:TmW t)
  (hty:HasTy TyG [] t (tFun tNat tNat)) (he:tmErr t=0) (hb:tmSz t≤1000000) :
  Pure Tryz.prog env 29 [.agg t.cells,.sl .any [numVal n],.int .i64 most] (evalVp (r2.num,u2,o)):=by
 have h1:=c_termsTypeOf t (tFun tNat tNat) hty ht he hb
 have h2:=c_Data
 have h6:=c_vTypeOf (IsVl.num n) (by rw [tmSz_num];omega) TyG.nat
 have h7:=c_SameType tNat tNat_W tNat tNat_W
 rw [Ty.same_refl] at h7
 have h8:=c_fromNum n
 have hWf:EvW 9000 most (ev most f):=ev_W (by omega) f
 have hCf:EvC2 9000 most (ev most f):=ev_C2 hm (by omega) f
 obtain ⟨_,b1,b2⟩:=hWf 0 0 t [] r1 u1 false hev (by omega) (by omega) ht (by simp) (by simp)
 obtain ⟨b3,b4⟩:=b2 rfl
 have ec:tNat.cells=[.int .i64 1,.sl .any []]:=by rw [ty_cells];rfl
 have hfk:(tFun tNat tNat).kind=4:=rfl
 have hfa:(tFun tNat tNat).args=[tNat,tNat]:=rfl
 have d1:decide ((most:Int)<0)=false:=by simp
 have d2:decide ((most:Int)>65536)=false:=by simp;omega
 have n0:((0:Int) != 0)=false:=rfl
 have n4:((4:Int) != 4)=false:=rfl
 have hp:=c_plainNum r2.num
 have hv8:(PVl.mk 1 n [] []).cells=numVal n:=by rw [PVl.cells_eq];rfl
 rw [hv8] at h6
 have key:∀ d:GoAbs.Id,∃ v1,EvT2 d most 0 u1 false t .nilp v1∧Turns Tryz.prog env 64 [.ptr d 0,v1,.sl .any [[intV n]]] d (mb u1 most) (evR o (intV r2.num)) (mb u2 most)∧weak v1=v1:=fun d=>by
  obtain ⟨v1,g1,g2⟩:=hCf d 0 0 t [] .nilp [] _ r1 u1 false hev (Nat.le_refl _) (by omega) ht (by simp) (by simp) hty .nil
  have tv:=g2 rfl
  obtain ⟨b,ve,v,e1,e2,e3,e4,_⟩:=evCall_C2 hWf hCf (d:=d) hcl (c:=0) (by omega) b1 b4 (ResW.num (by omega)) tv .num
  subst e1
  refine ⟨_,g1,?_,tv.wk⟩
  cases o with
  | true =>
   exact c_callS' (l:=[intV n]) (.stop e3 (intI n) e2) (by simp) (fun e=>by cases e) tv.isI
  | false =>
   have tr:=e4 rfl
   cases tr with
   | num=>exact c_callS' (l:=[intV n]) (.step e3 (intI n) e2 (ThV.num (K:=kt)).wk .nil) (by simp) (fun _=>intI _) tv.isI
 clear hWf hCf hev hcl b1 b2 b3 b4 ht hty he hb hm hn
 clear ec hv8
 have hi1:∀ S,InV S (intV n):=fun S=>by unfold intV;simp [InV]
 have hw1:weak (intV n)=intV n:=by unfold intV;rfl
 have ho1:oneV (intV n)=true:=rfl
 have hnl:(numVal n).length=4:=rfl
 have hno:(numVal n).all oneV=true:=rfl
 generalize tFun tNat tNat=T at *
 generalize tNat=N at *
 intro h
 unfold EvT2 at key
 unfold evalVp
 unfold evR mb at *
 unfold outV at *
 simp only [show ((0:Nat):Int)=0 from rfl] at key
 cases o with
 | true =>
  simp only [if_true,Bool.not_true,Bool.false_eq_true,if_false,Bool.not_false] at key ⊢
  unfold intV numVal at *
  try unfold noVal
  refine en_ Tryz.func29 [.cell 6 40,.tmp 7,.tmp 8] fun g0 w0 gen hrel hfr hfr' hres=>?_
  refine wq_ ?_
  refine ar_ [2,3,6,9,30] [⟨gen,0,0⟩,⟨gen,0,1⟩] (fun i σ=>Agree h σ.h∧(i=0→σ.h ⟨gen,1,5⟩=some (.box T.cells)∧σ.tm 11=.sl .full [])∧(i=1→σ.h ⟨gen,1,5⟩=some (.box N.cells)∧∃ c,σ.tm 11=.sl c [[.iface 3 (.int .i64 n)]])) (([[.int .i64 1,.int .i64 n,.sl .any [],.sl .any []]]:List (List V))).length ?_ ?_ ?_
  ·simp only [go_sem, *]
   first|exact ag_|exact ⟨ag_,by simp,by simp⟩|exact ⟨ag_,by simp⟩
  ·
   intro i σ gr0 hgl_gr0 hgn hlt jI jN jS ⟨jA,j0,j1⟩
   obtain ⟨jT,jB⟩:=jS
   simp only [go_sem] at jT jB
   obtain ⟨hgf,hgf0,eg_gen_gr0,eh_gen_gr0⟩:=rnd hgn hgl_gr0 jA
   obtain ⟨x,hx,hxm,hm⟩:=rnx hlt
   clear hgn
   obtain rfl:i=0:=by simp at hlt;omega
   obtain ⟨jb,jt⟩:=j0 rfl
   clear j0 j1 key
   simp only [List.getElem?_cons_zero,Option.some.injEq] at hx
   subst hx
   refine wq_ ?_
   exact ⟨ag_,_,rfl⟩
  ·
   intro σ ga0 hgl_ga0 hgn jS ⟨jA,j0,j1⟩
   obtain ⟨jT,jB⟩:=jS
   simp only [go_sem] at jT jB
   obtain ⟨hgf,hgf0,eg_gen_ga0,eh_gen_ga0⟩:=rnd hgn hgl_ga0 jA
   clear hgn
   obtain ⟨jb,c,jt⟩:=j1 rfl
   obtain ⟨v1,g1,g2,gw⟩:=key ⟨ga0,20,2⟩
   clear j0 j1 key
   exact wk_
 | false =>
  simp only [Bool.false_eq_true,if_false,Bool.not_false] at key ⊢
  unfold intV numVal at *
  try unfold noVal
  refine en_ Tryz.func29 [.cell 6 40,.tmp 7,.tmp 8] fun g0 w0 gen hrel hfr hfr' hres=>?_
  refine wq_ ?_
  refine ar_ [2,3,6,9,30] [⟨gen,0,0⟩,⟨gen,0,1⟩] (fun i σ=>Agree h σ.h∧(i=0→σ.h ⟨gen,1,5⟩=some (.box T.cells)∧σ.tm 11=.sl .full [])∧(i=1→σ.h ⟨gen,1,5⟩=some (.box N.cells)∧∃ c,σ.tm 11=.sl c [[.iface 3 (.int .i64 n)]])) (([[.int .i64 1,.int .i64 n,.sl .any [],.sl .any []]]:List (List V))).length ?_ ?_ ?_
  ·simp only [go_sem, *]
   first|exact ag_|exact ⟨ag_,by simp,by simp⟩|exact ⟨ag_,by simp⟩
  ·
   intro i σ gr0 hgl_gr0 hgn hlt jI jN jS ⟨jA,j0,j1⟩
   obtain ⟨jT,jB⟩:=jS
   simp only [go_sem] at jT jB
   obtain ⟨hgf,hgf0,eg_gen_gr0,eh_gen_gr0⟩:=rnd hgn hgl_gr0 jA
   obtain ⟨x,hx,hxm,hm⟩:=rnx hlt
   clear hgn
   obtain rfl:i=0:=by simp at hlt;omega
   obtain ⟨jb,jt⟩:=j0 rfl
   clear j0 j1 key
   simp only [List.getElem?_cons_zero,Option.some.injEq] at hx
   subst hx
   refine wq_ ?_
   exact ⟨ag_,_,rfl⟩
  ·
   intro σ ga0 hgl_ga0 hgn jS ⟨jA,j0,j1⟩
   obtain ⟨jT,jB⟩:=jS
   simp only [go_sem] at jT jB
   obtain ⟨hgf,hgf0,eg_gen_ga0,eh_gen_ga0⟩:=rnd hgn hgl_ga0 jA
   clear hgn
   obtain ⟨jb,c,jt⟩:=j1 rfl
   obtain ⟨v1,g1,g2,gw⟩:=key ⟨ga0,20,2⟩
   clear j0 j1 key
   exact wk_
structure AskC (F F1 R R1:Fm) (t:Tm) (s:Ty):Prop where
 typed:Pure Tryz.prog env 33 [.sl .any [],.agg F.cells] (.int .i64 0)
 cty:Pure Tryz.prog env 24 [.agg F.cells] (.tup [.agg s.cells,.int .i64 0])
 tty:Pure Tryz.prog env 34 [.sl .any [],.agg t.cells] (.tup [.agg s.cells,.int .i64 0])
 same:Pure Tryz.prog env 35 [.agg s.cells,.agg s.cells] (.bool true)
 rl:Pure Tryz.prog env 36 [.agg F.cells,.agg t.cells] (.tup [.agg R.cells,.int .i64 0])
 k:F.kind=4
 ty:F.type=tNat
 args:F.args=[F1]
 rargs:R.args=[R1]
theorem c_Instance0 {F F1 R R1:Fm} {t:Tm} {s:Ty} (hA:AskC F F1 R R1 t s):Pure Tryz.prog env 18 [.agg F.cells,.agg t.cells,.sl .any []] (.tup [.agg R.cells,.int .i64 0]):=by
 obtain ⟨h1,h2,h3,h4,h5,hk,hty,ha,hra⟩:=hA
 have n0:((0:Int) != 0)=false:=rfl
 have z0:((0:Nat):Int)=0:=rfl
 clear hk hty ha hra
 intro h
 refine en_ Tryz.func18 [.cell 6 36,.tmp 7] fun g0 w0 gen hrel hfr hfr' hres=>?_
 refine wq_ ?_
 refine ar_ [2,3,6,12] [⟨gen,0,2⟩] (fun i σ=>Agree h σ.h∧σ.h ⟨gen,12,6⟩=some (.box R.cells)) (([]:List (List V))).length ?_ ?_ ?_
 ·simp only [go_sem, *]
  exact ag_
 ·
  intro i σ gr0 hgl_gr0 hgn hlt jI jN jS ⟨jA,jb⟩
  obtain ⟨jT,jB⟩:=jS
  simp only [go_sem] at jT jB
  obtain ⟨hgf,hgf0,eg_gen_gr0,eh_gen_gr0⟩:=rnd hgn hgl_gr0 jA
  obtain ⟨x,hx,hxm,hm⟩:=rnx hlt
  clear hgn
  exact absurd hlt (by simp)
 ·
  intro σ ga0 hgl_ga0 hgn jS ⟨jA,jb⟩
  obtain ⟨jT,jB⟩:=jS
  simp only [go_sem] at jT jB
  obtain ⟨hgf,hgf0,eg_gen_ga0,eh_gen_ga0⟩:=rnd hgn hgl_ga0 jA
  clear hgn
  exact wk_
theorem c_Instance1 {F F1 R R1 X:Fm} {t:Tm} {s:Ty} (hA:AskC F F1 R R1 t s) {n:Nat} (hn:n≤4000) (h8:Pure Tryz.prog env 39 [.agg R1.cells,.int .i64 0,.agg (numT n).cells] (.tup [.agg X.cells,.int .i64 0])) :
  Pure Tryz.prog env 18 [.agg F.cells,.agg t.cells,.sl .any [numVal n]] (.tup [.agg X.cells,.int .i64 0]):=by
 obtain ⟨h1,h2,h3,h4,h5,hk,hty,ha,hra⟩:=hA
 have n0:((0:Int) != 0)=false:=rfl
 have n4:((4:Int) != 4)=false:=rfl
 have hv8:(PVl.mk 1 n [] []).cells=numVal n:=by rw [PVl.cells_eq];rfl
 have h6:=c_proValue (IsVl.num n) (by rw [tmSz_num];omega) TyG.nat
 have h7:=c_vTypeOf (IsVl.num n) (by rw [tmSz_num];omega) TyG.nat
 have h9:=c_conSame tNat tNat tNat_W tNat_W
 rw [Ty.same_refl] at h9
 rw [hv8] at h6 h7
 have hnl:(numVal n).length=4:=rfl
 have hno:(numVal n).all oneV=true:=rfl
 clear hv8 hn
 generalize numT n=v at *
 generalize tNat=N at *
 unfold numVal at *
 intro h
 refine en_ Tryz.func18 [.cell 6 36,.tmp 7] fun g0 w0 gen hrel hfr hfr' hres=>?_
 refine wq_ ?_
 refine ar_ [2,3,6,12] [⟨gen,0,2⟩] (fun i σ=>Agree h σ.h∧(i=0→σ.h ⟨gen,12,6⟩=some (.box R.cells)∧σ.h ⟨gen,0,0⟩=some (.box F.cells))∧(i=1→σ.h ⟨gen,12,6⟩=some (.box X.cells))) (([[.int .i64 1,.int .i64 n,.sl .any [],.sl .any []]]:List (List V))).length ?_ ?_ ?_
 ·simp only [go_sem, *]
  first|exact ag_|exact ⟨ag_,by simp⟩
 ·
  intro i σ gr0 hgl_gr0 hgn hlt jI jN jS ⟨jA,j0,j1⟩
  obtain ⟨jT,jB⟩:=jS
  simp only [go_sem] at jT jB
  obtain ⟨hgf,hgf0,eg_gen_gr0,eh_gen_gr0⟩:=rnd hgn hgl_gr0 jA
  obtain ⟨x,hx,hxm,hm⟩:=rnx hlt
  clear hgn
  obtain rfl:i=0:=by simp at hlt;omega
  obtain ⟨jb,jf⟩:=j0 rfl
  clear j0 j1 h1 h2 h3 h4 h5
  simp only [List.getElem?_cons_zero,Option.some.injEq] at hx
  subst hx
  have hti:Int.toNat ((0:Nat):Int)=0:=rfl
  have z0:((0:Nat):Int)=0:=rfl
  refine wq_ ?_
  exact ag_
 ·
  intro σ ga0 hgl_ga0 hgn jS ⟨jA,j0,j1⟩
  obtain ⟨jT,jB⟩:=jS
  simp only [go_sem] at jT jB
  obtain ⟨hgf,hgf0,eg_gen_ga0,eh_gen_ga0⟩:=rnd hgn hgl_ga0 jA
  clear hgn
  have jb:=j1 rfl
  clear j0 j1
  exact wk_
def rowC (n k:Nat) (b:Bool) (w:Nat):List V:=[.sl .any [numVal n],.int .i64 1,.int .i64 k,.sl .any [],.sl .any [],.bool b,.int .i64 w]
theorem c_rowCall {t:Tm} {n k w1 work:Nat} (a b c:GoAbs.Id) (h1:Pure Tryz.prog env 29 [.agg t.cells,.sl .any [numVal n],.int .i64 work] (.tup [.agg (numVal k),.int .i64 w1,.int .i64 0])) :
  PureE Tryz.prog env 28 [.ptr a 0,.ptr b 0,.ptr c 0] [(a,.box t.cells),(b,.box [.sl .any [numVal n]]),(c,.box [.int .i64 work])] (.tup [.agg (numVal k),.int .i64 w1,.int .i64 0]):=by
 intro h hes
 have ha:h a=some (.box t.cells):=hes (a,.box t.cells) (by simp)
 have hb:h b=some (.box [.sl .any [numVal n]]):=hes (b,.box [.sl .any [numVal n]]) (by simp)
 have hc:h c=some (.box [.int .i64 work]):=hes (c,.box [.int .i64 work]) (by simp)
 clear hes
 unfold numVal at *
 refine en_ Tryz.func28 [.cell 3 40,.tmp 4,.tmp 5] fun g0 w0 gen hrel hfr hfr' hres=>?_
 have f1:=fresh_ne hfr ha
 have f2:=fresh_ne' hfr ha
 have f3:=fresh_ne hfr hb
 have f4:=fresh_ne' hfr hb
 have f5:=fresh_ne hfr hc
 have f6:=fresh_ne' hfr hc
 exact wk_
theorem c_Row {F F1 X:Fm} {t:Tm} {n k w1 w2 work:Nat} {b:Bool} (hk:F.kind=4) (ha:F.args=[F1]) (hw:w1+w2≤1000000)
  (h1:Pure Tryz.prog env 18 [.agg F.cells,.agg t.cells,.sl .any [numVal n]] (.tup [.agg X.cells,.int .i64 0]))
  (h2:Pure Tryz.prog env 24 [.agg F1.cells] (.tup [.agg tNat.cells,.int .i64 0]))
  (h3:Pure Tryz.prog env 25 [.agg F.cells] (.tup [.bool true,.int .i64 0]))
  (h5:Pure Tryz.prog env 27 [.agg X.cells] (.tup [.bool true,.int .i64 0]))
  (h6:Pure Tryz.prog env 29 [.agg t.cells,.sl .any [numVal n],.int .i64 work] (.tup [.agg (numVal k),.int .i64 w1,.int .i64 0]))
  (h7:Pure Tryz.prog env 32 [.agg X.cells,.int .i64 work] (.tup [.bool b,.int .i64 w2,.int .i64 0])) :
  Pure Tryz.prog env 15 [.agg F.cells,.agg t.cells,.sl .any [numVal n],.int .i64 work] (.tup [.agg (rowC n k b (w1+w2)),.int .i64 0]):=by
 have h4:=c_Data
 have h8:=fun a b c=>c_rowCall a b c h6
 have n0:((0:Int) != 0)=false:=rfl
 have e0:(((1:Nat):Int)==0)=false:=rfl
 have hwr:IntKind.i64.wrap ((w1:Int)+(w2:Int))=((w1+w2:Nat):Int):=wrap_eq (by omega) (by omega) (by omega)
 clear h6 hw
 generalize tNat=N at *
 unfold rowC
 unfold numVal at *
 intro h
 refine en_ Tryz.func15 [.cell 8 48,.tmp 9] fun g0 w0 gen hrel hfr hfr' hres=>?_
 refine wq_ ?_
 refine ar_ [4,5,6,7,8,9,10,11,12] [⟨gen,0,0⟩,⟨gen,0,1⟩,⟨gen,0,2⟩,⟨gen,0,3⟩,⟨gen,0,4⟩,⟨gen,1,7⟩] (fun i σ=>Agree h σ.h∧(i=0→σ.h ⟨gen,4,1⟩=some (.box F.cells))∧(i=1→σ.h ⟨gen,4,1⟩=some (.box F1.cells))) (([[.int .i64 1,.int .i64 n,.sl .any [],.sl .any []]]:List (List V))).length ?_ ?_ ?_
 ·simp only [go_sem, *]
  first|exact ag_|exact ⟨ag_,by simp⟩
 ·
  intro i σ gr0 hgl_gr0 hgn hlt jI jN jS ⟨jA,j0,j1⟩
  obtain ⟨jT,jB⟩:=jS
  simp only [go_sem] at jT jB
  obtain ⟨hgf,hgf0,eg_gen_gr0,eh_gen_gr0⟩:=rnd hgn hgl_gr0 jA
  obtain ⟨x,hx,hxm,hm⟩:=rnx hlt
  clear hgn
  obtain rfl:i=0:=by simp at hlt;omega
  have jb:=j0 rfl
  clear j0 j1 h1 h2 h3 h4 h5 h7 h8
  have hti:Int.toNat ((0:Nat):Int)=0:=rfl
  have z0:((0:Nat):Int)=0:=rfl
  refine wq_ ?_
  exact ag_
 ·
  intro σ ga0 hgl_ga0 hgn jS ⟨jA,j0,j1⟩
  obtain ⟨jT,jB⟩:=jS
  simp only [go_sem] at jT jB
  obtain ⟨hgf,hgf0,eg_gen_ga0,eh_gen_ga0⟩:=rnd hgn hgl_ga0 jA
  clear hgn
  have jb:=j1 rfl
  clear j0 j1 h1
  repeat' (first
   |exact hin _|exact agf (by assumption)
   | (first|refine wp rfl ?_|refine spt rfl ?_|refine spf rfl ?_|(refine spl (fun hc=>?_) fun hc=>?_)<;>(try rw [beq_iff_eq] at hc)<;>try simp only [hc]|(refine gs (fun hb=>?_) fun hb=>?_)<;>try simp only [Bool.not_true,Bool.not_false] at hb|refine cp h2 ?_|refine cp h3 ?_|refine cp h4 ?_|refine cp h5 ?_|(refine Call1_pureE (h8 _ _ _) ?_ ?_;(focus ((simp only [go_sem, *]<;>(repeat (first|assumption|rfl|refine And.intro ?_ ?_)));done)))|refine cp h7 ?_|refine finF hrel ?_ ?_ ?_)<;>try simp only [go_sem, *])
end Go.Proofs.YtmnplkmphgkooaaGreatDoor
