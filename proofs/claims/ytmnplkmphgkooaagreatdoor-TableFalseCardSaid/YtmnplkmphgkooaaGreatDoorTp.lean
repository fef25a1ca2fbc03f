/-
 Walks: several parts in one text.
-/
import Derived.Test.YtmnplkmphgkooaaGreatDoorTt
import Derived.Test.YtmnplkmphgkooaaGreatDoorUc
import Derived.Test.YtmnplkmphgkooaaGreatDoorTo
import Derived.Test.YtmnplkmphgkooaaGreatDoorOm
import Derived.Test.YtmnplkmphgkooaaGreatDoorTg
import Derived.Test.YtmnplkmphgkooaaGreatDoorAbsDe
set_option linter.unusedSimpArgs false
set_option linter.unusedVariables false
set_option maxRecDepth 20000
set_option maxHeartbeats 4000000
namespace Go.Proofs.YtmnplkmphgkooaaGreatDoor
open Go GoAbs Go.Proofs
theorem c_r24VarI (i:Int):Pure Tryz.prog env 14 [.int .i64 i] (.agg (tmVar i).cells):=by
 intro h
 have hcell:(tmVar i).cells=[.int .i64 1,.int .i64 i,.int .i64 0,.sl .any [],.sl .any []]:=by rw [tmVar,Tm.mk_cells];rfl
 rw [hcell]
 clear hcell
 exact ek_ Tryz.func14 [.cell 2 32]
theorem c_r24LamT (t:Ty) (b:Tm):Pure Tryz.prog env 11 [.agg t.cells,.agg b.cells] (.agg (tmT 2 t [b]).cells):=by
 intro h
 have hcell:(tmT 2 t [b]).cells=[.int .i64 2,.int .i64 0,.int .i64 t.kind,.sl .any (t.args.map Ty.cells),.sl .any [b.cells]]:=by rw [tmT,Tm.mk_cells];rfl
 rw [hcell]
 clear hcell
 exact ek_ Tryz.func11 [.cell 4 32]
theorem c_asked (g:Tm):Pure Tryz.prog env 8 [.agg g.cells] (.agg (askF g).cells):=by
 intro h
 have h1:=c_playNat
 have h2:=c_r24VarI 0
 have h3:=c_r24VarI 1
 have h4:=c_r24App g (tmVar 1)
 have hcell:(askF g).cells=[.int .i64 4,.int .i64 1,.sl .any [],.sl .any [],.sl .any [[.int .i64 5,.int .i64 1,.sl .any [],.sl .any [],.sl .any [[.int .i64 1,.int .i64 0,.sl .any [],.sl .any [(tmVar 0).cells,(tm0 3 [g,tmVar 1]).cells],.sl .any []]]]]]:=by
  rw [askF,fmQ,fmQ,fmEq,Fm.mk_cells];rfl
 rw [hcell]
 clear hcell
 generalize tmVar 0=v0 at *
 generalize tm0 3 [g,tmVar 1]=ap at *
 generalize tmVar 1=v1 at *
 have hk:tNat.kind=1:=rfl
 have ha:tNat.args=[]:=rfl
 generalize tNat=N at *
 exact ek_ Tryz.func8 [.cell 2 36]
 trace_state
theorem c_successor:Pure Tryz.prog env 17 [] (.tup [.agg (askF sucT).cells,.agg sucT.cells]):=by
 intro h
 have h1:=c_playNat
 have h2:=c_r24VarI 0
 have h3:=c_r24Node 5 [tmVar 0]
 have h4:=c_r24LamT tNat (tm0 5 [tmVar 0])
 change Pure Tryz.prog env _ _ (.agg sucT.cells) at h4
 have h5:=c_asked sucT
 simp only [List.map_cons,List.map_nil] at h3
 generalize askF sucT=F at *
 generalize sucT=t at *
 generalize tm0 5 [tmVar 0]=b at *
 generalize tmVar 0=v0 at *
 generalize tNat=N at *
 exact ek_ Tryz.func17 [.cell 0 36,.cell 1 32]
theorem sucAsk:AskC (askF sucT) (ask1 sucT) (askR sucT sucT) sucB sucT (tFun tNat tNat) where
 typed:=c_formulaTyped [] (by simp) (by simp) (askF sucT) (askF_ty suc_ty2) suc_err (by have:=suc_fsz;omega) (askF_W suc_W)
 cty:=by have:=c_ctType (askF sucT) suc_FG.C (askF_W suc_W);rw [suc_cty] at this;exact this
 tty:=c_termsTypeOf sucT (tFun tNat tNat) suc_ty suc_W suc_terr (by rw [suc_sz];omega)
 same:=by
  have:=c_conSame (tFun tNat tNat) (tFun tNat tNat) (TyF.func .nat .nat).W (TyF.func .nat .nat).W
  rw [Ty.same_refl] at this;exact this
 rl:=by have:=c_rlF (askF sucT) suc_FG.C (askF_W suc_W) sucT suc_W;rw [suc_rl] at this;exact this
 k:=rfl
 ty:=rfl
 args:=rfl
 rargs:=rfl
theorem c_sucRow {n:Nat} (hn:n≤3):∃ w:Nat,Pure Tryz.prog env 15 [.agg (askF sucT).cells,.agg sucT.cells,.sl .any [numVal n],.int .i64 5000] (.tup [.agg (rowC n (n+1) true w),.int .i64 0]):=by
 have h8:Pure Tryz.prog env 39 [.agg sucB.cells,.int .i64 0,.agg (numT n).cells] (.tup [.agg (askI sucT sucT n).cells,.int .i64 0]):=by
  have:=c_formulaPut sucB sucB_W sucB_G (by have:=sucB_sz;omega) sucB_l (numT n) (numT_W n) (numT_G n) (by rw [tmSz_num];omega) (least_num (by omega) n)
  rw [sucB,suc_put hn] at this
  exact this
 have h1:=c_Instance1 sucAsk (n:=n) (by omega) h8
 have h2:Pure Tryz.prog env 24 [.agg (ask1 sucT).cells] (.tup [.agg tNat.cells,.int .i64 0]):=by have:=c_ctType (ask1 sucT) suc_F1G.C suc_F1W;rw [suc_cty1] at this;exact this
 have h3:Pure Tryz.prog env 25 [.agg (askF sucT).cells] (.tup [.bool true,.int .i64 0]):=by have:=c_Content (askF sucT) (askF_W suc_W);rw [suc_has] at this;exact this
 have h5:Pure Tryz.prog env 27 [.agg (askI sucT sucT n).cells] (.tup [.bool true,.int .i64 0]):=by have:=c_clsDecidable (askI sucT sucT n) (askI_W suc_W suc_W n);rw [suc_has4 hn] at this;exact this
 have h6:=c_machCall1 (most:=5000) (f:=5) (n:=n) (by omega) (by omega) suc_ev (suc_call n) suc_W suc_ty suc_terr (by rw [suc_sz];omega)
 have h7:=c_decTruth (askI_dc suc_ty suc_ty suc_G suc_G n) (by rw [askI_sz,suc_sz];omega) 5000 (by omega)
 have hd:=suc_d hn
 have hw:=suc_dw hn
 generalize dT 5000 (fdp (askI sucT sucT n)) 0 (askI sucT sucT n)=D at *
 obtain ⟨b,w,e⟩:=D
 simp only [Prod.mk.injEq] at hd hw
 obtain ⟨rfl,rfl⟩:=hd
 exact ⟨_,c_Row rfl rfl (w1:=3) (w2:=w) (k:=n+1) (by omega) h1 h2 h3 h5 h6 h7⟩
theorem c_Run3 {F:Fm} {t:Tm} {R:Nat→List V} (h7:∀ n,(R n).length=7) (ho:∀ n,(R n).all oneV=true) (hi:∀ n S,InL S (R n)) (hwk:∀ n,weakL (R n)=R n)
  (hR:∀ n,n≤2→Pure Tryz.prog env 15 [.agg F.cells,.agg t.cells,.sl .any [numVal n],.int .i64 5000] (.tup [.agg (R n),.int .i64 0])) :
  Pure Tryz.prog env 20 [.agg F.cells,.agg t.cells,.sl .any ([0,1,2].map fun n:Nat=>[V.sl .any [numVal n]]),.int .i64 5000] (.tup [.sl .any [R 0,R 1,R 2],.int .i64 0]):=by
 have n0:((0:Int) != 0)=false:=rfl
 have hd:decide (((3:Nat):Int)>64)=false:=by decide
 have hwl:∀ l:List Nat,weakLL (l.map R)=l.map R:=fun l=>by rw [weakLL_eq,List.map_map];exact List.map_congr_left fun n _=>hwk n
 have hres:[R 0,R 1,R 2]=[0,1,2].map R:=rfl
 rw [hres]
 have hNl:[0,1,2].length=3:=rfl
 have hNb:∀ n∈[0,1,2],n≤2:=by decide
 generalize [0,1,2]=N at *
 have hal:∀ l:List Nat,(l.map R).all (fun e=>e.length==7)=true:=fun l=>by simp [h7]
 have hin:∀ S (l:List Nat),InLL S (l.map R):=fun S l=>by
  rw [InLL_mem];intro e he
  obtain ⟨n,_,rfl⟩:=List.mem_map.1 he
  exact hi n S
 intro h
 unfold numVal at *
 refine en_ Tryz.func20 [.tmp 8,.tmp 9] fun g0 w0 gen hrel hfr hfr' hres=>?_
 refine wq_ ?_
 refine ar_ [3,4,5,18] [⟨gen,0,0⟩,⟨gen,0,1⟩] (fun i σ=>Agree h σ.h∧OwnS h σ.h (σ.tm 10) 7 ((N.take i).map R)) (N).length ?_ ?_ ?_
 ·simp only [go_sem, *]
  exact ⟨ag_,.inl rfl⟩
 ·
  intro i σ gr0 hgl_gr0 hgn hlt jI jN jS ⟨jA,jo⟩
  obtain ⟨jT,jB⟩:=jS
  simp only [go_sem] at jT jB
  obtain ⟨hgf,hgf0,eg_gen_gr0,eh_gen_gr0⟩:=rnd hgn hgl_gr0 jA
  obtain ⟨x,hx,hxm,hm⟩:=rnx hlt
  clear hgn
  obtain ⟨c0,jv⟩:=jo.val
  rw [jv] at jo
  have hr:=hR x (hNb x hxm)
  have htk:(N.take (i+1)).map R=(N.take i).map R++[R x]:=map_take_succ hx
  have h7x:=h7 x
  have hox:=ho x
  have hwx:=hwk x
  have hsp:splice [V.sl .full [],.int .i64 0,.int .i64 0,.sl .full [],.sl .full [],.bool false,.int .i64 0] 0 (R x)=R x:=splice_full (by rw [h7];rfl)
  have htk7:(R x).take 7=R x:=List.take_of_length_le (by rw [h7];omega)
  have hlt3:((N.take i).map R).length≤3:=by simp;omega
  have hal':=hal (N.take i)
  rw [htk]
  clear hR hwl hal hin h7 ho hi hwk htk
  generalize (N.take i).map R=Q at *
  generalize R x=rx at *
  repeat' (first
   |(refine okE_app_own jo (by repeat (first|exact Keeps.refl _|refine Keeps.new ?_ (hgf _ _)|refine Keeps.new ?_ (hfr' _ _)|refine Keeps.box ?_ rfl|refine Keeps.box ?_ (by simp only [go_sem, *]))) rfl (by simp only [go_sem, *]<;>omega) (by first|exact hgf0 _ _|exact hfr' _ _) (by simp only [go_sem, *]) (by intro hd;cases hd) ?_;intro v' h' log' jO jK jAg jAb jF;simp only [go_sem, *])
   | (first|refine wp rfl ?_|refine spt rfl ?_|refine spf rfl ?_|(refine spl (fun hc=>?_) fun hc=>?_)<;>(try rw [beq_iff_eq] at hc)<;>try simp only [hc]|refine cp hr ?_|refine AR_inv ?_)<;>try simp only [go_sem, *])
  exact jAg ag_
 ·
  intro σ ga0 hgl_ga0 hgn jS ⟨jA,jo⟩
  obtain ⟨jT,jB⟩:=jS
  simp only [go_sem] at jT jB
  obtain ⟨hgf,hgf0,eg_gen_ga0,eh_gen_ga0⟩:=rnd hgn hgl_ga0 jA
  clear hgn
  obtain ⟨c0,jv⟩:=jo.val
  rw [hNl] at jv
  have e3:N.take 3=N:=List.take_of_length_le (by omega)
  rw [e3] at jv
  clear jo hR
  exact wk_
theorem rowC_in {S:GoAbs.Id→Prop} {n k w:Nat} {b:Bool}:InL S (rowC n k b w):=by unfold rowC numVal;simp [InL,InV,InLL,capIn]
theorem c_awake40:Pure Tryz.prog env 4 [] (.bool true):=by
 have h1:=c_successor
 obtain ⟨w3,h2⟩:=c_sucRow (n:=3) (by omega)
 have h3:=c_Instance0 sucAsk
 have h4:=c_tabInputs 2 (by omega) [tNat] (by intro t ht;rw [List.mem_singleton] at ht;subst ht;exact .inl rfl) (by simp) (ask1 sucT) (by decide) (askF_W suc_W) suc_err
 rw [suc_in] at h4
 change Pure Tryz.prog env _ [.agg (askF sucT).cells,_] _ at h4
 have hW:∀ n:Nat,∃ w:Nat,n≤2→Pure Tryz.prog env 15 [.agg (askF sucT).cells,.agg sucT.cells,.sl .any [numVal n],.int .i64 5000] (.tup [.agg (rowC n (n+1) true w),.int .i64 0]):=fun n=>by
  by_cases hn:n≤2
  ·obtain ⟨w,hw⟩:=c_sucRow (n:=n) (by omega)
   exact ⟨w,fun _=>hw⟩
  ·exact ⟨0,fun h=>absurd h hn⟩
 obtain ⟨W,hW⟩:=Classical.axiomOfChoice hW
 have h5:=c_Run3 (R:=fun n=>rowC n (n+1) true (W n)) (fun n=>rfl) (fun n=>rfl) (fun n S=>rowC_in) (fun n=>rfl) hW
 have hk:(askR sucT sucT).kind=4:=rfl
 clear hW
 generalize askR sucT sucT=R at *
 generalize askF sucT=F at *
 generalize sucT=t at *
 have hr0:(rowC 0 (0+1) true (W 0)).length=7:=rfl
 simp only [List.map_cons,List.map_nil] at h4 h5
 unfold rowC at *
 unfold numVal at *
 intro h
 refine en_ Tryz.func4 [.tmp 0] fun g0 w0 gen hrel hfr hfr' hres=>?_
 repeat' (first
  |exact hin _|exact agf (by assumption)
  | (first|refine wp rfl ?_|(refine gs (fun hb=>?_) fun hb=>?_)<;>try simp only [Bool.not_true,Bool.not_false] at hb|refine cp h1 ?_|refine cp h2 ?_|refine cp h3 ?_|refine cp h4 ?_|refine cp h5 ?_|refine finF hrel ?_ ?_ ?_)<;>try simp only [go_sem, *])
 all_goals (simp at hb)
def noRow:List V:=[.sl .any [],.int .i64 0,.int .i64 0,.sl .any [],.sl .any [],.bool false,.int .i64 0]
theorem c_rowCallE {t:Tm} {n work:Nat} (a b c:GoAbs.Id) (h1:Pure Tryz.prog env 29 [.agg t.cells,.sl .any [numVal n],.int .i64 work] (.tup [.agg noVal,.int .i64 0,.int .i64 5])) :
  PureE Tryz.prog env 28 [.ptr a 0,.ptr b 0,.ptr c 0] [(a,.box t.cells),(b,.box [.sl .any [numVal n]]),(c,.box [.int .i64 work])] (.tup [.agg noVal,.int .i64 0,.int .i64 5]):=by
 intro h hes
 have ha:h a=some (.box t.cells):=hes (a,.box t.cells) (by simp)
 have hb:h b=some (.box [.sl .any [numVal n]]):=hes (b,.box [.sl .any [numVal n]]) (by simp)
 have hc:h c=some (.box [.int .i64 work]):=hes (c,.box [.int .i64 work]) (by simp)
 clear hes
 unfold numVal noVal at *
 refine en_ Tryz.func28 [.cell 3 40,.tmp 4,.tmp 5] fun g0 w0 gen hrel hfr hfr' hres=>?_
 have f1:=fresh_ne hfr ha
 have f2:=fresh_ne' hfr ha
 have f3:=fresh_ne hfr hb
 have f4:=fresh_ne' hfr hb
 have f5:=fresh_ne hfr hc
 have f6:=fresh_ne' hfr hc
 exact wk_
theorem c_RowE1 {F F1 X:Fm} {t:Tm} {n work:Nat} (hk:F.kind=4) (ha:F.args=[F1])
  (h1:Pure Tryz.prog env 18 [.agg F.cells,.agg t.cells,.sl .any [numVal n]] (.tup [.agg X.cells,.int .i64 0]))
  (h2:Pure Tryz.prog env 24 [.agg F1.cells] (.tup [.agg tNat.cells,.int .i64 0]))
  (h3:Pure Tryz.prog env 25 [.agg F.cells] (.tup [.bool true,.int .i64 0]))
  (h5:Pure Tryz.prog env 27 [.agg X.cells] (.tup [.bool true,.int .i64 0]))
  (h6:Pure Tryz.prog env 29 [.agg t.cells,.sl .any [numVal n],.int .i64 work] (.tup [.agg noVal,.int .i64 0,.int .i64 5])) :
  Pure Tryz.prog env 15 [.agg F.cells,.agg t.cells,.sl .any [numVal n],.int .i64 work] (.tup [.agg noRow,.int .i64 5]):=by
 have h4:=c_Data
 have h8:=fun a b c=>c_rowCallE a b c h6
 have n0:((0:Int) != 0)=false:=rfl
 have n5:((5:Int) != 0)=true:=rfl
 have e0:(((1:Nat):Int)==0)=false:=rfl
 clear h6
 generalize tNat=N at *
 unfold noRow
 unfold numVal noVal at *
 intro h
 refine en_ Tryz.func15 [.cell 8 48,.tmp 9] fun g0 w0 gen hrel hfr hfr' hres=>?_
 refine wq_ ?_
 refine ar_ [4,5,6,7,8,9,10,11,12] [⟨gen,0,0⟩,⟨gen,0,1⟩,⟨gen,0,2⟩,⟨gen,0,3⟩,⟨gen,0,4⟩,⟨gen,1,7⟩] (fun i σ=>Agree h σ.h∧(i=0→σ.h ⟨gen,4,1⟩=some (.box F.cells))∧(i=1→σ.h ⟨gen,4,1⟩=some (.box F1.cells))) (([[.int .i64 1,.int .i64 n,.sl .any [],.sl .any []]]:List (List V))).length ?_ ?_ ?_
 ·simp only [go_sem, *]
  first|exact ag_|exact ⟨ag_,by simp⟩
 ·
  intro i σ gr0 hgl_gr0 hgn hlt jI jN jS ⟨jA,j0,j1⟩
  obtain ⟨jT,jB⟩:=jS
  simp only [go_sem] at jT jB
  obtain ⟨hgf,hgf0,eg_gen_gr0,eh_gen_gr0⟩:=rnd hgn hgl_gr0 jA
  obtain ⟨x,hx,hxm,hm⟩:=rnx hlt
  clear hgn
  obtain rfl:i=0:=by simp at hlt;omega
  have jb:=j0 rfl
  clear j0 j1 h1 h2 h3 h4 h5 h8
  have hti:Int.toNat ((0:Nat):Int)=0:=rfl
  have z0:((0:Nat):Int)=0:=rfl
  refine wq_ ?_
  exact ag_
 ·
  intro σ ga0 hgl_ga0 hgn jS ⟨jA,j0,j1⟩
  obtain ⟨jT,jB⟩:=jS
  simp only [go_sem] at jT jB
  obtain ⟨hgf,hgf0,eg_gen_ga0,eh_gen_ga0⟩:=rnd hgn hgl_ga0 jA
  clear hgn
  have jb:=j1 rfl
  clear j0 j1 h1
  repeat' (first
   |exact hin _|exact agf (by assumption)
   | (first|refine wp rfl ?_|refine spt rfl ?_|refine spf rfl ?_|(refine spl (fun hc=>?_) fun hc=>?_)<;>(try rw [beq_iff_eq] at hc)<;>try simp only [hc]|(refine gs (fun hb=>?_) fun hb=>?_)<;>try simp only [Bool.not_true,Bool.not_false] at hb|refine cp h2 ?_|refine cp h3 ?_|refine cp h4 ?_|refine cp h5 ?_|(refine Call1_pureE (h8 _ _ _) ?_ ?_;(focus ((simp only [go_sem, *]<;>(repeat (first|assumption|rfl|refine And.intro ?_ ?_)));done)))|refine finF hrel ?_ ?_ ?_)<;>try simp only [go_sem, *])
theorem c_RowE2 {F F1 X:Fm} {t:Tm} {n k w1 work:Nat} (hk:F.kind=4) (ha:F.args=[F1])
  (h1:Pure Tryz.prog env 18 [.agg F.cells,.agg t.cells,.sl .any [numVal n]] (.tup [.agg X.cells,.int .i64 0]))
  (h2:Pure Tryz.prog env 24 [.agg F1.cells] (.tup [.agg tNat.cells,.int .i64 0]))
  (h3:Pure Tryz.prog env 25 [.agg F.cells] (.tup [.bool true,.int .i64 0]))
  (h5:Pure Tryz.prog env 27 [.agg X.cells] (.tup [.bool true,.int .i64 0]))
  (h6:Pure Tryz.prog env 29 [.agg t.cells,.sl .any [numVal n],.int .i64 work] (.tup [.agg (numVal k),.int .i64 w1,.int .i64 0]))
  (h7:Pure Tryz.prog env 32 [.agg X.cells,.int .i64 work] (.tup [.bool false,.int .i64 0,.int .i64 5])) :
  Pure Tryz.prog env 15 [.agg F.cells,.agg t.cells,.sl .any [numVal n],.int .i64 work] (.tup [.agg noRow,.int .i64 5]):=by
 have h4:=c_Data
 have h8:=fun a b c=>c_rowCall a b c h6
 have n0:((0:Int) != 0)=false:=rfl
 have n5:((5:Int) != 0)=true:=rfl
 have e0:(((1:Nat):Int)==0)=false:=rfl
 clear h6
 generalize tNat=N at *
 unfold noRow
 unfold numVal at *
 intro h
 refine en_ Tryz.func15 [.cell 8 48,.tmp 9] fun g0 w0 gen hrel hfr hfr' hres=>?_
 refine wq_ ?_
 refine ar_ [4,5,6,7,8,9,10,11,12] [⟨gen,0,0⟩,⟨gen,0,1⟩,⟨gen,0,2⟩,⟨gen,0,3⟩,⟨gen,0,4⟩,⟨gen,1,7⟩] (fun i σ=>Agree h σ.h∧(i=0→σ.h ⟨gen,4,1⟩=some (.box F.cells))∧(i=1→σ.h ⟨gen,4,1⟩=some (.box F1.cells))) (([[.int .i64 1,.int .i64 n,.sl .any [],.sl .any []]]:List (List V))).length ?_ ?_ ?_
 ·simp only [go_sem, *]
  first|exact ag_|exact ⟨ag_,by simp⟩
 ·
  intro i σ gr0 hgl_gr0 hgn hlt jI jN jS ⟨jA,j0,j1⟩
  obtain ⟨jT,jB⟩:=jS
  simp only [go_sem] at jT jB
  obtain ⟨hgf,hgf0,eg_gen_gr0,eh_gen_gr0⟩:=rnd hgn hgl_gr0 jA
  obtain ⟨x,hx,hxm,hm⟩:=rnx hlt
  clear hgn
  obtain rfl:i=0:=by simp at hlt;omega
  have jb:=j0 rfl
  clear j0 j1 h1 h2 h3 h4 h5 h7 h8
  have hti:Int.toNat ((0:Nat):Int)=0:=rfl
  have z0:((0:Nat):Int)=0:=rfl
  refine wq_ ?_
  exact ag_
 ·
  intro σ ga0 hgl_ga0 hgn jS ⟨jA,j0,j1⟩
  obtain ⟨jT,jB⟩:=jS
  simp only [go_sem] at jT jB
  obtain ⟨hgf,hgf0,eg_gen_ga0,eh_gen_ga0⟩:=rnd hgn hgl_ga0 jA
  clear hgn
  have jb:=j1 rfl
  clear j0 j1 h1
  repeat' (first
   |exact hin _|exact agf (by assumption)
   | (first|refine wp rfl ?_|refine spt rfl ?_|refine spf rfl ?_|(refine spl (fun hc=>?_) fun hc=>?_)<;>(try rw [beq_iff_eq] at hc)<;>try simp only [hc]|(refine gs (fun hb=>?_) fun hb=>?_)<;>try simp only [Bool.not_true,Bool.not_false] at hb|refine cp h2 ?_|refine cp h3 ?_|refine cp h4 ?_|refine cp h5 ?_|(refine Call1_pureE (h8 _ _ _) ?_ ?_;(focus ((simp only [go_sem, *]<;>(repeat (first|assumption|rfl|refine And.intro ?_ ?_)));done)))|refine cp h7 ?_|refine finF hrel ?_ ?_ ?_)<;>try simp only [go_sem, *])
theorem FunN.ask {g t:Tm} (hg:FunN g) (ht:FunN t):AskC (askF g) (ask1 g) (askR g t) (askB g t) t (tFun tNat tNat) where
 typed:=c_formulaTyped [] (by simp) (by simp) (askF g) hg.Fty hg.Ferr (by have:=hg.Fz;have:=hg.z;omega) hg.FW
 cty:=by have:=c_ctType (askF g) hg.FG.C hg.FW;rw [hg.Fct] at this;exact this
 tty:=c_termsTypeOf t (tFun tNat tNat) ht.ty ht.w ht.err (by have:=ht.z;omega)
 same:=by
  have:=c_conSame (tFun tNat tNat) (tFun tNat tNat) (TyF.func .nat .nat).W (TyF.func .nat .nat).W
  rw [Ty.same_refl] at this;exact this
 rl:=by have:=c_rlF (askF g) hg.FG.C hg.FW t ht.w;rw [rl_ask hg ht] at this;exact this
 k:=rfl
 ty:=rfl
 args:=rfl
 rargs:=rfl
theorem c_RowN {g t:Tm} (hg:FunN g) (ht:FunN t) {n:Nat} (hn:n≤100) :
  Pure Tryz.prog env 15 [.agg (askF g).cells,.agg t.cells,.sl .any [numVal n],.int .i64 20000] (.tup [.agg noRow,.int .i64 5]) ∨
  ∃ (k w:Nat) (b:Bool),k≤100000∧Pure Tryz.prog env 15 [.agg (askF g).cells,.agg t.cells,.sl .any [numVal n],.int .i64 20000] (.tup [.agg (rowC n k b w),.int .i64 0]) ∧
   ∀ G T:Nat→Nat,Den [] g (.fn .nat .nat) G→Den [] t (.fn .nat .nat) T→k=T n∧(b=true↔T n=G n):=by
 have zg:=hg.z
 have zt:=ht.z
 have h8:Pure Tryz.prog env 39 [.agg (askB g t).cells,.int .i64 0,.agg (numT n).cells] (.tup [.agg (askI g t n).cells,.int .i64 0]):=by
  have:=c_formulaPut (askB g t) (askB_W hg ht) (askB_G hg ht) (by rw [askB_z];omega) (askB_l hg ht) (numT n) (numT_W n) (numT_G n) (by rw [tmSz_num];omega) (least_num (by omega) n)
  rw [ask_put hg ht hn] at this
  exact this
 have h1:=c_Instance1 (FunN.ask hg ht) (n:=n) (by omega) h8
 have h2:Pure Tryz.prog env 24 [.agg (ask1 g).cells] (.tup [.agg tNat.cells,.int .i64 0]):=by have:=c_ctType (ask1 g) hg.F1G.C hg.F1W;rw [hg.F1ct] at this;exact this
 have h3:Pure Tryz.prog env 25 [.agg (askF g).cells] (.tup [.bool true,.int .i64 0]):=by have:=c_Content (askF g) hg.FW;rw [hg.Fhas] at this;exact this
 have h5:Pure Tryz.prog env 27 [.agg (askI g t n).cells] (.tup [.bool true,.int .i64 0]):=by have:=c_clsDecidable (askI g t n) (askI_W hg.w ht.w n);rw [askI_has hg ht hn] at this;exact this
 obtain ⟨r1,r2,u2,o,e1,e2,hu,hr⟩:=ht.run n (by omega)
 have h6:=c_machCall1 (most:=20000) (f:=20001) (n:=n) (by omega) (by omega) e1 e2 ht.w ht.ty ht.err (by omega)
 have h7:=c_decTruth (askI_dc hg.ty ht.ty hg.gd ht.gd n) (by rw [askI_sz];omega) 20000 (by omega)
 obtain ⟨b,w,e,hd,hw,he,hm⟩:=ask_dT hg ht hn
 rw [hd] at h7
 clear hd e1 e2
 unfold evalVp at h6
 unfold decV at h7
 cases o with
 | true=>exact .inl (c_RowE1 rfl rfl h1 h2 h3 h5 h6)
 | false =>
  obtain ⟨hk,hr⟩:=hr rfl
  rcases he with rfl|rfl
  ·exact .inr ⟨r2.num,u2+w,b,hk,c_Row rfl rfl (by omega) h1 h2 h3 h5 h6 h7,fun G T hG hT=>⟨hr T hT,hm rfl G T hG hT⟩⟩
  ·exact .inl (c_RowE2 rfl rfl h1 h2 h3 h5 h6 h7)
end Go.Proofs.YtmnplkmphgkooaaGreatDoor
