/-
 Walks: several parts in one text.
-/
import Derived.Test.YtbfilinnoedfeaaGreatDoorTe
set_option linter.unusedSimpArgs false
set_option linter.unusedVariables false
set_option maxRecDepth 20000
set_option maxHeartbeats 4000000
namespace Go.Proofs.YtbfilinnoedfeaaGreatDoor
open Go GoAbs Go.Proofs
inductive FmA:Fm→Prop
 | mk {k:Int} {t:Ty} {l:List Tm} {a:List Fm} (h2:(k==2||k==3)=true→a.length=2) (h1:(k==4||k==5)=true→a.length=1) (hr:∀ x∈a,FmA x):FmA (.mk k t l a)
theorem FmA.ev {F:Tm→Int→Tm}:∀ (f:Fm) (b:Int),FmA f→FmA (f.ev F b):=by
 intro f
 induction f using Fm.ind with|h f ih=>?_
 intro b hf
 rw [Fm.ev_eq]
 cases hf with
 | @mk k t l a h2 h1 hr =>
  refine .mk (fun h=>by rw [List.length_map];exact h2 h) (fun h=>by rw [List.length_map];exact h1 h) ?_
  intro x hx
  obtain ⟨y,hy,rfl⟩:=List.mem_map.1 hx
  exact ih y hy _ (hr y hy)
theorem FmA.of_nodes:∀ f:Fm,f.nodes≠none→FmA f:=by
 intro f
 induction f using Fm.ind with|h f ih=>?_
 intro hn
 have hf:=formed_len (Fm.nodes_formed hn)
 cases f with|mk k t l a =>
 exact .mk (fun h=>by have:((a.length:Nat):Int)=2:=hf.1 h;omega) (fun h=>by have:((a.length:Nat):Int)=1:=hf.2 h;omega) (fun x hx=>ih x hx (Fm.nodes_arg hn hx))
theorem fdp_map {g:Fm→Fm}:∀ l:List Fm,(∀ x∈l,fdp (g x)=fdp x)→fdpL (l.map g)=fdpL l
 | [],_=>rfl
 | x::l,h=>by rw [List.map_cons,fdpL,fdpL,h x (by simp),fdp_map l (fun y hy=>h y (by simp [hy]))]
theorem fdp_ev {F:Tm→Int→Tm}:∀ (f:Fm) (b:Int),fdp (f.ev F b)=fdp f:=by
 intro f
 induction f using Fm.ind with|h f ih=>?_
 intro b
 rw [Fm.ev_eq]
 cases f with|mk k t l a =>
 rw [fdp,fdp]
 simp only [Fm.args] at ih ⊢
 rw [fdp_map a (fun x hx=>ih x hx _)]
theorem mTwo_W {k:Int} {x y:Fm × Int} (hx:FmW x.1) (hy:FmW y.1):FmW (mTwo k x y).1:=by
 unfold mTwo
 repeat' split
 ·exact zeroF_W'
 ·exact zeroF_W'
 ·exact zeroF_W'
 ·exact fmTwo_W hx hy
theorem chPart_W {k:Int} {a b:Ty} {t:Tm} (h:TmW t):TmW (chPart k a b t):=by
 unfold chPart
 repeat' split
 ·exact tm0_W0
 ·exact h
 ·exact tm0_W1 h
theorem chCall_W {a b:Ty} {f t:Tm} (hf:TmW f) (h:TmW t):TmW (chCall a b f t):=by
 unfold chCall
 repeat' split
 ·exact tm0_W0
 ·exact hf
 ·exact tm0_W2 hf h
theorem mOf_W:∀ (n:Nat) (f:Fm) (w c:Tm),FmW f→TmW w→TmW c→FmW (mOf n f w c).1
 | 0,_,_,_,_,_,_=>zeroF_W'
 | n+1,f,w,c,hf,hw,hc=>by
  have hg:∀ i,FmW (f.args.getD i zeroF):=fun i=>by
   rw [List.getD_eq_getElem?_getD]
   cases hh:f.args[i]? with
   | none=>exact zeroF_W'
   | some x=>exact hf.arg (List.mem_of_getElem? hh)
  have hwith:∀ (x w c:Tm),TmW x→TmW w→TmW c→FmW (mWith (mOf n) (f.args.getD 0 zeroF) x w c).1:=fun x w c hx hw hc=>by
   unfold mWith
   split
   ·exact zeroF_W'
   ·exact mOf_W n _ _ _ (fsp_W hx _ _ (hg 0)) hw hc
  rw [mOf]
  repeat' split
  ·exact zeroF_W'
  ·exact mTwo_W (mOf_W n _ _ _ (hg 0) (chPart_W hw) (chPart_W hc)) (mOf_W n _ _ _ (hg 1) (chPart_W hw) (chPart_W hc))
  ·exact mTwo_W (mOf_W n _ _ _ (hg 0) (chPart_W hc) (chCall_W (chCall_W (chPart_W hw) (chPart_W hc)) (chPart_W hc))) (mOf_W n _ _ _ (hg 1) (chCall_W (chPart_W hw) (chPart_W hc)) (chPart_W hc))
  ·exact hwith _ _ _ (chPart_W hc) (chCall_W hw (chPart_W hc)) (chPart_W hc)
  ·exact hwith _ _ _ (chPart_W hw) (chPart_W hw) hc
  ·exact hf
theorem c_mOf:∀ (n:Nat) (f:Fm),fdp f≤n→FmA f→FmW f→∀ w c:Tm,TmW w→TmW c →
  Pure Tryz.prog env 106 [.agg f.cells,.agg w.cells,.agg c.cells] (fmErrV (mOf n f w c)):=by
 intro n
 induction n with
 | zero=>intro f hd;have:=(show 1≤fdp f by (cases f;rw [fdp];omega));omega
 | succ n ih =>
  intro f hd hA hf w c hw hc h
  have h1:=c_Nodes w hw
  have h2:=c_Nodes c hc
  have hin0:∀ S,InV S (fmErrV (mOf (n+1) f w c)):=fun S=>by simp [fmErrV,InV,InL,InL_Fm]
  cases q1:decide (w.szW>4096) with
  | true =>
   rw [mOf,q1]
   simp only [Bool.true_or,if_true,fmErrV,zeroF,Fm.mk_cells,Ty.mk_kind,Ty.mk_args,List.map_nil]
   clear hin0 h2
   refine en Tryz.func106 [.cell 6 48,.tmp 7] rfl rfl fun g0 w0 gen hrel hfr hfr' hres=>?_
   repeat' (first
    |(refine ⟨?_,?_⟩;focus ((repeat' (first|refine ⟨?_,?_⟩|refine .inr ?_));all_goals kernel_rfl))
    |exact hin _|exact agf (by assumption)
    | (first|refine wp rfl ?_|refine spt rfl ?_|refine spf rfl ?_|(refine spl (fun hc=>?_) fun hc=>?_)<;>(try rw [beq_iff_eq] at hc)<;>try simp only [hc]|(refine gs (fun hb=>?_) fun hb=>?_)<;>try simp only [Bool.not_true,Bool.not_false] at hb|refine cp h1 ?_|refine finF hrel ?_ ?_ ?_)<;>try simp only [go_sem, *])
  | false =>
  cases q2:decide (c.szW>4096) with
  | true =>
   rw [mOf,q1,q2]
   simp only [Bool.false_or,if_true,fmErrV,zeroF,Fm.mk_cells,Ty.mk_kind,Ty.mk_args,List.map_nil]
   clear hin0
   refine en Tryz.func106 [.cell 6 48,.tmp 7] rfl rfl fun g0 w0 gen hrel hfr hfr' hres=>?_
   repeat' (first
    |(refine ⟨?_,?_⟩;focus ((repeat' (first|refine ⟨?_,?_⟩|refine .inr ?_));all_goals kernel_rfl))
    |exact hin _|exact agf (by assumption)
    | (first|refine wp rfl ?_|refine spt rfl ?_|refine spf rfl ?_|(refine spl (fun hc=>?_) fun hc=>?_)<;>(try rw [beq_iff_eq] at hc)<;>try simp only [hc]|(refine gs (fun hb=>?_) fun hb=>?_)<;>try simp only [Bool.not_true,Bool.not_false] at hb|refine cp h1 ?_|refine cp h2 ?_|refine finF hrel ?_ ?_ ?_)<;>try simp only [go_sem, *])
  | false =>
  have harg:∀ x∈f.args,fdp x≤n∧FmA x∧FmW x:=fun x hx=>by
   have:=fdp_arg hx
   cases hA with
   | mk _ _ hr=>exact ⟨by omega,hr x hx,hf.arg hx⟩
  have hlen:((f.kind==2||f.kind==3)=true→f.args.length=2)∧((f.kind==4||f.kind==5)=true→f.args.length=1):=by
   cases hA with
   | mk a b _=>exact ⟨a,b⟩
  have hm:mOf (n+1) f w c=if f.kind==2 then mAnd (mOf n) (f.args.getD 0 zeroF) (f.args.getD 1 zeroF) w c
    else if f.kind==3 then mImp (mOf n) (f.args.getD 0 zeroF) (f.args.getD 1 zeroF) w c
    else if f.kind==4 then mAll (mOf n) f.type (f.args.getD 0 zeroF) w c
    else if f.kind==5 then mEx (mOf n) f.type (f.args.getD 0 zeroF) w c
    else (f,0):=by rw [mOf,q1,q2];rfl
  rw [hm] at hin0 ⊢
  clear hm hd hA
  rcases kinds5 f.kind with hk|hk|hk|hk|⟨k2,k3,k4,k5⟩
  ·obtain ⟨a,b,ab⟩:=lst2 (hlen.1 (by rw [hk];rfl))
   rw [ab] at harg hin0 ⊢
   obtain ⟨ad,aA,aW⟩:=harg a (by simp)
   obtain ⟨bd,bA,bW⟩:=harg b (by simp)
   simp only [hk,Int.reduceBEq,if_true,List.getD_cons_zero,List.getD_cons_succ] at hin0 ⊢
   have hmap:f.args.map Fm.cells=[a.cells,b.cells]:=by rw [ab];rfl
   have ka:=c_kinds a aW
   have kb:=c_kinds b bW
   have hT:=c_mTwo 2 _ _ a b _ _ _ _ (mOf_W n _ _ _ aW (chPart_W hw) (chPart_W hc)) (mOf_W n _ _ _ bW (chPart_W hw) (chPart_W hc))
    (ih a ad aA aW (chPart 11 a.look.1.1 b.look.1.1 w) (chPart 11 a.look.1.2 b.look.1.2 c) (chPart_W hw) (chPart_W hc))
    (ih b bd bA bW (chPart 12 b.look.1.1 a.look.1.1 w) (chPart 12 b.look.1.2 a.look.1.2 c) (chPart_W hw) (chPart_W hc))
   unfold mAnd at hin0 ⊢
   clear ih harg hlen ab hf
   generalize hr:mTwo 2 _ _=r at hT hin0 ⊢
   clear hr
   obtain ⟨rf,re⟩:=r
   simp only [fmErrV] at hT hin0 ⊢
   generalize a.look=la at *
   generalize b.look=lb at *
   obtain ⟨⟨v,p⟩,_⟩:=la
   obtain ⟨⟨u,q⟩,_⟩:=lb
   simp only at ka kb hT
   refine en Tryz.func106 [.cell 6 48,.tmp 7] rfl rfl fun g0 w0 gen hrel hfr hfr' hres=>?_
   repeat' (first
    |(refine ⟨?_,?_⟩;focus ((repeat' (first|refine ⟨?_,?_⟩|refine .inr ?_));all_goals kernel_rfl))
    |exact hin _|exact agf (by assumption)
    | (first|refine wp rfl ?_|refine spt rfl ?_|refine spf rfl ?_|(refine spl (fun hc=>?_) fun hc=>?_)<;>(try rw [beq_iff_eq] at hc)<;>try simp only [hc]|(refine gs (fun hb=>?_) fun hb=>?_)<;>try simp only [Bool.not_true,Bool.not_false] at hb|refine cp h1 ?_|refine cp h2 ?_|refine cp ka ?_|refine cp kb ?_|refine cp (c_Left _ _ _) ?_|refine cp (c_Right _ _ _) ?_|refine cp hT ?_|refine finF hrel ?_ ?_ ?_)<;>try simp only [go_sem, *])
  ·obtain ⟨a,b,ab⟩:=lst2 (hlen.1 (by rw [hk];rfl))
   rw [ab] at harg hin0 ⊢
   obtain ⟨ad,aA,aW⟩:=harg a (by simp)
   obtain ⟨bd,bA,bW⟩:=harg b (by simp)
   simp only [hk,Int.reduceBEq,Bool.false_eq_true,if_false,if_true,List.getD_cons_zero,List.getD_cons_succ] at hin0 ⊢
   have hmap:f.args.map Fm.cells=[a.cells,b.cells]:=by rw [ab];rfl
   have ka:=c_kinds a aW
   have kb:=c_kinds b bW
   unfold mImp at hin0 ⊢
   simp only at hin0 ⊢
   generalize hx:chPart 11 a.look.1.1 b.look.1.2 c=x at hin0 ⊢
   generalize hy:chPart 12 b.look.1.2 a.look.1.1 c=y at hin0 ⊢
   have xW:TmW x:=by rw [← hx];exact chPart_W hc
   have yW:TmW y:=by rw [← hy];exact chPart_W hc
   generalize hX:chCall b.look.1.2 a.look.1.2 (chCall a.look.1.1 (chFun b.look.1.2 a.look.1.2) (chPart 12 (chFun a.look.1.1 (chFun b.look.1.2 a.look.1.2)) (chFun a.look.1.1 b.look.1.1) w) x) y=X at hin0 ⊢
   generalize hY:chCall a.look.1.1 b.look.1.1 (chPart 11 (chFun a.look.1.1 b.look.1.1) (chFun a.look.1.1 (chFun b.look.1.2 a.look.1.2)) w) x=Y at hin0 ⊢
   have XW:TmW X:=by rw [← hX];exact chCall_W (chCall_W (chPart_W hw) xW) yW
   have YW:TmW Y:=by rw [← hY];exact chCall_W (chPart_W hw) xW
   have hT:=c_mTwo 3 _ _ a b _ _ _ _ (mOf_W n _ _ _ aW xW XW) (mOf_W n _ _ _ bW YW yW) (ih a ad aA aW x X xW XW) (ih b bd bA bW Y y YW yW)
   clear ih harg hlen ab hf xW yW XW YW
   generalize mTwo 3 _ _=r at hT hin0 ⊢
   obtain ⟨rf,re⟩:=r
   simp only [fmErrV] at hT hin0 ⊢
   generalize a.look=la at *
   generalize b.look=lb at *
   obtain ⟨⟨v,p⟩,_⟩:=la
   obtain ⟨⟨u,q⟩,_⟩:=lb
   simp only at ka kb hx hy hX hY
   generalize hbk:chFun q p=bk at hX hY
   generalize hfn:chFun v u=fn at hX hY
   generalize han:chFun v bk=an at hX hY
   generalize hg:chPart 11 fn an w=g at hX hY
   generalize hgh:chPart 12 an fn w=gh at hX hY
   generalize hz:chCall v bk gh x=z at hX hY
   have C1:=c_chFun q p
   have C2:=c_chFun v u
   have C3:=c_chFun v bk
   have C4:=c_Left v q c
   have C5:=c_Right v q c
   have C6:=c_Left fn an w
   have C7:=c_Right fn an w
   have C8:=c_Call v bk gh x
   have C9:=c_Call q p z y
   have C10:=c_Call v u g x
   rw [hbk] at C1
   rw [hfn] at C2
   rw [han] at C3
   rw [hx] at C4
   rw [hy] at C5
   rw [hg] at C6
   rw [hgh] at C7
   rw [hz] at C8
   rw [hX] at C9
   rw [hY] at C10
   clear hx hy hX hY hbk hfn han hg hz hgh
   refine en Tryz.func106 [.cell 6 48,.tmp 7] rfl rfl fun g0 w0 gen hrel hfr hfr' hres=>?_
   repeat' (first
    |(refine ⟨?_,?_⟩;focus ((repeat' (first|refine ⟨?_,?_⟩|refine .inr ?_));all_goals kernel_rfl))
    |exact hin _|exact agf (by assumption)
    | (first|refine wp rfl ?_|refine spt rfl ?_|refine spf rfl ?_|(refine spl (fun hc=>?_) fun hc=>?_)<;>(try rw [beq_iff_eq] at hc)<;>try simp only [hc]|(refine gs (fun hb=>?_) fun hb=>?_)<;>try simp only [Bool.not_true,Bool.not_false] at hb|refine cp h1 ?_|refine cp h2 ?_|refine cp ka ?_|refine cp kb ?_|refine cp C1 ?_|refine cp C2 ?_|refine cp C3 ?_|refine cp C4 ?_|refine cp C5 ?_|refine cp C6 ?_|refine cp C7 ?_|refine cp C8 ?_|refine cp C9 ?_|refine cp C10 ?_|refine cp hT ?_|refine finF hrel ?_ ?_ ?_)<;>try simp only [go_sem, *])
  ·obtain ⟨a,ab⟩:=lst1 (hlen.2 (by rw [hk];rfl))
   rw [ab] at harg hin0 ⊢
   obtain ⟨ad,aA,aW⟩:=harg a (by simp)
   simp only [hk,Int.reduceBEq,Bool.false_eq_true,if_false,if_true,List.getD_cons_zero,List.getD_cons_succ] at hin0 ⊢
   have hmap:f.args.map Fm.cells=[a.cells]:=by rw [ab];rfl
   have ka:=c_kinds a aW
   unfold mAll at hin0 ⊢
   have xW:TmW (chPart 11 f.type a.look.1.2 c):=chPart_W hc
   have hT:=c_mWith (mOf n) a _ _ _ aW xW (ih (a.sp _) (by rw [Fm.sp,fdp_ev];exact ad) (FmA.ev _ _ aA) (fsp_W xW _ _ aW)
    (chCall f.type a.look.1.1 w (chPart 11 f.type a.look.1.2 c)) (chPart 12 a.look.1.2 f.type c) (chCall_W hw xW) (chPart_W hc))
   clear ih harg hlen ab hf xW
   generalize hr:mWith (mOf n) a _ _ _=r at hT hin0 ⊢
   clear hr
   obtain ⟨rf,re⟩:=r
   simp only [fmErrV] at hT hin0 ⊢
   generalize a.look=la at *
   obtain ⟨⟨v,p⟩,_⟩:=la
   simp only at ka hT
   generalize hx:chPart 11 f.type p c=x at *
   have C4:=c_Left f.type p c
   rw [hx] at C4
   clear hx
   refine en Tryz.func106 [.cell 6 48,.tmp 7] rfl rfl fun g0 w0 gen hrel hfr hfr' hres=>?_
   repeat' (first
    |(refine ⟨?_,?_⟩;focus ((repeat' (first|refine ⟨?_,?_⟩|refine .inr ?_));all_goals kernel_rfl))
    |exact hin _|exact agf (by assumption)
    | (first|refine wp rfl ?_|refine spt rfl ?_|refine spf rfl ?_|(refine spl (fun hc=>?_) fun hc=>?_)<;>(try rw [beq_iff_eq] at hc)<;>try simp only [hc]|(refine gs (fun hb=>?_) fun hb=>?_)<;>try simp only [Bool.not_true,Bool.not_false] at hb|refine cp h1 ?_|refine cp h2 ?_|refine cp ka ?_|refine cp C4 ?_|refine cp (c_Right _ _ _) ?_|refine cp (c_Call _ _ _ _) ?_|refine cp hT ?_|refine finF hrel ?_ ?_ ?_)<;>try simp only [go_sem, *])
  ·obtain ⟨a,ab⟩:=lst1 (hlen.2 (by rw [hk];rfl))
   rw [ab] at harg hin0 ⊢
   obtain ⟨ad,aA,aW⟩:=harg a (by simp)
   simp only [hk,Int.reduceBEq,Bool.false_eq_true,if_false,if_true,List.getD_cons_zero,List.getD_cons_succ] at hin0 ⊢
   have hmap:f.args.map Fm.cells=[a.cells]:=by rw [ab];rfl
   have ka:=c_kinds a aW
   unfold mEx at hin0 ⊢
   have xW:TmW (chPart 11 f.type a.look.1.1 w):=chPart_W hw
   have hT:=c_mWith (mOf n) a _ _ _ aW xW (ih (a.sp _) (by rw [Fm.sp,fdp_ev];exact ad) (FmA.ev _ _ aA) (fsp_W xW _ _ aW)
    (chPart 12 a.look.1.1 f.type w) c (chPart_W hw) hc)
   clear ih harg hlen ab hf xW
   generalize hr:mWith (mOf n) a _ _ _=r at hT hin0 ⊢
   clear hr
   obtain ⟨rf,re⟩:=r
   simp only [fmErrV] at hT hin0 ⊢
   generalize a.look=la at *
   obtain ⟨⟨v,p⟩,_⟩:=la
   simp only at ka hT
   refine en Tryz.func106 [.cell 6 48,.tmp 7] rfl rfl fun g0 w0 gen hrel hfr hfr' hres=>?_
   repeat' (first
    |(refine ⟨?_,?_⟩;focus ((repeat' (first|refine ⟨?_,?_⟩|refine .inr ?_));all_goals kernel_rfl))
    |exact hin _|exact agf (by assumption)
    | (first|refine wp rfl ?_|refine spt rfl ?_|refine spf rfl ?_|(refine spl (fun hc=>?_) fun hc=>?_)<;>(try rw [beq_iff_eq] at hc)<;>try simp only [hc]|(refine gs (fun hb=>?_) fun hb=>?_)<;>try simp only [Bool.not_true,Bool.not_false] at hb|refine cp h1 ?_|refine cp h2 ?_|refine cp ka ?_|refine cp (c_Left _ _ _) ?_|refine cp (c_Right _ _ _) ?_|refine cp hT ?_|refine finF hrel ?_ ?_ ?_)<;>try simp only [go_sem, *])
  ·simp only [k2,k3,k4,k5,Bool.false_eq_true,if_false,fmErrV]
   clear ih harg hlen hin0
   refine en Tryz.func106 [.cell 6 48,.tmp 7] rfl rfl fun g0 w0 gen hrel hfr hfr' hres=>?_
   repeat' (first
    |(refine ⟨?_,?_⟩;focus ((repeat' (first|refine ⟨?_,?_⟩|refine .inr ?_));all_goals kernel_rfl))
    |exact hin _|exact agf (by assumption)
    | (first|refine wp rfl ?_|refine spt rfl ?_|refine spf rfl ?_|(refine spl (fun hc=>?_) fun hc=>?_)<;>(try rw [beq_iff_eq] at hc)<;>try simp only [hc]|(refine gs (fun hb=>?_) fun hb=>?_)<;>try simp only [Bool.not_true,Bool.not_false] at hb|refine cp h1 ?_|refine cp h2 ?_|refine finF hrel ?_ ?_ ?_)<;>try simp only [go_sem, *])
theorem look_nodes {f:Fm} (h:f.look.2=0):f.nodes≠none:=by
 refine Fm.ok_nodes ?_
 unfold Fm.look at h
 split at h
 ·rename_i e;simpa using e
 ·exact h
theorem c_matF (f:Fm) (hf:FmW f) (w c:Tm) (hw:TmW w) (hc:TmW c):Pure Tryz.prog env 53 [.agg f.cells,.agg w.cells,.agg c.cells] (fmErrV (matF f w c)):=by
 intro h
 have h1:=c_Witness f hf
 have h2:=c_Challenge f hf
 simp only [tyErrV,Fm.witness,Fm.challenge] at h1 h2
 have h3:=c_termsCheck w hw
 have h4:=c_termsCheck c hc
 have h5:=c_FarFormula f hf
 have h6:=c_Far w hw
 have h7:=c_Far c hc
 have h8:f.look.2=0→Pure Tryz.prog env 106 [.agg f.cells,.agg w.cells,.agg c.cells] (fmErrV (mOf (fdp f) f w c)) :=
  fun e=>c_mOf _ f (Nat.le_refl _) (FmA.of_nodes f (look_nodes e)) hf w c hw hc
 have hin:∀ S,InV S (fmErrV (mOf (fdp f) f w c)):=fun S=>by simp [fmErrV,InV,InL,InL_Fm]
 unfold matF
 generalize mOf (fdp f) f w c=r at *
 obtain ⟨rf,re⟩:=r
 simp only [fmErrV] at h8 hin
 generalize f.look.2=e at *
 generalize f.look.1.1=a at *
 generalize f.look.1.2=b at *
 generalize tmErr w=ew at *
 generalize tmErr c=ec at *
 generalize f.far=b1 at *
 generalize (!w.least 268435456)=b2 at *
 generalize (!c.least 268435456)=b3 at *
 cases q1:(e != 0) with
 | true =>
  clear h8 hin
  simp only [if_true,fmErrV,zeroF,Fm.mk_cells,Ty.mk_kind,Ty.mk_args,List.map_nil]
  refine en Tryz.func53 [.cell 6 48,.tmp 7] rfl rfl fun g0 w0 gen hrel hfr hfr' hres=>?_
  repeat' (first
   |exact hin _|exact agf (by assumption)
   | (first|refine wp rfl ?_|refine spt rfl ?_|refine spf rfl ?_|(refine spl (fun hc=>?_) fun hc=>?_)<;>(try rw [beq_iff_eq] at hc)<;>try simp only [hc]|(refine gs (fun hb=>?_) fun hb=>?_)<;>try simp only [Bool.not_true,Bool.not_false] at hb|refine cp h1 ?_|refine finF hrel ?_ ?_ ?_)<;>try simp only [go_sem, *])
 | false =>
 have h8':=h8 (by simpa using q1)
 clear h8
 cases q2:(ew != 0) with
 | true =>
  clear h8' hin
  simp only [Bool.false_eq_true,if_false,if_true,fmErrV,zeroF,Fm.mk_cells,Ty.mk_kind,Ty.mk_args,List.map_nil]
  refine en Tryz.func53 [.cell 6 48,.tmp 7] rfl rfl fun g0 w0 gen hrel hfr hfr' hres=>?_
  repeat' (first
   |exact hin _|exact agf (by assumption)
   | (first|refine wp rfl ?_|refine spt rfl ?_|refine spf rfl ?_|(refine spl (fun hc=>?_) fun hc=>?_)<;>(try rw [beq_iff_eq] at hc)<;>try simp only [hc]|(refine gs (fun hb=>?_) fun hb=>?_)<;>try simp only [Bool.not_true,Bool.not_false] at hb|refine cp h1 ?_|refine cp h2 ?_|refine cp h3 ?_|refine finF hrel ?_ ?_ ?_)<;>try simp only [go_sem, *])
 | false =>
 cases q3:(ec != 0) with
 | true =>
  clear h8' hin
  simp only [Bool.false_eq_true,if_false,if_true,fmErrV,zeroF,Fm.mk_cells,Ty.mk_kind,Ty.mk_args,List.map_nil]
  refine en Tryz.func53 [.cell 6 48,.tmp 7] rfl rfl fun g0 w0 gen hrel hfr hfr' hres=>?_
  repeat' (first
   |exact hin _|exact agf (by assumption)
   | (first|refine wp rfl ?_|refine spt rfl ?_|refine spf rfl ?_|(refine spl (fun hc=>?_) fun hc=>?_)<;>(try rw [beq_iff_eq] at hc)<;>try simp only [hc]|(refine gs (fun hb=>?_) fun hb=>?_)<;>try simp only [Bool.not_true,Bool.not_false] at hb|refine cp h1 ?_|refine cp h2 ?_|refine cp h3 ?_|refine cp h4 ?_|refine finF hrel ?_ ?_ ?_)<;>try simp only [go_sem, *])
 | false =>
 cases b1
 case true =>
  clear h8' hin
  simp only [Bool.false_eq_true,if_false,if_true,Bool.true_or,fmErrV,zeroF,Fm.mk_cells,Ty.mk_kind,Ty.mk_args,List.map_nil]
  refine en Tryz.func53 [.cell 6 48,.tmp 7] rfl rfl fun g0 w0 gen hrel hfr hfr' hres=>?_
  repeat' (first
   |exact hin _|exact agf (by assumption)
   | (first|refine wp rfl ?_|refine spt rfl ?_|refine spf rfl ?_|(refine spl (fun hc=>?_) fun hc=>?_)<;>(try rw [beq_iff_eq] at hc)<;>try simp only [hc]|(refine gs (fun hb=>?_) fun hb=>?_)<;>try simp only [Bool.not_true,Bool.not_false] at hb|refine cp h1 ?_|refine cp h2 ?_|refine cp h3 ?_|refine cp h4 ?_|refine cp h5 ?_|refine finF hrel ?_ ?_ ?_)<;>try simp only [go_sem, *])
 cases b2
 case true =>
  clear h8' hin
  simp only [Bool.false_eq_true,if_false,if_true,Bool.true_or,Bool.or_true,fmErrV,zeroF,Fm.mk_cells,Ty.mk_kind,Ty.mk_args,List.map_nil]
  refine en Tryz.func53 [.cell 6 48,.tmp 7] rfl rfl fun g0 w0 gen hrel hfr hfr' hres=>?_
  repeat' (first
   |exact hin _|exact agf (by assumption)
   | (first|refine wp rfl ?_|refine spt rfl ?_|refine spf rfl ?_|(refine spl (fun hc=>?_) fun hc=>?_)<;>(try rw [beq_iff_eq] at hc)<;>try simp only [hc]|(refine gs (fun hb=>?_) fun hb=>?_)<;>try simp only [Bool.not_true,Bool.not_false] at hb|refine cp h1 ?_|refine cp h2 ?_|refine cp h3 ?_|refine cp h4 ?_|refine cp h5 ?_|refine cp h6 ?_|refine finF hrel ?_ ?_ ?_)<;>try simp only [go_sem, *])
 cases b3
 case true =>
  clear h8' hin
  simp only [Bool.false_eq_true,if_false,if_true,Bool.true_or,Bool.or_true,fmErrV,zeroF,Fm.mk_cells,Ty.mk_kind,Ty.mk_args,List.map_nil]
  refine en Tryz.func53 [.cell 6 48,.tmp 7] rfl rfl fun g0 w0 gen hrel hfr hfr' hres=>?_
  repeat' (first
   |exact hin _|exact agf (by assumption)
   | (first|refine wp rfl ?_|refine spt rfl ?_|refine spf rfl ?_|(refine spl (fun hc=>?_) fun hc=>?_)<;>(try rw [beq_iff_eq] at hc)<;>try simp only [hc]|(refine gs (fun hb=>?_) fun hb=>?_)<;>try simp only [Bool.not_true,Bool.not_false] at hb|refine cp h1 ?_|refine cp h2 ?_|refine cp h3 ?_|refine cp h4 ?_|refine cp h5 ?_|refine cp h6 ?_|refine cp h7 ?_|refine finF hrel ?_ ?_ ?_)<;>try simp only [go_sem, *])
 simp only [Bool.false_eq_true,if_false,Bool.or_self,fmErrV]
 refine en Tryz.func53 [.cell 6 48,.tmp 7] rfl rfl fun g0 w0 gen hrel hfr hfr' hres=>?_
 repeat' (first
  |exact hin _|exact agf (by assumption)
  | (first|refine wp rfl ?_|refine spt rfl ?_|refine spf rfl ?_|(refine spl (fun hc=>?_) fun hc=>?_)<;>(try rw [beq_iff_eq] at hc)<;>try simp only [hc]|(refine gs (fun hb=>?_) fun hb=>?_)<;>try simp only [Bool.not_true,Bool.not_false] at hb|refine cp h1 ?_|refine cp h2 ?_|refine cp h3 ?_|refine cp h4 ?_|refine cp h5 ?_|refine cp h6 ?_|refine cp h7 ?_|refine cp (h8') ?_|refine finF hrel ?_ ?_ ?_)<;>try simp only [go_sem, *])
end Go.Proofs.YtbfilinnoedfeaaGreatDoor
