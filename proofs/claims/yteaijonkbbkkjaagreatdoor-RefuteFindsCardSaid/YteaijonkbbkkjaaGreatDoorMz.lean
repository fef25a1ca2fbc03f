/-
 Walks: several parts in one text.
-/
import Derived.Test.YteaijonkbbkkjaaGreatDoorMy
import Derived.Test.YteaijonkbbkkjaaGreatDoorAbsDd
set_option linter.unusedSimpArgs false
set_option linter.unusedVariables false
set_option maxRecDepth 20000
set_option maxHeartbeats 4000000
namespace Go.Proofs.YteaijonkbbkkjaaGreatDoor
open Go GoAbs Go.Proofs
def claimC (ts:List Ty) (b:Fm):List V:=.sl .any (ts.map Ty.cells)::b.cells
theorem c_claimOf {f b:Fm} {ts:List Ty} (hT:Pure Tryz.prog env 50 [.sl .any [],.agg f.cells] (.int .i64 0))
  (hU:Pure Tryz.prog env 69 [.agg f.cells] (.tup [.sl .any (ts.map Ty.cells),.agg b.cells,.int .i64 0])) (hD:Pure Tryz.prog env 70 [.agg b.cells] (.tup [.bool true,.int .i64 0])) :
  Pure Tryz.prog env 41 [.agg f.cells] (.tup [.agg (claimC ts b),.int .i64 0]):=by
 intro h
 have n0:((0:Int) != 0)=false:=rfl
 unfold claimC
 have hw:weakLL (ts.map Ty.cells)=ts.map Ty.cells:=weakLL_Ty ts
 have h5:∀ S,InLL S (ts.map Ty.cells):=fun S=>by simp only [go_sem, *]
 generalize ts.map Ty.cells=T at *
 rw [Fm.cells_eq b] at hU hD ⊢
 exact ek_ Tryz.func41 [.cell 2 81,.tmp 3]
def lnsV (B T:List (List V)) (b m:Nat):V:=.fn (.func 71) [] [.el [.sl .any T] 0,.el [.sl .any B] 0,.el [.int .i64 b] 0,.el [.int .i64 m] 0]
theorem c_lines {B T:List (List V)} (b m:Nat) (hB:∀ S,InLL S B) (hT:∀ S,InLL S T) (wB:weakLL B=B) (wT:weakLL T=T) :
  Pure Tryz.prog env 43 [.sl .any B,.sl .any T,.int .i64 b,.int .i64 m] (lnsV B T b m):=by
 intro h
 unfold lnsV
 refine en_ Tryz.func43 [.tmp 8] fun g0 w0 gen hrel hfr hfr' hres=>?_
 refine AR_seq ?_
 refine AR_region ?_
 simp only [go_sem, *]
 refine AR_freezePL ⟨gen,0,0⟩ [(4,.el [.sl .any B] 0),(5,.ptr ⟨gen,0,1⟩ 0),(6,.ptr ⟨gen,0,2⟩ 0),(7,.ptr ⟨gen,0,3⟩ 0),(8,.nilf)] [(⟨gen,0,1⟩,[.sl .any T],[.sl .any T]),(⟨gen,0,2⟩,[.int .i64 b],[.int .i64 b]),(⟨gen,0,3⟩,[.int .i64 m],[.int .i64 m])] (cs:=[.sl .any B]) rfl rfl hrel (by simp only [go_sem, *]) (hfr' 0 0) (by simp) (by repeat (first|exact Agree.refl _|refine Agree.new ?_ (hfr' _ _))) (by simp only [go_sem, *,List.foldr_cons,List.foldr_nil,ne_eq,reduceCtorEq,not_false_eq_true]) (by intro b hb;simp only [List.mem_cons,List.not_mem_nil,or_false] at hb;rcases hb with rfl|rfl|rfl<;>exact ⟨hfr' _ _,by simp only [go_sem, *],rfl,(by intro p hp;simp only [List.zip_cons_cons,List.zip_nil_left,List.zip_nil_right,List.mem_cons,List.not_mem_nil,or_false] at hp;subst hp;first|exact .inr (.inl rfl)|exact .inl rfl|exact .inr rfl),by simp only [go_sem, *]⟩) (by
  intro p hp
  simp only [List.mem_cons,List.not_mem_nil,or_false] at hp
  rcases hp with rfl|rfl|rfl|rfl|rfl
  ·exact ⟨.inr (.inr ⟨0,by simp only [go_sem, *],rfl⟩),by simp only [go_sem, *,List.foldr_cons,List.foldr_nil,ne_eq,reduceCtorEq,not_false_eq_true]⟩
  ·exact ⟨.inr (.inl (by simp only [go_sem, *])),by simp only [go_sem, *,List.foldr_cons,List.foldr_nil,ne_eq,reduceCtorEq,not_false_eq_true]⟩
  ·exact ⟨.inr (.inl (by simp only [go_sem, *])),by simp only [go_sem, *,List.foldr_cons,List.foldr_nil,ne_eq,reduceCtorEq,not_false_eq_true]⟩
  ·exact ⟨.inr (.inl (by simp only [go_sem, *])),by simp only [go_sem, *,List.foldr_cons,List.foldr_nil,ne_eq,reduceCtorEq,not_false_eq_true]⟩
  ·exact ⟨.inr (.inl (by simp only [go_sem, *])),by simp only [go_sem, *,List.foldr_cons,List.foldr_nil,ne_eq,reduceCtorEq,not_false_eq_true]⟩) ?_
 simp only [List.foldr]
 refine AR_freezePL ⟨gen,0,1⟩ [(4,.el [.sl .any B] 0),(5,.el [.sl .any T] 0),(6,.ptr ⟨gen,0,2⟩ 0),(7,.ptr ⟨gen,0,3⟩ 0),(8,.nilf)] [(⟨gen,0,2⟩,[.int .i64 b],[.int .i64 b]),(⟨gen,0,3⟩,[.int .i64 m],[.int .i64 m])] (cs:=[.sl .any T]) rfl rfl hrel (by simp only [go_sem, *]) (hfr' 0 1) (by simp) (by repeat (first|exact Agree.refl _|refine Agree.new ?_ (hfr' _ _))) (by simp only [go_sem, *,List.foldr_cons,List.foldr_nil,ne_eq,reduceCtorEq,not_false_eq_true]) (by intro b hb;simp only [List.mem_cons,List.not_mem_nil,or_false] at hb;rcases hb with rfl|rfl<;>exact ⟨hfr' _ _,by simp only [go_sem, *],rfl,(by intro p hp;simp only [List.zip_cons_cons,List.zip_nil_left,List.zip_nil_right,List.mem_cons,List.not_mem_nil,or_false] at hp;subst hp;first|exact .inr (.inl rfl)|exact .inl rfl|exact .inr rfl),by simp only [go_sem, *]⟩) (by
  intro p hp
  simp only [List.mem_cons,List.not_mem_nil,or_false] at hp
  rcases hp with rfl|rfl|rfl|rfl|rfl
  ·exact ⟨.inr (.inl (by simp only [go_sem, *])),by simp only [go_sem, *,List.foldr_cons,List.foldr_nil,ne_eq,reduceCtorEq,not_false_eq_true]⟩
  ·exact ⟨.inr (.inr ⟨0,by simp only [go_sem, *],rfl⟩),by simp only [go_sem, *,List.foldr_cons,List.foldr_nil,ne_eq,reduceCtorEq,not_false_eq_true]⟩
  ·exact ⟨.inr (.inl (by simp only [go_sem, *])),by simp only [go_sem, *,List.foldr_cons,List.foldr_nil,ne_eq,reduceCtorEq,not_false_eq_true]⟩
  ·exact ⟨.inr (.inl (by simp only [go_sem, *])),by simp only [go_sem, *,List.foldr_cons,List.foldr_nil,ne_eq,reduceCtorEq,not_false_eq_true]⟩
  ·exact ⟨.inr (.inl (by simp only [go_sem, *])),by simp only [go_sem, *,List.foldr_cons,List.foldr_nil,ne_eq,reduceCtorEq,not_false_eq_true]⟩) ?_
 simp only [List.foldr]
 refine AR_freezePL ⟨gen,0,2⟩ [(4,.el [.sl .any B] 0),(5,.el [.sl .any T] 0),(6,.el [.int .i64 b] 0),(7,.ptr ⟨gen,0,3⟩ 0),(8,.nilf)] [(⟨gen,0,3⟩,[.int .i64 m],[.int .i64 m])] (cs:=[.int .i64 b]) rfl rfl hrel (by simp only [go_sem, *]) (hfr' 0 2) (by simp) (by repeat (first|exact Agree.refl _|refine Agree.new ?_ (hfr' _ _))) (by simp only [go_sem, *,List.foldr_cons,List.foldr_nil,ne_eq,reduceCtorEq,not_false_eq_true]) (by intro b hb;simp only [List.mem_cons,List.not_mem_nil,or_false] at hb;rcases hb with rfl<;>exact ⟨hfr' _ _,by simp only [go_sem, *],rfl,(by intro p hp;simp only [List.zip_cons_cons,List.zip_nil_left,List.zip_nil_right,List.mem_cons,List.not_mem_nil,or_false] at hp;subst hp;first|exact .inr (.inl rfl)|exact .inl rfl|exact .inr rfl),by simp only [go_sem, *]⟩) (by
  intro p hp
  simp only [List.mem_cons,List.not_mem_nil,or_false] at hp
  rcases hp with rfl|rfl|rfl|rfl|rfl
  ·exact ⟨.inr (.inl (by simp only [go_sem, *])),by simp only [go_sem, *,List.foldr_cons,List.foldr_nil,ne_eq,reduceCtorEq,not_false_eq_true]⟩
  ·exact ⟨.inr (.inl (by simp only [go_sem, *])),by simp only [go_sem, *,List.foldr_cons,List.foldr_nil,ne_eq,reduceCtorEq,not_false_eq_true]⟩
  ·exact ⟨.inr (.inr ⟨0,by simp only [go_sem, *],rfl⟩),by simp only [go_sem, *,List.foldr_cons,List.foldr_nil,ne_eq,reduceCtorEq,not_false_eq_true]⟩
  ·exact ⟨.inr (.inl (by simp only [go_sem, *])),by simp only [go_sem, *,List.foldr_cons,List.foldr_nil,ne_eq,reduceCtorEq,not_false_eq_true]⟩
  ·exact ⟨.inr (.inl (by simp only [go_sem, *])),by simp only [go_sem, *,List.foldr_cons,List.foldr_nil,ne_eq,reduceCtorEq,not_false_eq_true]⟩) ?_
 simp only [List.foldr]
 refine AR_freezePL ⟨gen,0,3⟩ [(4,.el [.sl .any B] 0),(5,.el [.sl .any T] 0),(6,.el [.int .i64 b] 0),(7,.el [.int .i64 m] 0),(8,.nilf)] [] (cs:=[.int .i64 m]) rfl rfl hrel (by simp only [go_sem, *]) (hfr' 0 3) (by simp) (by repeat (first|exact Agree.refl _|refine Agree.new ?_ (hfr' _ _))) (by simp only [go_sem, *,List.foldr_cons,List.foldr_nil,ne_eq,reduceCtorEq,not_false_eq_true]) (by simp) (by
  intro p hp
  simp only [List.mem_cons,List.not_mem_nil,or_false] at hp
  rcases hp with rfl|rfl|rfl|rfl|rfl
  ·exact ⟨.inr (.inl (by simp only [go_sem, *])),by simp only [go_sem, *,List.foldr_cons,List.foldr_nil,ne_eq,reduceCtorEq,not_false_eq_true]⟩
  ·exact ⟨.inr (.inl (by simp only [go_sem, *])),by simp only [go_sem, *,List.foldr_cons,List.foldr_nil,ne_eq,reduceCtorEq,not_false_eq_true]⟩
  ·exact ⟨.inr (.inl (by simp only [go_sem, *])),by simp only [go_sem, *,List.foldr_cons,List.foldr_nil,ne_eq,reduceCtorEq,not_false_eq_true]⟩
  ·exact ⟨.inr (.inr ⟨0,by simp only [go_sem, *],rfl⟩),by simp only [go_sem, *,List.foldr_cons,List.foldr_nil,ne_eq,reduceCtorEq,not_false_eq_true]⟩
  ·exact ⟨.inr (.inl (by simp only [go_sem, *])),by simp only [go_sem, *,List.foldr_cons,List.foldr_nil,ne_eq,reduceCtorEq,not_false_eq_true]⟩) ?_
 simp only [List.foldr]
 exact wk_
theorem it_lines0 {B:List (List V)} (b m:Nat) (wB:weakLL B=B) (hB:∀ S,InLL S B):Iter Tryz.prog env (lnsV B [] b m) [[.sl .any B]]:=by
 unfold lnsV
 refine iter_of_walk Tryz.func71 rfl (by kernel_rfl) fun C g0 w0 h gen hC hbase hgen hfree hlim hbd=>?_
 have hy:=yI_ok (c:=⟨Tryz.prog,env,Tryz.f71.ntmps,Tryz.f71,g0,w0,h,.undef,h⟩) (R:=iterR env C 1 g0 w0 h) (fun l hl=>Nat.lt_of_lt_of_le (hC.lo l hl) hbd)
 have hx:∀ i hs,XOk Tryz.prog ((yI ⟨Tryz.prog,env,Tryz.f71.ntmps,Tryz.f71,g0,w0,h,.undef,h⟩ C (iterR env C 1 g0 w0 h)).at (fun g w=>C.Y i g w hs)):=fun i hs=>hy.x (hC.xY hbd i hs)
 have hfr':∀ r i,h ⟨gen,r,i⟩=none:=fresh_of hgen
 have hv:([[V.sl .any B]]:List (List V))[0]? = some [V.sl .any B]:=rfl
 have z:(((0:Nat):Int)==0)=true:=rfl
 have hnb:∀ id,h id≠none→id≠⟨gen,0,0⟩:=fun id hid e=>hid (by rw [e];exact hfr' 0 0)
 have nS:¬ C.S ⟨gen,0,0⟩:=fun hs=>hbase _ (hC.sub _ hs) (hfr' 0 0)
 repeat' (first|(first|refine ARX_seq ?_|refine ARX_condP ?_|refine spt rfl ?_|refine ARX_yield hy hfree hC (fun b hb=>hb) hbd hv (by kernel_rfl) 2 rfl rfl rfl rfl rfl ?_|refine ARX_region (hx _ _) follows (by kernel_rfl) ?_)<;>try simp only [go_sem, *])
 refine ⟨fun id hid=>if_neg (hnb id (hbase id hid)),fun h' hh=>?_⟩
 have hs:∀ id,¬ C.S id→h id≠none→h' id=h id:=fun id q1 q2=>by
  have e:=hset_other (h:=h) (o:=.box [.fn (.yield C.l) [] []]) (hnb id q2)
  have:=hh id q1 (by simp only [hset] at e;simp only [hset,if_neg (hnb id q2)];exact q2)
  rw [this];simp only [hset,if_neg (hnb id q2)]
 refine ⟨?_,?_⟩
 ·simp only [go_sem, *]
  refine ARX_ret (ARX_out ?_)
  exact ARX_iend (vs:=[[.sl .any B]]) (.inl rfl) rfl hfree (fun g w hY=>.inl hY) hs
 ·simp only [go_sem, *]
  refine ARX_ret (ARX_out ?_)
  exact ARX_iend (vs:=[[.sl .any B]]) (.inl rfl) rfl hfree (fun g w hZ=>.inr hZ) hs
theorem flat_len {R:PVl→List (List V)} {n:Nat}:∀ A:List PVl,(∀ v∈A,(R v).length=n)→(A.flatMap R).length=A.length * n
 | [],_=>by simp
 | a::A,h=>by rw [List.flatMap_cons,List.length_append,h a (by simp),flat_len A (fun v hv=>h v (by simp [hv])),List.length_cons,Nat.succ_mul,Nat.add_comm]
theorem it_lines1 {t:Ty} {T B:List (List V)} (b m n:Nat) {A:List PVl} {R:PVl→List (List V)} (hA:Iter Tryz.prog env (.fn (.func 60) [] [.el [.int .i64 m] 0,.el t.cells 0,.el [.int .i64 b] 0]) (rows A))
  (hB:∀ v∈A,Iter Tryz.prog env (lnsV (B++[v.cells]) T b m) (R v)) (hR:∀ v∈A,(R v).length=n) (hR1:∀ v∈A,∀ r∈R v,∃ r0,weakLL r0=r0∧r=[.sl .any r0])
  (pl:∀ v∈A,Pure Tryz.prog env 43 [.sl .any (B++[v.cells]),.sl .any T,.int .i64 b,.int .i64 m] (lnsV (B++[v.cells]) T b m))
  (hBl:B.length≤100) (hB4:B.all (fun e=>e.length==4)=true) (wB:weakLL B=B) (iB:∀ S,InLL S B) (hT2:T.all (fun e=>e.length==2)=true) (wT:weakLL T=T) (iT:∀ S,InLL S T) (hv4:∀ v∈A,v.cells.all oneV=true) :
  Iter Tryz.prog env (lnsV B (t.cells::T) b m) (A.flatMap R):=by
 unfold lnsV
 refine iter_of_walk Tryz.func71 rfl (by kernel_rfl) fun C g0 w0 h gen hC hbase hgen hfree hlim hbd=>?_
 have hy:=yI_ok (c:=⟨Tryz.prog,env,Tryz.f71.ntmps,Tryz.f71,g0,w0,h,.undef,h⟩) (R:=iterR env C (A.flatMap R).length g0 w0 h) (fun l hl=>Nat.lt_of_lt_of_le (hC.lo l hl) hbd)
 have hx:∀ i hs,XOk Tryz.prog ((yI ⟨Tryz.prog,env,Tryz.f71.ntmps,Tryz.f71,g0,w0,h,.undef,h⟩ C (iterR env C (A.flatMap R).length g0 w0 h)).at (fun g w=>C.Y i g w hs)):=fun i hs=>hy.x (hC.xY hbd i hs)
 have hfr':∀ r i,h ⟨gen,r,i⟩=none:=fresh_of hgen
 have pa:=c_first t b m
 have z:∀ k:Nat,(((k+1:Nat):Int)==0)=false:=fun k=>by simp;omega
 have z0:(0:Int).toNat=0:=rfl
 repeat' (first|(refine ⟨?_,?_⟩;focus ((repeat' (first|refine ⟨?_,?_⟩|refine .inr ?_));all_goals kernel_rfl))|(first|refine ARX_seq ?_|refine ARX_condP ?_|refine spf rfl ?_|refine cp pa ?_|refine ARX_skip ?_|refine ARX_region (hx _ _) follows (by kernel_rfl) ?_|refine ARX_block ?_)<;>try simp only [go_sem, *,List.length_cons])
 have hvA:∀ (i:Nat) (vv:List V),(rows A)[i]? = some vv→∃ v,A[i]? = some v∧vv=[.agg v.cells]:=by
  intro i vv hh
  unfold rows at hh
  rw [List.getElem?_map] at hh
  cases hv:A[i]? with
  | none=>rw [hv] at hh;simp at hh
  | some v=>rw [hv] at hh;simp at hh;exact ⟨v,rfl,hh.symm⟩
 have hw1:∀ vv∈rows A,vv.length=1:=by intro vv hh;unfold rows at hh;obtain ⟨v,_,rfl⟩:=List.mem_map.1 hh;rfl
 have hnb:∀ id,C.base id→id≠⟨gen,0,0⟩:=fun id hid e=>hbase id hid (by rw [e];exact hfr' 0 0)
 have hb0:∀ id,C.base id→hset h ⟨gen,0,0⟩ (.box [.fn (.yield C.l) [] []]) id=h id:=fun id hid=>hset_other (hnb id hid)
 have hnh:∀ id,h id≠none→id≠⟨gen,0,0⟩:=fun id hid e=>hid (by rw [e];exact hfr' 0 0)
 refine ARX_iter hy (ps:=[20]) (vs:=rows A) (by intro p hp;simp at hp;subst hp;exact of_decide_eq_true (by kernel_rfl)) hw1 C.S (fun id hid=>by
   simp only
   rw [hset_other (hnb id (hC.sub id hid))];exact hbase id (hC.sub id hid))
  (fun m X hh=>∃ hs,X=(fun g w=>C.Y (m * n) g w hs)∧(∀ id,C.base id→hh id=hs id)∧hh ⟨gen,0,0⟩=some (.box [.fn (.yield C.l) [] []])∧∀ id,¬ C.S id→h id≠none→hh id=h id)
  (fun id X hh=>id=none∧∃ hs,X=(fun g w=>C.Z g w hs)∧(∀ id,C.base id→hh id=hs id)∧∀ id,¬ C.S id→h id≠none→hh id=h id)
  (by rintro i X hh ⟨hs,rfl,_⟩;exact hC.xY hbd _ _) (by rintro i X hh ⟨_,hs,rfl,_⟩;exact hC.xZ hbd _)
  (by
   rintro i X h1 h2 e ⟨hs,rfl,j1,j2,j3⟩
   have hk:∀ id,h id≠none→h2 id=h1 id:=fun id hid=>e id (by simp only;rw [hset_other (hnh id hid)];exact hid)
   exact ⟨hs,rfl,fun id hid=>(hk id (hbase id hid)).trans (j1 id hid),(e _ (by simp only [hset_same,ne_eq,reduceCtorEq,not_false_eq_true])).trans j2,fun id q1 q2=>(hk id q2).trans (j3 id q1 q2)⟩)
  (by
   rintro i X h1 h2 e ⟨h0,hs,rfl,j1,j3⟩
   have hk:∀ id,h id≠none→h2 id=h1 id:=fun id hid=>e id (by simp only;rw [hset_other (hnh id hid)];exact hid)
   exact ⟨h0,hs,rfl,fun id hid=>(hk id (hbase id hid)).trans (j1 id hid),fun id q1 q2=>(hk id q2).trans (j3 id q1 q2)⟩)
  hlim ?_ (by simp only [go_sem, *]) ⟨h,by rw [Nat.zero_mul],hb0,hset_same,fun id _ q2=>hset_other (hnh id q2)⟩ rfl rfl ?_ ?_
 ·
  rintro ya yb gn i vv hi X oa ob ⟨l,f1,f2,f3⟩ d1 d2 lo1 lo2 hXS hbd1 hbd2 hgn hvv ⟨hs,rfl,jb,jx,js⟩ hnn toB fin finx
  obtain ⟨v,hv,rfl⟩:=hvA i vv hvv
  have hvm:v∈A:=List.mem_of_getElem? hv
  have pb:=pl v hvm
  have itB:=hB v hvm
  have v4:=hv4 v hvm
  have wBv:weakLL (B++[v.cells])=B++[v.cells]:=by
   have:=weakLL_PVl [v]
   simp only [List.map_cons,List.map_nil] at this
   rw [weakLL_app,wB,this]
  have xa:∀ m hs,XOk Tryz.prog (ya.at (fun g w=>C.Y m g w hs)):=fun m hs=>oa.x (bd:=C.bd) (hC.xY (Nat.le_refl _) m hs)
  have xb:∀ m hs,XOk Tryz.prog (yb.at (fun g w=>C.Y m g w hs)):=fun m hs=>ob.x (bd:=C.bd) (hC.xY (Nat.le_refl _) m hs)
  have hbb:C.bd≤yb.bd:=Nat.le_trans hbd (by rw [← hbd1];exact hbd2)
  refine ARX_gen (fun gm hgm=>?_)
  have hf:∀ r i,hi ⟨gm,r,i⟩=none:=fresh_of hgm
  have hne:∀ id,hi id≠none→∀ r i,id≠⟨gm,r,i⟩:=fun id hid r i e=>hid (by rw [e];exact hf r i)
  have hbi:∀ id,C.base id→hi id≠none:=fun id hid=>by
   rw [jb id hid]
   have:=hnn id (by simp only;rw [hset_other (hnb id hid)];exact hbase id hid)
   rw [jb id hid] at this;exact this
  have g4:((⟨gen,0,0⟩:GoAbs.Id)=⟨gm,4,0⟩)=False:=eq_false (hne ⟨gen,0,0⟩ (by rw [jx];simp) 4 0)
  have g5:((⟨gen,0,0⟩:GoAbs.Id)=⟨gm,5,8⟩)=False:=eq_false (hne ⟨gen,0,0⟩ (by rw [jx];simp) 5 8)
  have l1:B.length+1≤140737488355328:=by omega
  have l2:(B.length+1) * 64≤140737488355328:=by omega
  clear hnn hvv hx hA hB pl hv4
  simp only [updL]
  repeat' (first|(first|refine ARX_region (xa _ _) follows (by kernel_rfl) ?_)<;>try simp only [go_sem, *])
  refine toB _ _ gm hXS ?_
  clear toB
  repeat' (first|(refine ⟨?_,?_⟩;focus ((repeat' (first|refine ⟨?_,?_⟩|refine .inr ?_));all_goals kernel_rfl))|(first|refine ARX_seq ?_|refine cp pb ?_|refine ARX_region (xb _ _) follows (by kernel_rfl) ?_|refine ARX_block ?_)<;>try simp only [go_sem, *,List.length_cons,List.take_succ_cons,List.take_length,List.drop_succ_cons,List.drop_zero,Option.map_some,Option.map_none,Int.toNat_natCast])
  have hk0:∀ id,hi id≠none→hset (hset hi ⟨gm,4,0⟩ (.box v.cells)) ⟨gm,5,8⟩ (.tok (B.length+1) 4) id=hi id:=fun id hid=>by
   rw [hset_other (hne id hid 5 8),hset_other (hne id hid 4 0)]
  have itB':∀ (i:Nat) (vv:List V),(R v)[i]? = some vv→∃ r0,weakLL r0=r0∧vv=[.sl .any r0]:=fun i vv hh=>hR1 v hvm vv (List.mem_of_getElem? hh)
  have hn:(R v).length=n:=hR v hvm
  refine ARX_iterN ob (ps:=[35]) (vs:=R v) (by intro p hp;simp at hp;subst hp;exact of_decide_eq_true (by kernel_rfl)) (fun vv hh=>by obtain ⟨r0,_,rfl⟩:=hR1 v hvm vv hh;rfl) C.S (fun id hid=>by
    simp only
    rw [hk0 id (hbi id (hC.sub id hid))];exact hbi id (hC.sub id hid))
   (fun m X hh=>∃ hs,X=(fun g w=>C.Y (i * n+m) g w hs)∧(∀ id,C.base id→hh id=hs id)∧hh ⟨gen,0,0⟩=some (.box [.fn (.yield C.l) [] []])∧∀ id,¬ C.S id→hi id≠none→hh id=hi id)
   (fun id X hh=>id=none∧∃ hs,X=(fun g w=>C.Z g w hs)∧(∀ id,C.base id→hh id=hs id)∧∀ id,¬ C.S id→hi id≠none→hh id=hi id)
   (by rintro i X hh ⟨hs,rfl,_⟩;exact hC.xY hbb _ _) (by rintro i X hh ⟨_,hs,rfl,_⟩;exact hC.xZ hbb _)
   (by
    rintro m X h1 h2 e ⟨hs,rfl,k1,k2,k3⟩
    have hk:∀ id,hi id≠none→h2 id=h1 id:=fun id hid=>e id (by simp only;rw [hk0 id hid];exact hid)
    exact ⟨hs,rfl,fun id hid=>(hk id (hbi id hid)).trans (k1 id hid),(hk _ (by rw [jx];simp)).trans k2,fun id q1 q2=>(hk id q2).trans (k3 id q1 q2)⟩)
   (by
    rintro m X h1 h2 e ⟨h0,hs,rfl,k1,k3⟩
    have hk:∀ id,hi id≠none→h2 id=h1 id:=fun id hid=>e id (by simp only;rw [hk0 id hid];exact hid)
    exact ⟨h0,hs,rfl,fun id hid=>(hk id (hbi id hid)).trans (k1 id hid),fun id q1 q2=>(hk id q2).trans (k3 id q1 q2)⟩)
   hlim ?_ (by simp only [go_sem, *]) ⟨hs,by rw [Nat.add_zero],fun id hid=>(hk0 id (hbi id hid)).trans (jb id hid),(hk0 _ (by rw [jx];simp)).trans jx,fun id _ q2=>hk0 id q2⟩
   (l0:=l) (by rw [f2];rfl) f3 d2 ?_ ?_
  ·
   rintro ya' yb' gn' m' vv' hj X' oa' ob' ⟨l',f1',f2',f3'⟩ d1' d2' lo1' lo2' hXS' hbd1' hbd2' hgn' hvv' ⟨hs',rfl,kb,kx,ks⟩ hnn' toB' fin' finx'
   obtain ⟨r0,w0',rfl⟩:=itB' m' vv' hvv'
   have hvP:(A.flatMap R)[i * n+m']? = some [V.sl .any r0]:=flatM_at R n A hR i m' v _ hv hvv'
   have xa':∀ m hs,XOk Tryz.prog (ya'.at (fun g w=>C.Y m g w hs)):=fun m hs=>oa'.x (bd:=C.bd) (hC.xY (Nat.le_refl _) m hs)
   have xb':∀ m hs,XOk Tryz.prog (yb'.at (fun g w=>C.Y m g w hs)):=fun m hs=>ob'.x (bd:=C.bd) (hC.xY (Nat.le_refl _) m hs)
   have hbb':C.bd≤yb'.bd:=Nat.le_trans hbb (by rw [← hbd1'];exact hbd2')
   clear hnn' hvv' itB pb
   simp only [updL]
   repeat' (first|(first|refine ARX_region (xa' _ _) follows (by kernel_rfl) ?_)<;>try simp only [go_sem, *])
   refine toB' _ _ gn' hXS' ?_
   clear toB'
   have nS:∀ id,(h id=none)→¬ C.S id:=fun id hid hs=>hbase id (hC.sub id hs) hid
   repeat' (first|(first|refine ARX_seq ?_|refine ARX_yield ob' hfree hC (fun b hb=>by rw [lo2',lo2];exact hb) hbb' hvP (by kernel_rfl) 2 rfl rfl rfl rfl rfl ?_|refine ARX_region (xb' _ _) follows (by kernel_rfl) ?_|refine ARX_block ?_)<;>try simp only [go_sem, *])
   refine ⟨kb,fun h' hh0=>?_⟩
   have hh1:∀ id,¬ C.S id→hj id≠none→h' id=hj id:=hh0
   clear hh0
   have n0:¬ C.S ⟨gen,0,0⟩:=nS _ (hfr' 0 0)
   have k0:=(hh1 _ n0 (by rw [kx];simp)).trans kx
   refine ⟨?_,?_⟩
   ·simp only [go_sem, *]
    repeat' (first|(first|refine ARX_seq ?_|refine ARX_condP ?_|refine ARX_skip ?_|refine spf rfl ?_|refine ARX_block_end ?_)<;>try simp only [go_sem, *])
    refine fin' _ _ _ ⟨h',rfl,fun _ _=>rfl,k0,fun id q1 q2=>?_⟩ hh1
    exact (hh1 id q1 (by rw [ks id q1 q2];exact q2)).trans (ks id q1 q2)
   ·simp only [go_sem, *]
    repeat' (first|(first|refine ARX_condP ?_|refine spt rfl ?_|refine ARX_ret ?_)<;>try simp only [go_sem, *])
    refine ARX_out ?_
    exact finx' _ _ none _ ⟨rfl,h',rfl,fun _ _=>rfl,fun id q1 q2=>(hh1 id q1 (by rw [ks id q1 q2];exact q2)).trans (ks id q1 q2)⟩ hh1
  ·rintro X' h' ⟨hs',rfl,kb,kx,ks⟩ hsame
   refine ARX_block_end (ARX_block_end ?_)
   refine fin _ _ _ ⟨hs',?_,kb,kx,fun id q1 q2=>?_⟩ (fun id q1 q2=>ks id q1 q2)
   ·rw [hn,Nat.succ_mul]
   ·exact (ks id q1 (by rw [js id q1 q2];exact q2)).trans (js id q1 q2)
  ·rintro id X' h' ⟨rfl,hs',rfl,kb,ks⟩ hsame
   refine ARX_out ?_
   exact finx _ _ none _ ⟨rfl,hs',rfl,kb,fun id q1 q2=>(ks id q1 (by rw [js id q1 q2];exact q2)).trans (js id q1 q2)⟩ (fun id q1 q2=>ks id q1 q2)
 ·rintro D X' h' hD ok ⟨hs,rfl,jb,jx,js⟩ hsame
  refine ARX_block_end ?_
  refine ARX_iendM hC (.inr rfl) rfl hfree hlim hbd hD (fun g w hY=>.inl ?_) js
  rw [flat_len A hR]
  rw [rows_len] at hY
  exact hC.Yh _ _ _ _ _ jb hY
 ·rintro D id X' h' hD ok ⟨rfl,hs,rfl,jb,js⟩ hsame
  refine ARX_out ?_
  exact ARX_iendM hC (.inl rfl) rfl hfree hlim hbd hD (fun g w hZ=>.inr (hC.Zh _ _ _ _ jb hZ)) js
theorem it_lines {b m:Nat} (hb:b≤65536) (hm:m≤65536):∀ (ts:List Ty) (bs:List PVl),(∀ t∈ts,PlT t)→bs.length+ts.length≤100 →
  Iter Tryz.prog env (lnsV (bs.map PVl.cells) (ts.map Ty.cells) b m) (rowsL bs (lns (fun t=>(vals b t).take m) ts))
 | [],bs,_,_=>by
  rw [rowsL_nil]
  exact it_lines0 b m (weakLL_PVl bs) (fun S=>by simp only [go_sem, *])
 | t::ts,bs,ht,hl=>by
  rw [rowsL_cons]
  simp only [List.length_cons] at hl
  have ih:=fun v=>it_lines hb hm ts (bs++[v]) (fun t q=>ht t (by simp [q])) (by simp only [List.length_append,List.length_cons,List.length_nil];omega)
  simp only [List.map_append,List.map_cons,List.map_nil] at ih
  have hlist:∀ v:PVl,weakLL (bs.map PVl.cells++[v.cells])=bs.map PVl.cells++[v.cells]:=fun v=>by
   have:=weakLL_PVl (bs++[v])
   simpa only [List.map_append,List.map_cons,List.map_nil] using this
  refine it_lines1 (R:=fun v=>rowsL (bs++[v]) (lns (fun t=>(vals b t).take m) ts)) b m (lns (fun t=>(vals b t).take m) ts).length (it_first hm (it_values b hb (ht t (by simp))) (c_values t b)) (fun v _=>ih v) (fun v _=>rowsL_len _ _) ?_ (fun v _=>c_lines b m ?_ ?_ (hlist v) (weakLL_Ty ts)) (by simp;omega) ?_ (weakLL_PVl bs) ?_ ?_ (weakLL_Ty ts) ?_ ?_
  ·intro v _ r hr
   unfold rowsL at hr
   obtain ⟨l,_,rfl⟩:=List.mem_map.1 hr
   exact ⟨_,weakLL_PVl _,rfl⟩
  ·exact fun S=>by
    have e:bs.map PVl.cells++[v.cells]=(bs++[v]).map PVl.cells:=by simp
    rw [e];simp only [go_sem, *]
  ·exact fun S=>by simp only [go_sem, *]
  ·simp only [go_sem, *]
  ·exact fun S=>by simp only [go_sem, *]
  ·simp only [go_sem, *]
  ·exact fun S=>by simp only [go_sem, *]
  ·exact fun v _=>by rw [PVl.cells_eq];rfl
theorem c_Refutes {f b:Fm} {ts:List Ty} {L:List (List V)} {w u e:Int} {is:Bool} (hC:Pure Tryz.prog env 41 [.agg f.cells] (.tup [.agg (claimC ts b),.int .i64 0]))
  (hF:Pure Tryz.prog env 45 [.sl .any L,.sl .any (ts.map Ty.cells)] (.int .i64 0)) (hM:Pure Tryz.prog env 42 [.int .i64 w] (.bool true))
  (hH:Pure Tryz.prog env 44 [.agg b.cells,.sl .any L,.int .i64 w] (.tup [.bool is,.int .i64 u,.int .i64 e])) (wL:weakLL L=L) (iL:∀ S,InLL S L) :
  Pure Tryz.prog env 18 [.agg f.cells,.sl .any L,.int .i64 w] (.int .i64 (if (e==0&&is)=true then 21 else e)):=by
 intro h
 have n0:((0:Int) != 0)=false:=rfl
 unfold claimC at hC
 have hw:weakLL (ts.map Ty.cells)=ts.map Ty.cells:=weakLL_Ty ts
 have h5:∀ S,InLL S (ts.map Ty.cells):=fun S=>by simp only [go_sem, *]
 generalize ts.map Ty.cells=T at *
 rw [Fm.cells_eq b] at hC hH
 cases he:(e==0) with
 | true =>
  cases is with
  | true =>
   simp only [Bool.and_self,if_true]
   exact ek_ Tryz.func18 [.tmp 6]
  | false =>
   simp only [Bool.and_false,Bool.false_eq_true,if_false]
   exact ek_ Tryz.func18 [.tmp 6]
 | false =>
  simp only [Bool.false_and,Bool.false_eq_true,if_false]
  exact ek_ Tryz.func18 [.tmp 6]
theorem c_fits {L:List PVl} {ts:List Ty} (hl:L.length=ts.length) (hlen:L.length≤100) (hT:∀ (i:Nat) v t,L[i]? = some v→ts[i]? = some t→Pure Tryz.prog env 77 [.agg v.cells] (.tup [.agg t.cells,.int .i64 0]))
  (hS:∀ t∈ts,Pure Tryz.prog env 78 [.agg t.cells,.agg t.cells] (.bool true)):Pure Tryz.prog env 45 [.sl .any (L.map PVl.cells),.sl .any (ts.map Ty.cells)] (.int .i64 0):=by
 intro h
 have n0:((0:Int) != 0)=false:=rfl
 have k2:((L.length:Int)==(ts.length:Int))=true:=by simp [hl]
 have k2':((L.length:Int) != (ts.length:Int))=false:=by simp [hl]
 have hget:=get_same k2
 have hln:L.length≤ts.length∧ts.length≤L.length:=by omega
 clear k2 hl
 refine en_ Tryz.func45 [.tmp 4] fun g0 w0 gen hrel hfr hfr' hres=>?_
 refine wq_ ?_
 refine ar_ [1,14] [] (fun i σ=>Agree h σ.h∧True) (L).length ?_ ?_ ?_
 ·simp only [go_sem, *]
  exact Agree.refl _
 ·
  intro i σ gr0 hgl_gr0 hgn hlt jI jN jS ⟨jA,jv⟩
  obtain ⟨jT,jB⟩:=jS
  simp only [go_sem] at jT jB
  obtain ⟨hgf,hgf0,eg_gen_gr0,eh_gen_gr0⟩:=rnd hgn hgl_gr0 jA
  obtain ⟨x,hx,hxm,hm⟩:=rnx hlt
  clear hgn
  obtain ⟨y,hy⟩:=hget i x hx
  have hc:=hT i x y hx hy
  have hs:=hS y (List.mem_of_getElem? hy)
  clear hT hS hget
  refine wq_ ?_
  exact ag_
 ·
  intro σ ga0 hgl_ga0 hgn jS ⟨jA,jv⟩
  obtain ⟨jT,jB⟩:=jS
  simp only [go_sem] at jT jB
  obtain ⟨hgf,hgf0,eg_gen_ga0,eh_gen_ga0⟩:=rnd hgn hgl_ga0 jA
  clear hgn
  clear hT hS hget
  exact wk_
end Go.Proofs.YteaijonkbbkkjaaGreatDoor
