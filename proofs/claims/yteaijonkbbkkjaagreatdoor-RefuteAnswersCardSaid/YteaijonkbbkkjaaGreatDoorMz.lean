/-
 Walks: several parts in one text.
-/
import Derived.Test.YteaijonkbbkkjaaGreatDoorMy
import Derived.Test.YteaijonkbbkkjaaGreatDoorAbsDd
set_option linter.unusedSimpArgs false
set_option linter.unusedVariables false
set_option maxRecDepth 20000
set_option maxHeartbeats 4000000
namespace Go.Proofs.YteaijonkbbkkjaaGreatDoor
open Go GoAbs Go.Proofs
def ba6 (ts:List Ty) (b:Fm):List V:=.sl .any (ts.map Ty.cells)::b.cells
theorem cb0 {f b:Fm} {ts:List Ty} (hT:Pure Tryz.prog env 50 [.sl .any [],.agg f.cells] (.int .i64 0))
  (hU:Pure Tryz.prog env 69 [.agg f.cells] (.tup [.sl .any (ts.map Ty.cells),.agg b.cells,.int .i64 0])) (hD:Pure Tryz.prog env 70 [.agg b.cells] (.tup [.bool true,.int .i64 0])) :
  Pure Tryz.prog env 41 [.agg f.cells] (.tup [.agg (ba6 ts b),.int .i64 0]):=by
 intro h;have n0:((0:Int) != 0)=false:=rfl;unfold ba6;have hw:B2 (ts.map Ty.cells)=ts.map Ty.cells:=H8 ts;have h5:∀ S,Z6 S (ts.map Ty.cells):=fun S=>by simp only [go_sem, *]
 generalize ts.map Ty.cells=T at *;rw [Fm.m8 b] at hU hD ⊢;exact ek_ Tryz.func41 [.cell 2 81,.tmp 3]
def aM6 (B T:List (List V)) (b m:Nat):V:=.fn (.func 71) [] [.el [.sl .any T] 0,.el [.sl .any B] 0,.el [.int .i64 b] 0,.el [.int .i64 m] 0]
theorem bR5 {B T:List (List V)} (b m:Nat) (hB:∀ S,Z6 S B) (hT:∀ S,Z6 S T) (wB:B2 B=B) (wT:B2 T=T) :
  Pure Tryz.prog env 43 [.sl .any B,.sl .any T,.int .i64 b,.int .i64 m] (aM6 B T b m):=by
 intro h;unfold aM6;refine en_ Tryz.func43 [.tmp 8] fun g0 w0 gen b7 hfr c6 m0=>?_;refine D6 ?_;refine B6 ?_;simp only [go_sem, *];refine L8 ⟨gen,0,0⟩ [(4,.el [.sl .any B] 0),(5,.ptr ⟨gen,0,1⟩ 0),(6,.ptr ⟨gen,0,2⟩ 0),(7,.ptr ⟨gen,0,3⟩ 0),(8,.U9)] [(⟨gen,0,1⟩,[.sl .any T],[.sl .any T]),(⟨gen,0,2⟩,[.int .i64 b],[.int .i64 b]),(⟨gen,0,3⟩,[.int .i64 m],[.int .i64 m])] (cs:=[.sl .any B]) rfl rfl b7 sg_ (c6 0 0) sp_ (by repeat (first|exact g9.refl _|refine g9.new ?_ (c6 _ _))) sf_ (by intro b hb;simp only [List.mem_cons,List.not_mem_nil,or_false] at hb;rcases hb with rfl|rfl|rfl<;>exact ⟨c6 _ _,sg_,rfl,(by intro p hp;simp only [List.zip_cons_cons,List.zip_nil_left,List.zip_nil_right,List.mem_cons,List.not_mem_nil,or_false] at hp;subst hp;first|exact .inr (.inl rfl)|exact .inl rfl|exact .inr rfl),sg_⟩) (by
  intro p hp;simp only [List.mem_cons,List.not_mem_nil,or_false] at hp;rcases hp with rfl|rfl|rfl|rfl|rfl
  ·exact ⟨.inr (.inr ⟨0,sg_,rfl⟩),sf_⟩
  ·exact ⟨.inr (.inl sg_),sf_⟩
  ·exact ⟨.inr (.inl sg_),sf_⟩
  ·exact ⟨.inr (.inl sg_),sf_⟩
  ·exact ⟨.inr (.inl sg_),sf_⟩) ?_
 simp only [List.foldr];refine L8 ⟨gen,0,1⟩ [(4,.el [.sl .any B] 0),(5,.el [.sl .any T] 0),(6,.ptr ⟨gen,0,2⟩ 0),(7,.ptr ⟨gen,0,3⟩ 0),(8,.U9)] [(⟨gen,0,2⟩,[.int .i64 b],[.int .i64 b]),(⟨gen,0,3⟩,[.int .i64 m],[.int .i64 m])] (cs:=[.sl .any T]) rfl rfl b7 sg_ (c6 0 1) sp_ (by repeat (first|exact g9.refl _|refine g9.new ?_ (c6 _ _))) sf_ (by intro b hb;simp only [List.mem_cons,List.not_mem_nil,or_false] at hb;rcases hb with rfl|rfl<;>exact ⟨c6 _ _,sg_,rfl,(by intro p hp;simp only [List.zip_cons_cons,List.zip_nil_left,List.zip_nil_right,List.mem_cons,List.not_mem_nil,or_false] at hp;subst hp;first|exact .inr (.inl rfl)|exact .inl rfl|exact .inr rfl),sg_⟩) (by
  intro p hp;simp only [List.mem_cons,List.not_mem_nil,or_false] at hp;rcases hp with rfl|rfl|rfl|rfl|rfl
  ·exact ⟨.inr (.inl sg_),sf_⟩
  ·exact ⟨.inr (.inr ⟨0,sg_,rfl⟩),sf_⟩
  ·exact ⟨.inr (.inl sg_),sf_⟩
  ·exact ⟨.inr (.inl sg_),sf_⟩
  ·exact ⟨.inr (.inl sg_),sf_⟩) ?_
 simp only [List.foldr];refine L8 ⟨gen,0,2⟩ [(4,.el [.sl .any B] 0),(5,.el [.sl .any T] 0),(6,.el [.int .i64 b] 0),(7,.ptr ⟨gen,0,3⟩ 0),(8,.U9)] [(⟨gen,0,3⟩,[.int .i64 m],[.int .i64 m])] (cs:=[.int .i64 b]) rfl rfl b7 sg_ (c6 0 2) sp_ (by repeat (first|exact g9.refl _|refine g9.new ?_ (c6 _ _))) sf_ (by intro b hb;simp only [List.mem_cons,List.not_mem_nil,or_false] at hb;rcases hb with rfl<;>exact ⟨c6 _ _,sg_,rfl,(by intro p hp;simp only [List.zip_cons_cons,List.zip_nil_left,List.zip_nil_right,List.mem_cons,List.not_mem_nil,or_false] at hp;subst hp;first|exact .inr (.inl rfl)|exact .inl rfl|exact .inr rfl),sg_⟩) (by
  intro p hp;simp only [List.mem_cons,List.not_mem_nil,or_false] at hp;rcases hp with rfl|rfl|rfl|rfl|rfl
  ·exact ⟨.inr (.inl sg_),sf_⟩
  ·exact ⟨.inr (.inl sg_),sf_⟩
  ·exact ⟨.inr (.inr ⟨0,sg_,rfl⟩),sf_⟩
  ·exact ⟨.inr (.inl sg_),sf_⟩
  ·exact ⟨.inr (.inl sg_),sf_⟩) ?_
 simp only [List.foldr];refine L8 ⟨gen,0,3⟩ [(4,.el [.sl .any B] 0),(5,.el [.sl .any T] 0),(6,.el [.int .i64 b] 0),(7,.el [.int .i64 m] 0),(8,.U9)] [] (cs:=[.int .i64 m]) rfl rfl b7 sg_ (c6 0 3) sp_ (by repeat (first|exact g9.refl _|refine g9.new ?_ (c6 _ _))) sf_ sp_ (by
  intro p hp;simp only [List.mem_cons,List.not_mem_nil,or_false] at hp;rcases hp with rfl|rfl|rfl|rfl|rfl
  ·exact ⟨.inr (.inl sg_),sf_⟩
  ·exact ⟨.inr (.inl sg_),sf_⟩
  ·exact ⟨.inr (.inl sg_),sf_⟩
  ·exact ⟨.inr (.inr ⟨0,sg_,rfl⟩),sf_⟩
  ·exact ⟨.inr (.inl sg_),sf_⟩) ?_
 simp only [List.foldr];exact wk_
theorem bV6 {B:List (List V)} (b m:Nat) (wB:B2 B=B) (hB:∀ S,Z6 S B):Iter Tryz.prog env (aM6 B [] b m) [[.sl .any B]]:=by
 unfold aM6;refine W7 Tryz.func71 rfl kr_ fun C g0 w0 h gen hC N1 aM1 K0 N3 hbd=>?_;have hy:=aT2 (c:=⟨Tryz.prog,env,Tryz.f71.ntmps,Tryz.f71,g0,w0,h,.undef,h⟩) (R:=ac1 env C 1 g0 w0 h) (fun l hl=>Nat.lt_of_lt_of_le (hC.lo l hl) hbd);have hx:∀ i hs,XOk Tryz.prog ((yI ⟨Tryz.prog,env,Tryz.f71.ntmps,Tryz.f71,g0,w0,h,.undef,h⟩ C (ac1 env C 1 g0 w0 h)).at (fun g w=>C.Y i g w hs)):=fun i hs=>hy.x (hC.xY hbd i hs);have c6:∀ r i,h ⟨gen,r,i⟩=none:=c8 aM1;have hv:([[V.sl .any B]]:List (List V))[0]? = some [V.sl .any B]:=rfl;have z:(((0:Nat):Int)==0)=true:=rfl;have hnb:∀ id,h id≠none→id≠⟨gen,0,0⟩:=fun id hid e=>hid (by rw [e];exact c6 0 0);have nS:¬ C.S ⟨gen,0,0⟩:=fun hs=>N1 _ (hC.sub _ hs) (c6 0 0)
 repeat' (first|(first|refine x9 ?_|refine s9 ?_|refine spt rfl ?_|refine ah6 hy K0 hC (fun b hb=>hb) hbd hv kr_ 2 rfl rfl rfl rfl rfl ?_|refine m9 (hx _ _) follows kr_ ?_)<;>try simp only [go_sem, *])
 refine ⟨fun id hid=>if_neg (hnb id (N1 id hid)),fun h' hh=>?_⟩;have hs:∀ id,¬ C.S id→h id≠none→h' id=h id:=fun id q1 q2=>by
  have e:=l8 (h:=h) (o:=.box [.fn (.yield C.l) [] []]) (hnb id q2);have:=hh id q1 (by simp only [u9] at e;simp only [u9,if_neg (hnb id q2)];exact q2);rw [this];simp only [u9,if_neg (hnb id q2)]
 refine ⟨?_,?_⟩
 ·simp only [go_sem, *]
  refine D5 (E6 ?_);exact ae8 (vs:=[[.sl .any B]]) (.inl rfl) rfl K0 (fun g w hY=>.inl hY) hs
 ·simp only [go_sem, *]
  refine D5 (E6 ?_);exact ae8 (vs:=[[.sl .any B]]) (.inl rfl) rfl K0 (fun g w hZ=>.inr hZ) hs
theorem Z7 {R:PVl→List (List V)} {n:Nat}:∀ A:List PVl,(∀ v∈A,(R v).length=n)→(A.flatMap R).length=A.length * n
 | [],_=>by simp
 | a::A,h=>by rw [List.flatMap_cons,List.length_append,h a sp_,Z7 A (fun v hv=>h v (by simp [hv])),List.length_cons,Nat.succ_mul,Nat.add_comm]
theorem ce5 {t:Ty} {T B:List (List V)} (b m n:Nat) {A:List PVl} {R:PVl→List (List V)} (hA:Iter Tryz.prog env (.fn (.func 60) [] [.el [.int .i64 m] 0,.el t.cells 0,.el [.int .i64 b] 0]) (rows A))
  (hB:∀ v∈A,Iter Tryz.prog env (aM6 (B++[v.cells]) T b m) (R v)) (hR:∀ v∈A,(R v).length=n) (hR1:∀ v∈A,∀ r∈R v,∃ r0,B2 r0=r0∧r=[.sl .any r0])
  (pl:∀ v∈A,Pure Tryz.prog env 43 [.sl .any (B++[v.cells]),.sl .any T,.int .i64 b,.int .i64 m] (aM6 (B++[v.cells]) T b m))
  (hBl:B.length≤100) (hB4:B.all (fun e=>e.length==4)=true) (wB:B2 B=B) (iB:∀ S,Z6 S B) (hT2:T.all (fun e=>e.length==2)=true) (wT:B2 T=T) (iT:∀ S,Z6 S T) (hv4:∀ v∈A,v.cells.all ab6=true) :
  Iter Tryz.prog env (aM6 B (t.cells::T) b m) (A.flatMap R):=by
 unfold aM6;refine W7 Tryz.func71 rfl kr_ fun C g0 w0 h gen hC N1 aM1 K0 N3 hbd=>?_;have hy:=aT2 (c:=⟨Tryz.prog,env,Tryz.f71.ntmps,Tryz.f71,g0,w0,h,.undef,h⟩) (R:=ac1 env C (A.flatMap R).length g0 w0 h) (fun l hl=>Nat.lt_of_lt_of_le (hC.lo l hl) hbd);have hx:∀ i hs,XOk Tryz.prog ((yI ⟨Tryz.prog,env,Tryz.f71.ntmps,Tryz.f71,g0,w0,h,.undef,h⟩ C (ac1 env C (A.flatMap R).length g0 w0 h)).at (fun g w=>C.Y i g w hs)):=fun i hs=>hy.x (hC.xY hbd i hs);have c6:∀ r i,h ⟨gen,r,i⟩=none:=c8 aM1;have pa:=bl6 t b m;have z:∀ k:Nat,(((k+1:Nat):Int)==0)=false:=fun k=>by simp;omega
 have z0:(0:Int).toNat=0:=rfl
 repeat' (first|(refine ⟨?_,?_⟩;focus ((repeat' (first|refine ⟨?_,?_⟩|refine .inr ?_));all_goals kernel_rfl))|(first|refine x9 ?_|refine s9 ?_|refine spf rfl ?_|refine cp pa ?_|refine z8 ?_|refine m9 (hx _ _) follows kr_ ?_|refine u0 ?_)<;>try simp only [go_sem, *,List.length_cons])
 have hvA:∀ (i:Nat) (vv:List V),(rows A)[i]? = some vv→∃ v,A[i]? = some v∧vv=[.agg v.cells]:=by
  intro i vv hh;unfold rows at hh;rw [List.getElem?_map] at hh;cases hv:A[i]? with
  | none=>rw [hv] at hh;simp at hh
  | some v=>rw [hv] at hh;simp at hh;exact ⟨v,rfl,hh.symm⟩
 have hw1:∀ vv∈rows A,vv.length=1:=by intro vv hh;unfold rows at hh;obtain ⟨v,_,rfl⟩:=List.mem_map.1 hh;rfl
 have hnb:∀ id,C.base id→id≠⟨gen,0,0⟩:=fun id hid e=>N1 id hid (by rw [e];exact c6 0 0);have hb0:∀ id,C.base id→u9 h ⟨gen,0,0⟩ (.box [.fn (.yield C.l) [] []]) id=h id:=fun id hid=>l8 (hnb id hid);have hnh:∀ id,h id≠none→id≠⟨gen,0,0⟩:=fun id hid e=>hid (by rw [e];exact c6 0 0);refine am6 hy (ps:=[20]) (vs:=rows A) (by intro p hp;simp at hp;subst hp;exact of_decide_eq_true kr_) hw1 C.S (fun id hid=>by
   simp only;rw [l8 (hnb id (hC.sub id hid))];exact N1 id (hC.sub id hid))
  (fun m X hh=>∃ hs,X=(fun g w=>C.Y (m * n) g w hs)∧(∀ id,C.base id→hh id=hs id)∧hh ⟨gen,0,0⟩=some (.box [.fn (.yield C.l) [] []])∧∀ id,¬ C.S id→h id≠none→hh id=h id)
  (fun id X hh=>id=none∧∃ hs,X=(fun g w=>C.Z g w hs)∧(∀ id,C.base id→hh id=hs id)∧∀ id,¬ C.S id→h id≠none→hh id=h id)
  (by rintro i X hh ⟨hs,rfl,_⟩;exact hC.xY hbd _ _) (by rintro i X hh ⟨_,hs,rfl,_⟩;exact hC.xZ hbd _)
  (by
   rintro i X h1 h2 e ⟨hs,rfl,j1,j2,j3⟩;have hk:∀ id,h id≠none→h2 id=h1 id:=fun id hid=>e id (by simp only;rw [l8 (hnh id hid)];exact hid);exact ⟨hs,rfl,fun id hid=>(hk id (N1 id hid)).trans (j1 id hid),(e _ (by simp only [B0,ne_eq,reduceCtorEq,not_false_eq_true])).trans j2,fun id q1 q2=>(hk id q2).trans (j3 id q1 q2)⟩)
  (by
   rintro i X h1 h2 e ⟨h0,hs,rfl,j1,j3⟩;have hk:∀ id,h id≠none→h2 id=h1 id:=fun id hid=>e id (by simp only;rw [l8 (hnh id hid)];exact hid);exact ⟨h0,hs,rfl,fun id hid=>(hk id (N1 id hid)).trans (j1 id hid),fun id q1 q2=>(hk id q2).trans (j3 id q1 q2)⟩)
  N3 ?_ sg_ ⟨h,by rw [Nat.zero_mul],hb0,B0,fun id _ q2=>l8 (hnh id q2)⟩ rfl rfl ?_ ?_
 ·
  rintro ya yb gn i vv hi X oa ob ⟨l,f1,f2,f3⟩ d1 d2 lo1 lo2 hXS bp9 bj8 hgn hvv ⟨hs,rfl,jb,jx,js⟩ hnn toB fin finx;obtain ⟨v,hv,rfl⟩:=hvA i vv hvv;have hvm:v∈A:=List.mem_of_getElem? hv;have pb:=pl v hvm;have itB:=hB v hvm;have v4:=hv4 v hvm;have wBv:B2 (B++[v.cells])=B++[v.cells]:=by
   have:=N0 [v];simp only [List.map_cons,List.map_nil] at this;rw [bb7,wB,this]
  have xa:∀ m hs,XOk Tryz.prog (ya.at (fun g w=>C.Y m g w hs)):=fun m hs=>oa.x (bd:=C.bd) (hC.xY (Nat.le_refl _) m hs);have xb:∀ m hs,XOk Tryz.prog (yb.at (fun g w=>C.Y m g w hs)):=fun m hs=>ob.x (bd:=C.bd) (hC.xY (Nat.le_refl _) m hs);have hbb:C.bd≤yb.bd:=Nat.le_trans hbd (by rw [← bp9];exact bj8);refine ac8 (fun gm hgm=>?_);have hf:∀ r i,hi ⟨gm,r,i⟩=none:=c8 hgm;have hne:∀ id,hi id≠none→∀ r i,id≠⟨gm,r,i⟩:=fun id hid r i e=>hid (by rw [e];exact hf r i);have hbi:∀ id,C.base id→hi id≠none:=fun id hid=>by
   rw [jb id hid];have:=hnn id (by simp only;rw [l8 (hnb id hid)];exact N1 id hid);rw [jb id hid] at this;exact this
  have g4:((⟨gen,0,0⟩:GoAbs.Id)=⟨gm,4,0⟩)=False:=eq_false (hne ⟨gen,0,0⟩ (by rw [jx];simp) 4 0);have g5:((⟨gen,0,0⟩:GoAbs.Id)=⟨gm,5,8⟩)=False:=eq_false (hne ⟨gen,0,0⟩ (by rw [jx];simp) 5 8);have l1:B.length+1≤140737488355328:=by omega
  have l2:(B.length+1) * 64≤140737488355328:=by omega
  clear hnn hvv hx hA hB pl hv4;simp only [ax5]
  repeat' (first|(first|refine m9 (xa _ _) follows kr_ ?_)<;>try simp only [go_sem, *])
  refine toB _ _ gm hXS ?_;clear toB
  repeat' (first|(refine ⟨?_,?_⟩;focus ((repeat' (first|refine ⟨?_,?_⟩|refine .inr ?_));all_goals kernel_rfl))|(first|refine x9 ?_|refine cp pb ?_|refine m9 (xb _ _) follows kr_ ?_|refine u0 ?_)<;>try simp only [go_sem, *,List.length_cons,List.take_succ_cons,List.take_length,List.drop_succ_cons,List.drop_zero,Option.map_some,Option.map_none,Int.toNat_natCast])
  have hk0:∀ id,hi id≠none→u9 (u9 hi ⟨gm,4,0⟩ (.box v.cells)) ⟨gm,5,8⟩ (.tok (B.length+1) 4) id=hi id:=fun id hid=>by
   rw [l8 (hne id hid 5 8),l8 (hne id hid 4 0)]
  have itB':∀ (i:Nat) (vv:List V),(R v)[i]? = some vv→∃ r0,B2 r0=r0∧vv=[.sl .any r0]:=fun i vv hh=>hR1 v hvm vv (List.mem_of_getElem? hh);have hn:(R v).length=n:=hR v hvm;refine bg4 ob (ps:=[35]) (vs:=R v) (by intro p hp;simp at hp;subst hp;exact of_decide_eq_true kr_) (fun vv hh=>by obtain ⟨r0,_,rfl⟩:=hR1 v hvm vv hh;rfl) C.S (fun id hid=>by
    simp only;rw [hk0 id (hbi id (hC.sub id hid))];exact hbi id (hC.sub id hid))
   (fun m X hh=>∃ hs,X=(fun g w=>C.Y (i * n+m) g w hs)∧(∀ id,C.base id→hh id=hs id)∧hh ⟨gen,0,0⟩=some (.box [.fn (.yield C.l) [] []])∧∀ id,¬ C.S id→hi id≠none→hh id=hi id)
   (fun id X hh=>id=none∧∃ hs,X=(fun g w=>C.Z g w hs)∧(∀ id,C.base id→hh id=hs id)∧∀ id,¬ C.S id→hi id≠none→hh id=hi id)
   (by rintro i X hh ⟨hs,rfl,_⟩;exact hC.xY hbb _ _) (by rintro i X hh ⟨_,hs,rfl,_⟩;exact hC.xZ hbb _)
   (by
    rintro m X h1 h2 e ⟨hs,rfl,k1,k2,k3⟩;have hk:∀ id,hi id≠none→h2 id=h1 id:=fun id hid=>e id (by simp only;rw [hk0 id hid];exact hid);exact ⟨hs,rfl,fun id hid=>(hk id (hbi id hid)).trans (k1 id hid),(hk _ (by rw [jx];simp)).trans k2,fun id q1 q2=>(hk id q2).trans (k3 id q1 q2)⟩)
   (by
    rintro m X h1 h2 e ⟨h0,hs,rfl,k1,k3⟩;have hk:∀ id,hi id≠none→h2 id=h1 id:=fun id hid=>e id (by simp only;rw [hk0 id hid];exact hid);exact ⟨h0,hs,rfl,fun id hid=>(hk id (hbi id hid)).trans (k1 id hid),fun id q1 q2=>(hk id q2).trans (k3 id q1 q2)⟩)
   N3 ?_ sg_ ⟨hs,by rw [Nat.add_zero],fun id hid=>(hk0 id (hbi id hid)).trans (jb id hid),(hk0 _ (by rw [jx];simp)).trans jx,fun id _ q2=>hk0 id q2⟩
   (l0:=l) (by rw [f2];rfl) f3 d2 ?_ ?_
  ·
   rintro ya' yb' gn' m' vv' hj X' oa' ob' ⟨l',f1',f2',f3'⟩ d1' d2' lo1' lo2' cQ7 cg5 co8 dk7 bV8 ⟨hs',rfl,kb,kx,ks⟩ cB8 toB' fin' finx';obtain ⟨r0,w0',rfl⟩:=itB' m' vv' bV8;have hvP:(A.flatMap R)[i * n+m']? = some [V.sl .any r0]:=aI1 R n A hR i m' v _ hv bV8;have xa':∀ m hs,XOk Tryz.prog (ya'.at (fun g w=>C.Y m g w hs)):=fun m hs=>oa'.x (bd:=C.bd) (hC.xY (Nat.le_refl _) m hs);have xb':∀ m hs,XOk Tryz.prog (yb'.at (fun g w=>C.Y m g w hs)):=fun m hs=>ob'.x (bd:=C.bd) (hC.xY (Nat.le_refl _) m hs);have cM8:C.bd≤yb'.bd:=Nat.le_trans hbb (by rw [← cg5];exact co8);clear cB8 bV8 itB pb;simp only [ax5]
   repeat' (first|(first|refine m9 (xa' _ _) follows kr_ ?_)<;>try simp only [go_sem, *])
   refine toB' _ _ gn' cQ7 ?_;clear toB';have nS:∀ id,(h id=none)→¬ C.S id:=fun id hid hs=>N1 id (hC.sub id hs) hid
   repeat' (first|(first|refine x9 ?_|refine ah6 ob' K0 hC (fun b hb=>by rw [lo2',lo2];exact hb) cM8 hvP kr_ 2 rfl rfl rfl rfl rfl ?_|refine m9 (xb' _ _) follows kr_ ?_|refine u0 ?_)<;>try simp only [go_sem, *])
   refine ⟨kb,fun h' hh0=>?_⟩;have hh1:∀ id,¬ C.S id→hj id≠none→h' id=hj id:=hh0;clear hh0;have n0:¬ C.S ⟨gen,0,0⟩:=nS _ (c6 0 0);have k0:=(hh1 _ n0 (by rw [kx];simp)).trans kx;refine ⟨?_,?_⟩
   ·simp only [go_sem, *]
    repeat' (first|(first|refine x9 ?_|refine s9 ?_|refine z8 ?_|refine spf rfl ?_|refine r7 ?_)<;>try simp only [go_sem, *])
    refine fin' _ _ _ ⟨h',rfl,fun _ _=>rfl,k0,fun id q1 q2=>?_⟩ hh1;exact (hh1 id q1 (by rw [ks id q1 q2];exact q2)).trans (ks id q1 q2)
   ·simp only [go_sem, *]
    repeat' (first|(first|refine s9 ?_|refine spt rfl ?_|refine D5 ?_)<;>try simp only [go_sem, *])
    refine E6 ?_;exact finx' _ _ none _ ⟨rfl,h',rfl,fun _ _=>rfl,fun id q1 q2=>(hh1 id q1 (by rw [ks id q1 q2];exact q2)).trans (ks id q1 q2)⟩ hh1
  ·rintro X' h' ⟨hs',rfl,kb,kx,ks⟩ ab4
   refine r7 (r7 ?_);refine fin _ _ _ ⟨hs',?_,kb,kx,fun id q1 q2=>?_⟩ (fun id q1 q2=>ks id q1 q2)
   ·rw [hn,Nat.succ_mul]
   ·exact (ks id q1 (by rw [js id q1 q2];exact q2)).trans (js id q1 q2)
  ·rintro id X' h' ⟨rfl,hs',rfl,kb,ks⟩ ab4
   refine E6 ?_;exact finx _ _ none _ ⟨rfl,hs',rfl,kb,fun id q1 q2=>(ks id q1 (by rw [js id q1 q2];exact q2)).trans (js id q1 q2)⟩ (fun id q1 q2=>ks id q1 q2)
 ·rintro D X' h' hD ok ⟨hs,rfl,jb,jx,js⟩ ab4
  refine r7 ?_;refine ai2 hC (.inr rfl) rfl K0 N3 hbd hD (fun g w hY=>.inl ?_) js;rw [Z7 A hR];rw [aa2] at hY;exact hC.Yh _ _ _ _ _ jb hY
 ·rintro D id X' h' hD ok ⟨rfl,hs,rfl,jb,js⟩ ab4
  refine E6 ?_;exact ai2 hC (.inl rfl) rfl K0 N3 hbd hD (fun g w hZ=>.inr (hC.Zh _ _ _ _ jb hZ)) js
theorem bq2 {b m:Nat} (hb:b≤65536) (hm:m≤65536):∀ (ts:List Ty) (bs:List PVl),(∀ t∈ts,PlT t)→bs.length+ts.length≤100 →
  Iter Tryz.prog env (aM6 (bs.map PVl.cells) (ts.map Ty.cells) b m) (aq6 bs (lns (fun t=>(O4 b t).take m) ts))
 | [],bs,_,_=>by
  rw [bV9];exact bV6 b m (N0 bs) (fun S=>by simp only [go_sem, *])
 | t::ts,bs,ht,hl=>by
  rw [bL7];simp only [List.length_cons] at hl;have ih:=fun v=>bq2 hb hm ts (bs++[v]) (fun t q=>ht t (by simp [q])) (by simp only [List.length_append,List.length_cons,List.length_nil];omega);simp only [List.map_append,List.map_cons,List.map_nil] at ih;have df4:∀ v:PVl,B2 (bs.map PVl.cells++[v.cells])=bs.map PVl.cells++[v.cells]:=fun v=>by
   have:=N0 (bs++[v]);simpa only [List.map_append,List.map_cons,List.map_nil] using this
  refine ce5 (R:=fun v=>aq6 (bs++[v]) (lns (fun t=>(O4 b t).take m) ts)) b m (lns (fun t=>(O4 b t).take m) ts).length (aW0 hm (aO2 b hb (ht t sp_)) (az3 t b)) (fun v _=>ih v) (fun v _=>bj2 _ _) ?_ (fun v _=>bR5 b m ?_ ?_ (df4 v) (H8 ts)) (by simp;omega) ?_ (N0 bs) ?_ ?_ (H8 ts) ?_ ?_
  ·intro v _ r hr
   unfold aq6 at hr;obtain ⟨l,_,rfl⟩:=List.mem_map.1 hr;exact ⟨_,N0 _,rfl⟩
  ·exact fun S=>by
    have e:bs.map PVl.cells++[v.cells]=(bs++[v]).map PVl.cells:=by simp
    rw [e];simp only [go_sem, *]
  ·exact fun S=>by simp only [go_sem, *]
  ·simp only [go_sem, *]
  ·exact fun S=>by simp only [go_sem, *]
  ·simp only [go_sem, *]
  ·exact fun S=>by simp only [go_sem, *]
  ·exact fun v _=>by rw [PVl.m8];rfl
theorem cW0 {L:List PVl} {ts:List Ty} (hl:L.length=ts.length) (hlen:L.length≤100) (hT:∀ (i:Nat) v t,L[i]? = some v→ts[i]? = some t→Pure Tryz.prog env 77 [.agg v.cells] (.tup [.agg t.cells,.int .i64 0]))
  (hS:∀ t∈ts,Pure Tryz.prog env 78 [.agg t.cells,.agg t.cells] (.bool true)):Pure Tryz.prog env 45 [.sl .any (L.map PVl.cells),.sl .any (ts.map Ty.cells)] (.int .i64 0):=by
 intro h;have n0:((0:Int) != 0)=false:=rfl;have k2:((L.length:Int)==(ts.length:Int))=true:=by simp [hl]
 have k2':((L.length:Int) != (ts.length:Int))=false:=by simp [hl]
 have I8:=ab9 k2;have hln:L.length≤ts.length∧ts.length≤L.length:=by omega
 clear k2 hl;refine en_ Tryz.func45 [.tmp 4] fun g0 w0 gen b7 hfr c6 m0=>?_;refine wq_ ?_;refine ar_ [1,14] [] (fun i σ=>g9 h σ.h∧True) (L).length ?_ ?_ ?_
 ·simp only [go_sem, *]
  exact g9.refl _
 ·
  intro i σ gr0 l6 hgn hlt jI jN jS ⟨jA,jv⟩;obtain ⟨jT,jB⟩:=jS;simp only [go_sem] at jT jB;obtain ⟨hgf,m6,n7,n8⟩:=rnd hgn l6 jA;obtain ⟨x,hx,hxm,hm⟩:=rnx hlt;clear hgn;obtain ⟨y,hy⟩:=I8 i x hx;have hc:=hT i x y hx hy;have hs:=hS y (List.mem_of_getElem? hy);clear hT hS I8;refine wq_ ?_;exact ag_
 ·
  intro σ ga0 l9 hgn jS ⟨jA,jv⟩;obtain ⟨jT,jB⟩:=jS;simp only [go_sem] at jT jB;obtain ⟨hgf,m6,n9,o0⟩:=rnd hgn l9 jA;clear hgn;clear hT hS I8;exact wk_
end Go.Proofs.YteaijonkbbkkjaaGreatDoor
