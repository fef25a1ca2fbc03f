/-
 Walks: several parts in one text.
-/
import Derived.Test.YteaijonkbbkkjaaGreatDoorPy
import Derived.Test.YteaijonkbbkkjaaGreatDoorOs
import Derived.Test.YteaijonkbbkkjaaGreatDoorPx
import Derived.Test.YteaijonkbbkkjaaGreatDoorAbsDd
import Derived.Test.YteaijonkbbkkjaaGreatDoorPt
import Derived.Test.YteaijonkbbkkjaaGreatDoorAbsD
import Derived.Test.YteaijonkbbkkjaaGreatDoorMv
import Derived.Test.YteaijonkbbkkjaaGreatDoorPr
set_option linter.unusedSimpArgs false
set_option linter.unusedVariables false
set_option maxRecDepth 20000
set_option maxHeartbeats 4000000
namespace Go.Proofs.YteaijonkbbkkjaaGreatDoor
open Go GoAbs Go.Proofs
def bA8:PVl:=.mk 0 0 [] []
theorem aB1:bA8.cells=[.int .i64 0,.int .i64 0,.sl .any [],.sl .any []]:=by unfold bA8;rw [PVl.p9];rfl
def bw8 (r:Option PVl × Int):V:=.tup [.agg (r.1.getD bA8).cells,.bool r.1.isSome,.int .i64 r.2]
structure cq5 (b:Fm) (l:List PVl) (H:PVl→Nat→Ans) (v:PVl):Prop where
 holds:∀ w:Nat,w≤65536→Pure Tryz.prog env 44 [.agg b.cells,.sl .any (l.map PVl.cells++[v.cells]),.int .i64 w] (ag3 (H v w))
 used:∀ w:Nat,(H v w).2.2=0→(H v w).2.1≤w
 own:Pure Tryz.prog env 35 [.agg v.cells] (.agg v.cells)
theorem bH8 {f b:Fm} {ts:List Ty} {s:Ty} {l:List PVl} {bd m w:Nat} {H:PVl→Nat→Ans} {L:List PVl} {fV:V} (iV:∀ S,InV S fV) (hC:Pure Tryz.prog env 50 [.sl .any [],.agg f.cells] (.int .i64 0))
  (hK:Pure Tryz.prog env 51 [.agg f.cells] (.tup [.sl .any (ts.map Ty.cells),.agg s.cells,.agg b.cells,.bool true]))
  (hF:Pure Tryz.prog env 45 [.sl .any (l.map PVl.cells),.sl .any (ts.map Ty.cells)] (.int .i64 0)) (hL:Pure Tryz.prog env 33 [.agg s.cells,.int .i64 bd,.int .i64 m] (.int .i64 0)) (hw:w≤65536)
  (hfi:Pure Tryz.prog env 34 [.agg s.cells,.int .i64 bd,.int .i64 m] fV) (hI:Iter Tryz.prog env fV (rows L)) (hT:∀ v∈L,cq5 b l H v) (hl:l.length≤100) :
  Pure Tryz.prog env 22 [.agg f.cells,.sl .any (l.map PVl.cells),.int .i64 bd,.int .i64 m,.int .i64 w] (bw8 (as1 H L w)):=by
 intro h;have n0:((0:Int) != 0)=false:=rfl;have hM:=bO5 (w:=(w:Int)) om_ om_;have hwl:B2 (l.map PVl.cells)=l.map PVl.cells:=N0 l;have hwT:B2 (ts.map Ty.cells)=ts.map Ty.cells:=H8 ts;obtain ⟨v,hv⟩:∃ v,bw8 (as1 H L w)=v:=⟨_,rfl⟩;rw [hv];refine M4 Tryz.func22 rfl kr_ fun g0 w0 gen b7 hfr=>?_;have c6:∀ r i,h ⟨gen,r,i⟩=none:=c8 hfr;have m0:Tryz.f22.results.toList=[.cell 10 36,.cell 11 4,.cell 12 32]:=rfl;have hl0:∀ b,w0.heap.size≤b→g0.lim b=0:=b7.C4;refine ad1 ?_;simp only [ad8,X2,aa4,ai1,ah9,List.append_assoc,List.cons_append,List.nil_append,List.map_cons,List.map_nil,List.append_nil];refine ah1 (J:=fun σ=>σ.tm 6=.ptr ⟨gen,0,1⟩ 0∧σ.tm 9=.ptr ⟨gen,0,2⟩ 0∧σ.tm 10=.ptr ⟨gen,0,3⟩ 0∧σ.tm 11=.ptr ⟨gen,0,4⟩ 0∧σ.tm 12=.ptr ⟨gen,0,5⟩ 0∧σ.tm 16=.ptr ⟨gen,4,8⟩ 0∧σ.tm 62=fV∧g9 h σ.h ∧
  σ.h ⟨gen,0,1⟩=some (.box [.sl .any (l.map PVl.cells)])∧σ.h ⟨gen,0,2⟩=some (.box [.int .i64 w])∧σ.h ⟨gen,0,3⟩=some (.box [.int .i64 0,.int .i64 0,.sl .full [],.sl .full []]) ∧
  σ.h ⟨gen,0,4⟩=some (.box [.bool false])∧σ.h ⟨gen,0,5⟩=some (.box [.int .i64 0])∧σ.h ⟨gen,4,8⟩=some (.box b.cells)) [_,_,_,_,_,_,_,_,_,_,_,_,_,_,_,_] kr_ follows ?_ ?_
 ·simp only [List.map_cons,List.map_nil,List.cons_append,List.nil_append]
  clear hI hT
  first|refine wq_ ?_|exact wk_
  all_goals first|exact ag_|skip
 ·rintro σ ⟨j6,j9,j10,j11,j12,j16,j62,jA,jb1,jb2,jb3,jb4,jb5,jb8⟩
  clear hC hK hF hL hM hfi hwT;refine bQ5 ?_;refine u0 ?_;refine am6 (bw9 _) (ps:=[63]) (vs:=rows L) (by intro p hp;simp at hp;subst hp;exact of_decide_eq_true kr_) (fun v hh=>by unfold rows at hh;obtain ⟨l,_,rfl⟩:=List.mem_map.1 hh;rfl)
   (fun id=>id=⟨gen,0,2⟩∨id=⟨gen,0,3⟩∨id=⟨gen,0,4⟩∨id=⟨gen,0,5⟩) (by rintro id (rfl|rfl|rfl|rfl)<;>simp [jb2,jb3,jb4,jb5])
   (fun i X hh=>X=xT∧g9 h hh∧hh ⟨gen,0,1⟩=some (.box [.sl .any (l.map PVl.cells)])∧hh ⟨gen,0,3⟩=some (.box [.int .i64 0,.int .i64 0,.sl .full [],.sl .full []])∧hh ⟨gen,0,4⟩=some (.box [.bool false])∧hh ⟨gen,0,5⟩=some (.box [.int .i64 0]) ∧
    hh ⟨gen,4,8⟩=some (.box b.cells)∧∃ w':Nat,w'≤65536∧hh ⟨gen,0,2⟩=some (.box [.int .i64 w'])∧as1 H (L.drop i) w'=as1 H L w)
   (fun id X hh=>id=none∧X=xT∧g9 h hh∧((∃ e,hh ⟨gen,0,3⟩=some (.box [.int .i64 0,.int .i64 0,.sl .full [],.sl .full []])∧hh ⟨gen,0,4⟩=some (.box [.bool false])∧hh ⟨gen,0,5⟩=some (.box [.int .i64 e])∧v=.tup [.agg bA8.cells,.bool false,.int .i64 e]) ∨
    ∃ x:PVl,hh ⟨gen,0,3⟩=some (.box x.cells)∧hh ⟨gen,0,4⟩=some (.box [.bool true])∧hh ⟨gen,0,5⟩=some (.box [.int .i64 0])∧v=.tup [.agg x.cells,.bool true,.int .i64 0]))
   (by rintro i X hh ⟨rfl,_⟩;exact ax2) (by rintro i X hh ⟨_,rfl,_⟩;exact ax2)
   (by
    rintro i X h1 h2 e ⟨q0,q1,q2,q3,q4,q5,q8,w',q6,q7,q9⟩;exact ⟨q0,fun id hid=>(e id (by rw [jA id hid];exact hid)).trans (q1 id hid),(e _ (by rw [jb1];simp)).trans q2,(e _ (by rw [jb3];simp)).trans q3,(e _ (by rw [jb4];simp)).trans q4,
     (e _ (by rw [jb5];simp)).trans q5,(e _ (by rw [jb8];simp)).trans q8,w',q6,(e _ (by rw [jb2];simp)).trans q7,q9⟩)
   (by
    rintro i X h1 h2 e ⟨q0,q00,q1,q⟩;refine ⟨q0,q00,fun id hid=>(e id (by rw [jA id hid];exact hid)).trans (q1 id hid),?_⟩;rcases q with ⟨er,q2,q3,q4,q5⟩|⟨x,q2,q3,q4,q5⟩
    ·exact .inl ⟨er,(e _ (by rw [jb3];simp)).trans q2,(e _ (by rw [jb4];simp)).trans q3,(e _ (by rw [jb5];simp)).trans q4,q5⟩
    ·exact .inr ⟨x,(e _ (by rw [jb3];simp)).trans q2,(e _ (by rw [jb4];simp)).trans q3,(e _ (by rw [jb5];simp)).trans q4,q5⟩)
   hl0 ?_ (by rw [j62];exact hI) ⟨rfl,jA,jb1,jb3,jb4,jb5,jb8,w,hw,jb2,by rw [List.drop_zero]⟩ rfl rfl ?_ ?_
  ·
   clear jb1 jb2 jb3 jb4 jb5 jb8 jA hI;rintro ya yb gn i vv hi X oa ob ⟨lp,f1,f2,f3⟩ d1 d2 lo1 lo2 hXS bp9 bj8 hgn hvv ⟨rfl,jA,jb1,jb3,jb4,jb5,jb8,w',hw',jb2,hF⟩ hnn toB fin finx;obtain ⟨x,hx,rfl⟩:∃ x,L[i]? = some x∧vv=[V.agg x.cells]:=by
    unfold rows at hvv;rw [List.getElem?_map] at hvv;cases hv:L[i]? with
    | none=>rw [hv] at hvv;simp at hvv
    | some l=>rw [hv] at hvv;simp at hvv;exact ⟨l,rfl,hvv.symm⟩
   obtain ⟨q2,q3,q4⟩:=hT x (List.mem_of_getElem? hx);have hh:=q2 w' hw';have hu:=q3 w';have hil:i<L.length:=(List.getElem?_eq_some_iff.1 hx).1;have hdr:L.drop i=x::L.drop (i+1):=by
    rw [List.drop_eq_getElem_cons hil];congr 1;exact (List.getElem?_eq_some_iff.1 hx).2
   rw [hdr,as1] at hF;have hwx:B2 (l.map PVl.cells++[x.cells])=l.map PVl.cells++[x.cells]:=by
    have:=N0 (l++[x]);simpa only [List.map_append,List.map_cons,List.map_nil] using this
   refine ac8 (fun gm hgm=>?_);have hgf:∀ r i,hi ⟨gm,r,i⟩=none:=c8 hgm;have m6:=fun r i=>s7 jA (hgf r i);have hg1:gen<gm:=hgm ⟨gen,0,1⟩ (by simp [jb1]);have e1:=s8 hg1;have e2:=o9 hg1;have xa:XOk Tryz.prog (ya.at xT):=oa.x hXS;have xb:XOk Tryz.prog (yb.at xT):=ob.x hXS;have nI:∀ id:GoAbs.Id,¬ (id=⟨gen,0,2⟩∨id=⟨gen,0,3⟩∨id=⟨gen,0,4⟩∨id=⟨gen,0,5⟩)→hi id≠none→(id=⟨gen,0,2⟩)=False∧(id=⟨gen,0,3⟩)=False∧(id=⟨gen,0,4⟩)=False∧(id=⟨gen,0,5⟩)=False∧∀ r i,(id=⟨gm,r,i⟩)=False :=
    fun id hid q=>⟨eq_false fun e=>hid (.inl e),eq_false fun e=>hid (.inr (.inl e)),eq_false fun e=>hid (.inr (.inr (.inl e))),eq_false fun e=>hid (.inr (.inr (.inr e))),fun r i=>eq_false fun e=>q (by rw [e];exact hgf r i)⟩
   have l1:l.length+1≤140737488355328:=by omega
   have l2:(l.length+1) * 64≤140737488355328:=by omega
   have l3:l.length≤140737488355327:=by omega
   have htk:List.take l.length (l.map PVl.cells)=l.map PVl.cells:=List.take_of_length_le sp_;have hmn:min l.length l.length=l.length:=Nat.min_self _;clear hgm hnn hvv hT q2 q3 hdr hil;simp only [ax5];refine m9 xa follows kr_ ?_;simp only [go_sem, *];refine toB _ _ gm hXS ?_;clear toB;unfold ag3 at hh;generalize H x w'=a at hh hu hF;obtain ⟨bo,u,e⟩:=a;simp only at hh hu hF;cases he:(e != 0) with
   | true =>
    simp only [he,if_true] at hh hF;clear fin hu q4
    repeat' (first
     |(refine ⟨?_,?_⟩;focus ((repeat' (first|refine ⟨?_,?_⟩|refine .inr ?_));all_goals kernel_rfl))
     | (first|refine x9 ?_|refine m9 xb follows kr_ ?_|refine s9 ?_|refine u0 ?_|refine z8 ?_|refine spt rfl ?_|refine spf rfl ?_|refine cp hh ?_|refine D5 ?_)<;>try simp only [go_sem, *,Option.map_some,Option.map_none,Int.toNat_natCast,List.take_length,List.drop_zero])
    refine E6 (finx _ gm none _ ⟨rfl,rfl,?_,.inl ⟨e,?_,?_,?_,?_⟩⟩ fun id hid q=>?_)
    ·repeat (first|exact jA|refine g9.new ?_ (c6 _ _)|refine g9.new ?_ (m6 _ _))
    ·simp only [go_sem, *]
    ·simp only [go_sem, *]
    ·simp only [go_sem, *]
    ·rw [← hv,← hF];rfl
    ·obtain ⟨m1,m2,m3,m4,m5⟩:=nI id hid q
     simp only [u9,m1,m2,m3,m4,m5,if_false]
   | false =>
    simp only [he,Bool.false_eq_true,if_false] at hh hF;have hu':u≤w':=hu (by simpa using he);clear hu he;cases bo with
    | true =>
     simp only [if_true] at hF;clear fin
     repeat' (first
      |(refine ⟨?_,?_⟩;focus ((repeat' (first|refine ⟨?_,?_⟩|refine .inr ?_));all_goals kernel_rfl))
      | (first|refine x9 ?_|refine m9 xb follows kr_ ?_|refine s9 ?_|refine u0 ?_|refine z8 ?_|refine spt rfl ?_|refine spf rfl ?_|refine cp hh ?_|refine cp q4 ?_|refine D5 ?_)<;>try simp only [go_sem, *,Option.map_some,Option.map_none,Int.toNat_natCast,List.take_length,List.drop_zero])
     refine E6 (finx _ gm none _ ⟨rfl,rfl,?_,.inr ⟨x,?_,?_,?_,?_⟩⟩ fun id hid q=>?_)
     ·repeat (first|exact jA|refine g9.new ?_ (c6 _ _)|refine g9.new ?_ (m6 _ _))
     ·simp only [go_sem, *]
     ·simp only [go_sem, *]
     ·simp only [go_sem, *]
     ·rw [← hv,← hF];rfl
     ·obtain ⟨m1,m2,m3,m4,m5⟩:=nI id hid q
      simp only [u9,m1,m2,m3,m4,m5,if_false]
    | false =>
     simp only [Bool.false_eq_true,if_false] at hF;have aJ4:IntKind.i64.wrap ((w':Int) - (u:Int))=((w' - u:Nat):Int):=w8 om_ om_ om_;clear finx q4
     repeat' (first
      |(refine ⟨?_,?_⟩;focus ((repeat' (first|refine ⟨?_,?_⟩|refine .inr ?_));all_goals kernel_rfl))
      | (first|refine x9 ?_|refine m9 xb follows kr_ ?_|refine s9 ?_|refine u0 ?_|refine z8 ?_|refine r7 ?_|refine spt rfl ?_|refine spf rfl ?_|refine cp hh ?_)<;>try simp only [go_sem, *,Option.map_some,Option.map_none,Int.toNat_natCast,List.take_length,List.drop_zero])
     refine fin _ gm _ ⟨rfl,?_,?_,?_,?_,?_,?_,w' - u,om_,?_,hF⟩ fun id hid q=>?_
     ·repeat (first|exact jA|refine g9.new ?_ (c6 _ _)|refine g9.new ?_ (m6 _ _))
     ·simp only [go_sem, *]
     ·simp only [go_sem, *]
     ·simp only [go_sem, *]
     ·simp only [go_sem, *]
     ·simp only [go_sem, *]
     ·simp only [go_sem, *]
     ·obtain ⟨m1,m2,m3,m4,m5⟩:=nI id hid q
      simp only [u9,m1,m2,m3,m4,m5,if_false]
  ·rintro D X' h' hD ok ⟨rfl,jA,jb1,jb3,jb4,jb5,jb8,w',hw',jb2,hF⟩ ab4
   rw [aa2,List.drop_length] at hF;have hv':v=.tup [.agg [.int .i64 0,.int .i64 0,.sl .any [],.sl .any []],.bool false,.int .i64 0]:=by rw [← hv,← hF,← aB1];rfl
   have okD:=ok.x (ax2 (bd:=0));clear hv hF;subst hv'
   repeat' (first
    |(refine ⟨?_,?_⟩;focus ((repeat' (first|refine ⟨?_,?_⟩|refine .inr ?_));all_goals kernel_rfl))
    |exact agf as_
    | (first|refine x9 ?_|refine m9 okD follows kr_ ?_|refine s9 ?_|refine u0 ?_|refine F3 ?_|refine z8 ?_|refine D5 ?_|refine r7 ?_|refine spt rfl ?_|refine spf rfl ?_|refine ah4 follows hl0 hD ?_|refine A9 b7 ?_ ?_ ?_)<;>try simp only [go_sem, *])
  ·rintro D id X' h' hD ok ⟨rfl,rfl,jA,cY8⟩ ab4
   simp only [ae4];clear hv;rcases cY8 with ⟨e,jb3,jb4,jb5,hv'⟩|⟨x,jb3,jb4,jb5,hv'⟩
   ·rw [aB1] at hv'
    subst hv';refine E6 (ah4 follows hl0 hD ?_);exact wk_
   ·subst hv'
    refine E6 (ah4 follows hl0 hD ?_);exact wk_
theorem bV0 (l:List Int) {a n a1 a2 a3 a4 a5 a6 a7:Nat} (hn:n≤2) {s1 s2 s:Ty} {v1 v2:PVl} {f:Fm} {D:Nat→Nat} {G:Nat→List Ty} {W:Nat→List PVl}
  (d0:D 0=a1) (d1:D 1=a3) (d2:D 2=a5) (g0':G 0=[]) (g1:G 1=[s1]) (g2:G 2=[s1,s2]) (w0':W 0=[]) (w1:W 1=[v1]) (w2:W 2=[v1,v2])
  (hgl:(G n).length=n) (hgW:∀ t∈G n,TyW t) (hsW:TyW s) (hfW:FmW f)
  (hN:∀ d,D1 Tryz.prog env 20 [.ptr d 0,.int .i64 3] d (.box (C1 l a)) (.int .i64 n) (.box (C1 l a1)))
  (P1:∀ d,D1 Tryz.prog env 9 [.ptr d 0] d (.box (C1 l a1)) (.agg s1.cells) (.box (C1 l a2)))
  (V1:∀ d,D1 Tryz.prog env 39 [.ptr d 0,.agg s1.cells] d (.box (C1 l a2)) (.agg v1.cells) (.box (C1 l a3)))
  (P2:∀ d,D1 Tryz.prog env 9 [.ptr d 0] d (.box (C1 l a3)) (.agg s2.cells) (.box (C1 l a4)))
  (V2:∀ d,D1 Tryz.prog env 39 [.ptr d 0,.agg s2.cells] d (.box (C1 l a4)) (.agg v2.cells) (.box (C1 l a5)))
  (P3:∀ d,D1 Tryz.prog env 9 [.ptr d 0] d (.box (C1 l (D n))) (.agg s.cells) (.box (C1 l a6)))
  (Tf:∀ d,D1 Tryz.prog env 40 [.ptr d 0,.sl .any ((G n++[s]).map Ty.cells),.int .i64 1] d (.box (C1 l a6)) (.agg f.cells) (.box (C1 l a7))) :
  ∀ d,D1 Tryz.prog env 21 [.ptr d 0] d (.box (C1 l a)) (.tup [.agg (P7 (G n) (fmQ 5 s f)).cells,.sl .any ((W n).map PVl.cells)]) (.box (C1 l a7)):=by
 intro d h hd;refine en_ Tryz.func21 [.cell 2 45,.tmp 3] fun g0 w0 gen b7 hfr c6 m0=>?_;have f1:=c7 hfr hd;have f2:=l4 hfr hd
 repeat' (first
  |(refine ⟨?_,?_⟩;focus ((repeat' (first|refine ⟨?_,?_⟩|refine .inr ?_));all_goals kernel_rfl))
  | (first|refine wp rfl ?_|refine spt rfl ?_|refine spf rfl ?_|(refine spl (fun hc=>?_) fun hc=>?_)<;>(try rw [beq_iff_eq] at hc)<;>try simp only [hc]|(refine ct (hN _) ?_ ?_;focus ((simp only [go_sem, *]<;>rfl);done)))<;>try simp only [go_sem, *])
 clear hN;refine B1 (fun i σ=>σ.tm 0=.ptr d 0∧σ.tm 2=.ptr ⟨gen,0,0⟩ 0∧σ.tm 6=.int .i64 ((n - i:Nat):Int)∧a9 d h σ.h∧σ.h d=some (.box (C1 l (D i))) ∧
  σ.h ⟨gen,0,0⟩=some (.box [.int .i64 0,.int .i64 0,.sl .full [],.sl .full [],.sl .full []]) ∧
  ((i=0∧σ.tm 4=.sl .full []∧σ.tm 5=.sl .full [])∨∃ ida idb,i≠0∧σ.tm 4=.sl (.own ida) ((G i).map Ty.cells)∧σ.tm 5=.sl (.own idb) ((W i).map PVl.cells) ∧
   σ.h ida=some (.tok i 2)∧σ.h idb=some (.tok i 4)∧h ida=none∧h idb=none)) n ?_ ?_
 ·simp only [go_sem, *]
  exact ⟨sp_,by repeat (first|exact a9.refl _ _|refine a9.new ?_ (c6 _ _)|refine a9.set ?_)⟩
 intro i σ hi ⟨j0,j3,j7,jA,jd,jb,jr⟩;refine F9 (fun gn hgl hgn=>?_);have hgf:=c8 hgn;have m6:=l7 hd jA hgf (fun r i e=>by have:=hfr d (by rw [hd];simp);rw [e] at this;simp at this;omega);have eg1:=s8 hgl;have eg2:=o9 hgl;have fd:=u6 hfr hd hgl;have fe:=B3 hfr hd hgl;clear hgn;rcases Nat.lt_or_ge i n with hlt|hge
 ·have cU0:decide (((n - i:Nat):Int)>0)=true:=by simp;omega
  have hw:IntKind.i64.wrap (((n - i:Nat):Int) - 1)=((n - (i+1):Nat):Int):=w8 om_ om_ om_;rcases jr with ⟨rfl,j5,j6⟩|⟨ida,idb,hi0,j5,j6,ta,tb,na,nb⟩
  ·rw [d0] at jd
   clear P2 V2 Tf P3 d2 g2 w2 hgl hgW hfW
   repeat' (first
    |(refine ⟨?_,?_⟩;focus ((repeat' (first|refine ⟨?_,?_⟩|refine .inr ?_));all_goals kernel_rfl))
    | (first|refine wp rfl ?_|refine spt rfl ?_|refine spf rfl ?_|(refine spl (fun hc=>?_) fun hc=>?_)<;>(try rw [beq_iff_eq] at hc)<;>try simp only [hc]|(refine ct (P1 _) ?_ ?_;focus ((simp only [go_sem, *]<;>rfl);done))|(refine ct (V1 _) ?_ ?_;focus ((simp only [go_sem, *]<;>rfl);done))|refine u7 ?_)<;>try simp only [go_sem, *])
   refine ⟨by repeat (first|exact jA|refine a9.new ?_ (m6 _ _)|refine a9.set ?_),⟨gn,7,3⟩,⟨gn,7,9⟩,?_⟩;simp only [go_sem, *]
  ·obtain rfl:i=1:=by omega
   rw [d1] at jd;rw [g1] at j5;rw [w1] at j6;have fa:∀ r i,(ida=(⟨gn,r,i⟩:GoAbs.Id))=False:=fun r i=>by simp;intro e;rw [e,hgf] at ta;cases ta
   have fb:∀ r i,(idb=(⟨gn,r,i⟩:GoAbs.Id))=False:=fun r i=>by simp;intro e;rw [e,hgf] at tb;cases tb
   have da:(ida=d)=False:=by simp;intro e;rw [e,hd] at na;cases na
   have db:(idb=d)=False:=by simp;intro e;rw [e,hd] at nb;cases nb
   have fab:(ida=idb)=False:=by simp;intro e;rw [e,tb] at ta;simp at ta
   have fba:(idb=ida)=False:=by simp;intro e;rw [e,ta] at tb;simp at tb
   have fa':∀ r i,((⟨gn,r,i⟩:GoAbs.Id)=ida)=False:=fun r i=>eq_false fun e=>of_eq_false (fa r i) e.symm;have fb':∀ r i,((⟨gn,r,i⟩:GoAbs.Id)=idb)=False:=fun r i=>eq_false fun e=>of_eq_false (fb r i) e.symm;have da':(d=ida)=False:=eq_false fun e=>of_eq_false da e.symm;have db':(d=idb)=False:=eq_false fun e=>of_eq_false db e.symm;have ga:((⟨gen,0,0⟩:GoAbs.Id)=ida)=False:=by simp;intro e;rw [← e,jb] at ta;simp at ta
   have gb:((⟨gen,0,0⟩:GoAbs.Id)=idb)=False:=by simp;intro e;rw [← e,jb] at tb;simp at tb
   simp only [List.map_cons,List.map_nil] at j5 j6;clear P1 V1 Tf P3 d0 d1 g0' g1 w0' w1 hgl hgW hfW
   repeat' (first
    |(refine ⟨?_,?_⟩;focus ((repeat' (first|refine ⟨?_,?_⟩|refine .inr ?_));all_goals kernel_rfl))
    | (first|refine wp rfl ?_|refine spt rfl ?_|refine spf rfl ?_|(refine spl (fun hc=>?_) fun hc=>?_)<;>(try rw [beq_iff_eq] at hc)<;>try simp only [hc]|(refine ct (P2 _) ?_ ?_;focus ((simp only [go_sem, *]<;>rfl);done))|(refine ct (V2 _) ?_ ?_;focus ((simp only [go_sem, *]<;>rfl);done))|refine u7 ?_)<;>try simp only [go_sem, *])
   refine ⟨by repeat (first|exact jA|refine a9.new ?_ (m6 _ _)|refine a9.new ?_ na|refine a9.new ?_ nb|refine a9.set ?_),ida,idb,?_⟩;simp only [go_sem, *]
 ·obtain rfl:i=n:=by omega
  have cU0:decide (((i - i:Nat):Int)>0)=false:=by simp
  have hv:∃ ca cb,σ.tm 4=.sl ca ((G i).map Ty.cells)∧σ.tm 5=.sl cb ((W i).map PVl.cells):=by
   rcases jr with ⟨rfl,j5,j6⟩|⟨ida,idb,hi0,j5,j6,_⟩
   ·exact ⟨_,_,by rw [g0'];exact j5,by rw [w0'];exact j6⟩
   ·exact ⟨_,_,j5,j6⟩
  obtain ⟨ca,cb,j5,j6⟩:=hv;have hwg:=H8 (G i);have hwv:=N0 (W i);have wq:FmW (fmQ 5 s f):=cs6 hsW hfW;have hQ5:=bz1 5 s f hsW hfW;have hst:=fun (j:Nat) (x:Ty) (hx:(G i)[j]? = some x)=>cb1 (f:=fmQ 5 s f) hx;have hQ:=fun (j:Nat) (x:Ty) (hx:(G i)[j]? = some x)=>bz1 4 x (P7 ((G i).drop (j+1)) (fmQ 5 s f)) (hgW x (List.mem_of_getElem? hx)) (cR9 (fun y hy=>hgW y (List.mem_of_mem_drop hy)) wq);have hd0:P7 ((G i).drop (i - 0)) (fmQ 5 s f)=fmQ 5 s f:=by rw [Nat.sub_zero,List.drop_of_length_le om_];rfl
  have hdn:P7 ((G i).drop (i - i)) (fmQ 5 s f)=P7 (G i) (fmQ 5 s f):=by rw [Nat.sub_self,List.drop_zero]
  have hw0:IntKind.i64.wrap ((i:Int) - 1)=(i:Int) - 1:=w8 rfl om_ om_;have hwk:B2 ((G i).map Ty.cells++[s.cells])=(G i++[s]).map Ty.cells:=by rw [← H8 (G i++[s])];simp
  have b1:i * 32≤140737488355328:=by omega
  have b2:i≤140737488355328:=by omega
  have b3:(i+1) * 32≤140737488355328:=by omega
  have b4:i+1≤140737488355328:=by omega
  have z:0+i=i:=by omega
  clear P1 V1 P2 V2 jr d0 d1 d2 g0' g1 g2 w0' w1 w2 hgW hfW hsW wq;generalize D i=di at *;generalize W i=Wi at *;generalize fmQ 5 s f=q5 at *
  repeat' (first
   |(refine ⟨?_,?_⟩;focus ((repeat' (first|refine ⟨?_,?_⟩|refine .inr ?_));all_goals kernel_rfl))
   | (first|refine wp rfl ?_|refine spt rfl ?_|refine spf rfl ?_|(refine spl (fun hc=>?_) fun hc=>?_)<;>(try rw [beq_iff_eq] at hc)<;>try simp only [hc]|(refine ct (P3 _) ?_ ?_;focus ((simp only [go_sem, *]<;>rfl);done))|(refine ct (Tf _) ?_ ?_;focus ((simp only [go_sem, *]<;>rfl);done))|refine cp hQ5 ?_)<;>try simp only [go_sem, *])
  clear Tf P3 hQ5;refine B1 (fun m σ'=>σ'.tm 10=.int .i64 ((i:Int) - 1 - m)∧σ'.tm 4=.sl ca ((G i).map Ty.cells)∧σ'.tm 5=.sl cb (Wi.map PVl.cells)∧σ'.tm 2=.ptr ⟨gen,0,0⟩ 0∧σ'.tm 9=.ptr ⟨gn,9,9⟩ 0 ∧
   σ'.h ⟨gen,0,0⟩=some (.box [.int .i64 0,.int .i64 0,.sl .full [],.sl .full [],.sl .full []])∧σ'.h ⟨gn,9,9⟩=some (.box (P7 ((G i).drop (i - m)) q5).cells)∧a9 d h σ'.h∧σ'.h d=some (.box (C1 l a7))) i ?_ ?_
  ·simp only [go_sem, *]
   exact ⟨sp_,by repeat (first|exact jA|refine a9.new ?_ (m6 _ _)|refine a9.set ?_)⟩
  clear hd0 hw0 jA jd jb j0 j3 j7 j5 j6 hgf;intro m σ' hm ⟨j9,j4,j5,j2,j8,jb0,jb8,jA,jd⟩;have hw1:IntKind.i64.wrap ((i:Int) - 1 - (m:Int) - 1)=(i:Int) - 1 - (m:Int) - 1:=w8 rfl om_ om_;rcases Nat.lt_or_ge m i with hlt|hge
  ·have hd1:decide ((i:Int) - 1 - (m:Int)≥0)=true:=by simp;omega
   have e0:i - (m+1)+1=i - m:=by omega
   obtain ⟨x,hx⟩:∃ x,(G i)[i - (m+1)]? = some x:=⟨_,List.getElem?_eq_getElem om_⟩;have hs1:=hst _ x hx;have hq1:=hQ _ x hx;rw [hs1] at hq1;rw [e0] at hq1;have e2:((i:Int) - 1 - (m:Int)).toNat=i - (m+1):=by omega
   have e3:0≤(i:Int) - 1 - (m:Int):=by omega
   have e4:(i:Int) - 1 - ((m+1:Nat):Int)=(i:Int) - 1 - (m:Int) - 1:=by omega
   clear hst hQ hs1 e0 hdn;generalize P7 ((G i).drop (i - m)) q5=b' at *;generalize P7 ((G i).drop (i - (m+1))) q5=b'' at *
   first|refine wq_ ?_|exact wk_
   all_goals first|exact jA|exact a9.new jA (m6 _ _)|skip
  ·have hd1:decide ((i:Int) - 1 - (m:Int)≥0)=false:=by simp;omega
   obtain rfl:m=i:=by omega
   rw [hdn] at jb8;clear hst hQ hdn hm hge;exact I0
def bG7 (l:List Int) (a:Nat):Prop:=∃ (g:List Ty) (s:Ty) (vs:List PVl) (ts:List Tm) (f:Fm) (a':Nat),T6 g vs ts∧be1 g s f∧FmW f ∧
  ∀ d,D1 Tryz.prog env 21 [.ptr d 0] d (.box (C1 l a)) (.tup [.agg (P7 g (fmQ 5 s f)).cells,.sl .any (vs.map PVl.cells)]) (.box (C1 l a'))
theorem cn2 (l:List Int) (hl:l.length≤1000) (a:Nat):bG7 l a:=by
 have hr:=L5 (l:=l) (a:=a) (n:=3) om_ om_;have hX:=N7 l hl;generalize hq:D2 l a 3=q at hr;obtain ⟨c,a1⟩:=q;have hN:∀ d,D1 Tryz.prog env 20 [.ptr d 0,.int .i64 3] d (.box (C1 l a)) (.int .i64 c) (.box (C1 l a1)):=fun d=>by
  have:=hX d a 3;rw [hq] at this;exact this
 simp only at hr;obtain ⟨s1,a2,p1,P1⟩:=bm2 l hl a1;obtain ⟨v1,m1,a3,i1,z1,V1⟩:=bP9 l hl p1 a2;obtain ⟨s2,a4,p2,P2⟩:=bm2 l hl a3;obtain ⟨v2,m2,a5,i2,z2,V2⟩:=bP9 l hl p2 a4;obtain ⟨n,hn,rfl⟩:∃ n:Nat,n≤2∧c=n:=⟨c.toNat,om_,om_⟩;have k0:T6 [] [] []:=.nil;have k1:T6 [s1] [v1] [m1]:=.snoc k0 i1 p1.G om_;have k2:T6 [s1,s2] [v1,v2] [m1,m2]:=.snoc k1 i2 p2.G om_;have fin:∀ (g:List Ty) (vs:List PVl) (ts:List Tm) (b:Nat),T6 g vs ts→g.length≤2→(∀ y∈g,P8 y)→(∀ (s:Ty) (f:Fm) (a6 a':Nat),TyW s→FmW f→(∀ d,D1 Tryz.prog env 9 [.ptr d 0] d (.box (C1 l b)) (.agg s.cells) (.box (C1 l a6))) →
   (∀ d,D1 Tryz.prog env 40 [.ptr d 0,.sl .any ((g++[s]).map Ty.cells),.int .i64 1] d (.box (C1 l a6)) (.agg f.cells) (.box (C1 l a'))) →
   ∀ d,D1 Tryz.prog env 21 [.ptr d 0] d (.box (C1 l a)) (.tup [.agg (P7 g (fmQ 5 s f)).cells,.sl .any (vs.map PVl.cells)]) (.box (C1 l a')))→bG7 l a:=by
  intro g vs ts b h1 h2 h4 h5;obtain ⟨s,a6,ps,P3⟩:=bm2 l hl b;obtain ⟨f,a',mf,wf,Tf⟩:=br0 l hl 1 om_ (g++[s]) a6 (fun y hy=>by
   rcases List.mem_append.1 hy with hy|hy
   ·exact (h4 y hy).mk
   ·simp at hy;subst hy;exact ps.mk) (by simp;omega)
  exact ⟨g,s,vs,ts,f,a',h1,cw6 mf h4 ps h2,wf,h5 s f a6 a' ps.G.1.W wf P3 Tf⟩
 have hc:n=0∨n=1∨n=2:=by omega
 have go:∀ (G:Nat→List Ty) (W:Nat→List PVl) (T:Nat→List Tm) (D:Nat→Nat),D 0=a1→D 1=a3→D 2=a5→G 0=[]→G 1=[s1]→G 2=[s1,s2]→W 0=[]→W 1=[v1]→W 2=[v1,v2]→T 0=[]→T 1=[m1]→T 2=[m1,m2]→bG7 l a :=
  fun G W T D d0 d1 d2 g0 g1 g2 w0 w1 w2 t0 t1 t2 =>
   have hp:∀ y∈G n,P8 y:=by
    rcases hc with rfl|rfl|rfl
    ·rw [g0];simp
    ·rw [g1];simp [p1]
    ·rw [g2];simp [p1,p2]
   have hgl:(G n).length=n:=by
    rcases hc with rfl|rfl|rfl
    ·rw [g0];rfl
    ·rw [g1];rfl
    ·rw [g2];rfl
   fin (G n) (W n) (T n) (D n)
   (by
    rcases hc with rfl|rfl|rfl
    ·rw [g0,w0,t0];exact k0
    ·rw [g1,w1,t1];exact k1
    ·rw [g2,w2,t2];exact k2)
   om_
   hp
   (fun s f a6 a' ws wf P3 Tf=>bV0 l hn d0 d1 d2 g0 g1 g2 w0 w1 w2 hgl (fun t ht=>(hp t ht).G.1.W) ws wf hN P1 V1 P2 V2 P3 Tf)
 exact go (fun i=>[s1,s2].take i) (fun i=>[v1,v2].take i) (fun i=>[m1,m2].take i) (fun i=>if i=0 then a1 else if i=1 then a3 else a5) rfl rfl rfl rfl rfl rfl rfl rfl rfl rfl rfl rfl
theorem ca9 {g:List Ty} {s:Ty} {b:Fm} (h:be1 g s b):Pure Tryz.prog env 23 [.agg (P7 g (fmQ 5 s b)).cells] (.tup [.sl .any (g.map Ty.cells),.agg s.cells,.agg b.cells,.bool true]):=by
 intro h0;have hz:=h.size;have zb:=h.sz;have hU:=aZ8 (P7 g (fmQ 5 s b)) h.G5.toW (h.G5.aj7 om_) om_;rw [h.univ] at hU;simp only at hU;have gb:=h.dc.G (u:=true);have hD:=br3 (z6 b) (Nat.le_refl _) om_ gb (h.dc.least (by have:=h.len;simp;omega)) (Fm.al2 (by rw [gb.aj7 om_];rfl)) gb.toW;rw [h.fl] at hD;have h1:=R9 s h.ex.G.1.W;have h2:=aj5 b gb.toW;have n0:((0:Int) != 0)=false:=rfl;have n5:((5:Int) != 5)=false:=rfl;have hq:(fmQ 5 s b).cells=[.int .i64 5,.int .i64 s.kind,.sl .any (s.args.map Ty.cells),.sl .any [],.sl .any [b.cells]]:=by rw [Fm.m8];rfl
 rw [hq] at hU;have hs2:s.cells=[.int .i64 s.kind,.sl .any (s.args.map Ty.cells)]:=Ty.m8 s;rw [hs2] at h1 ⊢;clear gb zb hz h hq hs2;generalize P7 g (fmQ 5 s b)=F at *;exact ek_ Tryz.func23 [.tmp 2,.cell 3 27,.cell 4 45,.tmp 5]
theorem bX4 {g:List Ty} {s:Ty} {b:Fm} (h:be1 g s b):Pure Tryz.prog env 51 [.agg (P7 g (fmQ 5 s b)).cells] (.tup [.sl .any (g.map Ty.cells),.agg s.cells,.agg b.cells,.bool true]):=by
 have:=cO7 (P7 g (fmQ 5 s b)) h.G5.toW (by have:=h.size;omega);rw [h.task] at this;exact this
theorem bY5 {g:List Ty} {s:Ty} {b:Fm} {T:List PVl→List Tm} {vs:List PVl} {y:PVl} (h:be1 g s b) (hv:T6 (g++[s]) (vs++[y]) (T (vs++[y]))) (ho:Pure Tryz.prog env 35 [.agg y.cells] (.agg y.cells)):cq5 b vs (aI9 b T vs) y:=by
 have hl:=h.len;have hz:=h.sz;have hk:(g++[s]).length≤16:=by simp;omega
 refine ⟨fun w hw=>?_,fun w hw=>?_,ho⟩
 ·have:=bb3 hv hk h.dc om_ w hw
  rw [List.map_append] at this;exact this
 ·generalize ha:aI9 b T vs y w=a at hw
  obtain ⟨bo,u,e⟩:=a;simp only at hw;subst hw;exact ((br5 hv hk h.dc om_).up w bo u w ha (Nat.le_refl _)).1
theorem bG2 {g:List Ty} {s:Ty} {b:Fm} {T:List PVl→List Tm} {vs:List PVl} {ts:List Tm} {bd m w:Nat} (h:be1 g s b) (hvs:T6 g vs ts) (hT:∀ y∈(O4 bd s).take m,T6 (g++[s]) (vs++[y]) (T (vs++[y]))) (hb:bd≤16) (hm:m≤65536) (hw:w≤65536) :
  Pure Tryz.prog env 22 [.agg (P7 g (fmQ 5 s b)).cells,.sl .any (vs.map PVl.cells),.int .i64 bd,.int .i64 m,.int .i64 w] (bw8 (as1 (aI9 b T vs) ((O4 bd s).take m) w)):=by
 have hl:=h.len;have hv:=hvs.len.1;refine bH8 (fun S=>by simp only [go_sem, *]) (ao9 [] sp_ sp_ (P7 g (fmQ 5 s b)) h.ty (h.G5.aj7 (by have:=h.size;omega)) (by have:=h.size;omega) h.G5.toW) (bX4 h) (ch2 hvs om_) (aV5 h.ex hb hm) hw
  (bl6 s bd m) (aW0 hm (aO2 bd om_ h.ex.plT) (az3 s bd)) (fun y hy=>bY5 h (hT y hy) ?_) om_
 obtain ⟨tm,p1,p2⟩:=aO3 hb h.ex.plT y (List.mem_of_mem_take hy);exact cu1 y (p1.W (by have:=h.ex.sz;omega))
theorem cF7 (e:Int):Pure Tryz.prog env 17 [.int .i64 e] (.bool (e==5||e==4)):=by
 intro h;refine en_ Tryz.func17 [.tmp 2] fun g0 w0 gen b7 hfr c6 m0=>?_
 first|refine wq_ ?_|exact wk_
 all_goals simp_all
theorem aT6 (l:List Int):Pure Tryz.prog env 6 [.sl .any (ints l)] (.bool true):=by
 have hS:=cl3;have hF:=dc7 l;cases hf:decide ((l.length:Int)≤500) with
 | false =>
  rw [hf] at hF;clear hf;intro h;exact ek_ Tryz.func6 [.tmp 2]
 | true =>
 rw [hf] at hF;have hl:l.length≤1000:=by simp at hf;omega
 clear hf;have hN:=da1 l;obtain ⟨g,s,vs,ts,f,a',hs,hTF,wf,Tw⟩:=cn2 l hl 0;replace Tw:∀ d,D1 Tryz.prog env 21 [.ptr d 0] d (.box (C1 l 0)) (.tup [.agg (P7 g (fmQ 5 s f)).cells,.sl .any (vs.map PVl.cells)]) (.box (C1 l a')):=Tw;have hk:=hTF.len;have hz:=hTF.sz;have hvl:=hs.len.1;have vl2:vs.length≤2:=by omega
 clear hvl;obtain ⟨T,hT0⟩:=cl5 (ts:=g++[s]);have hY:∀ y∈(O4 3 s).take 5,T6 (g++[s]) (vs++[y]) (T (vs++[y]))∧VlW y:=fun y hy=>by
  obtain ⟨tm,p1,p2⟩:=aO3 (show 3≤16 by omega) hTF.ex.plT y (List.mem_of_mem_take hy);have hz':m7 tm≤4096:=by have:=hTF.ex.sz;omega
  exact ⟨hT0 _ ⟨_,.snoc hs p1 hTF.ex.G hz'⟩,p1.W hz'⟩
 have cR8:(g++[s]).length≤16:=by simp;omega
 have h1:=bG2 hTF hs (fun y hy=>(hY y hy).1) (bd:=3) (m:=5) (w:=65536) om_ om_ om_;have h2:=ca9 hTF;have h3:=bW7 hTF.ex (bd:=3) (m:=5) om_ om_;have hA:∀ y∈(O4 3 s).take 5,aX9 (aI9 f T vs) y:=fun y hy=>br5 (hY y hy).1 cR8 hTF.dc om_;have hH:∀ y∈(O4 3 s).take 5,Pure Tryz.prog env 24 [.agg f.cells,.sl .any (vs.map PVl.cells++[y.cells]),.int .i64 65536] (ag3 (aI9 f T vs y 65536)):=fun y hy=>by
  have:=bD4 (hY y hy).1 cR8 hTF.dc om_ 65536 om_;rw [List.map_append] at this;exact this
 have hSm:∀ x y,x∈(O4 3 s).take 5→y∈(O4 3 s).take 5→Pure Tryz.prog env 14 [.agg x.cells,.agg y.cells] (.bool (PVl.same x y)):=fun x y hx hy=>cd5 x (hY x hx).2 y (hY y hy).2;have cA:=bg1 ((O4 3 s).take 5) 65536 hA om_;have sA:=fun x=>bh3 (H:=aI9 f T vs) (x:=x) ((O4 3 s).take 5) 65536 hA om_;have nA:=bh5 ((O4 3 s).take 5) 65536 hA om_;have hlen:((O4 3 s).take 5).length≤5:=by simp only [List.length_take];omega
 replace h1:Pure Tryz.prog env 22 [.agg (P7 g (fmQ 5 s f)).cells,.sl .any (vs.map PVl.cells),.int .i64 3,.int .i64 5,.int .i64 65536] (bw8 (as1 (aI9 f T vs) ((O4 3 s).take 5) 65536)):=h1;replace h3:Pure Tryz.prog env 11 [.agg s.cells,.int .i64 3,.int .i64 5] (.tup [.sl .any (((O4 3 s).take 5).map PVl.cells),.int .i64 0]):=h3;have hwv:B2 (vs.map PVl.cells)=vs.map PVl.cells:=N0 vs;have hwy:∀ y:PVl,B2 (vs.map PVl.cells++[y.cells])=vs.map PVl.cells++[y.cells]:=fun y=>by
  have:=N0 (vs++[y]);simpa only [List.map_append,List.map_cons,List.map_nil] using this
 have hwL:B2 (((O4 3 s).take 5).map PVl.cells)=((O4 3 s).take 5).map PVl.cells:=N0 _;clear hY hA hTF hT0 hs wf hz hk cR8;unfold bw8 at h1;generalize as1 (aI9 f T vs) ((O4 3 s).take 5) 65536=ra at *;generalize (O4 3 s).take 5=L at *;generalize P7 g (fmQ 5 s f)=F at *;obtain ⟨oa,ea⟩:=ra;simp only at h1 cA sA nA;have b1:vs.length * 64≤140737488355328:=by omega
 have b2:vs.length≤140737488355328:=by omega
 have b3:(vs.length+1) * 64≤140737488355328:=by omega
 have b4:vs.length+1≤140737488355328:=by omega
 have zl:0+vs.length=vs.length:=Nat.zero_add _;by_cases hz:ea=0
 ·subst hz
  have n0:((0:Int) != 0)=false:=rfl;cases oa with
  | some xa =>
   obtain ⟨_,i0,p1,⟨u,p2⟩,p3⟩:=sA xa rfl;have hHx:=hH xa (List.mem_of_getElem? p1);rw [p2] at hHx;replace hHx:Pure Tryz.prog env 24 [.agg f.cells,.sl .any (vs.map PVl.cells++[xa.cells]),.int .i64 65536] (.tup [.bool true,.int .i64 u,.int .i64 0]):=hHx;have hSx:=hSm xa xa (List.mem_of_getElem? p1) (List.mem_of_getElem? p1);rw [PVl.O6] at hSx;have hBf:∀ (j:Nat) (y:PVl),j<i0→L[j]? = some y→∃ u:Nat,Pure Tryz.prog env 24 [.agg f.cells,.sl .any (vs.map PVl.cells++[y.cells]),.int .i64 65536] (.tup [.bool false,.int .i64 u,.int .i64 0]) ∧
     Pure Tryz.prog env 14 [.agg xa.cells,.agg y.cells] (.bool false):=by
    intro j y hj hy;obtain ⟨u',q⟩:=p3 j y hj hy;have q1:=hH y (List.mem_of_getElem? hy);rw [q] at q1;refine ⟨u',q1,?_⟩;have q2:=hSm xa y (List.mem_of_getElem? p1) (List.mem_of_getElem? hy);rwa [PVl.bR2 (fun e=>by subst e;rw [p2] at q;cases q)] at q2
   have hi0:i0<L.length:=(List.getElem?_eq_some_iff.1 p1).1;simp only [Option.getD_some,Option.isSome_some] at h1;clear sA nA cA hH hSm p2 p3;intro h;refine en_ Tryz.func6 [.tmp 2] fun g0 w0 gen b7 hfr c6 m0=>?_
   repeat' (first
    |(refine ⟨?_,?_⟩;focus ((repeat' (first|refine ⟨?_,?_⟩|refine .inr ?_));all_goals kernel_rfl))
    | (first|refine wp rfl ?_|refine spt rfl ?_|refine spf rfl ?_|(refine spl (fun hc=>?_) fun hc=>?_)<;>(try rw [beq_iff_eq] at hc)<;>try simp only [hc]|(refine gs (fun hb=>?_) fun hb=>?_)<;>try simp only [Bool.not_true,Bool.not_false] at hb|refine cp hS ?_|refine cp hF ?_|refine aN7 ⟨gen,1000,0⟩ (hN) (by first|exact c6 _ _|simp only [go_sem, *]) ?_|(refine ct (Tw _) ?_ ?_;focus ((simp only [go_sem, *]<;>rfl);done))|refine cp h1 ?_|refine cp h2 ?_|refine cp h3 ?_)<;>try simp only [go_sem, *])
   clear hS hF hN Tw h1 h2 h3;refine ar_ [5,6,7,11,61] [⟨gen,7,7⟩,⟨gen,10,8⟩] (fun i σ=>g9 h σ.h∧i≤i0) (L).length ?_ ?_ ?_
   ·simp only [go_sem, *]
    first|exact ag_|exact ⟨ag_,om_⟩
   ·
    intro i σ gr0 l6 hgn hlt jI jN jS ⟨jA,hle⟩;obtain ⟨jT,jB⟩:=jS;simp only [go_sem] at jT jB;obtain ⟨hgf,m6,n7,n8⟩:=rnd hgn l6 jA;obtain ⟨x,hx,hxm,hm⟩:=rnx hlt;clear hgn;have hwi:=hwy x;rcases Nat.lt_or_ge i i0 with aO0|dq9
    ·obtain ⟨u',q1,q2⟩:=hBf i x aO0 hx
     have dl9:i+1≤i0:=aO0;clear hBf hHx hSx p1 hwy
     first|refine wq_ ?_|exact wk_
     all_goals first|exact ag_|exact ⟨ag_,dl9⟩|skip
    ·obtain rfl:i=i0:=by omega
     rw [p1] at hx;cases hx;clear hBf hwy;exact wk_
   ·
    intro σ ga0 l9 hgn jS ⟨jA,hle⟩;obtain ⟨jT,jB⟩:=jS;simp only [go_sem] at jT jB;obtain ⟨hgf,m6,n9,o0⟩:=rnd hgn l9 jA;clear hgn;omega
  | none =>
   have hN0:=nA rfl rfl;have hB0:∀ y∈L,∃ u:Nat,Pure Tryz.prog env 24 [.agg f.cells,.sl .any (vs.map PVl.cells++[y.cells]),.int .i64 65536] (.tup [.bool false,.int .i64 u,.int .i64 0]):=by
    intro y hy;obtain ⟨u',q⟩:=hN0 y hy;have q1:=hH y hy;rw [q] at q1;exact ⟨u',q1⟩
   simp only [Option.getD_none,Option.isSome_none] at h1;rw [aB1] at h1;clear sA nA cA hH hSm hN0;intro h;refine en_ Tryz.func6 [.tmp 2] fun g0 w0 gen b7 hfr c6 m0=>?_
   repeat' (first
    |(refine ⟨?_,?_⟩;focus ((repeat' (first|refine ⟨?_,?_⟩|refine .inr ?_));all_goals kernel_rfl))
    | (first|refine wp rfl ?_|refine spt rfl ?_|refine spf rfl ?_|(refine spl (fun hc=>?_) fun hc=>?_)<;>(try rw [beq_iff_eq] at hc)<;>try simp only [hc]|(refine gs (fun hb=>?_) fun hb=>?_)<;>try simp only [Bool.not_true,Bool.not_false] at hb|refine cp hS ?_|refine cp hF ?_|refine aN7 ⟨gen,1000,0⟩ (hN) (by first|exact c6 _ _|simp only [go_sem, *]) ?_|(refine ct (Tw _) ?_ ?_;focus ((simp only [go_sem, *]<;>rfl);done))|refine cp h1 ?_|refine cp h2 ?_|refine cp h3 ?_)<;>try simp only [go_sem, *])
   clear hS hF hN Tw h1 h2 h3;refine ar_ [5,6,7,11,61] [⟨gen,7,7⟩,⟨gen,10,8⟩] (fun i σ=>g9 h σ.h∧True) (L).length ?_ ?_ ?_
   ·simp only [go_sem, *]
    first|exact ag_|exact ⟨ag_,trivial⟩
   ·
    intro i σ gr0 l6 hgn hlt jI jN jS ⟨jA,_⟩;obtain ⟨jT,jB⟩:=jS;simp only [go_sem] at jT jB;obtain ⟨hgf,m6,n7,n8⟩:=rnd hgn l6 jA;obtain ⟨x,hx,hxm,hm⟩:=rnx hlt;clear hgn;have hwi:=hwy x;obtain ⟨u',q1⟩:=hB0 x hxm;clear hB0 hwy
    first|refine wq_ ?_|exact wk_
    all_goals first|exact ag_|exact ⟨ag_,trivial⟩|skip
   ·
    intro σ ga0 l9 hgn jS ⟨jA,_⟩;obtain ⟨jT,jB⟩:=jS;simp only [go_sem] at jT jB;obtain ⟨hgf,m6,n9,o0⟩:=rnd hgn l9 jA;clear hgn;clear hB0 hwy;exact wk_
 ·have hc:(ea != 0)=true:=by simpa using hz
  have hl5:=cF7 ea;rw [show (ea==5||ea==4)=true by rcases cA with h|h|h;exact absurd h hz;rw [h];rfl;rw [h];rfl] at hl5;clear sA nA cA hz hH hSm h2 h3;generalize oa.isSome=ba at *;generalize oa.getD bA8=xa at *;intro h;refine en_ Tryz.func6 [.tmp 2] fun g0 w0 gen b7 hfr c6 m0=>?_
  repeat' (first
   |(refine ⟨?_,?_⟩;focus ((repeat' (first|refine ⟨?_,?_⟩|refine .inr ?_));all_goals kernel_rfl))
   |exact hin _|exact agf as_
   | (first|refine wp rfl ?_|refine spt rfl ?_|refine spf rfl ?_|(refine spl (fun hc=>?_) fun hc=>?_)<;>(try rw [beq_iff_eq] at hc)<;>try simp only [hc]|(refine gs (fun hb=>?_) fun hb=>?_)<;>try simp only [Bool.not_true,Bool.not_false] at hb|refine cp hS ?_|refine cp hF ?_|refine aN7 ⟨gen,1000,0⟩ (hN) (by first|exact c6 _ _|simp only [go_sem, *]) ?_|(refine ct (Tw _) ?_ ?_;focus ((simp only [go_sem, *]<;>rfl);done))|refine cp h1 ?_|refine cp hl5 ?_|refine A9 b7 ?_ ?_ ?_)<;>try simp only [go_sem, *])
end Go.Proofs.YteaijonkbbkkjaaGreatDoor
