/-
 Walks: the law of TableFalse.
-/
import Derived.Test.YtmnplkmphgkooaaGreatDoorTp
import Derived.Test.YtmnplkmphgkooaaGreatDoorTv
set_option linter.unusedSimpArgs false
set_option linter.unusedVariables false
set_option maxRecDepth 20000
set_option maxHeartbeats 8000000
namespace Go.Proofs.YtmnplkmphgkooaaGreatDoor
open Go GoAbs Go.Proofs
theorem c_limits40 (e:Int):Pure Tryz.prog env 16 [.int .i64 e] (.bool (e==4||e==5||e==3)):=by
 intro h
 generalize hv:(e==4||e==5||e==3)=v
 refine en Tryz.func16 [.tmp 2] rfl rfl fun g0 w0 gen hrel hfr hfr' hres=>?_
 repeat' (first
  |exact hin _|exact agf (by assumption)
  | (first|refine wp rfl ?_|(refine gs (fun hb=>?_) fun hb=>?_)<;>try simp only [Bool.not_true,Bool.not_false] at hb|refine finF hrel ?_ ?_ ?_)<;>try simp only [go_sem, *])
 all_goals (rw [← hv];simp_all)
theorem c_playStep (l:List Int) (hl:l.length≤1000) (a:Nat):∃ g a',FunN g∧tmSz g≤600∧∀ d,Turns Tryz.prog env 7 [.ptr d 0] d (.box (deckC l a)) (.agg g.cells) (.box (deckC l a')):=by
 obtain ⟨b,a1,mb,wb,hT⟩:=c_Term l hl 2 [tNat] tNat a (by simp only [List.mem_singleton];rintro y rfl;exact ⟨.nat,by rw [tyH_nat];omega⟩) .nat (by rw [tyH_nat];omega) (by rw [tyH_nat];have e:Int.toNat 2=2:=rfl;simp) (by rw [tyH_nat];omega)
 obtain ⟨rb,zb,tb⟩:=mk_term (n:=2) (by omega) (by simp only [List.mem_singleton];rintro y rfl;exact .nat) (by simp) .nat (by rw [tySz_nat];omega) mb
 have hF:FunN (tmT 2 tNat [b]):=by
  refine ⟨.lam1 tNN tb,.lam ⟨.nat,by rw [tySz_nat];omega⟩ rb.gd,tmT_W1 tNat_W wb,?_,by rw [tmSz_T1];omega,b,rfl,tb⟩
  have:=rb.l
  unfold tmT
  simp [Tm.least,Tm.leastL]
  exact this
 refine ⟨_,a1,hF,by rw [tmSz_T1];omega,fun d=>?_⟩
 have h1:=c_playNat
 have h3:=c_r24LamT tNat b
 replace hT:=hT d
 simp only [List.map_cons,List.map_nil] at hT
 clear hF mb rb zb tb wb
 generalize tmT 2 tNat [b]=t at *
 have hk:tNat.kind=1:=rfl
 generalize tNat=N at *
 intro h hd
 refine en Tryz.func7 [.cell 2 32] rfl rfl fun g0 w0 gen hrel hfr hfr' hres=>?_
 have f1:=fresh_ne hfr hd
 have f2:=fresh_ne' hfr hd
 repeat' (first
  |exact hin _|exact agf (by assumption)
  | (first|refine wp rfl ?_|refine cp h1 ?_|refine ct (hT) (by simp only [go_sem, *]<;>rfl) ?_|refine cp h3 ?_|refine finF hrel ?_ ?_ ?_|refine finT hrel hd ?_ ?_ ?_ ?_ ?_)<;>try simp only [go_sem, *])
theorem c_TableFalse (l:List Int):Pure Tryz.prog env 3 [.sl .any (ints l)] (.bool true):=by
 have hS:=c_awake40
 have hF:=c_Few l
 cases hf:decide ((l.length:Int)≤500) with
 | false =>
  rw [hf] at hF
  clear hf
  intro h
  refine en Tryz.func3 [.tmp 2] rfl rfl fun g0 w0 gen hrel hfr hfr' hres=>?_
  repeat' (first
   |(refine ⟨?_,?_⟩;focus ((repeat' (first|refine ⟨?_,?_⟩|refine .inr ?_));all_goals kernel_rfl))
   |exact hin _|exact agf (by assumption)
   | (first|refine wp rfl ?_|refine spt rfl ?_|refine spf rfl ?_|(refine spl (fun hc=>?_) fun hc=>?_)<;>(try rw [beq_iff_eq] at hc)<;>try simp only [hc]|(refine gs (fun hb=>?_) fun hb=>?_)<;>try simp only [Bool.not_true,Bool.not_false] at hb|refine cp hS ?_|refine cp hF ?_|refine finF hrel ?_ ?_ ?_)<;>try simp only [go_sem, *])
 | true =>
 rw [hf] at hF
 have hl:l.length≤1000:=by simp at hf;omega
 clear hf
 have hN:=c_New l
 obtain ⟨g,a1,hg,zg,hP⟩:=c_playStep l hl 0
 obtain ⟨v,tm,a2,hv,zv,hV⟩:=c_ValueNat l hl a1
 obtain ⟨n,rfl,rfl⟩:∃ n:Nat,v=.mk 1 n [] []∧tm=numT n:=by
  generalize hT:tNat=T at hv
  cases hv with
  | num n=>exact ⟨n,rfl,rfl⟩
  | list=>simp [tNat,tList] at hT
  | unit=>simp [tNat,tUnit] at hT
  | pair=>simp [tNat,tPair] at hT
 have hn:n≤100:=by rw [tmSz_num] at zv;omega
 have hv8:(PVl.mk 1 n [] []).cells=numVal n:=by rw [PVl.cells_eq];rfl
 rw [hv8] at hV
 have hb:=hg.bad (by omega)
 obtain ⟨G,hG⟩:=hg.den
 have hB:=Den.bad hg hG
 have r1:=c_RowN hg hb hn
 have r2:=c_RowN hg hg hn
 have q1:=c_playNat
 have q2:=c_asked g
 have q3:=c_r24VarI 0
 have q4:=c_r24App g (tmVar 0)
 have q5:=c_r24Node 5 [tm0 3 [g,tmVar 0]]
 have q6:=c_r24LamT tNat (tm0 5 [tm0 3 [g,tmVar 0]])
 change Pure Tryz.prog env _ _ (.agg (badT g).cells) at q6
 simp only [List.map_cons,List.map_nil] at q5
 have l5:=c_limits40 5
 have e5:((5:Int)==4||(5:Int)==5||(5:Int)==3)=true:=rfl
 rw [e5] at l5
 have l0:=c_limits40 0
 have e0:((0:Int)==4||(0:Int)==5||(0:Int)==3)=false:=rfl
 rw [e0] at l0
 have n5:((5:Int) != 0)=true:=rfl
 have n0:((0:Int) != 0)=false:=rfl
 have hnl:(numVal n).length=4:=rfl
 have hno:(numVal n).all oneV=true:=rfl
 have key:∀ {k1 w1 k2 w2:Nat} {b1 b2:Bool},k1≤100000→k2≤100000→(∀ G' T:Nat→Nat,Den [] g (.fn .nat .nat) G'→Den [] (badT g) (.fn .nat .nat) T→k1=T n∧(b1=true↔T n=G' n)) →
   (∀ G' T:Nat→Nat,Den [] g (.fn .nat .nat) G'→Den [] g (.fn .nat .nat) T→k2=T n∧(b2=true↔T n=G' n)) →
   b1=false∧b2=true∧IntKind.i64.wrap ((k2:Int)+1)=(k1:Int):=fun {k1 w1 k2 w2 b1 b2} hk1 hk2 m1 m2=>by
  obtain ⟨e1,i1⟩:=m1 G _ hG hB
  obtain ⟨e2,i2⟩:=m2 G _ hG hG
  refine ⟨?_,i2.2 rfl,?_⟩
  ·cases b1 with
   | false=>rfl
   | true=>have:=i1.1 rfl;omega
  ·exact wrap_eq (by omega) (by omega) (by omega)
 clear hv zv hv8 hg hb zg hG hB
 generalize askF g=F at *
 generalize badT g=B at *
 generalize tm0 5 [tm0 3 [g,tmVar 0]]=t2 at *
 generalize tm0 3 [g,tmVar 0]=t1 at *
 generalize tmVar 0=t0 at *
 have hkN:tNat.kind=1:=rfl
 generalize tNat=N at *
 rcases r1 with r1|⟨k1,w1,b1,hk1,r1,m1⟩<;>rcases r2 with r2|⟨k2,w2,b2,hk2,r2,m2⟩
 ·clear key
  unfold noRow at *
  unfold numVal at *
  intro h
  refine en Tryz.func3 [.tmp 2] rfl rfl fun g0 w0 gen hrel hfr hfr' hres=>?_
  repeat' (first
   |(refine ⟨?_,?_⟩;focus ((repeat' (first|refine ⟨?_,?_⟩|refine .inr ?_));all_goals kernel_rfl))
   |exact hin _|exact agf (by assumption)
   | (first|refine wp rfl ?_|refine spt rfl ?_|refine spf rfl ?_|(refine spl (fun hc=>?_) fun hc=>?_)<;>(try rw [beq_iff_eq] at hc)<;>try simp only [hc]|(refine gs (fun hb=>?_) fun hb=>?_)<;>try simp only [Bool.not_true,Bool.not_false] at hb|refine cp hS ?_|refine cp hF ?_|refine Call1_new ⟨gen,1000,0⟩ (hN) (by first|exact hfr' _ _|simp only [go_sem, *]) ?_|(refine ct (hP _) ?_ ?_;focus ((simp only [go_sem, *]<;>rfl);done))|refine cp q2 ?_|refine cp q1 ?_|(refine ct (hV _) ?_ ?_;focus ((simp only [go_sem, *]<;>rfl);done))|refine cp q3 ?_|refine cp q4 ?_|refine cp q5 ?_|refine cp q6 ?_|refine cp r1 ?_|refine cp r2 ?_|refine cp l5 ?_|refine cp l0 ?_|refine finF hrel ?_ ?_ ?_)<;>try simp only [go_sem, *])
 ·clear key m2
  unfold noRow rowC at *
  unfold numVal at *
  intro h
  refine en Tryz.func3 [.tmp 2] rfl rfl fun g0 w0 gen hrel hfr hfr' hres=>?_
  repeat' (first
   |(refine ⟨?_,?_⟩;focus ((repeat' (first|refine ⟨?_,?_⟩|refine .inr ?_));all_goals kernel_rfl))
   |exact hin _|exact agf (by assumption)
   | (first|refine wp rfl ?_|refine spt rfl ?_|refine spf rfl ?_|(refine spl (fun hc=>?_) fun hc=>?_)<;>(try rw [beq_iff_eq] at hc)<;>try simp only [hc]|(refine gs (fun hb=>?_) fun hb=>?_)<;>try simp only [Bool.not_true,Bool.not_false] at hb|refine cp hS ?_|refine cp hF ?_|refine Call1_new ⟨gen,1000,0⟩ (hN) (by first|exact hfr' _ _|simp only [go_sem, *]) ?_|(refine ct (hP _) ?_ ?_;focus ((simp only [go_sem, *]<;>rfl);done))|refine cp q2 ?_|refine cp q1 ?_|(refine ct (hV _) ?_ ?_;focus ((simp only [go_sem, *]<;>rfl);done))|refine cp q3 ?_|refine cp q4 ?_|refine cp q5 ?_|refine cp q6 ?_|refine cp r1 ?_|refine cp r2 ?_|refine cp l5 ?_|refine cp l0 ?_|refine finF hrel ?_ ?_ ?_)<;>try simp only [go_sem, *])
 ·clear key m1
  unfold noRow rowC at *
  unfold numVal at *
  intro h
  refine en Tryz.func3 [.tmp 2] rfl rfl fun g0 w0 gen hrel hfr hfr' hres=>?_
  repeat' (first
   |(refine ⟨?_,?_⟩;focus ((repeat' (first|refine ⟨?_,?_⟩|refine .inr ?_));all_goals kernel_rfl))
   |exact hin _|exact agf (by assumption)
   | (first|refine wp rfl ?_|refine spt rfl ?_|refine spf rfl ?_|(refine spl (fun hc=>?_) fun hc=>?_)<;>(try rw [beq_iff_eq] at hc)<;>try simp only [hc]|(refine gs (fun hb=>?_) fun hb=>?_)<;>try simp only [Bool.not_true,Bool.not_false] at hb|refine cp hS ?_|refine cp hF ?_|refine Call1_new ⟨gen,1000,0⟩ (hN) (by first|exact hfr' _ _|simp only [go_sem, *]) ?_|(refine ct (hP _) ?_ ?_;focus ((simp only [go_sem, *]<;>rfl);done))|refine cp q2 ?_|refine cp q1 ?_|(refine ct (hV _) ?_ ?_;focus ((simp only [go_sem, *]<;>rfl);done))|refine cp q3 ?_|refine cp q4 ?_|refine cp q5 ?_|refine cp q6 ?_|refine cp r1 ?_|refine cp r2 ?_|refine cp l5 ?_|refine cp l0 ?_|refine finF hrel ?_ ?_ ?_)<;>try simp only [go_sem, *])
 ·obtain ⟨rfl,rfl,hw⟩:=key (w1:=w1) (w2:=w2) hk1 hk2 m1 m2
  clear key m1 m2
  unfold rowC at *
  unfold numVal at *
  intro h
  refine en Tryz.func3 [.tmp 2] rfl rfl fun g0 w0 gen hrel hfr hfr' hres=>?_
  repeat' (first
   |(refine ⟨?_,?_⟩;focus ((repeat' (first|refine ⟨?_,?_⟩|refine .inr ?_));all_goals kernel_rfl))
   |exact hin _|exact agf (by assumption)
   | (first|refine wp rfl ?_|refine spt rfl ?_|refine spf rfl ?_|(refine spl (fun hc=>?_) fun hc=>?_)<;>(try rw [beq_iff_eq] at hc)<;>try simp only [hc]|(refine gs (fun hb=>?_) fun hb=>?_)<;>try simp only [Bool.not_true,Bool.not_false] at hb|refine cp hS ?_|refine cp hF ?_|refine Call1_new ⟨gen,1000,0⟩ (hN) (by first|exact hfr' _ _|simp only [go_sem, *]) ?_|(refine ct (hP _) ?_ ?_;focus ((simp only [go_sem, *]<;>rfl);done))|refine cp q2 ?_|refine cp q1 ?_|(refine ct (hV _) ?_ ?_;focus ((simp only [go_sem, *]<;>rfl);done))|refine cp q3 ?_|refine cp q4 ?_|refine cp q5 ?_|refine cp q6 ?_|refine cp r1 ?_|refine cp r2 ?_|refine cp l5 ?_|refine cp l0 ?_|refine finF hrel ?_ ?_ ?_)<;>try simp only [go_sem, *])
  all_goals exact beq_self_eq_true _
end Go.Proofs.YtmnplkmphgkooaaGreatDoor
