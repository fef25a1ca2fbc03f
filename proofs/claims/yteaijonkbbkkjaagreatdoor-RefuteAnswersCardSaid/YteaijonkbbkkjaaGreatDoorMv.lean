/-
 Walks: several parts in one text.
-/
import Derived.Test.YteaijonkbbkkjaaGreatDoorNy
import Derived.Test.YteaijonkbbkkjaaGreatDoorAbsDd
import Derived.Test.YteaijonkbbkkjaaGreatDoorOd
import Derived.Test.YteaijonkbbkkjaaGreatDoorGq
import Derived.Test.YteaijonkbbkkjaaGreatDoorNz
import Derived.Test.YteaijonkbbkkjaaGreatDoorMh
import Derived.Test.YteaijonkbbkkjaaGreatDoorMr
import Derived.Test.YteaijonkbbkkjaaGreatDoorAbsDe
set_option linter.unusedSimpArgs false
set_option linter.unusedVariables false
set_option maxRecDepth 20000
set_option maxHeartbeats 4000000
namespace Go.Proofs.YteaijonkbbkkjaaGreatDoor
open Go GoAbs Go.Proofs
theorem bx0:∀ t:Tm,TmW t→∀ a:Int,Pure Tryz.prog env 144 [.agg t.cells,.int .i64 a] (.bool (t.aB2 a)):=by
 intro t
 induction t using Tm.ind with|h t ih=>?_
 intro ht a h;have hlen:=ht.len;have ih':∀ x∈t.args,Pure Tryz.prog env 144 [.agg x.cells,.int .i64 (x4 a (r6 t.kind))] (.bool (x.aB2 (x4 a (r6 t.kind)))):=fun x hx=>ih x hx (ht.arg hx) _;clear ih;have hB:=aC6 t;have hv0:=(t.bP8 a).symm;have hw:IntKind.i64.wrap (a+r6 t.kind)=x4 a (r6 t.kind):=rfl;generalize t.aB2 a=v at hv0 ⊢;generalize x4 a (r6 t.kind)=a2 at *;cases hk:(t.kind==1&&t.index==a) with
 | true =>
  have hk1:(t.kind==1)=true:=by cases h1:(t.kind==1)<;>simp_all
  have hk2:(t.index==a)=true:=by cases h1:(t.index==a)<;>simp_all
  rw [hk,Bool.true_or] at hv0;subst hv0;clear hk ih' hw hB;exact ek_ Tryz.func144 [.tmp 4]
 | false =>
  rw [hk,Bool.false_or] at hv0;have hkk:((t.kind==1)=true∧(t.index==a)=false)∨(t.kind==1)=false:=by cases h1:(t.kind==1)<;>cases h2:(t.index==a)<;>simp_all
  clear hk;have hv1:(t.args.drop 0).any (fun x=>x.aB2 a2)=v:=hv0;clear hv0;rcases hkk with ⟨hk1,hk2⟩|hk1
  all_goals
   refine en_ Tryz.func144 [.tmp 4] fun g0 w0 gen b7 hfr c6 m0=>?_;refine wq_ ?_;refine ar_ [1,2,17] [⟨gen,0,0⟩] (fun i σ=>g9 h σ.h∧(t.args.drop i).any (fun x=>x.aB2 a2)=v) (t.args).length ?_ ?_ ?_
   ·simp only [go_sem, *]
    first|exact hv1|exact ⟨ag_,hv1⟩
   ·clear hv1
    intro i σ gr0 l6 hgn hlt jI jN jS ⟨jA,jv⟩;obtain ⟨jT,jB⟩:=jS;simp only [go_sem] at jT jB;obtain ⟨hgf,m6,n7,n8⟩:=rnd hgn l6 jA;obtain ⟨x,hx,hxm,hm⟩:=rnx hlt;clear hgn;rw [A2 hx,List.any_cons] at jv;have hc:=ih' x hxm;clear ih';cases hn:x.aB2 a2 with
    | true =>
     rw [hn] at hc;rw [hn,Bool.true_or] at jv;subst jv;exact wk_
    | false =>
     rw [hn] at hc;rw [hn,Bool.false_or] at jv;refine wq_ ?_
     first|exact ag_|exact ⟨ag_,jv⟩
   ·clear hv1
    intro σ ga0 l9 hgn jS ⟨jA,jv⟩;obtain ⟨jT,jB⟩:=jS;simp only [go_sem] at jT jB;obtain ⟨hgf,m6,n9,o0⟩:=rnd hgn l9 jA;clear hgn;rw [List.drop_length,List.any_nil] at jv;subst jv;clear ih';exact wk_
def au1 (f:Fm):V:=if R8 f then .tup [.bool (f.kind==4),.agg ((M9 f).up (-1) 1).cells,.agg (aa9 f).cells,.bool true]
 else .tup [.bool false,.agg C6.cells,.agg O3.cells,.bool false]
theorem M5 {f:Fm} (h:R8 f=false):au1 f=.tup [.bool false,.agg C6.cells,.agg O3.cells,.bool false]:=by unfold au1;rw [h];rfl
theorem ba9 (f:Fm) (hf:FmW f) (hg:f.G5=true) (hk0:f.kind=4∨f.kind=5∨f.kind=6∨f.kind=7)
  (hh:∀ a x u q:Fm × Tm,a.1∈f.args→x.1∈a.1.args→u.2∈x.1.r8→q.2∈u.2.args→q.2.aB2 0=decide (q.2.count 0>0)):Pure Tryz.prog env 88 [.agg f.cells] (au1 f):=by
 intro h;obtain ⟨a,ha,ga⟩:=Fm.aA4 hg hk0;have wa:FmW a:=hf.arg (by rw [ha];simp);have hb4:((4:Int) != 4)=false:=rfl;have hb5:((5:Int) != 5)=false:=rfl;have hb6:((6:Int) != 5)=true:=rfl;have hb7:((7:Int) != 5)=true:=rfl;have hc4:((5:Int)==4)=false:=rfl;have hc6:((6:Int)==4)=false:=rfl;have hc7:((7:Int)==4)=false:=rfl;have hzt:=Z8;have hzf:=aj2;obtain hk|hk|hk:f.kind=4∨f.kind=5∨(f.kind=6∨f.kind=7):=by omega
 rotate_left 2
 ·rw [M5 (bS2 hk)]
  rcases hk with hk|hk
  all_goals
   clear hk0 ga wa hf hg hh;exact ek_ Tryz.func88 [.tmp 2,.cell 3 65,.cell 4 45,.tmp 5]
 ·cases k1:(f.type.kind != 1) with
  | true =>
   rw [M5 (bk7 k1)];clear hk0 ga wa hf hg hh;exact ek_ Tryz.func88 [.tmp 2,.cell 3 65,.cell 4 45,.tmp 5]
  | false =>
  cases k2:(a.kind != 3) with
  | true =>
   rw [M5 (ck8 hk ha k2)];clear hk0 ga wa hf hg hh;exact ek_ Tryz.func88 [.tmp 2,.cell 3 65,.cell 4 45,.tmp 5]
  | false =>
  have hka:a.kind=3:=by simpa using k2
  obtain ⟨x,y,hx,gx,gy⟩:=Fm.an5 ga (.inr hka);have wx:FmW x:=wa.arg (by rw [hx];simp);have wy:FmW y:=wa.arg (by rw [hx];simp);cases k3:(x.kind != 1) with
  | true =>
   rw [M5 (bS9 ha hx k3)];clear hk0 ga wa hf hg gx gy wx wy hka hh;exact ek_ Tryz.func88 [.tmp 2,.cell 3 65,.cell 4 45,.tmp 5]
  | false =>
  have hkx:x.kind=1:=by simpa using k3
  obtain ⟨u,v,hu,gu,gv⟩:=Fm.aJ5 gx hkx;have wu:TmW u:=wx.term (by rw [hu];simp);cases k4:(u.kind != 3) with
  | true =>
   rw [M5 (bM6 ha hx hu k4)];clear hk0 ga wa hf hg gx gy wx wy hka hkx wu gu gv hh;exact ek_ Tryz.func88 [.tmp 2,.cell 3 65,.cell 4 45,.tmp 5]
  | false =>
  have hku:u.kind=3:=by simpa using k4
  obtain ⟨p,q,hq,gp,gq⟩:=Tm.aI7 gu hku;have wq:TmW q:=wu.arg (by rw [hq];simp);have hC:=bx0 q wq 0;rw [hh (a,C6) (x,C6) (O3,u) (O3,q) (by rw [ha];simp) (by rw [hx];simp) (by rw [hu];simp) (by rw [hq];simp)] at hC;have hL:=ba3 (u5 0) q (D4 0) wq;have hV:=aB8 0;have hS:=aQ3 x wx _ (av2 (D4 0) wq);have hU:=bn2 (-1) q wq 1;have hD:=ao2 (q.up (-1) 1) (ci9 (b := -1) q 1 wq);have hE:=aj5 y wy;clear hh;cases k5:decide (q.count 0>0) with
  | true =>
   rw [M5 (bT9 ha hx hu hq k5)];rw [k5] at hC;clear hk0 ga wa hf hg gx gy wx wy hka hkx wu gu gv gp gq hku wq hL hV hS hU hD hE;exact ek_ Tryz.func88 [.tmp 2,.cell 3 65,.cell 4 45,.tmp 5]
  | false =>
  rw [k5] at hC;cases k6:Fm.same x (J3 (u5 0) q) with
  | false =>
   rw [M5 (bR6 ha hx hu hq k6)];rw [k6] at hS;clear hk0 ga wa hf hg gx gy wx wy hka hkx wu gu gv gp gq hku wq k6 hU hD hE;generalize J3 (u5 0) q=z at *;exact ek_ Tryz.func88 [.tmp 2,.cell 3 65,.cell 4 45,.tmp 5]
  | true =>
   obtain ⟨e1,e2,e3⟩:=aV0 (.inl ⟨hk,k2⟩) k1 ha hx k3 hu k4 hq k5 k6;unfold au1;rw [e1,e2,e3];rw [k6] at hS;clear hk0 ga wa hf hg gx gy wx wy hka hkx wu gu gv gp gq hku wq k6 e1 e2 e3;generalize J3 (u5 0) q=z at *;generalize q.up (-1) 1=q' at *;exact ek_ Tryz.func88 [.tmp 2,.cell 3 65,.cell 4 45,.tmp 5]
 ·cases k1:(f.type.kind != 1) with
  | true =>
   rw [M5 (bk7 k1)];clear hk0 ga wa hf hg hh;exact ek_ Tryz.func88 [.tmp 2,.cell 3 65,.cell 4 45,.tmp 5]
  | false =>
  cases k2:(a.kind != 2) with
  | true =>
   rw [M5 (ct9 hk ha k2)];clear hk0 ga wa hf hg hh;exact ek_ Tryz.func88 [.tmp 2,.cell 3 65,.cell 4 45,.tmp 5]
  | false =>
  have hka:a.kind=2:=by simpa using k2
  obtain ⟨x,y,hx,gx,gy⟩:=Fm.an5 ga (.inl hka);have wx:FmW x:=wa.arg (by rw [hx];simp);have wy:FmW y:=wa.arg (by rw [hx];simp);cases k3:(x.kind != 1) with
  | true =>
   rw [M5 (bS9 ha hx k3)];clear hk0 ga wa hf hg gx gy wx wy hka hh;exact ek_ Tryz.func88 [.tmp 2,.cell 3 65,.cell 4 45,.tmp 5]
  | false =>
  have hkx:x.kind=1:=by simpa using k3
  obtain ⟨u,v,hu,gu,gv⟩:=Fm.aJ5 gx hkx;have wu:TmW u:=wx.term (by rw [hu];simp);cases k4:(u.kind != 3) with
  | true =>
   rw [M5 (bM6 ha hx hu k4)];clear hk0 ga wa hf hg gx gy wx wy hka hkx wu gu gv hh;exact ek_ Tryz.func88 [.tmp 2,.cell 3 65,.cell 4 45,.tmp 5]
  | false =>
  have hku:u.kind=3:=by simpa using k4
  obtain ⟨p,q,hq,gp,gq⟩:=Tm.aI7 gu hku;have wq:TmW q:=wu.arg (by rw [hq];simp);have hC:=bx0 q wq 0;rw [hh (a,C6) (x,C6) (O3,u) (O3,q) (by rw [ha];simp) (by rw [hx];simp) (by rw [hu];simp) (by rw [hq];simp)] at hC;have hL:=ba3 (u5 0) q (D4 0) wq;have hV:=aB8 0;have hS:=aQ3 x wx _ (av2 (D4 0) wq);have hU:=bn2 (-1) q wq 1;have hD:=ao2 (q.up (-1) 1) (ci9 (b := -1) q 1 wq);have hE:=aj5 y wy;clear hh;cases k5:decide (q.count 0>0) with
  | true =>
   rw [M5 (bT9 ha hx hu hq k5)];rw [k5] at hC;clear hk0 ga wa hf hg gx gy wx wy hka hkx wu gu gv gp gq hku wq hL hV hS hU hD hE;exact ek_ Tryz.func88 [.tmp 2,.cell 3 65,.cell 4 45,.tmp 5]
  | false =>
  rw [k5] at hC;cases k6:Fm.same x (J3 (u5 0) q) with
  | false =>
   rw [M5 (bR6 ha hx hu hq k6)];rw [k6] at hS;clear hk0 ga wa hf hg gx gy wx wy hka hkx wu gu gv gp gq hku wq k6 hU hD hE;generalize J3 (u5 0) q=z at *;exact ek_ Tryz.func88 [.tmp 2,.cell 3 65,.cell 4 45,.tmp 5]
  | true =>
   obtain ⟨e1,e2,e3⟩:=aV0 (.inr ⟨hk,k2⟩) k1 ha hx k3 hu k4 hq k5 k6;unfold au1;rw [e1,e2,e3];rw [k6] at hS;clear hk0 ga wa hf hg gx gy wx wy hka hkx wu gu gv gp gq hku wq k6 e1 e2 e3;generalize J3 (u5 0) q=z at *;generalize q.up (-1) 1=q' at *;exact ek_ Tryz.func88 [.tmp 2,.cell 3 65,.cell 4 45,.tmp 5]
theorem br3:∀ (n:Nat) {f:Fm},z6 f≤n→n≤50000→FmG true f→f.least 536870912=true→f.G5=true→FmW f→Pure Tryz.prog env 52 [.agg f.cells] (.bool f.fl.d):=by
 intro n
 induction n with
 | zero =>
  intro f hn;obtain ⟨k,t,l,a⟩:=f;rw [z6] at hn;omega
 | succ n ih =>
  intro f hn hb gf lf hg wf;cases gf with
  | @eq x y _ _ =>
   rw [Fm.bL3];have e:(M3 x y).cells=[.int .i64 1,.int .i64 0,.sl .any [],.sl .any [x.cells,y.cells],.sl .any []]:=by rw [M3,Fm.p9];rfl
   rw [e];clear e ih hn hg wf lf;intro h;exact ek_ Tryz.func52 [.tmp 2]
  | @two k a b hk ga gb =>
   rw [O0] at hn;rw [Fm.bJ2 hk];obtain ⟨a',b',eab,ja,jb⟩:=Fm.an5 hg hk;simp only [E8,Fm.args,List.cons.injEq,and_true] at eab;obtain ⟨rfl,rfl⟩:=eab;have h1:=ih om_ om_ ga (ad2 lf (by simp [E8,Fm.args])) ja (wf.arg (by simp [E8,Fm.args]));have h2:=ih om_ om_ gb (ad2 lf (by simp [E8,Fm.args])) jb (wf.arg (by simp [E8,Fm.args]));have e:(E8 k a b).cells=[.int .i64 k,.int .i64 0,.sl .any [],.sl .any [],.sl .any [a.cells,b.cells]]:=by rw [E8,Fm.p9];rfl
   rw [e];simp only;generalize a.fl.d=p at *;generalize b.fl.d=q at *;clear e ih hn hg wf lf ga gb ja jb;intro h;cases p with
   | true =>
    rw [Bool.true_and];rcases hk with rfl|rfl
    ·
     exact ek_ Tryz.func52 [.tmp 2]
    ·
     exact ek_ Tryz.func52 [.tmp 2]
   | false =>
    rw [Bool.false_and];rcases hk with rfl|rfl
    ·
     exact ek_ Tryz.func52 [.tmp 2]
    ·
     exact ek_ Tryz.func52 [.tmp 2]
  | @q k s a hk hs ga =>
   have gf:FmG true (fmQ k s a):=.q hk hs ga;have hk':k=4∨k=5∨k=6∨k=7:=by rcases hk with h|h|⟨_,h|h⟩<;>simp [h]
   have h1:=ba9 (fmQ k s a) wf hg hk' (gf.dg2 lf om_);have h4:4≤(fmQ k s a).kind:=by
    have:(fmQ k s a).kind=k:=rfl;omega
   have hkk:(fmQ k s a).kind=4∨(fmQ k s a).kind=5∨(fmQ k s a).kind=6∨(fmQ k s a).kind=7:=hk';have z1:((4:Int)==1)=false:=rfl;have z2:((5:Int)==1)=false:=rfl;have z3:((6:Int)==1)=false:=rfl;have z4:((7:Int)==1)=false:=rfl;cases hbn:R8 (fmQ k s a) with
   | false =>
    rw [M5 hbn] at h1;rw [Fm.cM0 h4 rfl hbn];have hzt:=Z8;have hzf:=aj2;clear ih hn hg wf lf ga gf hk hk' h4 hs hbn;generalize fmQ k s a=f at *;intro h;rcases hkk with hk|hk|hk|hk
    all_goals
     exact ek_ Tryz.func52 [.tmp 2]
   | true =>
    obtain ⟨x,y,hx,hy,jy⟩:=bq8 (f:=fmQ k s a) rfl (by
     obtain ⟨a',ea,ja⟩:=Fm.aA4 hg hk';simp only [fmQ,Fm.args,List.cons.injEq,and_true] at ea;subst ea;exact ja) hbn
    have ha:a∈(fmQ k s a).args:=by simp [fmQ,Fm.args]
    have hya:y∈a.args:=by rw [hx];simp
    have s1:=ac3 ha;have s2:=ac3 hya;have h2:=ih (f:=y) om_ om_ (ga.cV4 hya) (ad2 (ad2 lf ha) hya) jy ((wf.arg ha).arg hya);rw [Fm.cf7 h4 rfl hbn hx];unfold au1 at h1;rw [hbn,hy] at h1;simp only [if_true] at h1;simp only;generalize y.fl.d=p at *;clear ih hn hg wf lf ga gf hk hk' h4 hs hbn hx hy jy ha hya s1 s2;generalize M9 (fmQ k s a)=tq at *;generalize tq.up (-1) 1=tq at *;generalize fmQ k s a=f at *;generalize (f.kind==4)=kb at *;intro h;rcases hkk with hk|hk|hk|hk
    all_goals
     exact ek_ Tryz.func52 [.tmp 2]
end Go.Proofs.YteaijonkbbkkjaaGreatDoor
