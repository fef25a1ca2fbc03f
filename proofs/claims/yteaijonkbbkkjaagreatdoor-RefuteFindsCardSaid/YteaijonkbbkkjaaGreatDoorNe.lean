/-
 Walks: the machine of the program: a term, kind by kind.
-/
import Derived.Test.YteaijonkbbkkjaaGreatDoorMe
set_option linter.unusedSimpArgs false
set_option linter.unusedVariables false
set_option maxRecDepth 20000
set_option maxHeartbeats 4000000
namespace Go.Proofs.YteaijonkbbkkjaaGreatDoor
open Go GoAbs Go.Proofs
theorem c_evLim {d:GoAbs.Id} {most:Nat} {t:Tm} {ve w:V}:EvT2 d most most most true t ve w:=by
 unfold EvT2 evR outV mb
 simp only [if_true,Bool.not_true]
 intro h hd
 have k0:decide ((most:Int)≥(most:Int))=true:=by simp
 refine en_ Tryz.func263 [.tmp 6,.tmp 7] fun g0 w0 gen hrel hfr hfr' hres=>?_
 have f1:=fresh_ne hfr hd
 have f2:=fresh_ne' hfr hd
 exact wkT_
theorem c_evVar {d:GoAbs.Id} {most u i:Nat} {t:Tm} {ve v:V} (hu:u<most) (hm:most≤65536) (hk:t.kind=1) (hi:t.index=(i:Int)) (hv:IsI v)
  (hA:Pure Tryz.prog env 267 [ve,.int .i64 i] v) (hE:IsE ve):EvT2 d most u (u+1) false t ve v:=by
 unfold EvT2 evR outV mb
 simp only [Bool.false_eq_true,if_false,Bool.not_false]
 obtain ⟨v1,v2,rfl,wv,iv⟩:=hv
 intro h hd
 have k0:decide ((u:Int)≥(most:Int))=false:=by simp;omega
 have w0:=wrap_succ (i:=u) (by omega)
 clear hu hm
 refine en_ Tryz.func263 [.tmp 6,.tmp 7] fun g0 w0 gen hrel hfr hfr' hres=>?_
 have f1:=fresh_ne hfr hd
 have f2:=fresh_ne' hfr hd
 rcases hE with rfl|⟨vc,rfl,we,ie⟩
 all_goals
  exact wkT_
theorem c_evLam {d:GoAbs.Id} {most u:Nat} {t b:Tm} {ve:V} (hu:u<most) (hm:most≤65536) (hk:t.kind=2) (hb:t.args=[b]) (hE:IsE ve):EvT2 d most u (u+1) false t ve (cloV b ve):=by
 unfold EvT2 evR outV mb cloV
 simp only [Bool.false_eq_true,if_false,Bool.not_false]
 intro h hd
 have k0:decide ((u:Int)≥(most:Int))=false:=by simp;omega
 have w0:=wrap_succ (i:=u) (by omega)
 have hbc:=Tm.cells_eq b
 rw [hbc]
 simp only [List.cons_append,List.nil_append]
 clear hu hm
 refine en_ Tryz.func263 [.tmp 6,.tmp 7] fun g0 w0 gen hrel hfr hfr' hres=>?_
 have f1:=fresh_ne hfr hd
 have f2:=fresh_ne' hfr hd
 rcases hE with rfl|⟨vc,rfl,we,ie⟩
 all_goals
  exact wkT_
theorem c_evStop {d:GoAbs.Id} {most u u1:Nat} {t:Tm} {ve w:V} {vs:List V} (hu:u<most) (hm:most≤65536) (hk1:(t.kind==1)=false) (hk2:(t.kind==2)=false) (hE:IsE ve)
  (hl:vs.length≤2) (hv:∀ v∈vs,IsI v)
  (hA:Turns Tryz.prog env 268 [.ptr d 0,.sl .any (t.args.map Tm.cells),ve] d (mb (u+1) most) (.tup [.agg (pad3 vs),.bool false]) (mb u1 most)):EvT2 d most u u1 true t ve w:=by
 unfold EvT2 evR outV mb
 unfold mb at hA
 simp only [if_true,Bool.not_true]
 have k0:decide ((u:Int)≥(most:Int))=false:=by simp;omega
 have w0:=wrap_succ (i:=u) (by omega)
 clear hu hm
 match vs,hl with
 | [],_ =>
  rw [pad3_0] at hA
  clear hv
  intro h hd
  refine en_ Tryz.func263 [.tmp 6,.tmp 7] fun g0 w0 gen hrel hfr hfr' hres=>?_
  have f1:=fresh_ne hfr hd
  have f2:=fresh_ne' hfr hd
  rcases hE with rfl|⟨vc,rfl,we,ie⟩
  all_goals
   exact wkT_
 | [a],_ =>
  obtain ⟨a1,a2,rfl,aw,ai⟩:=hv a (by simp)
  rw [pad3_1] at hA
  clear hv
  intro h hd
  refine en_ Tryz.func263 [.tmp 6,.tmp 7] fun g0 w0 gen hrel hfr hfr' hres=>?_
  have f1:=fresh_ne hfr hd
  have f2:=fresh_ne' hfr hd
  rcases hE with rfl|⟨vc,rfl,we,ie⟩
  all_goals
   exact wkT_
 | [a,b],_ =>
  obtain ⟨a1,a2,rfl,aw,ai⟩:=hv a (by simp)
  obtain ⟨b1,b2,rfl,bw,bi⟩:=hv b (by simp)
  rw [pad3_2] at hA
  clear hv
  intro h hd
  refine en_ Tryz.func263 [.tmp 6,.tmp 7] fun g0 w0 gen hrel hfr hfr' hres=>?_
  have f1:=fresh_ne hfr hd
  have f2:=fresh_ne' hfr hd
  rcases hE with rfl|⟨vc,rfl,we,ie⟩
  all_goals
   exact wkT_
 | _::_::_::_,hl=>simp at hl
theorem c_ev3 {d:GoAbs.Id} {most u u1 u2:Nat} {t:Tm} {ve w:V} {a b c:V} (hu:u<most) (hm:most≤65536) (hk:t.kind=3) (hE:IsE ve) (haI:IsI a) (hbI:IsI b)
  (hA:Turns Tryz.prog env 268 [.ptr d 0,.sl .any (t.args.map Tm.cells),ve] d (mb (u+1) most) (.tup [.agg [a,b,.nili],.bool true]) (mb u1 most)) {o:Bool} (hw:o=false→IsI w) (hT:Turns Tryz.prog env 264 [.ptr d 0,a,.sl .any [[b]]] d (mb u1 most) (evR o w) (mb u2 most)):EvT2 d most u u2 o t ve (w):=by
 unfold EvT2 evR mb
 unfold mb at hA
 unfold mb evR at hT
 have xw:weak (outV o w)=outV o w:=by
  cases o with
  | true=>rfl
  | false=>obtain ⟨q1,q2,rfl,q3,_⟩:=hw rfl;simp [outV,weak,q3]
 have xi:∀ S,InV S (outV o w)=True:=by
  intro S
  cases o with
  | true=>simp [outV,InV]
  | false=>obtain ⟨q1,q2,rfl,_,q3⟩:=hw rfl;simp [outV,InV,q3]
 generalize outV o w=x at *
 clear hw
 obtain ⟨a1,a2,rfl,aw,ai⟩:=haI
 obtain ⟨b1,b2,rfl,bw,bi⟩:=hbI
 intro h hd
 have k0:decide ((u:Int)≥(most:Int))=false:=by simp;omega
 have w0:=wrap_succ (i:=u) (by omega)
 have x0:((0:Int)<((3:Nat):Int))=True:=by simp
 have x1:((1:Int)<((3:Nat):Int))=True:=by simp
 have x2:((2:Int)<((3:Nat):Int))=True:=by simp
 clear hu hm
 refine en_ Tryz.func263 [.tmp 6,.tmp 7] fun g0 w0 gen hrel hfr hfr' hres=>?_
 have f1:=fresh_ne hfr hd
 have f2:=fresh_ne' hfr hd
 rcases hE with rfl|⟨vc,rfl,we,ie⟩
 all_goals
  exact wkT_
theorem c_ev4 {d:GoAbs.Id} {most u u1:Nat} {t:Tm} {ve w:V} {a b c:V} (hu:u<most) (hm:most≤65536) (hk:t.kind=4) (hE:IsE ve)
  (hA:Turns Tryz.prog env 268 [.ptr d 0,.sl .any (t.args.map Tm.cells),ve] d (mb (u+1) most) (.tup [.agg [.nili,.nili,.nili],.bool true]) (mb u1 most)):EvT2 d most u u1 false t ve (intV 0):=by
 unfold EvT2 evR mb
 unfold mb at hA
 simp only [intV] at *
 unfold outV
 simp only [Bool.false_eq_true,if_false,Bool.not_false]
 intro h hd
 have k0:decide ((u:Int)≥(most:Int))=false:=by simp;omega
 have w0:=wrap_succ (i:=u) (by omega)
 have x0:((0:Int)<((3:Nat):Int))=True:=by simp
 have x1:((1:Int)<((3:Nat):Int))=True:=by simp
 have x2:((2:Int)<((3:Nat):Int))=True:=by simp
 clear hu hm
 refine en_ Tryz.func263 [.tmp 6,.tmp 7] fun g0 w0 gen hrel hfr hfr' hres=>?_
 have f1:=fresh_ne hfr hd
 have f2:=fresh_ne' hfr hd
 rcases hE with rfl|⟨vc,rfl,we,ie⟩
 all_goals
  first|refine wqT_ ?_|exact wkT_
 all_goals rfl
theorem c_ev5 {d:GoAbs.Id} {most u u1 n:Nat} {t:Tm} {ve w:V} {a b c:V} (hu:u<most) (hm:most≤65536) (hk:t.kind=5) (hE:IsE ve)
  (hA:Turns Tryz.prog env 268 [.ptr d 0,.sl .any (t.args.map Tm.cells),ve] d (mb (u+1) most) (.tup [.agg [intV n,.nili,.nili],.bool true]) (mb u1 most)) (hn:n≤100000):EvT2 d most u u1 false t ve (intV (n+1)):=by
 unfold EvT2 evR mb
 unfold mb at hA
 simp only [intV] at *
 unfold outV
 simp only [Bool.false_eq_true,if_false,Bool.not_false]
 have wn:=wrap_succ (i:=n) (by omega)
 intro h hd
 have k0:decide ((u:Int)≥(most:Int))=false:=by simp;omega
 have w0:=wrap_succ (i:=u) (by omega)
 have x0:((0:Int)<((3:Nat):Int))=True:=by simp
 have x1:((1:Int)<((3:Nat):Int))=True:=by simp
 have x2:((2:Int)<((3:Nat):Int))=True:=by simp
 clear hu hm
 refine en_ Tryz.func263 [.tmp 6,.tmp 7] fun g0 w0 gen hrel hfr hfr' hres=>?_
 have f1:=fresh_ne hfr hd
 have f2:=fresh_ne' hfr hd
 rcases hE with rfl|⟨vc,rfl,we,ie⟩
 all_goals
  exact wkT_
theorem c_ev6 {d:GoAbs.Id} {most u u1 u2:Nat} {t:Tm} {ve w:V} {a b c:V} (hu:u<most) (hm:most≤65536) (hk:t.kind=6) (hE:IsE ve) (haI:IsI a) (hbI:IsI b) (hcI:IsI c)
  (hA:Turns Tryz.prog env 268 [.ptr d 0,.sl .any (t.args.map Tm.cells),ve] d (mb (u+1) most) (.tup [.agg [a,b,c],.bool true]) (mb u1 most)) {o:Bool} (hw:o=false→IsI w) (hT:Turns Tryz.prog env 269 [.ptr d 0,.agg [a,b,c]] d (mb u1 most) (evR o w) (mb u2 most)):EvT2 d most u u2 o t ve (w):=by
 unfold EvT2 evR mb
 unfold mb at hA
 unfold mb evR at hT
 have xw:weak (outV o w)=outV o w:=by
  cases o with
  | true=>rfl
  | false=>obtain ⟨q1,q2,rfl,q3,_⟩:=hw rfl;simp [outV,weak,q3]
 have xi:∀ S,InV S (outV o w)=True:=by
  intro S
  cases o with
  | true=>simp [outV,InV]
  | false=>obtain ⟨q1,q2,rfl,_,q3⟩:=hw rfl;simp [outV,InV,q3]
 generalize outV o w=x at *
 clear hw
 obtain ⟨a1,a2,rfl,aw,ai⟩:=haI
 obtain ⟨b1,b2,rfl,bw,bi⟩:=hbI
 obtain ⟨c1,c2,rfl,cw,ci⟩:=hcI
 intro h hd
 have k0:decide ((u:Int)≥(most:Int))=false:=by simp;omega
 have w0:=wrap_succ (i:=u) (by omega)
 have x0:((0:Int)<((3:Nat):Int))=True:=by simp
 have x1:((1:Int)<((3:Nat):Int))=True:=by simp
 have x2:((2:Int)<((3:Nat):Int))=True:=by simp
 clear hu hm
 refine en_ Tryz.func263 [.tmp 6,.tmp 7] fun g0 w0 gen hrel hfr hfr' hres=>?_
 have f1:=fresh_ne hfr hd
 have f2:=fresh_ne' hfr hd
 rcases hE with rfl|⟨vc,rfl,we,ie⟩
 all_goals
  exact wkT_
theorem c_ev7 {d:GoAbs.Id} {most u u1:Nat} {t:Tm} {ve w:V} {a b c:V} (hu:u<most) (hm:most≤65536) (hk:t.kind=7) (hE:IsE ve)
  (hA:Turns Tryz.prog env 268 [.ptr d 0,.sl .any (t.args.map Tm.cells),ve] d (mb (u+1) most) (.tup [.agg [.nili,.nili,.nili],.bool true]) (mb u1 most)):EvT2 d most u u1 false t ve (.iface 267 .nilp):=by
 unfold EvT2 evR mb
 unfold mb at hA
 unfold outV
 simp only [Bool.false_eq_true,if_false,Bool.not_false]
 intro h hd
 have k0:decide ((u:Int)≥(most:Int))=false:=by simp;omega
 have w0:=wrap_succ (i:=u) (by omega)
 have x0:((0:Int)<((3:Nat):Int))=True:=by simp
 have x1:((1:Int)<((3:Nat):Int))=True:=by simp
 have x2:((2:Int)<((3:Nat):Int))=True:=by simp
 clear hu hm
 refine en_ Tryz.func263 [.tmp 6,.tmp 7] fun g0 w0 gen hrel hfr hfr' hres=>?_
 have f1:=fresh_ne hfr hd
 have f2:=fresh_ne' hfr hd
 rcases hE with rfl|⟨vc,rfl,we,ie⟩
 all_goals
  exact wkT_
theorem c_ev8 {d:GoAbs.Id} {most u u1 n:Nat} {t:Tm} {ve w:V} {a b c:V} (hu:u<most) (hm:most≤65536) (hk:t.kind=8) (hE:IsE ve) {l:List Nat}
  (hA:Turns Tryz.prog env 268 [.ptr d 0,.sl .any (t.args.map Tm.cells),ve] d (mb (u+1) most) (.tup [.agg [intV n,.iface 267 (cellV l),.nili],.bool true]) (mb u1 most)):EvT2 d most u u1 false t ve (.iface 267 (.el [.int .i64 n,cellV l] 0)):=by
 unfold EvT2 evR mb
 unfold mb at hA
 simp only [intV] at *
 unfold outV
 simp only [Bool.false_eq_true,if_false,Bool.not_false]
 have hl1:=cellV_weak l
 have hl2:∀ S,InV S (cellV l)=True:=fun S=>eq_true (cellV_in l)
 have hl3:cellV l=.nilp∨∃ c,cellV l=.el c 0∧weakL c=c:=by
  cases l with
  | nil=>exact .inl rfl
  | cons x l=>exact .inr ⟨_,rfl,by simp [weakL,weak,cellV_weak]⟩
 generalize cellV l=cv at *
 intro h hd
 have k0:decide ((u:Int)≥(most:Int))=false:=by simp;omega
 have w0:=wrap_succ (i:=u) (by omega)
 have x0:((0:Int)<((3:Nat):Int))=True:=by simp
 have x1:((1:Int)<((3:Nat):Int))=True:=by simp
 have x2:((2:Int)<((3:Nat):Int))=True:=by simp
 clear hu hm
 refine en_ Tryz.func263 [.tmp 6,.tmp 7] fun g0 w0 gen hrel hfr hfr' hres=>?_
 have f1:=fresh_ne hfr hd
 have f2:=fresh_ne' hfr hd
 rcases hE with rfl|⟨vc,rfl,we,ie⟩
 all_goals rcases hl3 with rfl|⟨q,rfl,qw⟩
 all_goals try (have hl4:∀ S,InL S q=True:=fun S=>by have:=hl2 S;rwa [InV] at this)
 all_goals try clear hl1 hl2
 all_goals
  exact wkT_
theorem c_ev9 {d:GoAbs.Id} {most u u1 u2:Nat} {t:Tm} {ve w:V} {a b c:V} (hu:u<most) (hm:most≤65536) (hk:t.kind=9) (hE:IsE ve) (haI:IsI a) (hbI:IsI b) (hcI:IsI c)
  (hA:Turns Tryz.prog env 268 [.ptr d 0,.sl .any (t.args.map Tm.cells),ve] d (mb (u+1) most) (.tup [.agg [a,b,c],.bool true]) (mb u1 most)) {o:Bool} (hw:o=false→IsI w) (hT:Turns Tryz.prog env 270 [.ptr d 0,.agg [a,b,c]] d (mb u1 most) (evR o w) (mb u2 most)):EvT2 d most u u2 o t ve (w):=by
 unfold EvT2 evR mb
 unfold mb at hA
 unfold mb evR at hT
 have xw:weak (outV o w)=outV o w:=by
  cases o with
  | true=>rfl
  | false=>obtain ⟨q1,q2,rfl,q3,_⟩:=hw rfl;simp [outV,weak,q3]
 have xi:∀ S,InV S (outV o w)=True:=by
  intro S
  cases o with
  | true=>simp [outV,InV]
  | false=>obtain ⟨q1,q2,rfl,_,q3⟩:=hw rfl;simp [outV,InV,q3]
 generalize outV o w=x at *
 clear hw
 obtain ⟨a1,a2,rfl,aw,ai⟩:=haI
 obtain ⟨b1,b2,rfl,bw,bi⟩:=hbI
 obtain ⟨c1,c2,rfl,cw,ci⟩:=hcI
 intro h hd
 have k0:decide ((u:Int)≥(most:Int))=false:=by simp;omega
 have w0:=wrap_succ (i:=u) (by omega)
 have x0:((0:Int)<((3:Nat):Int))=True:=by simp
 have x1:((1:Int)<((3:Nat):Int))=True:=by simp
 have x2:((2:Int)<((3:Nat):Int))=True:=by simp
 clear hu hm
 refine en_ Tryz.func263 [.tmp 6,.tmp 7] fun g0 w0 gen hrel hfr hfr' hres=>?_
 have f1:=fresh_ne hfr hd
 have f2:=fresh_ne' hfr hd
 rcases hE with rfl|⟨vc,rfl,we,ie⟩
 all_goals
  exact wkT_
theorem c_ev10 {d:GoAbs.Id} {most u u1:Nat} {t:Tm} {ve w:V} {a b c:V} (hu:u<most) (hm:most≤65536) (hk:t.kind=10) (hE:IsE ve) (haI:IsI a) (hbI:IsI b)
  (hA:Turns Tryz.prog env 268 [.ptr d 0,.sl .any (t.args.map Tm.cells),ve] d (mb (u+1) most) (.tup [.agg [a,b,.nili],.bool true]) (mb u1 most)):EvT2 d most u u1 false t ve (.iface 270 (.el [a,b] 0)):=by
 unfold EvT2 evR mb
 unfold mb at hA
 unfold outV
 simp only [Bool.false_eq_true,if_false,Bool.not_false]
 obtain ⟨a1,a2,rfl,aw,ai⟩:=haI
 obtain ⟨b1,b2,rfl,bw,bi⟩:=hbI
 intro h hd
 have k0:decide ((u:Int)≥(most:Int))=false:=by simp;omega
 have w0:=wrap_succ (i:=u) (by omega)
 have x0:((0:Int)<((3:Nat):Int))=True:=by simp
 have x1:((1:Int)<((3:Nat):Int))=True:=by simp
 have x2:((2:Int)<((3:Nat):Int))=True:=by simp
 clear hu hm
 refine en_ Tryz.func263 [.tmp 6,.tmp 7] fun g0 w0 gen hrel hfr hfr' hres=>?_
 have f1:=fresh_ne hfr hd
 have f2:=fresh_ne' hfr hd
 rcases hE with rfl|⟨vc,rfl,we,ie⟩
 all_goals
  exact wkT_
theorem c_ev11 {d:GoAbs.Id} {most u u1:Nat} {t:Tm} {ve w:V} {a b c:V} (hu:u<most) (hm:most≤65536) (hk:t.kind=11) (hE:IsE ve) (haI:IsI a) (hbI:IsI b)
  (hA:Turns Tryz.prog env 268 [.ptr d 0,.sl .any (t.args.map Tm.cells),ve] d (mb (u+1) most) (.tup [.agg [.iface 270 (.el [a,b] 0),.nili,.nili],.bool true]) (mb u1 most)):EvT2 d most u u1 false t ve (a):=by
 unfold EvT2 evR mb
 unfold mb at hA
 unfold outV
 simp only [Bool.false_eq_true,if_false,Bool.not_false]
 obtain ⟨a1,a2,rfl,aw,ai⟩:=haI
 obtain ⟨b1,b2,rfl,bw,bi⟩:=hbI
 intro h hd
 have k0:decide ((u:Int)≥(most:Int))=false:=by simp;omega
 have w0:=wrap_succ (i:=u) (by omega)
 have x0:((0:Int)<((3:Nat):Int))=True:=by simp
 have x1:((1:Int)<((3:Nat):Int))=True:=by simp
 have x2:((2:Int)<((3:Nat):Int))=True:=by simp
 clear hu hm
 refine en_ Tryz.func263 [.tmp 6,.tmp 7] fun g0 w0 gen hrel hfr hfr' hres=>?_
 have f1:=fresh_ne hfr hd
 have f2:=fresh_ne' hfr hd
 rcases hE with rfl|⟨vc,rfl,we,ie⟩
 all_goals
  exact wkT_
theorem c_ev12 {d:GoAbs.Id} {most u u1:Nat} {t:Tm} {ve w:V} {a b c:V} (hu:u<most) (hm:most≤65536) (hk:t.kind=12) (hE:IsE ve) (haI:IsI a) (hbI:IsI b)
  (hA:Turns Tryz.prog env 268 [.ptr d 0,.sl .any (t.args.map Tm.cells),ve] d (mb (u+1) most) (.tup [.agg [.iface 270 (.el [a,b] 0),.nili,.nili],.bool true]) (mb u1 most)):EvT2 d most u u1 false t ve (b):=by
 unfold EvT2 evR mb
 unfold mb at hA
 unfold outV
 simp only [Bool.false_eq_true,if_false,Bool.not_false]
 obtain ⟨a1,a2,rfl,aw,ai⟩:=haI
 obtain ⟨b1,b2,rfl,bw,bi⟩:=hbI
 intro h hd
 have k0:decide ((u:Int)≥(most:Int))=false:=by simp;omega
 have w0:=wrap_succ (i:=u) (by omega)
 have x0:((0:Int)<((3:Nat):Int))=True:=by simp
 have x1:((1:Int)<((3:Nat):Int))=True:=by simp
 have x2:((2:Int)<((3:Nat):Int))=True:=by simp
 clear hu hm
 refine en_ Tryz.func263 [.tmp 6,.tmp 7] fun g0 w0 gen hrel hfr hfr' hres=>?_
 have f1:=fresh_ne hfr hd
 have f2:=fresh_ne' hfr hd
 rcases hE with rfl|⟨vc,rfl,we,ie⟩
 all_goals
  exact wkT_
theorem c_ev13 {d:GoAbs.Id} {most u u1:Nat} {t:Tm} {ve w:V} {a b c:V} (hu:u<most) (hm:most≤65536) (hk:t.kind=13) (hE:IsE ve)
  (hA:Turns Tryz.prog env 268 [.ptr d 0,.sl .any (t.args.map Tm.cells),ve] d (mb (u+1) most) (.tup [.agg [.nili,.nili,.nili],.bool true]) (mb u1 most)):EvT2 d most u u1 false t ve (.iface 274 (.agg [])):=by
 unfold EvT2 evR mb
 unfold mb at hA
 unfold outV
 simp only [Bool.false_eq_true,if_false,Bool.not_false]
 intro h hd
 have k0:decide ((u:Int)≥(most:Int))=false:=by simp;omega
 have w0:=wrap_succ (i:=u) (by omega)
 have x0:((0:Int)<((3:Nat):Int))=True:=by simp
 have x1:((1:Int)<((3:Nat):Int))=True:=by simp
 have x2:((2:Int)<((3:Nat):Int))=True:=by simp
 clear hu hm
 refine en_ Tryz.func263 [.tmp 6,.tmp 7] fun g0 w0 gen hrel hfr hfr' hres=>?_
 have f1:=fresh_ne hfr hd
 have f2:=fresh_ne' hfr hd
 rcases hE with rfl|⟨vc,rfl,we,ie⟩
 all_goals
  exact wkT_
end Go.Proofs.YteaijonkbbkkjaaGreatDoor
