/-
 Walks: several parts in one text.
-/
import Derived.Test.YtmnplkmphgkooaaGreatDoorMt
import Derived.Test.YtmnplkmphgkooaaGreatDoorMu
set_option linter.unusedSimpArgs false
set_option linter.unusedVariables false
set_option maxRecDepth 20000
set_option maxHeartbeats 4000000
namespace Go.Proofs.YtmnplkmphgkooaaGreatDoor
open Go GoAbs Go.Proofs
def eb (w lim:Nat) (e:Int):GoAbs.Obj:=.box [.int .i64 w,.int .i64 lim,.int .i64 e]
theorem c_eFail (d:GoAbs.Id) (w lim:Nat) (e:Int):Turns Tryz.prog env 223 [.ptr d 0,.int .i64 e] d (eb w lim 0) (.bool false) (eb w lim e):=by
 intro h hd
 unfold eb at *
 refine en_ Tryz.func223 [.tmp 4] fun g0 w0 gen hrel hfr hfr' hres=>?_
 have f1:=fresh_ne hfr hd
 have f2:=fresh_ne' hfr hd
 exact wkT_
def NumIs (m:Nat) (t:Tm) (x:Nat × Nat × Bool):Prop:=Pure Tryz.prog env 31 [.agg t.cells,.int .i64 m] (evalVp x)
theorem c_eNumber (d:GoAbs.Id) (w lim:Nat) (t:Tm) (x:Nat × Nat × Bool) (hw:w≤lim) (hl:lim≤65536) (hx:x.2.1≤65536) (hn:NumIs (lim - w) t x) :
  Turns Tryz.prog env 225 [.ptr d 0,.agg t.cells] d (eb w lim 0) (.tup [.int .i64 (if x.2.2 then 0 else (x.1:Int)),.bool (!x.2.2)]) (if x.2.2 then eb w lim 5 else eb (w+x.2.1) lim 0):=by
 intro h hd
 obtain ⟨n,u,o⟩:=x
 unfold NumIs evalVp at hn
 simp only at hn hx ⊢
 have w1:IntKind.i64.wrap ((lim:Int) - (w:Int))=((lim - w:Nat):Int):=wrap_eq (by omega) (by omega) (by omega)
 have w2:IntKind.i64.wrap ((w:Int)+(u:Int))=((w+u:Nat):Int):=wrap_eq (by omega) (by omega) (by omega)
 have hf:=c_eFail d w lim 5
 have n0:((0:Int) != 0)=false:=rfl
 have n5:((5:Int) != 0)=true:=rfl
 unfold eb at *
 clear hw hl hx
 generalize lim - w=q at *
 generalize w+u=w' at *
 unfold numVal noVal at hn
 cases o with
 | true =>
  simp only [if_true,Bool.not_true] at hn ⊢
  refine en_ Tryz.func225 [.tmp 4,.tmp 5] fun g0 w0 gen hrel hfr hfr' hres=>?_
  have f1:=fresh_ne hfr hd
  have f2:=fresh_ne' hfr hd
  exact wkT_
 | false =>
  simp only [Bool.false_eq_true,if_false,Bool.not_false] at hn ⊢
  refine en_ Tryz.func225 [.tmp 4,.tmp 5] fun g0 w0 gen hrel hfr hfr' hres=>?_
  have f1:=fresh_ne hfr hd
  have f2:=fresh_ne' hfr hd
  exact wkT_
def TrT (d:GoAbs.Id) (lim:Nat) (f:Fm) (w:Nat) (b:Bool) (w':Nat) (e:Int):Prop :=
 ∃ T u k, Pure Tryz.prog env 68 [.agg f.cells] (.iface T u) ∧ weak u = u ∧ meth Tryz.prog T "proofprograms/decide.truth" = some k ∧ Turns Tryz.prog env k [u, .ptr d 0] d (eb w lim 0) (.bool b) (eb w' lim e)
theorem c_ofEq (x y:Tm):Pure Tryz.prog env 68 [.agg (fmEq x y).cells] (.iface 179 (.agg (x.cells++y.cells))):=by
 intro h
 have e1:(fmEq x y).kind=1:=rfl
 have e2:(fmEq x y).terms=[x,y]:=rfl
 have hx:=Tm.cells_eq x
 have hy:=Tm.cells_eq y
 generalize fmEq x y=f at *
 exact ek_ Tryz.func68 [.tmp 2]
theorem c_ofTwo (k:Int) (hk:k=2∨k=3) (x y:Fm):Pure Tryz.prog env 68 [.agg (fmTwo k x y).cells] (.iface (if k=2 then 181 else 183) (.agg (x.cells++y.cells))):=by
 intro h
 have e1:(fmTwo k x y).kind=k:=rfl
 have e2:(fmTwo k x y).args=[x,y]:=rfl
 have hx:=Fm.cells_eq x
 have hy:=Fm.cells_eq y
 generalize fmTwo k x y=f at *
 rcases hk with rfl|rfl
 ·simp only [if_true]
  exact ek_ Tryz.func68 [.tmp 2]
 ·have n2:((3:Int)=2)=False:=by simp
  simp only [n2,if_false]
  exact ek_ Tryz.func68 [.tmp 2]
theorem c_ofBnd (all:Bool) (q:Tm) (wq:TmW q) (hc:q.count 0=0) (a:Fm) (ha:FmW a) (hb:FmW (bndF all q a)) (he:fmErr (bndF all q a)=0) :
  Pure Tryz.prog env 68 [.agg (bndF all q a).cells] (.iface 187 (.agg (.bool all::((tPut q 0 zeroT).cells++a.cells)))):=by
 intro h
 have e1:(bndF all q a).kind=if all then 4 else 5:=rfl
 have h1:=c_clsBound2 all q wq hc a ha hb he
 have hx:=Tm.cells_eq (tPut q 0 zeroT)
 have hy:=Fm.cells_eq a
 clear wq hc hb he
 generalize bndF all q a=f at *
 generalize tPut q 0 zeroT=t at *
 cases all
 all_goals
  simp only [Bool.false_eq_true,if_false,if_true] at e1
  exact ek_ Tryz.func68 [.tmp 2]
def eqR (w:Nat) (px py:Nat × Nat × Bool):Bool × Nat × Int:=if px.2.2 then (false,w,5) else if py.2.2 then (false,w+px.2.1,5) else (px.1==py.1,w+px.2.1+py.2.1,0)
theorem c_trEq (d:GoAbs.Id) (lim w:Nat) (x y:Tm) (px py:Nat × Nat × Bool) (hl:lim≤65536) (hw:w≤lim) (hx:NumIs (lim - w) x px) (bx:px.2.1≤lim - w)
  (hy:px.2.2=false→NumIs (lim - (w+px.2.1)) y py∧py.2.1≤65536):TrT d lim (fmEq x y) w (eqR w px py).1 (eqR w px py).2.1 (eqR w px py).2.2:=by
 refine ⟨_,_,224,c_ofEq x y,by rw [weak,weakL_app'];simp [weakL_Tm],by kernel_rfl,?_⟩
 have hA:=c_eNumber d w lim x px hw hl (by omega) hx
 have hB:px.2.2=false→_:=fun h=>c_eNumber d (w+px.2.1) lim y py (by omega) hl (hy h).2 (hy h).1
 clear hx hy
 obtain ⟨n1,u1,o1⟩:=px
 obtain ⟨n2,u2,o2⟩:=py
 have cx:=Tm.cells_eq x
 have cy:=Tm.cells_eq y
 unfold eqR
 cases o1 with
 | true =>
  simp only [if_true,Bool.not_true] at hA ⊢
  clear hB
  rw [cx] at hA
  rw [cx,cy]
  intro h hd
  unfold eb at *
  clear bx hw hl
  refine en_ Tryz.func224 [.tmp 4] fun g0 w0 gen hrel hfr hfr' hres=>?_
  have f1:=fresh_ne hfr hd
  have f2:=fresh_ne' hfr hd
  exact wkT_
 | false =>
  replace hB:=hB rfl
  simp only [Bool.false_eq_true,if_false,Bool.not_false] at hA hB ⊢
  have hq:((n1:Int)==(n2:Int))=(n1==n2):=by
   by_cases h:n1=n2
   ·subst h;simp
   ·rw [beq_eq_false_iff_ne.2 h,beq_eq_false_iff_ne.2 (by omega)]
  clear bx hw hl
  generalize w+u1=w1 at *
  rw [cx] at hA
  rw [cx,cy]
  cases o2 with
  | true =>
   simp only [if_true,Bool.not_true] at hB ⊢
   rw [cy] at hB
   intro h hd
   unfold eb at *
   refine en_ Tryz.func224 [.tmp 4] fun g0 w0 gen hrel hfr hfr' hres=>?_
   have f1:=fresh_ne hfr hd
   have f2:=fresh_ne' hfr hd
   exact wkT_
  | false =>
   simp only [Bool.false_eq_true,if_false,Bool.not_false] at hB ⊢
   generalize w1+u2=w2 at *
   rw [cy] at hB
   intro h hd
   unfold eb at *
   refine en_ Tryz.func224 [.tmp 4] fun g0 w0 gen hrel hfr hfr' hres=>?_
   have f1:=fresh_ne hfr hd
   have f2:=fresh_ne' hfr hd
   exact wkT_
theorem c_trAnd (d:GoAbs.Id) (lim w:Nat) (x y:Fm) (a b:Bool × Nat × Int) (hx:TrT d lim x w a.1 a.2.1 a.2.2) (he:a.1=true→a.2.2=0) (hy:a.1=true→TrT d lim y a.2.1 b.1 b.2.1 b.2.2) :
  TrT d lim (fmTwo 2 x y) w (if a.1 then b else a).1 (if a.1 then b else a).2.1 (if a.1 then b else a).2.2:=by
 refine ⟨_,_,226,c_ofTwo 2 (.inl rfl) x y,by rw [weak,weakL_app'];simp [weakL_Fm],by kernel_rfl,?_⟩
 obtain ⟨a1,wa,ea⟩:=a
 obtain ⟨b1,wb,eb'⟩:=b
 obtain ⟨T1,u1,k1,p1,q1,m1,t1⟩:=hx
 have cx:=Fm.cells_eq x
 have cy:=Fm.cells_eq y
 cases a1 with
 | true =>
  obtain ⟨T2,u2,k2,p2,q2,m2,t2⟩:=hy rfl
  obtain rfl:ea=0:=he rfl
  clear hy he
  simp only [if_true] at *
  rw [cx] at p1
  rw [cy] at p2
  rw [cx,cy]
  intro h hd
  unfold eb at *
  refine en_ Tryz.func226 [.tmp 4] fun g0 w0 gen hrel hfr hfr' hres=>?_
  have f1:=fresh_ne hfr hd
  have f2:=fresh_ne' hfr hd
  repeat' (first
   |exact agb (by assumption)
   | (first|refine wp rfl ?_|(refine gs (fun hb=>?_) fun hb=>?_)<;>try simp only [Bool.not_true,Bool.not_false] at hb|refine cp p1 ?_|refine cp p2 ?_|refine invThen_at (m1) ?_|refine invThen_at (m2) ?_|(refine ct (t1) ?_ ?_;focus ((simp only [go_sem, *]<;>rfl);done))|(refine ct (t2) ?_ ?_;focus ((simp only [go_sem, *]<;>rfl);done))|refine finT hrel hd ?_ ?_ ?_ ?_ ?_)<;>try simp only [go_sem, *])
 | false =>
  clear hy he
  simp only [Bool.false_eq_true,if_false] at *
  rw [cx] at p1
  rw [cx,cy]
  intro h hd
  unfold eb at *
  refine en_ Tryz.func226 [.tmp 4] fun g0 w0 gen hrel hfr hfr' hres=>?_
  have f1:=fresh_ne hfr hd
  have f2:=fresh_ne' hfr hd
  repeat' (first
   |exact agb (by assumption)
   | (first|refine wp rfl ?_|(refine gs (fun hb=>?_) fun hb=>?_)<;>try simp only [Bool.not_true,Bool.not_false] at hb|refine cp p1 ?_|refine invThen_at (m1) ?_|(refine ct (t1) ?_ ?_;focus ((simp only [go_sem, *]<;>rfl);done))|refine finT hrel hd ?_ ?_ ?_ ?_ ?_)<;>try simp only [go_sem, *])
def impR (a b:Bool × Nat × Int):Bool × Nat × Int:=if a.2.2 != 0||!a.1 then (a.2.2==0,a.2.1,a.2.2) else b
theorem c_trImp (d:GoAbs.Id) (lim w:Nat) (x y:Fm) (a b:Bool × Nat × Int) (hx:TrT d lim x w a.1 a.2.1 a.2.2) (hy:a.2.2=0→a.1=true→TrT d lim y a.2.1 b.1 b.2.1 b.2.2) :
  TrT d lim (fmTwo 3 x y) w (impR a b).1 (impR a b).2.1 (impR a b).2.2:=by
 refine ⟨_,_,227,c_ofTwo 3 (.inr rfl) x y,by rw [weak,weakL_app'];simp [weakL_Fm],by kernel_rfl,?_⟩
 obtain ⟨a1,wa,ea⟩:=a
 obtain ⟨b1,wb,eb'⟩:=b
 obtain ⟨T1,u1,k1,p1,q1,m1,t1⟩:=hx
 have cx:=Fm.cells_eq x
 have cy:=Fm.cells_eq y
 unfold impR
 simp only at *
 cases h0:(ea != 0) with
 | true =>
  have h1:(ea==0)=false:=by simpa using h0
  clear hy
  simp only [Bool.true_or,if_true,h1]
  rw [cx] at p1
  rw [cx,cy]
  intro h hd
  unfold eb at *
  refine en_ Tryz.func227 [.tmp 4] fun g0 w0 gen hrel hfr hfr' hres=>?_
  have f1:=fresh_ne hfr hd
  have f2:=fresh_ne' hfr hd
  repeat' (first
   |exact agb (by assumption)
   | (first|refine wp rfl ?_|refine spt rfl ?_|refine spf rfl ?_|(refine spl (fun hc=>?_) fun hc=>?_)<;>(try rw [beq_iff_eq] at hc)<;>try simp only [hc]|(refine gs (fun hb=>?_) fun hb=>?_)<;>try simp only [Bool.not_true,Bool.not_false] at hb|refine cp p1 ?_|refine invThen_at (m1) ?_|(refine ct (t1) ?_ ?_;focus ((simp only [go_sem, *]<;>rfl);done))|refine finT hrel hd ?_ ?_ ?_ ?_ ?_)<;>try simp only [go_sem, *])
 | false =>
  obtain rfl:ea=0:=by simpa using h0
  cases a1 with
  | true =>
   obtain ⟨T2,u2,k2,p2,q2,m2,t2⟩:=hy rfl rfl
   clear hy
   simp only [Bool.not_true,Bool.or_self,Bool.false_eq_true,if_false] at *
   rw [cx] at p1
   rw [cy] at p2
   rw [cx,cy]
   intro h hd
   unfold eb at *
   refine en_ Tryz.func227 [.tmp 4] fun g0 w0 gen hrel hfr hfr' hres=>?_
   have f1:=fresh_ne hfr hd
   have f2:=fresh_ne' hfr hd
   repeat' (first
    |exact agb (by assumption)
    | (first|refine wp rfl ?_|refine spt rfl ?_|refine spf rfl ?_|(refine spl (fun hc=>?_) fun hc=>?_)<;>(try rw [beq_iff_eq] at hc)<;>try simp only [hc]|(refine gs (fun hb=>?_) fun hb=>?_)<;>try simp only [Bool.not_true,Bool.not_false] at hb|refine cp p1 ?_|refine cp p2 ?_|refine invThen_at (m1) ?_|refine invThen_at (m2) ?_|(refine ct (t1) ?_ ?_;focus ((simp only [go_sem, *]<;>rfl);done))|(refine ct (t2) ?_ ?_;focus ((simp only [go_sem, *]<;>rfl);done))|refine finT hrel hd ?_ ?_ ?_ ?_ ?_)<;>try simp only [go_sem, *])
  | false =>
   clear hy
   have h1:((0:Int)==0)=true:=rfl
   simp only [Bool.not_false,Bool.or_true,if_true,h1] at *
   rw [cx] at p1
   rw [cx,cy]
   intro h hd
   unfold eb at *
   refine en_ Tryz.func227 [.tmp 4] fun g0 w0 gen hrel hfr hfr' hres=>?_
   have f1:=fresh_ne hfr hd
   have f2:=fresh_ne' hfr hd
   repeat' (first
    |exact agb (by assumption)
    | (first|refine wp rfl ?_|refine spt rfl ?_|refine spf rfl ?_|(refine spl (fun hc=>?_) fun hc=>?_)<;>(try rw [beq_iff_eq] at hc)<;>try simp only [hc]|(refine gs (fun hb=>?_) fun hb=>?_)<;>try simp only [Bool.not_true,Bool.not_false] at hb|refine cp p1 ?_|refine invThen_at (m1) ?_|(refine ct (t1) ?_ ?_;focus ((simp only [go_sem, *]<;>rfl);done))|refine finT hrel hd ?_ ?_ ?_ ?_ ?_)<;>try simp only [go_sem, *])
def WithT (d:GoAbs.Id) (lim:Nat) (f:Fm) (k w:Nat) (b:Bool) (w':Nat) (e:Int):Prop :=
 Turns Tryz.prog env 229 [.ptr d 0,.agg f.cells,.int .i64 k] d (eb w lim 0) (.bool b) (eb w' lim e)
theorem c_valNumber2 (n:Nat) (hn:4096≤n):Pure Tryz.prog env 230 [.int .i64 n] (.tup [.agg zeroT.cells,.int .i64 4]):=by
 intro h
 have d1:decide ((n:Int)<0)=false:=by simp
 have d2:decide ((n:Int)≥4096)=true:=by simp;omega
 have hz:=zeroT_cells
 clear hn
 exact ek_ Tryz.func230 [.cell 2 32,.tmp 3]
theorem c_withBig (d:GoAbs.Id) (lim:Nat) (f:Fm) (k w:Nat) (hk:4096≤k):WithT d lim f k w false w 4:=by
 intro h hd
 have h1:=c_valNumber2 k hk
 have hf:=c_eFail d w lim 4
 have n4:((4:Int) != 0)=true:=rfl
 unfold eb at *
 clear hk
 refine en_ Tryz.func229 [.tmp 6] fun g0 w0 gen hrel hfr hfr' hres=>?_
 have f1:=fresh_ne hfr hd
 have f2:=fresh_ne' hfr hd
 exact wkT_
theorem c_withErr (d:GoAbs.Id) (lim:Nat) (f:Fm) (k w:Nat) (hk:k<4096) (v:Fm) (e:Int) (he:(e != 0)=true) (hP:Pure Tryz.prog env 39 [.agg f.cells,.int .i64 0,.agg (numT k).cells] (.tup [.agg v.cells,.int .i64 e])) :
  WithT d lim f k w false w e:=by
 intro h hd
 have h1:=c_valNumber k hk
 have hf:=c_eFail d w lim e
 have n0:((0:Int) != 0)=false:=rfl
 unfold eb at *
 clear hk
 generalize numT k=t at *
 refine en_ Tryz.func229 [.tmp 6] fun g0 w0 gen hrel hfr hfr' hres=>?_
 have f1:=fresh_ne hfr hd
 have f2:=fresh_ne' hfr hd
 exact wkT_
theorem c_withOk (d:GoAbs.Id) (lim:Nat) (f:Fm) (k w:Nat) (hk:k<4096) (v:Fm) (hP:Pure Tryz.prog env 39 [.agg f.cells,.int .i64 0,.agg (numT k).cells] (.tup [.agg v.cells,.int .i64 0]))
  {b:Bool} {w':Nat} {e:Int} (hT:TrT d lim v w b w' e):WithT d lim f k w b w' e:=by
 intro h hd
 have h1:=c_valNumber k hk
 obtain ⟨T1,u1,k1,p1,q1,m1,t1⟩:=hT
 have n0:((0:Int) != 0)=false:=rfl
 unfold eb at *
 clear hk
 generalize numT k=t at *
 refine en_ Tryz.func229 [.tmp 6] fun g0 w0 gen hrel hfr hfr' hres=>?_
 have f1:=fresh_ne hfr hd
 have f2:=fresh_ne' hfr hd
 repeat' (first
  |exact agb (by assumption)
  | (first|refine wp rfl ?_|refine spt rfl ?_|refine spf rfl ?_|(refine spl (fun hc=>?_) fun hc=>?_)<;>(try rw [beq_iff_eq] at hc)<;>try simp only [hc]|refine cp h1 ?_|refine cp hP ?_|refine cp p1 ?_|refine invThen_at (m1) ?_|(refine ct (t1) ?_ ?_;focus ((simp only [go_sem, *]<;>rfl);done))|refine finT hrel hd ?_ ?_ ?_ ?_ ?_)<;>try simp only [go_sem, *])
inductive BndS (d:GoAbs.Id) (lim:Nat) (all:Bool) (f:Fm):Nat→Nat→Nat→Bool→Nat→Int→Prop
 | done {k w:Nat}:BndS d lim all f 0 k w all w 0
 | limit {n k w:Nat}:lim≤w→BndS d lim all f (n+1) k w false w 5
 | stop {n k w w':Nat} {b:Bool} {e:Int}:w<lim→WithT d lim f k (w+1) b w' e→(e != 0||b != all)=true→BndS d lim all f (n+1) k w b w' e
 | step {n k w w1 w':Nat} {b:Bool} {e:Int}:w<lim→WithT d lim f k (w+1) all w1 0→BndS d lim all f n (k+1) w1 b w' e→BndS d lim all f (n+1) k w b w' e
theorem BndS.cons {d:GoAbs.Id} {lim n k w w':Nat} {all b:Bool} {f:Fm} {e:Int} (h:BndS d lim all f (n+1) k w b w' e) :
  (lim≤w∧b=false∧w'=w∧e=5)∨(w<lim∧((WithT d lim f k (w+1) b w' e∧(e != 0||b != all)=true)∨∃ w1,WithT d lim f k (w+1) all w1 0∧BndS d lim all f n (k+1) w1 b w' e)):=by
 cases h with
 | limit h=>exact .inl ⟨h,rfl,rfl,rfl⟩
 | stop h1 h2 h3=>exact .inr ⟨h1,.inl ⟨h2,h3⟩⟩
 | step h1 h2 h3=>exact .inr ⟨h1,.inr ⟨_,h2,h3⟩⟩
theorem BndS.none {d:GoAbs.Id} {lim k w w':Nat} {all b:Bool} {f:Fm} {e:Int} (h:BndS d lim all f 0 k w b w' e):b=all∧w'=w∧e=0:=by cases h;exact ⟨rfl,rfl,rfl⟩
theorem c_bndOver (d:GoAbs.Id) (lim w:Nat) (all:Bool) (t:Tm) (a:Fm) (hn:Turns Tryz.prog env 225 [.ptr d 0,.agg t.cells] d (eb w lim 0) (.tup [.int .i64 0,.bool false]) (eb w lim 5)) :
  Turns Tryz.prog env 228 [.agg (.bool all::(t.cells++a.cells)),.ptr d 0] d (eb w lim 0) (.bool false) (eb w lim 5):=by
 intro h hd
 have cx:=Tm.cells_eq t
 have cy:=Fm.cells_eq a
 rw [cx] at hn
 rw [cx,cy]
 unfold eb at *
 refine en_ Tryz.func228 [.tmp 4] fun g0 w0 gen hrel hfr hfr' hres=>?_
 have f1:=fresh_ne hfr hd
 have f2:=fresh_ne' hfr hd
 exact wkT_
theorem c_bndGo (d:GoAbs.Id) (lim w m w0' w':Nat) (all b:Bool) (e:Int) (t:Tm) (a:Fm) (hm:m≤100000) (hlim:lim≤65536)
  (hn:Turns Tryz.prog env 225 [.ptr d 0,.agg t.cells] d (eb w lim 0) (.tup [.int .i64 m,.bool true]) (eb w0' lim 0))
  (hS:BndS d lim all a m 0 w0' b w' e) :
  Turns Tryz.prog env 228 [.agg (.bool all::(t.cells++a.cells)),.ptr d 0] d (eb w lim 0) (.bool b) (eb w' lim e):=by
 intro h hd
 have cx:=Tm.cells_eq t
 have cy:=Fm.cells_eq a
 rw [cx] at hn
 rw [cx,cy]
 have hr0:(List.range m).length=m:=List.length_range
 unfold eb at *
 refine en_ Tryz.func228 [.tmp 4] fun g0 w0 gen hrel hfr hfr' hres=>?_
 have f1:=fresh_ne hfr hd
 have f2:=fresh_ne' hfr hd
 refine wq_ ?_
 clear hn
 refine ar_ [1,2] [⟨gen,0,0⟩] (fun i σ=>AgreeBut d h σ.h∧∃ wi:Nat,σ.h d=some (.box [.int .i64 wi,.int .i64 lim,.int .i64 0])∧BndS d lim all a (m - i) i wi b w' e) (List.range m).length ?_ ?_ ?_
 ·simp only [go_sem, *]
  exact ⟨by repeat (first|exact AgreeBut.refl _ _|assumption|refine AgreeBut.new ?_ (hfr' _ _)|refine AgreeBut.set ?_),w0',rfl,hS⟩
 ·clear hS
  intro i σ gr0 hgl_gr0 hgn hlt jI jN jS ⟨jA,wi,js,jk⟩
  obtain ⟨jT,jB⟩:=jS
  simp only [go_sem] at jT jB
  have hgf:=fresh_of hgn
  have hgf0:=agreeBut_fresh' hd jA hgf (fun r i e=>by have:=hfr d (by rw [hd];simp);rw [e] at this;simp at this;omega)
  have fd_gr0:=fresh_ne2 hfr hd (show gen<gr0 by omega)
  have fe_gr0:=fresh_ne2' hfr hd (show gen<gr0 by omega)
  have eg_gen_gr0:=gen_lt (show gen<gr0 by omega)
  have eh_gen_gr0:=gen_lt' (show gen<gr0 by omega)
  obtain ⟨x,hx,hxm,hm⟩:=rnx hlt
  clear hgn
  rw [hr0] at hlt
  rw [show m - i=(m - (i+1))+1 by omega] at jk
  have hf:=c_eFail d wi lim 5
  unfold eb at hf
  rcases jk.cons with ⟨hl,rfl,rfl,rfl⟩|⟨hl,⟨hT,hq⟩|⟨w1,hT,hS⟩⟩
  ·have hd1:decide ((w':Int)≥(lim:Int))=true:=by simp;omega
   clear jk hl
   exact wkT_
  ·have hd1:decide ((wi:Int)≥(lim:Int))=false:=by simp;omega
   have hw1:=wrap_succ (i:=wi) (by omega)
   unfold WithT eb at hT
   rw [cy] at hT
   clear jk hl hf
   generalize wi+1=wj at *
   cases he:(e != 0) with
   | true =>
    clear hq
    exact wkT_
   | false =>
    rw [he,Bool.false_or] at hq
    exact wkT_
  ·have hd1:decide ((wi:Int)≥(lim:Int))=false:=by simp;omega
   have hw1:=wrap_succ (i:=wi) (by omega)
   unfold WithT eb at hT
   rw [cy] at hT
   clear jk hl hf
   generalize wi+1=wj at *
   have n0:((0:Int) != 0)=false:=rfl
   have na:(all != all)=false:=by cases all<;>rfl
   refine wq_ ?_
   exact ⟨by repeat (first|exact jA|refine AgreeBut.new ?_ (hgf0 _ _)|refine AgreeBut.set ?_),w1,rfl,hS⟩
 ·clear hS
  intro σ ga0 hgl_ga0 hgn jS ⟨jA,wi,js,jk⟩
  obtain ⟨jT,jB⟩:=jS
  simp only [go_sem] at jT jB
  have hgf:=fresh_of hgn
  have hgf0:=agreeBut_fresh' hd jA hgf (fun r i e=>by have:=hfr d (by rw [hd];simp);rw [e] at this;simp at this;omega)
  have fd_ga0:=fresh_ne2 hfr hd (show gen<ga0 by omega)
  have fe_ga0:=fresh_ne2' hfr hd (show gen<ga0 by omega)
  have eg_gen_ga0:=gen_lt (show gen<ga0 by omega)
  have eh_gen_ga0:=gen_lt' (show gen<ga0 by omega)
  clear hgn
  rw [hr0,Nat.sub_self] at jk
  obtain ⟨rfl,rfl,rfl⟩:=jk.none
  exact wkT_
end Go.Proofs.YtmnplkmphgkooaaGreatDoor
