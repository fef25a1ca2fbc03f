/-
 The abstract layer: plain laws.
-/
import Derived.Test.YtmnplkmphgkooaaGreatDoorAbsB
import Derived.Test.YtmnplkmphgkooaaGreatDoorAbsC
set_option linter.unusedSimpArgs false
set_option linter.unusedVariables false
set_option linter.unusedSectionVars false
namespace GoAbs
open Go
inductive Res where
 | mk (num:Nat) (list:List Nat) (pair:List Res) (body:Tm) (env:List Res)
def Res.num:Res→Nat | .mk n _ _ _ _=>n
def Res.list:Res→List Nat | .mk _ l _ _ _=>l
def natI (l:List Nat):List (List V):=ints (l.map fun (n:Nat)=>(n:Int))
def Res.pair:Res→List Res | .mk _ _ p _ _=>p
def Res.body:Res→Tm | .mk _ _ _ b _=>b
def Res.env:Res→List Res | .mk _ _ _ _ e=>e
theorem Res.ind {p:Res→Prop} (h:∀ t,(∀ x∈t.pair,p x)→(∀ x∈t.env,p x)→p t):∀ t,p t:=by
 intro t
 refine Res.rec (motive_1:=p) (motive_2:=fun l=>∀ x∈l,p x) (fun n l pr b e i1 i2=>h _ i1 i2) (by simp) (fun a l ha hl x hx=>?_) t
 rcases List.mem_cons.1 hx with rfl|hx
 ·exact ha
 ·exact hl x hx
mutual
def Res.cells:Res→List V
 | .mk n l p b e=>[.int .i64 n,.sl .any (natI l),.sl .any (Res.rows p),.int .i64 b.kind,.int .i64 b.index,.int .i64 b.type.kind,.sl .any (b.type.args.map Ty.cells),.sl .any (b.args.map Tm.cells),.sl .any (Res.rows e)]
def Res.rows:List Res→List (List V)
 | []=>[]
 | r::l=>r.cells::Res.rows l
end
theorem Res.rows_eq:∀ l,Res.rows l=l.map Res.cells
 | []=>by simp [Res.rows]
 | t::l=>by simp [Res.rows,Res.rows_eq l]
theorem Res.cells_eq (t:Res):t.cells=[.int .i64 t.num,.sl .any (natI t.list),.sl .any (t.pair.map Res.cells),.int .i64 t.body.kind,.int .i64 t.body.index,.int .i64 t.body.type.kind,
  .sl .any (t.body.type.args.map Ty.cells),.sl .any (t.body.args.map Tm.cells),.sl .any (t.env.map Res.cells)]:=by
 cases t;simp [Res.cells,Res.rows_eq,Res.num,Res.list,Res.pair,Res.body,Res.env]
section
variable (t:Res)
theorem Res.cells_len:t.cells.length=9:=by rw [Res.cells_eq];rfl
theorem Res.cells_0:t.cells[0]? = some (.int .i64 t.num):=by rw [Res.cells_eq];rfl
theorem Res.cells_1:t.cells[1]? = some (.sl .any (natI t.list)):=by rw [Res.cells_eq];rfl
theorem Res.cells_2:t.cells[2]? = some (.sl .any (t.pair.map Res.cells)):=by rw [Res.cells_eq];rfl
theorem Res.cells_8:t.cells[8]? = some (.sl .any (t.env.map Res.cells)):=by rw [Res.cells_eq];rfl
theorem Res.cells_take:List.take 9 t.cells=t.cells:=List.take_of_length_le (by rw [Res.cells_len];exact Nat.le_refl _)
theorem Res.cells_body:List.take 5 (List.drop 3 t.cells)=t.body.cells:=by rw [Res.cells_eq,Tm.cells_eq];rfl
theorem Res.cells_one:t.cells.all oneV=true:=by rw [Res.cells_eq];rfl
end
theorem splice_Res {cs:List V} {t:Res} (h:cs.length=9):splice cs 0 t.cells=t.cells:=splice_full (by rw [h,Res.cells_len])
theorem weakL_Res:∀ t:Res,weakL t.cells=t.cells:=by
 intro t
 induction t using Res.ind with
 | h t i1 i2 =>
  rw [Res.cells_eq]
  have e1:weakLL (t.pair.map Res.cells)=t.pair.map Res.cells:=by
   rw [weakLL_eq,List.map_map];exact List.map_congr_left fun x hx=>i1 x hx
  have e2:weakLL (t.env.map Res.cells)=t.env.map Res.cells:=by
   rw [weakLL_eq,List.map_map];exact List.map_congr_left fun x hx=>i2 x hx
  simp only [weakL,weak,natI,weakLL_ints,weakLL_Ty,weakLL_Tm,e1,e2]
theorem weakLL_Res (l:List Res):weakLL (l.map Res.cells)=l.map Res.cells:=by
 rw [weakLL_eq,List.map_map];exact List.map_congr_left fun x _=>weakL_Res x
section
variable {S:Id→Prop}
theorem InL_Res:∀ t:Res,InL S t.cells:=by
 intro t
 induction t using Res.ind with
 | h t i1 i2 =>
  rw [Res.cells_eq]
  have e1:InLL S (t.pair.map Res.cells):=by
   rw [InLL_mem];intro l hl;obtain ⟨x,hx,rfl⟩:=List.mem_map.1 hl;exact i1 x hx
  have e2:InLL S (t.env.map Res.cells):=by
   rw [InLL_mem];intro l hl;obtain ⟨x,hx,rfl⟩:=List.mem_map.1 hl;exact i2 x hx
  simp only [InL,InV,capIn,true_and,and_true,natI,InLL_ints,InLL_Ty,InLL_Tm,e1,e2]
theorem InLL_Res (l:List Res):InLL S (l.map Res.cells):=by
 rw [InLL_mem];intro x hx;obtain ⟨y,_,rfl⟩:=List.mem_map.1 hx;exact InL_Res y
end
theorem all_len_Res (l:List Res):(l.map Res.cells).all (fun e=>e.length==9)=true:=by simp [Res.cells_len]
theorem all_one_Res (l:List Res):(l.map Res.cells).flatten.all oneV=true:=by
 rw [List.all_eq_true];intro v hv
 obtain ⟨c,hc,hv⟩:=List.mem_flatten.1 hv
 obtain ⟨x,_,rfl⟩:=List.mem_map.1 hc
 exact List.all_eq_true.1 (Res.cells_one x) v hv
def mc (u most:Nat) (o:Bool):List V:=[.int .i64 u,.int .i64 most,.bool o]
@[go_sem] theorem mc_in {S:Id→Prop} (u most:Nat) (o:Bool):InL S (mc u most o)=True:=by simp [mc,InL,InV]
theorem mc_len {u most:Nat} {o:Bool}:(mc u most o).length=3:=rfl
theorem mc_0 {u most:Nat} {o:Bool}:(mc u most o)[0]? = some (.int .i64 u):=rfl
theorem mc_1 {u most:Nat} {o:Bool}:(mc u most o)[1]? = some (.int .i64 most):=rfl
theorem mc_2 {u most:Nat} {o:Bool}:(mc u most o)[2]? = some (.bool o):=rfl
theorem mc_s0 {u u' most:Nat} {o:Bool}:splice (mc u most o) 0 [.int .i64 u']=mc u' most o:=rfl
theorem mc_s2 {u most:Nat} {o o':Bool}:splice (mc u most o) 2 [.bool o']=mc u most o':=rfl
attribute [go_sem] InL_Res InLL_Res mc_len mc_0 mc_1 mc_2 mc_s0 mc_s2
attribute [go_sem] Res.cells_len Res.cells_0 Res.cells_1 Res.cells_2 Res.cells_8 Res.cells_take Res.cells_body Res.cells_one splice_Res weakL_Res weakLL_Res all_len_Res all_one_Res
theorem Ty.nodes_mk (k:Int) (l:List Ty):(Ty.mk k l).nodes=match tyWant k with|none=>none|some w=>if (l.length:Int)==w then Ty.nodesL 1 l else none:=by rw [Ty.nodes];rfl
theorem Tm.nodes_mk (k i:Int) (t:Ty) (l:List Tm):(Tm.mk k i t l).nodes=if tmHead k i t l.length then Tm.nodesL 1 l else none:=by rw [Tm.nodes]
theorem Fm.nodes_mk (k:Int) (t:Ty) (l:List Tm) (a:List Fm) :
  (Fm.mk k t l a).nodes=if formed k t l.length a.length then (match Tm.nodesL 1 l with|none=>none|some n=>Fm.nodesL n a) else none:=by rw [Fm.nodes];rfl
mutual
def tySz:Ty→Nat
 | .mk _ l=>tySzL l+1
def tySzL:List Ty→Nat
 | []=>0
 | t::l=>tySz t+tySzL l
end
theorem tySz_nat:tySz tNat=1:=by simp [tNat,tySz,tySzL]
theorem tySz_list:tySz tList=1:=by simp [tList,tySz,tySzL]
theorem tySz_unit:tySz tUnit=1:=by simp [tUnit,tySz,tySzL]
theorem tySz_pair {a b:Ty}:tySz (tPair a b)=tySz a+tySz b+1:=by simp [tPair,tySz,tySzL]
theorem tySz_fun {a b:Ty}:tySz (tFun a b)=tySz a+tySz b+1:=by simp [tFun,tySz,tySzL]
theorem tySz_pos (t:Ty):1≤tySz t:=by cases t;simp [tySz]
theorem nodes_two {k:Int} {a b:Ty} {x y:Nat} (hk:k=3∨k=4) (ha:a.nodes=some (x:Int)) (hb:b.nodes=some (y:Int)) (h:x+y+1≤1000000) :
  (Ty.mk k [a,b]).nodes=some ((x+y+1:Nat):Int):=by
 have hw:tyWant k=some 2:=by rcases hk with rfl|rfl<;>rfl
 rw [Ty.nodes_mk,hw]
 have hl:(([a,b]:List Ty).length:Int)=2:=rfl
 simp only [hl,beq_self_eq_true,if_true]
 have e1:IntKind.i64.wrap (1+(x:Int))=((x+1:Nat):Int):=wrap_eq (by omega) (by omega) (by omega)
 have e2:IntKind.i64.wrap (((x+1:Nat):Int)+(y:Int))=((x+y+1:Nat):Int):=wrap_eq (by omega) (by omega) (by omega)
 rw [Ty.nodesL_some ha,Ty.nodesL_some hb,Ty.nodesL_nil,e1,e2]
theorem TyF.nodes {t:Ty} (h:TyF t):tySz t≤1000000→t.nodes=some (tySz t:Int):=by
 induction h with
 | nat=>intro _;rfl
 | list=>intro _;rfl
 | unit=>intro _;rfl
 | pair _ _ h1 h2=>intro hs;rw [tySz_pair] at hs ⊢;exact nodes_two (.inl rfl) (h1 (by omega)) (h2 (by omega)) (by omega)
 | func _ _ h1 h2=>intro hs;rw [tySz_fun] at hs ⊢;exact nodes_two (.inr rfl) (h1 (by omega)) (h2 (by omega)) (by omega)
def TyG (t:Ty):Prop:=TyF t∧tySz t≤64
theorem TyF.err {t:Ty} (h:TyF t) (hs:tySz t≤1000000):tyErr t=if tySz t≤64 then 0 else 4:=by
 unfold tyErr
 rw [h.nodes hs,chk]
 by_cases h64:tySz t≤64
 ·rw [if_neg (by omega),if_pos h64]
 ·rw [if_pos (by omega),if_neg h64]
theorem TyG.err {t:Ty} (h:TyG t):tyErr t=0:=by rw [h.1.err (by have:=h.2;omega),if_pos h.2]
theorem TyG.nat:TyG tNat:=⟨.nat,by rw [tySz_nat];omega⟩
theorem TyG.list:TyG tList:=⟨.list,by rw [tySz_list];omega⟩
theorem TyG.unit:TyG tUnit:=⟨.unit,by rw [tySz_unit];omega⟩
theorem TyG.pair1 {a b:Ty} (h:TyG (tPair a b)):TyG a∧TyG b:=by
 obtain ⟨h1,h2⟩:=h
 rw [tySz_pair] at h2
 cases h1 with|pair ha hb=>exact ⟨⟨ha,by omega⟩,⟨hb,by omega⟩⟩
theorem TyG.fun1 {a b:Ty} (h:TyG (tFun a b)):TyG a∧TyG b:=by
 obtain ⟨h1,h2⟩:=h
 rw [tySz_fun] at h2
 cases h1 with|func ha hb=>exact ⟨⟨ha,by omega⟩,⟨hb,by omega⟩⟩
theorem MkTy.sz0 {t:Ty} (h:MkTy 0 t):tySz t=1:=by
 cases h with
 | nat=>exact tySz_nat
 | list=>exact tySz_list
 | unit=>exact tySz_unit
theorem MkTy.sz1 {t:Ty} (h:MkTy 1 t):tySz t≤3:=by
 cases h with
 | nat=>rw [tySz_nat];omega
 | list=>rw [tySz_list];omega
 | unit=>rw [tySz_unit];omega
 | pair h1 h2=>rw [tySz_pair,h1.sz0,h2.sz0];omega
 | func h1 h2=>rw [tySz_fun,h1.sz0,h2.sz0];omega
theorem MkTy.G {n:Nat} (hn:n≤1) {t:Ty} (h:MkTy n t):TyG t:=⟨h.F,by have:=(h.up hn).sz1;omega⟩
inductive TmG:Tm→Prop
 | plain {k:Int} {l:List Tm} {a:Int} (ha:arity k=some a) (hl:(l.length:Int)=a) (ht:typed k=false) (h:∀ x∈l,TmG x):TmG (tm0 k l)
 | var {i:Int} (hi:0≤i):TmG (tmVar i)
 | typd {k:Int} {t:Ty} {l:List Tm} {a:Int} (ha:arity k=some a) (hl:(l.length:Int)=a) (ht:typed k=true) (hg:TyG t) (h:∀ x∈l,TmG x):TmG (tmT k t l)
theorem ar4:arity 4=some 0:=rfl
theorem ar5:arity 5=some 1:=rfl
theorem ar3:arity 3=some 2:=rfl
theorem ar2:arity 2=some 1:=rfl
theorem ar6:arity 6=some 3:=rfl
theorem ar7:arity 7=some 0:=rfl
theorem ar8:arity 8=some 2:=rfl
theorem ar9:arity 9=some 3:=rfl
theorem ar10:arity 10=some 2:=rfl
theorem ar11:arity 11=some 1:=rfl
theorem ar12:arity 12=some 1:=rfl
theorem ar13:arity 13=some 0:=rfl
theorem TmG.t0 {k:Int} (ha:arity k=some 0) (ht:typed k=false):TmG (tm0 k []):=.plain ha rfl ht (by simp)
theorem TmG.t1 {k:Int} {a:Tm} (ha:arity k=some 1) (ht:typed k=false) (h1:TmG a):TmG (tm0 k [a]):=.plain ha rfl ht (by simp [h1])
theorem TmG.t2 {k:Int} {a b:Tm} (ha:arity k=some 2) (ht:typed k=false) (h1:TmG a) (h2:TmG b):TmG (tm0 k [a,b]):=.plain ha rfl ht (by simp [h1,h2])
theorem TmG.lam {t:Ty} {a:Tm} (hg:TyG t) (h1:TmG a):TmG (tmT 2 t [a]):=.typd ar2 rfl rfl hg (by simp [h1])
theorem TmG.recr {t:Ty} {a b c:Tm} (hg:TyG t) (h1:TmG a) (h2:TmG b) (h3:TmG c):TmG (tmT 6 t [a,b,c]):=.typd ar6 rfl rfl hg (by simp [h1,h2,h3])
theorem TmG.fold {t:Ty} {a b c:Tm} (hg:TyG t) (h1:TmG a) (h2:TmG b) (h3:TmG c):TmG (tmT 9 t [a,b,c]):=.typd ar9 rfl rfl hg (by simp [h1,h2,h3])
theorem numT_G:∀ n,TmG (numT n)
 | 0=>.t0 ar4 rfl
 | n+1=>.t1 ar5 rfl (numT_G n)
theorem lamN_G {t:Tm} (h:TmG t):TmG (lamN t):=.lam .nat h
theorem recN_G {a b c:Tm} (h1:TmG a) (h2:TmG b) (h3:TmG c):TmG (recN a b c):=.recr .nat h1 h2 h3
theorem v0_G:TmG (tmVar 0):=.var (by omega)
theorem v1_G:TmG (tmVar 1):=.var (by omega)
theorem predT_G:TmG predT:=lamN_G (recN_G (.t0 ar4 rfl) (lamN_G (lamN_G v1_G)) v0_G)
theorem plusT_G:TmG plusT:=lamN_G (lamN_G (recN_G v1_G (lamN_G (lamN_G (.t1 ar5 rfl v0_G))) v0_G))
theorem subT_G:TmG subT:=lamN_G (lamN_G (recN_G v1_G (lamN_G (lamN_G (.t2 ar3 rfl predT_G v0_G))) v0_G))
theorem MkTm.G {n:Nat} {g:List Ty} {t:Ty} {x:Tm} (h:MkTm n g t x) (hg:∀ y∈g,TyG y) (ht:TyG t):TmG x:=by
 have app:∀ {g l:List Ty},(∀ y∈g,TyG y)→(∀ y∈l,TyG y)→∀ y∈g++l,TyG y:=by
  intro g l h1 h2 y hy
  rcases List.mem_append.1 hy with hy|hy
  ·exact h1 y hy
  ·exact h2 y hy
 induction h with
 | var=>exact .var (by omega)
 | app hs _ _ h1 h2 =>
  have hsG:=hs.G (by omega)
  exact .t2 ar3 rfl (.lam hsG (h1 (app hg (by simp [hsG])) ht)) (h2 hg hsG)
 | fst hs _ _ h1 h2=>exact .t1 ar11 rfl (.t2 ar10 rfl (h1 hg ht) (h2 hg (hs.G (by omega))))
 | snd hs _ _ h1 h2=>exact .t1 ar12 rfl (.t2 ar10 rfl (h1 hg (hs.G (by omega))) (h2 hg ht))
 | recr hk _ _ h1 h2=>exact .recr ht (h2 hg ht) (.lam .nat (.lam ht (h1 (app hg (by simp [ht,TyG.nat])) ht))) (numT_G _)
 | fold _ _ _ h1 h2 h3=>exact .fold ht (h2 hg ht) (.lam .nat (.lam .list (.lam ht (h1 (app hg (by simp [ht,TyG.nat,TyG.list])) ht)))) (h3 hg .list)
 | fapp hi h _ h1=>exact .t2 ar3 rfl (.var (by omega)) (h1 hg (hg _ (List.mem_of_getElem? h)).fun1.1)
 | succ _ h1=>exact .t1 ar5 rfl (h1 hg ht)
 | plus _ _ h1 h2=>exact .t2 ar3 rfl (.t2 ar3 rfl plusT_G (h1 hg ht)) (h2 hg ht)
 | sub _ _ h1 h2=>exact .t2 ar3 rfl (.t2 ar3 rfl subT_G (h1 hg ht)) (h2 hg ht)
 | num=>exact numT_G _
 | cons _ _ h1 h2=>exact .t2 ar8 rfl (h1 hg .nat) (h2 hg ht)
 | nil=>exact .t0 ar7 rfl
 | pair _ _ h1 h2=>exact .t2 ar10 rfl (h1 hg ht.pair1.1) (h2 hg ht.pair1.2)
 | lam _ h1=>exact .lam ht.fun1.1 (h1 (app hg (by simp [ht.fun1.1])) ht.fun1.2)
 | unit=>exact .t0 ar13 rfl
inductive FmG (u:Bool):Fm→Prop
 | eq {x y:Tm}:TmG x→TmG y→FmG u (fmEq x y)
 | two {k:Int} {a b:Fm} (hk:k=2∨k=3):FmG u a→FmG u b→FmG u (fmTwo k a b)
 | q {k:Int} {s:Ty} {a:Fm} (hk:k=4∨k=5∨(u=true∧(k=6∨k=7))) (hs:TyG s):FmG u a→FmG u (fmQ k s a)
theorem MkFm.G {u:Bool} {n:Nat} {g:List Ty} {f:Fm} (h:MkFm u n g f) (hg:∀ y∈g,TyG y):FmG u f:=by
 induction h with
 | eq h1 h2=>exact .eq (h1.G hg .nat) (h2.G hg .nat)
 | two hk _ _ h1 h2=>exact .two hk (h1 hg) (h2 hg)
 | q hk hs _ h1 =>
  have hG:=hs.G (by split<;>omega)
  refine .q hk hG (h1 ?_)
  intro y hy
  rcases List.mem_append.1 hy with hy|hy
  ·exact hg y hy
  ·simp at hy;subst hy;exact hG
mutual
def tmSz:Tm→Nat
 | .mk _ _ _ l=>tmSzL l+1
def tmSzL:List Tm→Nat
 | []=>0
 | t::l=>tmSz t+tmSzL l
end
mutual
def fmSz:Fm→Nat
 | .mk _ _ l a=>tmSzL l+fmSzL a+1
def fmSzL:List Fm→Nat
 | []=>0
 | t::l=>fmSz t+fmSzL l
end
theorem tmSz_0 {k:Int}:tmSz (tm0 k [])=1:=by simp [tm0,tmSz,tmSzL]
theorem tmSz_v {k:Int}:tmSz (tmVar k)=1:=by simp [tmVar,tmSz,tmSzL]
theorem tmSz_1 {k:Int} {a:Tm}:tmSz (tm0 k [a])=tmSz a+1:=by simp [tm0,tmSz,tmSzL]
theorem tmSz_2 {k:Int} {a b:Tm}:tmSz (tm0 k [a,b])=tmSz a+tmSz b+1:=by simp [tm0,tmSz,tmSzL]
theorem tmSz_T1 {k:Int} {t:Ty} {a:Tm}:tmSz (tmT k t [a])=tmSz a+1:=by simp [tmT,tmSz,tmSzL]
theorem tmSz_T3 {k:Int} {t:Ty} {a b c:Tm}:tmSz (tmT k t [a,b,c])=tmSz a+(tmSz b+tmSz c)+1:=by simp [tmT,tmSz,tmSzL]
theorem tmSz_num:∀ n,tmSz (numT n)=n+1
 | 0=>by rw [numT,tmSz_0]
 | n+1=>by rw [numT,tmSz_1,tmSz_num n]
theorem fmSz_eq {x y:Tm}:fmSz (fmEq x y)=tmSz x+tmSz y+1:=by simp [fmEq,fmSz,fmSzL,tmSzL]
theorem fmSz_two {k:Int} {x y:Fm}:fmSz (fmTwo k x y)=fmSz x+fmSz y+1:=by simp [fmTwo,fmSz,fmSzL,tmSzL]
theorem fmSz_q {k:Int} {t:Ty} {x:Fm}:fmSz (fmQ k t x)=fmSz x+1:=by simp [fmQ,fmSz,fmSzL,tmSzL]
theorem tmSz_plus:tmSz plusT=9:=by simp [plusT,lamN,recN,tmSz_T1,tmSz_T3,tmSz_v,tmSz_1]
theorem tmSz_sub:tmSz subT=16:=by simp [subT,predT,lamN,recN,tmSz_T1,tmSz_T3,tmSz_v,tmSz_1,tmSz_2,tmSz_0]
theorem Tm.nodesL_sum:∀ {l:List Tm} {n:Nat},(∀ x∈l,tmSz x≤1000000→x.nodes=some (tmSz x:Int))→n+tmSzL l≤1000000 →
  Tm.nodesL (n:Int) l=some ((n+tmSzL l:Nat):Int)
 | [],n,_,_=>by rw [Tm.nodesL_nil];simp [tmSzL]
 | x::l,n,h,hs=>by
  rw [tmSzL] at hs
  have e:IntKind.i64.wrap ((n:Int)+(tmSz x:Int))=((n+tmSz x:Nat):Int):=wrap_eq (by omega) (by omega) (by omega)
  rw [Tm.nodesL_some (h x (by simp) (by omega)),e,Tm.nodesL_sum (fun y hy=>h y (by simp [hy])) (by omega),tmSzL,Nat.add_assoc]
theorem Fm.nodesL_sum:∀ {l:List Fm} {n:Nat},(∀ x∈l,fmSz x≤1000000→x.nodes=some (fmSz x:Int))→n+fmSzL l≤1000000 →
  Fm.nodesL (n:Int) l=some ((n+fmSzL l:Nat):Int)
 | [],n,_,_=>by rw [Fm.nodesL_nil];simp [fmSzL]
 | x::l,n,h,hs=>by
  rw [fmSzL] at hs
  have e:IntKind.i64.wrap ((n:Int)+(fmSz x:Int))=((n+fmSz x:Nat):Int):=wrap_eq (by omega) (by omega) (by omega)
  rw [Fm.nodesL_some (h x (by simp) (by omega)),e,Fm.nodesL_sum (fun y hy=>h y (by simp [hy])) (by omega),fmSzL,Nat.add_assoc]
theorem tmSzL_mem:∀ {l:List Tm} {x:Tm},x∈l→tmSz x≤tmSzL l
 | y::l,x,h=>by
  rw [tmSzL]
  rcases List.mem_cons.1 h with rfl|h
  ·omega
  ·have:=tmSzL_mem h;omega
theorem Tm.head_val {k i:Int} {t:Ty} {l:List Tm} (h:tmHead k i t l.length=true) (ih:∀ x∈l,tmSz x≤1000000→x.nodes=some (tmSz x:Int)) (hs:tmSz (.mk k i t l)≤1000000) :
  (Tm.mk k i t l).nodes=some (tmSz (.mk k i t l):Int):=by
 rw [tmSz] at hs ⊢
 have:=Tm.nodesL_sum (n:=1) ih (by omega)
 rw [Tm.nodes_mk,h]
 simp only [if_true]
 rw [Nat.add_comm (tmSzL l) 1];exact this
theorem TmG.nodes_val {t:Tm} (h:TmG t):tmSz t≤1000000→t.nodes=some (tmSz t:Int):=by
 induction h with
 | @plain k l a ha hl ht _ ih =>
  have:tmHead k 0 (.mk 0 []) l.length=true:=by simp [tmHead,ha,hl,ht,noType,Ty.kind,Ty.args]
  exact Tm.head_val this ih
 | @var i hi =>
  have:tmHead 1 i (.mk 0 []) ([]:List Tm).length=true:=by simp [tmHead,arity,arities,hi,typed,noType,Ty.kind,Ty.args]
  exact Tm.head_val this (by simp)
 | @typd k t l a ha hl ht hg _ ih =>
  have:tmHead k 0 t l.length=true:=by simp [tmHead,ha,hl,ht,hg.err]
  exact Tm.head_val this ih
theorem Fm.head_val {k:Int} {t:Ty} {l:List Tm} {a:List Fm} (h:formed k t l.length a.length=true) (hl:∀ x∈l,TmG x)
  (ih:∀ x∈a,fmSz x≤1000000→x.nodes=some (fmSz x:Int)) (hs:fmSz (.mk k t l a)≤1000000):(Fm.mk k t l a).nodes=some (fmSz (.mk k t l a):Int):=by
 rw [fmSz] at hs ⊢
 have h1:=Tm.nodesL_sum (n:=1) (l:=l) (fun x hx=>(hl x hx).nodes_val) (by omega)
 have h2:=Fm.nodesL_sum (n:=1+tmSzL l) ih (by omega)
 rw [Fm.nodes_mk,h]
 have h1':Tm.nodesL 1 l=some ((1+tmSzL l:Nat):Int):=h1
 simp only [if_true,h1']
 rw [h2];congr 2;omega
theorem FmG.nodes_val {u:Bool} {f:Fm} (h:FmG u f):fmSz f≤1000000→f.nodes=some (fmSz f:Int):=by
 induction h with
 | @eq x y h1 h2=>exact Fm.head_val rfl (by simp [h1,h2]) (by simp)
 | @two k a b hk _ _ h1 h2 =>
  have:formed k (.mk 0 []) ([]:List Tm).length [a,b].length=true:=by rcases hk with rfl|rfl<;>rfl
  exact Fm.head_val this (by simp) (fun x hx=>by simp at hx;rcases hx with rfl|rfl<;>assumption)
 | @q k s a hk hs _ h1 =>
  have:formed k s ([]:List Tm).length [a].length=true:=by
   rcases hk with rfl|rfl|⟨_,rfl|rfl⟩<;>simp [formed,fmWant,hs.err]
  exact Fm.head_val this (by simp) (by intro x hx;simp at hx;subst hx;exact h1)
theorem FmG.err_val {u:Bool} {f:Fm} (h:FmG u f) (hs:fmSz f≤1000000):fmErr f=if fmSz f≤4096 then 0 else 4:=by
 unfold fmErr
 rw [h.nodes_val hs,chk]
 by_cases h64:fmSz f≤4096
 ·rw [if_neg (by omega),if_pos h64]
 ·rw [if_pos (by omega),if_neg h64]
def bndT (M:Nat):Nat→Nat
 | 0=>3 * M
 | n+1=>40+3 * bndT M n
theorem bndT_ge (M:Nat):∀ n,3 * M≤bndT M n
 | 0=>Nat.le_refl _
 | n+1=>by have:=bndT_ge M n;rw [bndT];omega
theorem MkTm.sz {M:Nat} (hM:1≤M) {n:Nat} {g:List Ty} {t:Ty} {x:Tm} (h:MkTm n g t x) (hg:∀ y∈g,tySz y≤M) (ht:tySz t≤M) :
  tmSz x≤bndT M n∧(n=0→tmSz x≤3 * tySz t):=by
 have app:∀ {g l:List Ty},(∀ y∈g,tySz y≤M)→(∀ y∈l,tySz y≤M)→∀ y∈g++l,tySz y≤M:=by
  intro g l h1 h2 y hy
  rcases List.mem_append.1 hy with hy|hy
  ·exact h1 y hy
  ·exact h2 y hy
 have nat1:tySz tNat≤M:=by rw [tySz_nat];exact hM
 have list1:tySz tList≤M:=by rw [tySz_list];exact hM
 have small:∀ {n:Nat} {t:Ty} {x:Tm},tmSz x≤3→tmSz x≤bndT M n∧(n=0→tmSz x≤3 * tySz t):=by
  intro n t x hx
  have:=bndT_ge M n
  have:=tySz_pos t
  exact ⟨by omega,fun _=>by omega⟩
 induction h with
 | var=>exact small (by rw [tmSz_v];omega)
 | @app n g t s b x hs _ _ h1 h2 =>
  have s1:tySz s≤M:=by rw [hs.sz0];exact hM
  have a1:=(h1 (app hg (by simpa using s1)) ht).1
  have a2:=(h2 hg s1).1
  exact ⟨by rw [tmSz_2,tmSz_T1,bndT];omega,fun h=>by omega⟩
 | @fst n g t s x y hs _ _ h1 h2 =>
  have s1:tySz s≤M:=by rw [hs.sz0];exact hM
  have a1:=(h1 hg ht).1
  have a2:=(h2 hg s1).1
  exact ⟨by rw [tmSz_1,tmSz_2,bndT];omega,fun h=>by omega⟩
 | @snd n g t s x y hs _ _ h1 h2 =>
  have s1:tySz s≤M:=by rw [hs.sz0];exact hM
  have a1:=(h1 hg s1).1
  have a2:=(h2 hg ht).1
  exact ⟨by rw [tmSz_1,tmSz_2,bndT];omega,fun h=>by omega⟩
 | recr hk _ _ h1 h2 =>
  have a1:=(h1 (app hg (by simp [nat1,ht])) ht).1
  have a2:=(h2 hg ht).1
  exact ⟨by rw [tmSz_T3,tmSz_T1,tmSz_T1,tmSz_num,bndT];omega,fun h=>by omega⟩
 | fold _ _ _ h1 h2 h3 =>
  have a1:=(h1 (app hg (by simp [nat1,list1,ht])) ht).1
  have a2:=(h2 hg ht).1
  have a3:=(h3 hg list1).1
  exact ⟨by rw [tmSz_T3,tmSz_T1,tmSz_T1,tmSz_T1,bndT];omega,fun h=>by omega⟩
 | fapp hi h _ h1 =>
  have s1:=hg _ (List.mem_of_getElem? h)
  rw [tySz_fun] at s1
  have a1:=(h1 hg (by omega)).1
  exact ⟨by rw [tmSz_2,tmSz_v,bndT];omega,fun h=>by omega⟩
 | succ _ h1 =>
  have a1:=(h1 hg ht).1
  exact ⟨by rw [tmSz_1,bndT];omega,fun h=>by omega⟩
 | plus _ _ h1 h2 =>
  have a1:=(h1 hg ht).1
  have a2:=(h2 hg ht).1
  exact ⟨by rw [tmSz_2,tmSz_2,tmSz_plus,bndT];omega,fun h=>by omega⟩
 | sub _ _ h1 h2 =>
  have a1:=(h1 hg ht).1
  have a2:=(h2 hg ht).1
  exact ⟨by rw [tmSz_2,tmSz_2,tmSz_sub,bndT];omega,fun h=>by omega⟩
 | num hk=>exact small (by rw [tmSz_num];omega)
 | cons _ _ h1 h2 =>
  have a1:=(h1 hg nat1).1
  have a2:=(h2 hg ht).1
  exact ⟨by rw [tmSz_2,bndT];omega,fun h=>by omega⟩
 | nil=>exact small (by rw [tmSz_0];omega)
 | @pair n g a b x y _ _ h1 h2 =>
  rw [tySz_pair] at ht
  have a1:=h1 hg (by omega)
  have a2:=h2 hg (by omega)
  rw [tmSz_2,tySz_pair]
  cases n with
  | zero =>
   have b1:=a1.2 rfl
   have b2:=a2.2 rfl
   exact ⟨by rw [bndT];omega,fun _=>by omega⟩
  | succ n =>
   have b1:=a1.1
   have b2:=a2.1
   simp only [Nat.add_sub_cancel] at b1 b2
   exact ⟨by rw [bndT];omega,fun h=>by omega⟩
 | @lam n g a b x _ h1 =>
  rw [tySz_fun] at ht
  have a1:=h1 (app hg (by simp;omega)) (by omega)
  rw [tmSz_T1,tySz_fun]
  cases n with
  | zero =>
   have b1:=a1.2 rfl
   exact ⟨by rw [bndT];omega,fun _=>by omega⟩
  | succ n =>
   have b1:=a1.1
   simp only [Nat.add_sub_cancel] at b1
   exact ⟨by rw [bndT];omega,fun h=>by omega⟩
 | unit=>exact small (by rw [tmSz_0];omega)
def addW (a b:Int):Int:=IntKind.i64.wrap (a+b)
def subW (a b:Int):Int:=IntKind.i64.wrap (a - b)
mutual
def Tm.szW:Tm→Int
 | .mk _ _ _ l=>Tm.szWL 1 l
def Tm.szWL:Int→List Tm→Int
 | n,[]=>n
 | n,t::l=>Tm.szWL (IntKind.i64.wrap (n+t.szW)) l
end
theorem Tm.szW_eq (t:Tm):t.szW=Tm.szWL 1 t.args:=by cases t;rw [Tm.szW];rfl
theorem Tm.szWL_nil {n:Int}:Tm.szWL n []=n:=by rw [Tm.szWL]
theorem Tm.szWL_cons {n:Int} {t:Tm} {l:List Tm}:Tm.szWL n (t::l)=Tm.szWL (IntKind.i64.wrap (n+t.szW)) l:=by rw [Tm.szWL]
mutual
def Fm.szW:Fm→Int
 | .mk _ _ l a=>Fm.szWL (Tm.szWL 1 l) a
def Fm.szWL:Int→List Fm→Int
 | n,[]=>n
 | n,t::l=>Fm.szWL (IntKind.i64.wrap (n+t.szW)) l
end
theorem Fm.szW_eq (t:Fm):t.szW=Fm.szWL (Tm.szWL 1 t.terms) t.args:=by cases t;rw [Fm.szW];rfl
theorem Fm.szWL_nil {n:Int}:Fm.szWL n []=n:=by rw [Fm.szWL]
theorem Fm.szWL_cons {n:Int} {t:Fm} {l:List Fm}:Fm.szWL n (t::l)=Fm.szWL (IntKind.i64.wrap (n+t.szW)) l:=by rw [Fm.szWL]
def Tm.good (t:Tm):Bool:=t.nodes.isSome
def Fm.good (t:Fm):Bool:=t.nodes.isSome
theorem Tm.nodesL_good:∀ (l:List Tm) (n:Int),(Tm.nodesL n l).isSome=l.all Tm.good
 | [],n=>by rw [Tm.nodesL_nil];rfl
 | t::l,n=>by
  cases h:t.nodes with
  | none=>rw [Tm.nodesL_none h];simp [Tm.good,h]
  | some k=>rw [Tm.nodesL_some h,Tm.nodesL_good l];simp [Tm.good,h]
theorem Fm.nodesL_good:∀ (l:List Fm) (n:Int),(Fm.nodesL n l).isSome=l.all Fm.good
 | [],n=>by rw [Fm.nodesL_nil];rfl
 | t::l,n=>by
  cases h:t.nodes with
  | none=>rw [Fm.nodesL_none h];simp [Fm.good,h]
  | some k=>rw [Fm.nodesL_some h,Fm.nodesL_good l];simp [Fm.good,h]
theorem Tm.good_eq (t:Tm):t.good=(tmHead t.kind t.index t.type t.args.length&&t.args.all Tm.good):=by
 show t.nodes.isSome=_
 rw [Tm.nodes_eq]
 cases h:tmHead t.kind t.index t.type t.args.length with
 | true=>simp only [if_true,Tm.nodesL_good,Bool.true_and]
 | false=>simp
theorem Fm.good_eq (t:Fm):t.good=(formed t.kind t.type t.terms.length t.args.length&&t.terms.all Tm.good&&t.args.all Fm.good):=by
 show t.nodes.isSome=_
 rw [Fm.nodes_eq]
 cases h:formed t.kind t.type t.terms.length t.args.length with
 | true =>
  simp only [if_true,Bool.true_and]
  have h1:=Tm.nodesL_good t.terms 1
  cases hn:Tm.nodesL 1 t.terms with
  | none=>rw [hn] at h1;rw [← h1];simp
  | some n=>rw [hn] at h1;rw [← h1];simp only [Fm.nodesL_good,Option.isSome_some,Bool.true_and]
 | false=>simp
mutual
def Tm.least (m:Int):Tm→Bool
 | .mk _ i _ l=>decide (i≤m)&&Tm.leastL m l
def Tm.leastL (m:Int):List Tm→Bool
 | []=>true
 | t::l=>t.least m&&Tm.leastL m l
end
theorem Tm.least_eq (m:Int) (t:Tm):t.least m=(decide (t.index≤m)&&Tm.leastL m t.args):=by cases t;rw [Tm.least];rfl
theorem Tm.leastL_nil {m:Int}:Tm.leastL m []=true:=by rw [Tm.leastL]
theorem Tm.leastL_cons {m:Int} {t:Tm} {l:List Tm}:Tm.leastL m (t::l)=(t.least m&&Tm.leastL m l):=by rw [Tm.leastL]
mutual
def Fm.least (m:Int):Fm→Bool
 | .mk _ _ l a=>Tm.leastL m l&&Fm.leastL m a
def Fm.leastL (m:Int):List Fm→Bool
 | []=>true
 | t::l=>t.least m&&Fm.leastL m l
end
theorem Fm.least_eq (m:Int) (t:Fm):t.least m=(Tm.leastL m t.terms&&Fm.leastL m t.args):=by cases t;rw [Fm.least];rfl
theorem Fm.leastL_nil {m:Int}:Fm.leastL m []=true:=by rw [Fm.leastL]
theorem Fm.leastL_cons {m:Int} {t:Fm} {l:List Fm}:Fm.leastL m (t::l)=(t.least m&&Fm.leastL m l):=by rw [Fm.leastL]
def tmBelow (k:Int):Int:=if k==2 then 1 else 0
def quant (k:Int):Bool:=k==4||k==5||k==6||k==7
def fmBelow (k:Int):Int:=if quant k then 1 else 0
mutual
def Tm.up (by':Int):Tm→Int→Tm
 | .mk k i t l,fr=>.mk k (if k==1&&decide (i≥fr) then addW i by' else i) t (Tm.upL by' l (addW fr (tmBelow k)))
def Tm.upL (by':Int):List Tm→Int→List Tm
 | [],_=>[]
 | t::l,fr=>t.up by' fr::Tm.upL by' l fr
end
theorem Tm.upL_map {b:Int}:∀ (l:List Tm) (fr:Int),Tm.upL b l fr=l.map fun t=>t.up b fr
 | [],fr=>by simp [Tm.upL]
 | t::l,fr=>by simp [Tm.upL,Tm.upL_map l fr]
theorem Tm.up_eq (b:Int) (t:Tm) (fr:Int):t.up b fr=.mk t.kind (if t.kind==1&&decide (t.index≥fr) then addW t.index b else t.index) t.type (t.args.map fun x=>x.up b (addW fr (tmBelow t.kind))):=by
 cases t;rw [Tm.up,Tm.upL_map];rfl
mutual
def tmInn (s:Tm) (at':Int):Tm→Int→Tm
 | .mk k i t l,d=>if k==1 then (if i==addW at' d then Tm.up (addW at' d) s 0 else if decide (i>addW at' d) then tmVar (subW i 1) else .mk k i t l)
  else .mk k i t (tmInnL s at' l (addW d (tmBelow k)))
def tmInnL (s:Tm) (at':Int):List Tm→Int→List Tm
 | [],_=>[]
 | t::l,d=>tmInn s at' t d::tmInnL s at' l d
end
theorem tmInnL_map {s:Tm} {a:Int}:∀ (l:List Tm) (d:Int),tmInnL s a l d=l.map fun t=>tmInn s a t d
 | [],d=>by simp [tmInnL]
 | t::l,d=>by simp [tmInnL,tmInnL_map l d]
mutual
def fmInn (s:Tm) (at':Int):Fm→Int→Fm
 | .mk k t l a,d=>.mk k t (l.map fun x=>tmInn s at' x d) (fmInnL s at' a (addW d (fmBelow k)))
def fmInnL (s:Tm) (at':Int):List Fm→Int→List Fm
 | [],_=>[]
 | t::l,d=>fmInn s at' t d::fmInnL s at' l d
end
theorem fmInnL_map {s:Tm} {a:Int}:∀ (l:List Fm) (d:Int),fmInnL s a l d=l.map fun t=>fmInn s a t d
 | [],d=>by simp [fmInnL]
 | t::l,d=>by simp [fmInnL,fmInnL_map l d]
theorem fmInn_eq (s:Tm) (a:Int) (t:Fm) (d:Int):fmInn s a t d=.mk t.kind t.type (t.terms.map fun x=>tmInn s a x d) (t.args.map fun x=>fmInn s a x (addW d (fmBelow t.kind))):=by
 cases t;rw [fmInn,fmInnL_map];rfl
mutual
theorem Tm.szW_nodes:∀ (t:Tm) (n:Int),t.nodes=some n→t.szW=n
 | .mk k i t l,n,h=>by
  rw [Tm.nodes_mk] at h
  rw [Tm.szW]
  split at h
  ·exact Tm.szWL_nodes l 1 n h
  ·cases h
theorem Tm.szWL_nodes:∀ (l:List Tm) (m n:Int),Tm.nodesL m l=some n→Tm.szWL m l=n
 | [],m,n,h=>by rw [Tm.nodesL_nil] at h;rw [Tm.szWL_nil];exact Option.some.inj h
 | t::l,m,n,h=>by
  cases hx:t.nodes with
  | none=>rw [Tm.nodesL_none hx] at h;cases h
  | some k =>
   rw [Tm.nodesL_some hx] at h
   rw [Tm.szWL_cons,Tm.szW_nodes t k hx]
   exact Tm.szWL_nodes l _ n h
end
mutual
theorem Fm.szW_nodes:∀ (t:Fm) (n:Int),t.nodes=some n→t.szW=n
 | .mk k t l a,n,h=>by
  rw [Fm.nodes_mk] at h
  rw [Fm.szW]
  split at h
  ·cases hl:Tm.nodesL 1 l with
   | none=>rw [hl] at h;cases h
   | some m=>rw [hl] at h;rw [Tm.szWL_nodes l 1 m hl];exact Fm.szWL_nodes a m n h
  ·cases h
theorem Fm.szWL_nodes:∀ (l:List Fm) (m n:Int),Fm.nodesL m l=some n→Fm.szWL m l=n
 | [],m,n,h=>by rw [Fm.nodesL_nil] at h;rw [Fm.szWL_nil];exact Option.some.inj h
 | t::l,m,n,h=>by
  cases hx:t.nodes with
  | none=>rw [Fm.nodesL_none hx] at h;cases h
  | some k =>
   rw [Fm.nodesL_some hx] at h
   rw [Fm.szWL_cons,Fm.szW_nodes t k hx]
   exact Fm.szWL_nodes l _ n h
end
def tmErr (t:Tm):Int:=(chk 4096 t.nodes).2
def zeroF:Fm:=.mk 0 (.mk 0 []) [] []
def mulW (a b:Int):Int:=IntKind.i64.wrap (a * b)
@[go_sem] def fmErrV (p:Fm × Int):V:=.tup [.agg p.1.cells,.int .i64 p.2]
theorem addW_eq {a b:Int} (h0 : -1000000000000≤a) (h1:a≤1000000000000) (h2 : -1000000000000≤b) (h3:b≤1000000000000):addW a b=a+b:=wrap_eq rfl (by omega) (by omega)
theorem subW_eq {a b:Int} (h0 : -1000000000000≤a) (h1:a≤1000000000000) (h2 : -1000000000000≤b) (h3:b≤1000000000000):subW a b=a - b:=wrap_eq rfl (by omega) (by omega)
theorem Tm.leastL_iff {m:Int}:∀ {l:List Tm},Tm.leastL m l=true↔∀ x∈l,x.least m=true
 | []=>by simp [Tm.leastL_nil]
 | x::l=>by simp [Tm.leastL_cons,Tm.leastL_iff (l:=l)]
theorem Fm.leastL_iff {m:Int}:∀ {l:List Fm},Fm.leastL m l=true↔∀ x∈l,x.least m=true
 | []=>by simp [Fm.leastL_nil]
 | x::l=>by simp [Fm.leastL_cons,Fm.leastL_iff (l:=l)]
theorem least_mk {m k i:Int} {t:Ty} {l:List Tm} (hi:i≤m) (h:∀ x∈l,x.least m=true):(Tm.mk k i t l).least m=true:=by
 rw [Tm.least,Tm.leastL_iff.2 h];simp [hi]
theorem least_0 {m k:Int} (hm:1≤m):(tm0 k []).least m=true:=least_mk (by omega) (by simp)
theorem least_1 {m k:Int} {a:Tm} (hm:1≤m) (h1:a.least m=true):(tm0 k [a]).least m=true:=least_mk (by omega) (by simp [h1])
theorem least_2 {m k:Int} {a b:Tm} (hm:1≤m) (h1:a.least m=true) (h2:b.least m=true):(tm0 k [a,b]).least m=true:=least_mk (by omega) (by simp [h1,h2])
theorem least_T1 {m k:Int} {t:Ty} {a:Tm} (hm:1≤m) (h1:a.least m=true):(tmT k t [a]).least m=true:=least_mk (by omega) (by simp [h1])
theorem least_T3 {m k:Int} {t:Ty} {a b c:Tm} (hm:1≤m) (h1:a.least m=true) (h2:b.least m=true) (h3:c.least m=true):(tmT k t [a,b,c]).least m=true:=least_mk (by omega) (by simp [h1,h2,h3])
theorem least_v {m i:Int} (h:i≤m):(tmVar i).least m=true:=least_mk h (by simp)
theorem least_num {m:Int} (hm:1≤m):∀ n,(numT n).least m=true
 | 0=>least_0 hm
 | n+1=>least_1 hm (least_num hm n)
theorem least_plus {m:Int} (hm:1≤m):plusT.least m=true :=
 least_T1 hm (least_T1 hm (least_T3 hm (least_v hm) (least_T1 hm (least_T1 hm (least_1 hm (least_v (by omega))))) (least_v (by omega))))
theorem least_pred {m:Int} (hm:1≤m):predT.least m=true :=
 least_T1 hm (least_T3 hm (least_0 hm) (least_T1 hm (least_T1 hm (least_v hm))) (least_v (by omega)))
theorem least_sub {m:Int} (hm:1≤m):subT.least m=true :=
 least_T1 hm (least_T1 hm (least_T3 hm (least_v hm) (least_T1 hm (least_T1 hm (least_2 hm (least_pred hm) (least_v (by omega))))) (least_v (by omega))))
theorem MkTm.least {M m:Nat} (hm':1≤m) {n:Nat} {g:List Ty} {t:Ty} {x:Tm} (h:MkTm n g t x) (hM:1≤M) (hg:∀ y∈g,tySz y≤M) (ht:tySz t≤M)
  (hb:g.length+(3+M) * n+tySz t≤m):x.least (m:Int)=true:=by
 have hm:(1:Int)≤(m:Int):=by omega
 have app:∀ {g l:List Ty},(∀ y∈g,tySz y≤M)→(∀ y∈l,tySz y≤M)→∀ y∈g++l,tySz y≤M:=by
  intro g l h1 h2 y hy
  rcases List.mem_append.1 hy with hy|hy
  ·exact h1 y hy
  ·exact h2 y hy
 have nat1:tySz tNat≤M:=by rw [tySz_nat];exact hM
 have list1:tySz tList≤M:=by rw [tySz_list];exact hM
 have mul:∀ n:Nat,(3+M) * (n+1)=(3+M) * n+(3+M):=fun n=>Nat.mul_succ _ _
 induction h with
 | @var n g t i hi=>exact least_v (by omega)
 | @app n g t s b x hs _ _ h1 h2 =>
  have s1:=hs.sz0
  have:=mul n
  exact least_2 hm (least_T1 hm (h1 (app hg (by simp;omega)) ht (by simp only [List.length_append,List.length_cons,List.length_nil];omega))) (h2 hg (by omega) (by omega))
 | @fst n g t s x y hs _ _ h1 h2 =>
  have s1:=hs.sz0
  have:=mul n
  exact least_1 hm (least_2 hm (h1 hg ht (by omega)) (h2 hg (by omega) (by omega)))
 | @snd n g t s x y hs _ _ h1 h2 =>
  have s1:=hs.sz0
  have:=mul n
  exact least_1 hm (least_2 hm (h1 hg (by omega) (by omega)) (h2 hg ht (by omega)))
 | @recr n g t b f k hk _ _ h1 h2 =>
  have:=mul n
  exact least_T3 hm (h2 hg ht (by omega)) (least_T1 hm (least_T1 hm (h1 (app hg (by simp [nat1,ht])) ht (by simp only [List.length_append,List.length_cons,List.length_nil];omega)))) (least_num hm _)
 | @fold n g t b f x _ _ _ h1 h2 h3 =>
  have:=mul n
  have l1:=tySz_list
  exact least_T3 hm (h2 hg ht (by omega)) (least_T1 hm (least_T1 hm (least_T1 hm (h1 (app hg (by simp [nat1,list1,ht])) ht (by simp only [List.length_append,List.length_cons,List.length_nil];omega))))) (h3 hg list1 (by omega))
 | @fapp n g t s x i hi h _ h1 =>
  have s1:=hg _ (List.mem_of_getElem? h)
  rw [tySz_fun] at s1
  have:=mul n
  exact least_2 hm (least_v (by omega)) (h1 hg (by omega) (by omega))
 | @succ n g x _ h1=>have:=mul n;exact least_1 hm (h1 hg ht (by omega))
 | @plus n g x y _ _ h1 h2=>have:=mul n;exact least_2 hm (least_2 hm (least_plus hm) (h1 hg ht (by omega))) (h2 hg ht (by omega))
 | @sub n g x y _ _ h1 h2=>have:=mul n;exact least_2 hm (least_2 hm (least_sub hm) (h1 hg ht (by omega))) (h2 hg ht (by omega))
 | num=>exact least_num hm _
 | @cons n g x y _ _ h1 h2 =>
  have:=mul n
  have l1:=tySz_nat
  exact least_2 hm (h1 hg nat1 (by omega)) (h2 hg ht (by omega))
 | nil=>exact least_0 hm
 | @pair n g a b x y _ _ h1 h2 =>
  rw [tySz_pair] at ht hb
  have:(3+M) * (n - 1)≤(3+M) * n:=Nat.mul_le_mul_left _ (by omega)
  exact least_2 hm (h1 hg (by omega) (by omega)) (h2 hg (by omega) (by omega))
 | @lam n g a b x _ h1 =>
  rw [tySz_fun] at ht hb
  have:(3+M) * (n - 1)≤(3+M) * n:=Nat.mul_le_mul_left _ (by omega)
  have:=tySz_pos a
  exact least_T1 hm (h1 (app hg (by simp;omega)) (by omega) (by simp only [List.length_append,List.length_cons,List.length_nil];omega))
 | unit=>exact least_0 hm
theorem MkFm.least {u:Bool} {m:Nat} (hm:1≤m) {n:Nat} {g:List Ty} {f:Fm} (h:MkFm u n g f) (hg:∀ y∈g,tySz y≤3)
  (hb:g.length+n+13≤m):f.least (m:Int)=true:=by
 have l1:=tySz_nat
 induction h with
 | @eq n g x y h1 h2 =>
  have a1:=h1.least (m:=m) hm (M:=3) (by omega) hg (by omega) (by omega)
  have a2:=h2.least (m:=m) hm (M:=3) (by omega) hg (by omega) (by omega)
  rw [Fm.least_eq]
  simp only [fmEq,Fm.terms,Fm.args,Tm.leastL_cons,Tm.leastL_nil,Fm.leastL_nil,a1,a2,Bool.and_self]
 | @two n g k a b _ _ _ h1 h2 =>
  rw [Fm.least_eq]
  simp only [fmTwo,Fm.terms,Fm.args,Fm.leastL_cons,Tm.leastL_nil,Fm.leastL_nil,h1 hg (by omega),h2 hg (by omega),Bool.and_self]
 | @q n g k s a _ hs _ h1 =>
  rw [Fm.least_eq]
  have hs':tySz s≤3:=(hs.up (by split<;>omega)).sz1
  have:=h1 (by
   intro y hy
   rcases List.mem_append.1 hy with hy|hy
   ·exact hg y hy
   ·simp at hy;subst hy;exact hs') (by simp only [List.length_append,List.length_cons,List.length_nil];omega)
  simp only [fmQ,Fm.terms,Fm.args,Fm.leastL_cons,Tm.leastL_nil,Fm.leastL_nil,this,Bool.and_self]
mutual
def tmOcc:Tm→Int→Nat
 | .mk k i _ l,x=>if k==1 then (if i==x then 1 else 0) else tmOccL l (x+tmBelow k)
def tmOccL:List Tm→Int→Nat
 | [],_=>0
 | t::l,x=>tmOcc t x+tmOccL l x
end
theorem tmBelow_range (k:Int):0≤tmBelow k∧tmBelow k≤1:=by unfold tmBelow;split<;>omega
theorem fmBelow_range (k:Int):0≤fmBelow k∧fmBelow k≤1:=by unfold fmBelow;split<;>omega
mutual
theorem tmOcc_le:∀ (t:Tm) (x:Int),tmOcc t x≤tmSz t
 | .mk k i t l,x=>by
  rw [tmOcc,tmSz]
  have:=tmOccL_le l (x+tmBelow k)
  repeat' split
  all_goals omega
theorem tmOccL_le:∀ (l:List Tm) (x:Int),tmOccL l x≤tmSzL l
 | [],x=>by simp [tmOccL]
 | t::l,x=>by rw [tmOccL,tmSzL];have:=tmOcc_le t x;have:=tmOccL_le l x;omega
end
theorem TmG.cases' {p:Tm→Prop} {t:Tm} (h:TmG t) (hv:∀ i,0≤i→p (tmVar i))
  (hn:∀ k ty l,(k==1)=false→tmHead k 0 ty l.length=true→(∀ x∈l,TmG x)→(∀ l',l'.length=l.length→(∀ x∈l',TmG x)→TmG (.mk k 0 ty l'))→p (.mk k 0 ty l)):p t:=by
 cases h with
 | @plain k l a ha hl ht h =>
  cases hk:(k==1) with
  | true =>
   have hk':k=1:=by simpa using hk
   subst hk'
   have:a=0:=by have e:arity 1=some 0:=rfl;rw [e] at ha;exact (Option.some.inj ha).symm
   subst this
   have hl0:l=[]:=List.length_eq_zero_iff.1 (by omega)
   subst hl0
   exact hv 0 (by omega)
  | false =>
   have:tmHead k 0 (.mk 0 []) l.length=true:=by simp [tmHead,ha,hl,ht,noType,Ty.kind,Ty.args]
   exact hn k _ l hk this h (fun l' h1 h2=>.plain ha (by rw [h1];exact hl) ht h2)
 | @var i hi=>exact hv i hi
 | @typd k t l a ha hl ht hg h =>
  have hk:(k==1)=false:=by
   cases hk:(k==1) with
   | false=>rfl
   | true =>
    have hk':k=1:=by simpa using hk
    subst hk';cases ht
  have:tmHead k 0 t l.length=true:=by simp [tmHead,ha,hl,ht,hg.err]
  exact hn k _ l hk this h (fun l' h1 h2=>.typd ha (by rw [h1];exact hl) ht hg h2)
theorem tmSzL_map {g:Tm→Tm}:∀ (l:List Tm),(∀ x∈l,tmSz (g x)=tmSz x)→tmSzL (l.map g)=tmSzL l
 | [],_=>rfl
 | x::l,h=>by rw [List.map_cons,tmSzL,tmSzL,h x (by simp),tmSzL_map l (fun y hy=>h y (by simp [hy]))]
theorem tmSz_up {b:Int}:∀ (t:Tm) (fr:Int),tmSz (t.up b fr)=tmSz t:=by
 intro t
 induction t using Tm.ind with|h t ih=>?_
 intro fr
 rw [Tm.up_eq]
 cases t with|mk k i ty l =>
 rw [tmSz,tmSz]
 simp only [Tm.args] at ih ⊢
 rw [tmSzL_map l (fun x hx=>ih x hx _)]
theorem tmSz_pos (t:Tm):1≤tmSz t:=by cases t;rw [tmSz];omega
theorem tmSzL_inn {g:Tm→Tm} {o:Tm→Nat} {c:Nat}:∀ (l:List Tm),(∀ x∈l,tmSz (g x)=tmSz x+o x * c)→tmSzL (l.map g)=tmSzL l+(l.map o).sum * c
 | [],_=>by simp [tmSzL]
 | x::l,h=>by
  rw [List.map_cons,tmSzL,tmSzL,h x (by simp),tmSzL_inn l (fun y hy=>h y (by simp [hy])),List.map_cons,List.sum_cons,Nat.add_mul]
  omega
theorem tmOccL_sum (x:Int):∀ l:List Tm,tmOccL l x=(l.map fun t=>tmOcc t x).sum
 | []=>rfl
 | t::l=>by rw [tmOccL,List.map_cons,List.sum_cons,tmOccL_sum x l]
theorem TmG.inn_sz {s:Tm}:∀ (n:Nat) {t:Tm},TmG t→tmSz t≤n→∀ d:Int,0≤d→d+n≤1000000→tmSz (tmInn s 0 t d)=tmSz t+tmOcc t d * (tmSz s - 1)
 | 0,t,h,hn,x,_,_=>by have:=tmSz_pos t;omega
 | n+1,t,h,hn,d,hd,hb=>by
  revert hn
  have e0:addW 0 d=d:=by rw [addW_eq (by omega) (by omega) (by omega) (by omega)];omega
  refine h.cases' (p:=fun t=>tmSz t≤n+1→tmSz (tmInn s 0 t d)=tmSz t+tmOcc t d * (tmSz s - 1)) ?_ ?_
  ·intro i hi _
   rw [tmVar,tmInn,tmOcc,e0]
   have:=tmSz_pos s
   cases hix:(i==d) with
   | true=>simp only [beq_self_eq_true,if_true,tmSz_up,tmSz,tmSzL];omega
   | false =>
    simp only [beq_self_eq_true,if_true,Bool.false_eq_true,if_false]
    split<;>simp [tmVar,tmSz,tmSzL]
  ·intro k ty l hk _ hl _ hn
   rw [tmSz] at hn
   have hr:=tmBelow_range k
   have e:addW d (tmBelow k)=d+tmBelow k:=addW_eq (by omega) (by omega) (by omega) (by omega)
   rw [tmInn,tmOcc,hk,e,tmInnL_map]
   simp only [Bool.false_eq_true,if_false,tmSz]
   rw [tmSzL_inn l (o:=fun t=>tmOcc t (d+tmBelow k)) (c:=tmSz s - 1) (fun y hy=>TmG.inn_sz n (hl y hy) (by have:=tmSzL_mem hy;omega) _ (by omega) (by omega)),tmOccL_sum]
   omega
theorem TmG.up {b:Int} (hb0:0≤b) (hb:b≤1000000):∀ (n:Nat) {t:Tm},TmG t→tmSz t≤n→t.least 536870912=true→∀ fr:Int,TmG (t.up b fr)
 | 0,t,h,hn,_,_=>by have:=tmSz_pos t;omega
 | n+1,t,h,hn,hl,fr=>by
  revert hn hl
  refine h.cases' (p:=fun t=>tmSz t≤n+1→t.least 536870912=true→TmG (t.up b fr)) ?_ ?_
  ·intro i hi _ hl
   rw [tmVar,Tm.least_eq] at hl
   have hi2:i≤536870912:=by rw [Bool.and_eq_true] at hl;exact of_decide_eq_true hl.1
   rw [tmVar,Tm.up,Tm.upL]
   refine .var ?_
   split
   ·rw [addW_eq (by omega) (by omega) (by omega) (by omega)];omega
   ·exact hi
  ·intro k ty l hk _ hg hmk hn hl
   rw [tmSz] at hn
   rw [Tm.least,Bool.and_eq_true] at hl
   rw [Tm.up,Tm.upL_map,hk]
   simp only [Bool.false_and,Bool.false_eq_true,if_false]
   refine hmk _ (by simp) ?_
   intro x hx
   obtain ⟨y,hy,rfl⟩:=List.mem_map.1 hx
   exact TmG.up hb0 hb n (hg y hy) (by have:=tmSzL_mem hy;omega) (Tm.leastL_iff.1 hl.2 y hy) _
theorem TmG.inn {s:Tm} (hs:TmG s) (hsl:s.least 536870912=true):∀ (n:Nat) {t:Tm},TmG t→tmSz t≤n→t.least 536870912=true→∀ d:Int,0≤d→d+n≤1000000→TmG (tmInn s 0 t d)
 | 0,t,h,hn,_,_,_,_=>by have:=tmSz_pos t;omega
 | n + 1,t,h,hn,hl,d,hd,hb=>by
  revert hn hl
  have e0:addW 0 d=d:=by rw [addW_eq (by omega) (by omega) (by omega) (by omega)];omega
  refine h.cases' (p:=fun t=>tmSz t≤n+1→t.least 536870912=true→TmG (tmInn s 0 t d)) ?_ ?_
  ·intro i hi _ hl
   rw [tmVar,Tm.least_eq] at hl
   have hi2:i≤536870912:=by rw [Bool.and_eq_true] at hl;exact of_decide_eq_true hl.1
   rw [tmVar,tmInn,e0]
   simp only [beq_self_eq_true,if_true]
   split
   ·exact TmG.up hd (by omega) _ hs (Nat.le_refl _) hsl _
   ·split
    ·rename_i h1
     have:i>d:=by simpa using h1
     refine .var ?_
     rw [subW_eq (by omega) (by omega) (by omega) (by omega)];omega
    ·exact .var hi
  ·intro k ty l hk _ hg hmk hn hl
   rw [tmSz] at hn
   have hr:=tmBelow_range k
   have e:addW d (tmBelow k)=d+tmBelow k:=addW_eq (by omega) (by omega) (by omega) (by omega)
   rw [Tm.least,Bool.and_eq_true] at hl
   rw [tmInn,tmInnL_map,hk,e]
   simp only [Bool.false_eq_true,if_false]
   refine hmk _ (by simp) ?_
   intro x hx
   obtain ⟨y,hy,rfl⟩:=List.mem_map.1 hx
   exact TmG.inn hs hsl n (hg y hy) (by have:=tmSzL_mem hy;omega) (Tm.leastL_iff.1 hl.2 y hy) _ (by omega) (by omega)
mutual
def fmOcc:Fm→Int→Nat
 | .mk k _ l a,x=>tmOccL l x+fmOccL a (x+fmBelow k)
def fmOccL:List Fm→Int→Nat
 | [],_=>0
 | t::l,x=>fmOcc t x+fmOccL l x
end
mutual
theorem fmOcc_le:∀ (t:Fm) (x:Int),fmOcc t x≤fmSz t
 | .mk k t l a,x=>by
  rw [fmOcc,fmSz]
  have:=tmOccL_le l x
  have:=fmOccL_le a (x+fmBelow k)
  omega
theorem fmOccL_le:∀ (l:List Fm) (x:Int),fmOccL l x≤fmSzL l
 | [],x=>by simp [fmOccL]
 | t::l,x=>by rw [fmOccL,fmSzL];have:=fmOcc_le t x;have:=fmOccL_le l x;omega
end
theorem below_two {k:Int} (hk:k=2∨k=3):fmBelow k=0:=by rcases hk with rfl|rfl<;>rfl
theorem addW_zero {a:Int} (h0:0≤a) (hb:a≤1000000):addW a 0=a:=by rw [addW_eq (by omega) (by omega) (by omega) (by omega)];omega
theorem addW_z {a:Int} (h0:0≤a) (hb:a≤1000000):addW 0 a=a:=by rw [addW_eq (by omega) (by omega) (by omega) (by omega)];omega
theorem fmInn_eqn {s:Tm} {a d:Int} {x y:Tm}:fmInn s a (fmEq x y) d=fmEq (tmInn s a x d) (tmInn s a y d):=by
 rw [fmInn_eq];rfl
theorem fmInn_two {s:Tm} {a d k:Int} {x y:Fm}:fmInn s a (fmTwo k x y) d=fmTwo k (fmInn s a x (addW d (fmBelow k))) (fmInn s a y (addW d (fmBelow k))):=by
 rw [fmInn_eq];rfl
theorem fmInn_q {s:Tm} {a d k:Int} {t:Ty} {x:Fm}:fmInn s a (fmQ k t x) d=fmQ k t (fmInn s a x (addW d (fmBelow k))):=by
 rw [fmInn_eq];rfl
theorem FmG.inn_sz {u:Bool} {s:Tm} {f:Fm} (h:FmG u f):∀ d:Int,0≤d→d+fmSz f≤500000→fmSz (fmInn s 0 f d)=fmSz f+fmOcc f d * (tmSz s - 1):=by
 induction h with
 | @eq x y hx hy =>
  intro d h0 hb
  rw [fmSz_eq] at hb
  rw [fmInn_eqn,fmSz_eq,fmSz_eq,hx.inn_sz _ (Nat.le_refl _) d h0 (by omega),hy.inn_sz _ (Nat.le_refl _) d h0 (by omega)]
  simp only [fmEq,fmOcc,tmOccL,fmOccL,Nat.add_zero,Nat.add_mul]
  omega
 | @two k p q hk _ _ h1 h2 =>
  intro d h0 hb
  rw [fmSz_two] at hb
  rw [fmInn_two,below_two hk,addW_zero h0 (by omega),fmSz_two,fmSz_two,h1 d h0 (by omega),h2 d h0 (by omega)]
  simp only [fmTwo,fmOcc,tmOccL,fmOccL,Nat.add_zero,Nat.zero_add,below_two hk,Int.add_zero,Nat.add_mul]
  omega
 | @q k t p hk hs _ h1 =>
  intro d h0 hb
  rw [fmSz_q] at hb
  have hr:=fmBelow_range k
  have e:=addW_eq (a:=d) (b:=fmBelow k) (by omega) (by omega) (by omega) (by omega)
  rw [fmInn_q,e,fmSz_q,fmSz_q,h1 _ (by omega) (by omega)]
  simp only [fmQ,fmOcc,tmOccL,fmOccL,Nat.add_zero,Nat.zero_add]
  omega
theorem TmG.err_val {t:Tm} (h:TmG t) (hs:tmSz t≤1000000):tmErr t=if tmSz t≤4096 then 0 else 4:=by
 unfold tmErr
 rw [h.nodes_val hs,chk]
 by_cases h64:tmSz t≤4096
 ·rw [if_neg (by omega),if_pos h64]
 ·rw [if_pos (by omega),if_neg h64]
theorem MkFm.sz {u:Bool} {n:Nat} {g:List Ty} {f:Fm} (h:MkFm u n g f) (hg:∀ y∈g,tySz y≤3):fmSz f+1≤136 * 2 ^ n:=by
 have b1:bndT 3 1=67:=rfl
 induction h with
 | @eq n g x y h1 h2 =>
  have l1:=tySz_nat
  have a1:=(MkTm.sz (M:=3) (by omega) h1 hg (by omega)).1
  have a2:=(MkTm.sz (M:=3) (by omega) h2 hg (by omega)).1
  have:=Nat.one_le_two_pow (n:=n)
  rw [fmSz_eq];omega
 | @two n g k a b _ _ _ h1 h2=>have:=h1 hg;have:=h2 hg;rw [fmSz_two,Nat.pow_succ];omega
 | @q n g k s a _ hs _ h1 =>
  have hs':tySz s≤3:=(hs.up (by split<;>omega)).sz1
  have:=h1 (by
   intro y hy
   rcases List.mem_append.1 hy with hy|hy
   ·exact hg y hy
   ·simp at hy;subst hy;exact hs')
  rw [fmSz_q,Nat.pow_succ];omega
mutual
def Tm.same:Tm→Tm→Bool
 | .mk k i t l,.mk k' i' t' l'=>k==k'&&i==i'&&Ty.same t t'&&Tm.sameL l l'
def Tm.sameL:List Tm→List Tm→Bool
 | [],[]=>true
 | a::l,b::l'=>Tm.same a b&&Tm.sameL l l'
 | _,_=>false
end
theorem Tm.same_eq (a b:Tm):Tm.same a b=(a.kind==b.kind&&a.index==b.index&&Ty.same a.type b.type&&Tm.sameL a.args b.args):=by
 cases a;cases b;simp [Tm.same,Tm.kind,Tm.index,Tm.type,Tm.args]
mutual
def Fm.same:Fm→Fm→Bool
 | .mk k t l a,.mk k' t' l' a'=>k==k'&&Ty.same t t'&&Tm.sameL l l'&&Fm.sameL a a'
def Fm.sameL:List Fm→List Fm→Bool
 | [],[]=>true
 | a::l,b::l'=>Fm.same a b&&Fm.sameL l l'
 | _,_=>false
end
theorem Fm.same_eq (a b:Fm):Fm.same a b=(a.kind==b.kind&&Ty.same a.type b.type&&Tm.sameL a.terms b.terms&&Fm.sameL a.args b.args):=by
 cases a;cases b;simp [Fm.same,Fm.kind,Fm.type,Fm.terms,Fm.args]
mutual
theorem Tm.same_refl:∀ a:Tm,Tm.same a a=true
 | .mk k i t l=>by simp [Tm.same,Ty.same_refl,Tm.sameL_refl l]
theorem Tm.sameL_refl:∀ l:List Tm,Tm.sameL l l=true
 | []=>by simp [Tm.sameL]
 | x::l=>by simp [Tm.sameL,Tm.same_refl x,Tm.sameL_refl l]
end
mutual
theorem Fm.same_refl:∀ a:Fm,Fm.same a a=true
 | .mk k t l a=>by simp [Fm.same,Ty.same_refl,Tm.sameL_refl,Fm.sameL_refl a]
theorem Fm.sameL_refl:∀ l:List Fm,Fm.sameL l l=true
 | []=>by simp [Fm.sameL]
 | x::l=>by simp [Fm.sameL,Fm.same_refl x,Fm.sameL_refl l]
end
mutual
def Tm.eachF {α:Type} (F:Int→Int→α→α):Tm→Int→α→α
 | .mk k i _ l,b,s=>Tm.eachL F l (if k==2 then addW b 1 else b) (if k==1 then F i b s else s)
def Tm.eachL {α:Type} (F:Int→Int→α→α):List Tm→Int→α→α
 | [],_,s=>s
 | t::l,b,s=>Tm.eachL F l b (Tm.eachF F t b s)
end
theorem Tm.eachF_eq {α:Type} (F:Int→Int→α→α) (t:Tm) (b:Int) (s:α) :
  t.eachF F b s=Tm.eachL F t.args (if t.kind==2 then addW b 1 else b) (if t.kind==1 then F t.index b s else s):=by cases t;rw [Tm.eachF];rfl
theorem Tm.eachL_nil {α:Type} {F:Int→Int→α→α} {b:Int} {s:α}:Tm.eachL F [] b s=s:=by rw [Tm.eachL]
theorem Tm.eachL_cons {α:Type} {F:Int→Int→α→α} {b:Int} {s:α} {t:Tm} {l:List Tm}:Tm.eachL F (t::l) b s=Tm.eachL F l b (t.eachF F b s):=by rw [Tm.eachL]
def countF (a i b n:Int):Int:=if subW i b==a then addW n 1 else n
def Tm.count (t:Tm) (a:Int):Int:=t.eachF (countF a) 0 0
def nearF (i _b:Int) (s:Bool):Bool:=s&&decide (i≤536870912)
def Tm.near (t:Tm):Bool:=t.eachF nearF 0 true
def zeroT:Tm:=.mk 0 0 (.mk 0 []) []
theorem zeroT_W:TmW zeroT:=.mk _ _ _ _ tZero_W (by simp) (by simp)
def fa (f:Fm) (i:Nat):Fm:=f.args.getD i zeroF
def ft (f:Fm) (i:Nat):Tm:=f.terms.getD i zeroT
def ta (t:Tm) (i:Nat):Tm:=t.args.getD i zeroT
theorem fa_at {f x:Fm} {i:Nat} (h:f.args[i]? = some x):fa f i=x:=by unfold fa;rw [List.getD_eq_getElem?_getD,h];rfl
theorem ta_at {t x:Tm} {i:Nat} (h:t.args[i]? = some x):ta t i=x:=by unfold ta;rw [List.getD_eq_getElem?_getD,h];rfl
def lessF (s t:Tm):Fm:=fmEq (tm0 3 [tm0 3 [subT,tm0 5 [s]],t]) (tm0 4 [])
theorem lessF_W {s t:Tm} (hs:TmW s) (ht:TmW t):FmW (lessF s t):=fmEq_W (tm0_W2 (tm0_W2 subT_W (tm0_W1 hs)) ht) tm0_W0
def bndHead (f:Fm):Bool :=
 !(f.kind != (if f.kind==4 then 4 else 5))&&!(f.type.kind != 1)&&!((fa f 0).kind != (if f.kind==4 then 3 else 2))&&!((fa (fa f 0) 0).kind != 1)
def bndSide (f:Fm):Tm:=ft (fa (fa f 0) 0) 0
def bndTerm (f:Fm):Tm:=ta (bndSide f) 1
def bndBody (f:Fm):Fm:=fa (fa f 0) 1
def bndRest (f:Fm):Bool:=!((bndSide f).kind != 3)&&!decide ((bndTerm f).count 0>0)&&Fm.same (fa (fa f 0) 0) (lessF (tmVar 0) (bndTerm f))
def isBnd (f:Fm):Bool:=bndHead f&&bndRest f
def boundV (f:Fm):V:=if isBnd f then .tup [.bool (f.kind==4),.agg (bndTerm f).cells,.agg (bndBody f).cells,.bool true]
 else .tup [.bool false,.agg zeroT.cells,.agg zeroF.cells,.bool false]
structure Fl where
 c:Bool
 f:Bool
 d:Bool
def Fl.z:Fl:=⟨false,false,false⟩
def Fl.n (x:Fl):Int:=(if x.c then 1 else 0)+(if x.f then 2 else 0)+(if x.d then 4 else 0)
theorem Fl.and (x y:Fl):bandI .u8 x.n y.n=(Fl.mk (x.c&&y.c) (x.f&&y.f) (x.d&&y.d)).n:=by
 obtain ⟨a,b,c⟩:=x;obtain ⟨d,e,f⟩:=y
 revert a b c d e f;decide
theorem Fl.or (x y:Fl):borI .u8 x.n y.n=(Fl.mk (x.c||y.c) (x.f||y.f) (x.d||y.d)).n:=by
 obtain ⟨a,b,c⟩:=x;obtain ⟨d,e,f⟩:=y
 revert a b c d e f;decide
theorem Fl.and6 (x:Fl):bandI .u8 x.n 6=(Fl.mk false x.f x.d).n:=by have:=Fl.and x ⟨false,true,true⟩;simpa [Fl.n] using this
theorem Fl.and1 (x:Fl):bandI .u8 x.n 1=(Fl.mk x.c false false).n:=by have:=Fl.and x ⟨true,false,false⟩;simpa [Fl.n] using this
theorem Fl.and2 (x:Fl):bandI .u8 x.n 2=(Fl.mk false x.f false).n:=by have:=Fl.and x ⟨false,true,false⟩;simpa [Fl.n] using this
theorem Fl.and4 (x:Fl):bandI .u8 x.n 4=(Fl.mk false false x.d).n:=by have:=Fl.and x ⟨false,false,true⟩;simpa [Fl.n] using this
theorem Fl.or1 (x:Fl):borI .u8 x.n 1=(Fl.mk true x.f x.d).n:=by have:=Fl.or x ⟨true,false,false⟩;simpa [Fl.n] using this
def flag (k:Int) (b:Bool) (is:List (Fl × List Fl)):Fl :=
 if k==1 then ⟨false,true,true⟩
 else if k==2||k==3 then
  ⟨(is.getD 1 (.z,[])).1.c||(k==2&&(is.getD 0 (.z,[])).1.c),(is.getD 0 (.z,[])).1.f&&(is.getD 1 (.z,[])).1.f,(is.getD 0 (.z,[])).1.d&&(is.getD 1 (.z,[])).1.d⟩
 else ⟨(is.getD 0 (.z,[])).1.c||k==5,false,b&&((is.getD 0 (.z,[])).2.getD 1 .z).d⟩
mutual
def Fm.info:Fm→Fl × List Fl
 | .mk k t l a=>(flag k (isBnd (.mk k t l a)) (Fm.infoL a),(Fm.infoL a).map (·.1))
def Fm.infoL:List Fm→List (Fl × List Fl)
 | []=>[]
 | f::l=>f.info::Fm.infoL l
end
def Fm.fl (f:Fm):Fl:=f.info.1
theorem Fm.fl_eqn {x y:Tm}:(fmEq x y).fl=⟨false,true,true⟩:=by simp [Fm.fl,fmEq,Fm.info,flag]
theorem Fm.fl_1 {f:Fm} (h:f.kind=1):f.fl=⟨false,true,true⟩:=by cases f;simp only [Fm.kind] at h;subst h;simp [Fm.fl,Fm.info,flag]
theorem Fm.fl_2 {f a b:Fm} (h:f.kind=2∨f.kind=3) (ha:f.args=[a,b]) :
  f.fl=⟨b.fl.c||(f.kind==2&&a.fl.c),a.fl.f&&b.fl.f,a.fl.d&&b.fl.d⟩:=by
 obtain ⟨k,t,l,ar⟩:=f
 simp only [Fm.kind,Fm.args] at h ha ⊢
 subst ha
 rcases h with rfl|rfl<;>simp [Fm.fl,Fm.info,Fm.infoL,flag]
theorem Fm.fl_q {f a:Fm} (h:4≤f.kind) (ha:f.args=[a]) :
  f.fl=⟨a.fl.c||f.kind==5,false,isBnd f&&(((Fm.infoL a.args).map (fun p=>p.1)).getD 1 Fl.z).d⟩:=by
 obtain ⟨k,t,l,ar⟩:=f
 simp only [Fm.kind,Fm.args] at h ha ⊢
 subst ha
 have h1:(k==1)=false:=by simp;omega
 have h2:(k==2)=false:=by simp;omega
 have h3:(k==3)=false:=by simp;omega
 cases a
 simp [Fm.fl,Fm.info,Fm.infoL,flag,h1,h2,h3,Fm.args]
theorem Fm.fl_qn {f a:Fm} (h:4≤f.kind) (ha:f.args=[a]) (hb:isBnd f=false):f.fl=⟨a.fl.c||f.kind==5,false,false⟩:=by rw [Fm.fl_q h ha,hb];simp
theorem Fm.fl_qb {f a x y:Fm} (h:4≤f.kind) (ha:f.args=[a]) (hb:isBnd f=true) (hy:a.args=[x,y]):f.fl=⟨a.fl.c||f.kind==5,false,y.fl.d⟩:=by
 rw [Fm.fl_q h ha,hb,hy];simp [Fm.infoL,Fm.fl]
theorem Fm.fl_two {k:Int} {a b:Fm} (h:k=2∨k=3):(fmTwo k a b).fl=⟨b.fl.c||(k==2&&a.fl.c),a.fl.f&&b.fl.f,a.fl.d&&b.fl.d⟩:=Fm.fl_2 (f:=fmTwo k a b) h rfl
def Fm.has (f:Fm) (k:Int):Bool × Int:=if fmErr f != 0 then (false,fmErr f) else ((if k==1 then f.fl.c else if k==2 then f.fl.f else f.fl.d),0)
@[go_sem] def boolErrV (p:Bool × Int):V:=.tup [.bool p.1,.int .i64 p.2]
def numR (n:Nat):Res:=.mk n [] [] zeroT []
def zeroR:Res:=numR 0
def listR (l:List Nat):Res:=.mk 0 l [] zeroT []
def pairR (l:List Res):Res:=.mk 0 [] l zeroT []
def cloR (b:Tm) (e:List Res):Res:=.mk 0 [] [] b e
abbrev Out:=Option (Res × Nat × Bool)
abbrev Evl:=Nat→Tm→List Res→Out
def evCall (E:Evl) (u:Nat) (f a:Res):Out:=E u f.body (f.env++[a])
def evArgs (E:Evl) (e:List Res):Nat→List Tm→Option (List Res × Nat × Bool)
 | u,[]=>some ([],u,false)
 | u,t::l =>
  match E u t e with
  | none=>none
  | some (_,u',true)=>some ([],u',true)
  | some (r,u',false) =>
   match evArgs E e u' l with
   | none=>none
   | some (l',u'',o)=>some (r::l',u'',o)
def evRec (E:Evl) (s:Res):Nat→Nat→Nat→Res→Out
 | 0,_,u,r=>some (r,u,false)
 | n+1,k,u,r =>
  match evCall E u s (numR k) with
  | none=>none
  | some (_,u',true)=>some (r,u',true)
  | some (f,u',false) =>
   match evCall E u' f r with
   | none=>none
   | some (r',u'',true)=>some (r',u'',true)
   | some (r',u'',false)=>evRec E s n (k+1) u'' r'
def evFold (E:Evl) (s:Res) (l:List Nat):Nat→Nat→Res→Out
 | 0,u,r=>some (r,u,false)
 | i+1,u,r =>
  match evCall E u s (numR (l.getD i 0)) with
  | none=>none
  | some (_,u',true)=>some (r,u',true)
  | some (f,u',false) =>
   match evCall E u' f (listR (l.drop (i+1))) with
   | none=>none
   | some (_,u'',true)=>some (r,u'',true)
   | some (f',u'',false) =>
    match evCall E u'' f' r with
    | none=>none
    | some (r',u3,true)=>some (r',u3,true)
    | some (r',u3,false)=>evFold E s l i u3 r'
def evOf (E:Evl) (k:Int) (u:Nat) (l:List Res):Out :=
 if k==3 then (match l with | [f,a]=>evCall E u f a|_=>none)
 else if k==5 then (match l with | [a]=>some (numR (a.num+1),u,false)|_=>none)
 else if k==6 then (match l with | [z,s,n]=>evRec E s n.num 0 u z|_=>none)
 else if k==8 then (match l with | [a,b]=>some (listR (a.num::b.list),u,false)|_=>none)
 else if k==9 then (match l with | [z,s,n]=>evFold E s n.list n.list.length u z|_=>none)
 else if k==10 then some (pairR l,u,false)
 else if k==11 then (match l with | [a]=>(match a.pair with | [x,_]=>some (x,u,false)|_=>none)|_=>none)
 else if k==12 then (match l with | [a]=>(match a.pair with | [_,y]=>some (y,u,false)|_=>none)|_=>none)
 else some (zeroR,u,false)
def evStep (most:Nat) (E:Evl):Evl:=fun u t e =>
 if u=most then some (zeroR,u,true)
 else if t.kind==1 then
  (if 0≤(e.length:Int) - 1 - t.index then (e[((e.length:Int) - 1 - t.index).toNat]?).map fun r=>(r,u+1,false) else none)
 else if t.kind==2 then (match t.args with | [b]=>some (cloR b e,u+1,false)|_=>none)
 else match evArgs E e (u+1) t.args with
  | none=>none
  | some (_,u',true)=>some (zeroR,u',true)
  | some (l,u',false)=>evOf E t.kind u' l
def ev (most:Nat):Nat→Evl
 | 0=>fun _ _ _=>none
 | f+1=>evStep most (ev most f)
theorem ev_succ (most f:Nat):ev most (f+1)=evStep most (ev most f):=rfl
/- scope.Lift. -/
mutual
def Tm.sl (b:Int):Tm→Int→Tm
 | .mk k i t l,fr=>if b==0 then .mk k i t l else if k==1 then .mk k (if decide (i≥fr) then addW i b else i) t l
  else .mk k i t (Tm.slL b l (if k==2 then addW fr 1 else fr))
def Tm.slL (b:Int):List Tm→Int→List Tm
 | [],_=>[]
 | t::l,fr=>t.sl b fr::Tm.slL b l fr
end
theorem Tm.slL_map {b:Int}:∀ (l:List Tm) (fr:Int),Tm.slL b l fr=l.map fun t=>t.sl b fr
 | [],fr=>by simp [Tm.slL]
 | t::l,fr=>by simp [Tm.slL,Tm.slL_map l fr]
theorem Tm.sl_eq (b:Int) (t:Tm) (fr:Int):t.sl b fr=if b==0 then t else if t.kind==1 then .mk t.kind (if decide (t.index≥fr) then addW t.index b else t.index) t.type t.args
  else .mk t.kind t.index t.type (t.args.map fun x=>x.sl b (if t.kind==2 then addW fr 1 else fr)):=by
 cases t;rw [Tm.sl,Tm.slL_map];rfl
/- scope.put. -/
mutual
def tmSp (s:Tm) (at':Int):Tm→Int→Tm
 | .mk k i t l,d=>if k==1 then (if i==addW at' d then s.sl (addW at' d) 0 else if decide (i>addW at' d) then .mk k (subW i 1) t l else .mk k i t l)
  else .mk k i t (tmSpL s at' l (if k==2 then addW d 1 else d))
def tmSpL (s:Tm) (at':Int):List Tm→Int→List Tm
 | [],_=>[]
 | t::l,d=>tmSp s at' t d::tmSpL s at' l d
end
theorem tmSpL_map {s:Tm} {a:Int}:∀ (l:List Tm) (d:Int),tmSpL s a l d=l.map fun t=>tmSp s a t d
 | [],d=>by simp [tmSpL]
 | t::l,d=>by simp [tmSpL,tmSpL_map l d]
theorem tmSp_eq (s:Tm) (a:Int) (t:Tm) (d:Int):tmSp s a t d=if t.kind==1 then
  (if t.index==addW a d then s.sl (addW a d) 0 else if decide (t.index>addW a d) then .mk t.kind (subW t.index 1) t.type t.args else t)
  else .mk t.kind t.index t.type (t.args.map fun x=>tmSp s a x (if t.kind==2 then addW d 1 else d)):=by
 cases t;rw [tmSp,tmSpL_map];rfl
/- scope.uses. -/
mutual
def Tm.us:Tm→Int→Int
 | .mk k i _ l,a=>if k==1&&i==a then 1 else Tm.usL (if k==2 then addW a 1 else a) 0 l
def Tm.usL (a:Int):Int→List Tm→Int
 | n,[]=>n
 | n,t::l=>Tm.usL a (addW n (t.us a)) l
end
theorem Tm.us_eq (t:Tm) (a:Int):t.us a=if t.kind==1&&t.index==a then 1 else Tm.usL (if t.kind==2 then addW a 1 else a) 0 t.args:=by cases t;rw [Tm.us];rfl
theorem Tm.usL_nil {a n:Int}:Tm.usL a n []=n:=by rw [Tm.usL]
theorem Tm.usL_cons {a n:Int} {t:Tm} {l:List Tm}:Tm.usL a n (t::l)=Tm.usL a (addW n (t.us a)) l:=by rw [Tm.usL]
def evB (k:Int) (b:Int):Int:=if decide (k≥4)&&decide (k≤7) then addW b 1 else b
mutual
def Fm.ev (F:Tm→Int→Tm):Fm→Int→Fm
 | .mk k t l a,b=>.mk k t (l.map fun x=>F x (evB k b)) (Fm.evL F a (evB k b))
def Fm.evL (F:Tm→Int→Tm):List Fm→Int→List Fm
 | [],_=>[]
 | f::l,b=>f.ev F b::Fm.evL F l b
end
theorem Fm.evL_map {F:Tm→Int→Tm}:∀ (l:List Fm) (b:Int),Fm.evL F l b=l.map fun f=>f.ev F b
 | [],b=>by simp [Fm.evL]
 | f::l,b=>by simp [Fm.evL,Fm.evL_map l b]
theorem Fm.ev_eq (F:Tm→Int→Tm) (f:Fm) (b:Int):f.ev F b=.mk f.kind f.type (f.terms.map fun x=>F x (evB f.kind b)) (f.args.map fun x=>x.ev F (evB f.kind b)):=by
 cases f;rw [Fm.ev,Fm.evL_map];rfl
def tmsS {α:Type} (G:Tm→Int→α→α) (b:Int):α→List Tm→α
 | s,[]=>s
 | s,t::l=>tmsS G b (G t b s) l
mutual
def Fm.es {α:Type} (G:Tm→Int→α→α):Fm→Int→α→α
 | .mk k _ l a,b,s=>Fm.esL G a (evB k b) (tmsS G (evB k b) s l)
def Fm.esL {α:Type} (G:Tm→Int→α→α):List Fm→Int→α→α
 | [],_,s=>s
 | f::l,b,s=>Fm.esL G l b (f.es G b s)
end
theorem Fm.es_eq {α:Type} (G:Tm→Int→α→α) (f:Fm) (b:Int) (s:α):f.es G b s=Fm.esL G f.args (evB f.kind b) (tmsS G (evB f.kind b) s f.terms):=by cases f;rw [Fm.es];rfl
theorem Fm.esL_nil {α:Type} {G:Tm→Int→α→α} {b:Int} {s:α}:Fm.esL G [] b s=s:=by rw [Fm.esL]
theorem Fm.esL_cons {α:Type} {G:Tm→Int→α→α} {f:Fm} {l:List Fm} {b:Int} {s:α}:Fm.esL G (f::l) b s=Fm.esL G l b (f.es G b s):=by rw [Fm.esL]
theorem tmsS_nil {α:Type} {G:Tm→Int→α→α} {b:Int} {s:α}:tmsS G b s []=s:=rfl
theorem tmsS_cons {α:Type} {G:Tm→Int→α→α} {t:Tm} {l:List Tm} {b:Int} {s:α}:tmsS G b s (t::l)=tmsS G b (G t b s) l:=rfl
def Fm.sp (f:Fm) (s:Tm):Fm:=f.ev (fun t b=>tmSp s 0 t b) 0
def grownG (more:Int) (t:Tm) (b:Int) (n:Int):Int:=addW n (mulW more (t.us b))
def Fm.grown (f:Fm) (s:Tm):Int:=f.es (grownG (subW s.szW 1)) 0 f.szW
def farG (t:Tm) (_:Int) (far:Bool):Bool:=far||!t.least 268435456
def Fm.far (f:Fm):Bool:=f.es farG 0 false
/- matrix.Free. -/
def mTwo (k:Int) (x y:Fm × Int):Fm × Int :=
 if x.2 != 0 then (zeroF,x.2) else if y.2 != 0 then (zeroF,y.2) else if decide ((fmTwo k x.1 y.1).szW>4096) then (zeroF,4) else (fmTwo k x.1 y.1,0)
mutual
def fdp:Fm→Nat
 | .mk _ _ _ a=>fdpL a+1
def fdpL:List Fm→Nat
 | []=>0
 | f::l=>max (fdp f) (fdpL l)
end
theorem fdpL_mem:∀ {l:List Fm} {f:Fm},f∈l→fdp f≤fdpL l
 | g::l,f,h=>by
  rw [fdpL]
  rcases List.mem_cons.1 h with rfl|h
  ·omega
  ·have:=fdpL_mem h;omega
theorem fdp_arg {f x:Fm} (h:x∈f.args):fdp x+1≤fdp f:=by
 cases f with|mk k t l a=>rw [fdp];have:=fdpL_mem (show x∈a from h);omega
end GoAbs
set_option maxRecDepth 8000
namespace GoAbs
open Go
theorem wrap_r {a:Int} (h0 : -1000000000000≤a) (h1:a≤1000000000000):addW a 0=a:=by rw [addW_eq h0 h1 (by omega) (by omega)];omega
theorem below_if {k d:Int} (h0:0≤d) (h1:d≤1000000000000):(if k==2 then addW d 1 else d)=addW d (tmBelow k):=by
 unfold tmBelow
 cases hk:(k==2)
 ·simp only [Bool.false_eq_true,if_false];rw [wrap_r (by omega) h1]
 ·rfl
theorem up_zero:∀ (n:Nat) {t:Tm},TmG t→tmSz t≤n→t.least 1000000000=true→∀ fr:Int,t.up 0 fr=t
 | 0,t,h,hn,_,_=>by have:=tmSz_pos t;omega
 | n+1,t,h,hn,hl,fr=>by
  revert hn hl
  refine h.cases' (p:=fun t=>tmSz t≤n+1→t.least 1000000000=true→t.up 0 fr=t) ?_ ?_
  ·intro i hi _ hl
   rw [tmVar,Tm.least_eq,Bool.and_eq_true] at hl
   have hi2:i≤1000000000:=of_decide_eq_true hl.1
   rw [tmVar,Tm.up,Tm.upL,wrap_r (by omega) (by omega)]
   split<;>rfl
  ·intro k ty l hk _ hg _ hn hl
   rw [tmSz] at hn
   rw [Tm.least,Bool.and_eq_true] at hl
   rw [Tm.up,Tm.upL_map,hk]
   simp only [Bool.false_and,Bool.false_eq_true,if_false]
   congr 1
   refine (List.map_congr_left (g:=id) fun x hx=>?_).trans (List.map_id _)
   exact up_zero n (hg x hx) (by have:=tmSzL_mem hx;omega) (Tm.leastL_iff.1 hl.2 x hx) _
theorem sl_up {b:Int} (hb0:0≤b) (hb:b≤1000000):∀ (n:Nat) {t:Tm},TmG t→tmSz t≤n→t.least 1000000000=true→∀ fr:Int,0≤fr→fr+n≤1000000→t.sl b fr=t.up b fr
 | 0,t,h,hn,_,_,_,_=>by have:=tmSz_pos t;omega
 | n+1,t,h,hn,hl,fr,hf,hf2=>by
  cases hb1:(b==0) with
  | true =>
   have:b=0:=by simpa using hb1
   subst this
   rw [up_zero _ h hn hl,Tm.sl_eq];rfl
  | false =>
  revert hn hl
  refine h.cases' (p:=fun t=>tmSz t≤n+1→t.least 1000000000=true→t.sl b fr=t.up b fr) ?_ ?_
  ·intro i hi _ hl
   rw [tmVar,Tm.up,Tm.upL,Tm.sl,hb1]
   rfl
  ·intro k ty l hk _ hg _ hn hl
   rw [tmSz] at hn
   rw [Tm.least,Bool.and_eq_true] at hl
   have hr:=tmBelow_range k
   have e:addW fr (tmBelow k)=fr+tmBelow k:=addW_eq (by omega) (by omega) (by omega) (by omega)
   rw [Tm.up,Tm.upL_map,Tm.sl,Tm.slL_map,hb1,hk,below_if hf (by omega),e]
   simp only [Bool.false_and,Bool.false_eq_true,if_false]
   congr 1
   refine List.map_congr_left fun x hx=>?_
   exact sl_up hb0 hb n (hg x hx) (by have:=tmSzL_mem hx;omega) (Tm.leastL_iff.1 hl.2 x hx) _ (by omega) (by omega)
theorem sp_inn {s:Tm} (hs:TmG s) (zs:tmSz s≤10000) (ls:s.least 1000000000=true):∀ (n:Nat) {t:Tm},TmG t→tmSz t≤n→∀ d:Int,0≤d→d+n≤900000→tmSp s 0 t d=tmInn s 0 t d
 | 0,t,h,hn,_,_,_=>by have:=tmSz_pos t;omega
 | n+1,t,h,hn,d,hd,hb=>by
  revert hn
  have e0:addW 0 d=d:=by rw [addW_eq (by omega) (by omega) (by omega) (by omega)];omega
  refine h.cases' (p:=fun t=>tmSz t≤n+1→tmSp s 0 t d=tmInn s 0 t d) ?_ ?_
  ·intro i hi _
   rw [tmVar,tmSp,tmInn,e0,sl_up hd (by omega) _ hs (Nat.le_refl _) ls 0 (by omega) (by omega)]
   rfl
  ·intro k ty l hk _ hg _ hn
   rw [tmSz] at hn
   have hr:=tmBelow_range k
   have e:addW d (tmBelow k)=d+tmBelow k:=addW_eq (by omega) (by omega) (by omega) (by omega)
   rw [tmInn,tmInnL_map,tmSp,tmSpL_map,hk,below_if hd (by omega),e]
   simp only [Bool.false_eq_true,if_false]
   congr 1
   refine List.map_congr_left fun x hx=>?_
   exact sp_inn hs zs ls n (hg x hx) (by have:=tmSzL_mem hx;omega) _ (by omega) (by omega)
theorem usL_sum {a:Int}:∀ (l:List Tm) (n:Nat),(∀ y∈l,y.us a=(tmOcc y a:Int))→n+tmSzL l≤1000000→Tm.usL a (n:Int) l=((n+tmOccL l a:Nat):Int)
 | [],n,_,_=>by rw [Tm.usL,tmOccL];rfl
 | t::l,n,h,hn=>by
  rw [tmSzL] at hn
  have:=tmOcc_le t a
  rw [Tm.usL,h t (by simp),addW_eq (by omega) (by omega) (by omega) (by omega),tmOccL,show (n:Int)+(tmOcc t a:Int)=((n+tmOcc t a:Nat):Int) by simp,
   usL_sum l _ (fun y hy=>h y (by simp [hy])) (by omega)]
  rw [Nat.add_assoc]
theorem us_occ:∀ (n:Nat) {t:Tm},TmG t→tmSz t≤n→∀ x:Int,0≤x→x+n≤1000000→t.us x=(tmOcc t x:Int)
 | 0,t,h,hn,x,_,_=>by have:=tmSz_pos t;omega
 | n+1,t,h,hn,x,hx,hb=>by
  revert hn
  refine h.cases' (p:=fun t=>tmSz t≤n+1→t.us x=(tmOcc t x:Int)) ?_ ?_
  ·intro i hi _
   rw [tmVar,Tm.us,tmOcc,Tm.usL_nil]
   cases hix:(i==x)<;>simp [tmOccL]
  ·intro k ty l hk _ hl _ hn
   rw [tmSz] at hn
   have hr:=tmBelow_range k
   have e:addW x (tmBelow k)=x+tmBelow k:=addW_eq (by omega) (by omega) (by omega) (by omega)
   rw [Tm.us,tmOcc,hk,below_if hx (by omega),e]
   simp only [Bool.false_and,Bool.false_eq_true,if_false]
   have:=usL_sum (a:=x+tmBelow k) l 0 (fun y hy=>us_occ n (hl y hy) (by have:=tmSzL_mem hy;omega) _ (by omega) (by omega)) (by omega)
   simpa using this
theorem evB_eq {k d:Int} (h0:0≤d) (h1:d≤1000000):evB k d=d+fmBelow k:=by
 have e:quant k=(decide (k≥4)&&decide (k≤7)):=by
  unfold quant
  by_cases h4:k=4
  ·subst h4;rfl
  by_cases h5:k=5
  ·subst h5;rfl
  by_cases h6:k=6
  ·subst h6;rfl
  by_cases h7:k=7
  ·subst h7;rfl
  have a4:(k==4)=false:=by simpa using h4
  have a5:(k==5)=false:=by simpa using h5
  have a6:(k==6)=false:=by simpa using h6
  have a7:(k==7)=false:=by simpa using h7
  rw [a4,a5,a6,a7]
  by_cases h:k≥4
  ·have:¬ k≤7:=by omega
   simp [h,this]
  ·simp [h]
 unfold evB fmBelow
 rw [← e]
 split
 ·exact addW_eq (by omega) (by omega) (by omega) (by omega)
 ·omega
theorem fsp_inn {u:Bool} {s:Tm} (hs:TmG s) (zs:tmSz s≤10000) (ls:s.least 1000000000=true) {f:Fm} (h:FmG u f):∀ d:Int,0≤d→d+fmSz f≤500000 →
  f.ev (fun t b=>tmSp s 0 t b) d=fmInn s 0 f d:=by
 induction h with
 | @eq x y hx hy =>
  intro d h0 hb
  rw [fmSz_eq] at hb
  rw [fmInn_eqn,fmEq,Fm.ev_eq]
  have e:evB 1 d=d:=by rw [evB_eq h0 (by omega)];show d+0=d;omega
  simp only [Fm.kind,Fm.terms,Fm.args,Fm.type,List.map_cons,List.map_nil,e]
  rw [sp_inn hs zs ls _ hx (Nat.le_refl _) d h0 (by omega),sp_inn hs zs ls _ hy (Nat.le_refl _) d h0 (by omega)]
  rfl
 | @two k p q hk _ _ h1 h2 =>
  intro d h0 hb
  rw [fmSz_two] at hb
  rw [fmInn_two,fmTwo,Fm.ev_eq]
  simp only [Fm.kind,Fm.terms,Fm.args,Fm.type,List.map_cons,List.map_nil]
  rw [evB_eq h0 (by omega),below_two hk,addW_zero h0 (by omega),Int.add_zero,h1 d h0 (by omega),h2 d h0 (by omega)]
  rfl
 | @q k t p hk hs _ h1 =>
  intro d h0 hb
  rw [fmSz_q] at hb
  have hr:=fmBelow_range k
  have e:=addW_eq (a:=d) (b:=fmBelow k) (by omega) (by omega) (by omega) (by omega)
  rw [fmInn_q,e,fmQ,Fm.ev_eq]
  simp only [Fm.kind,Fm.terms,Fm.args,Fm.type,List.map_cons,List.map_nil]
  rw [evB_eq h0 (by omega),h1 _ (by omega) (by omega)]
  rfl
theorem mul_b {a b m c:Nat} (h:a≤b) (hm:m≤c):a * m≤b * c:=Nat.le_trans (Nat.mul_le_mul_right m h) (Nat.mul_le_mul_left b hm)
theorem grown_occ {u:Bool} {m c:Nat} (hm:m≤c) {f:Fm} (h:FmG u f):∀ (d:Int) (n:Nat),0≤d→d+fmSz f≤100000→n+fmSz f * c≤1000000000 →
  f.es (grownG (m:Int)) d (n:Int)=((n+fmOcc f d * m:Nat):Int):=by
 have step:∀ {x:Tm} {d:Int} {n:Nat},TmG x→0≤d→d+tmSz x≤1000000→n+tmSz x * c≤1000000000→tmSz x≤100000→grownG (m:Int) x d (n:Int)=((n+tmOcc x d * m:Nat):Int):=by
  intro x d n hx h0 hb hn hx2
  have ho:=tmOcc_le x d
  have hp:=mul_b ho hm
  unfold grownG mulW
  rw [us_occ _ hx (Nat.le_refl _) d h0 hb]
  have e:IntKind.i64.wrap ((m:Int) * (tmOcc x d:Int))=((tmOcc x d * m:Nat):Int):=wrap_eq (by rw [Int.natCast_mul,Int.mul_comm]) (by omega) (by omega)
  rw [e,addW_eq (by omega) (by omega) (by omega) (by omega)]
  omega
 induction h with
 | @eq x y hx hy =>
  intro d n h0 hb hn
  rw [fmSz_eq] at hb hn;rw [Nat.add_mul,Nat.add_mul] at hn
  have e:evB 1 d=d:=by rw [evB_eq h0 (by omega)];show d+0=d;omega
  have h1:=step (n:=n) hx h0 (by omega) (by omega) (by omega)
  have hp:=mul_b (tmOcc_le x d) hm
  have h2:=step (n:=n+tmOcc x d * m) hy h0 (by omega) (by omega) (by omega)
  rw [fmEq,Fm.es_eq]
  simp only [Fm.kind,Fm.terms,Fm.args,e,tmsS_cons,tmsS_nil,Fm.esL_nil]
  rw [h1,h2]
  simp only [fmOcc,tmOccL,fmOccL,Nat.add_zero,Nat.add_mul]
  omega
 | @two k p q hk _ _ h1 h2 =>
  intro d n h0 hb hn
  rw [fmSz_two] at hb hn;rw [Nat.add_mul,Nat.add_mul] at hn
  have hp:=mul_b (fmOcc_le p d) hm
  rw [fmTwo,Fm.es_eq]
  simp only [Fm.kind,Fm.terms,Fm.args,tmsS_cons,tmsS_nil,Fm.esL_cons,Fm.esL_nil]
  rw [evB_eq h0 (by omega),below_two hk,Int.add_zero,h1 d n h0 (by omega) (by omega),h2 d _ h0 (by omega) (by omega)]
  simp only [fmOcc,tmOccL,fmOccL,Nat.add_zero,Nat.zero_add,below_two hk,Int.add_zero,Nat.add_mul]
  omega
 | @q k t p hk hs _ h1 =>
  intro d n h0 hb hn
  rw [fmSz_q] at hb hn;rw [Nat.add_mul] at hn
  have hr:=fmBelow_range k
  rw [fmQ,Fm.es_eq]
  simp only [Fm.kind,Fm.terms,Fm.args,tmsS_cons,tmsS_nil,Fm.esL_cons,Fm.esL_nil]
  rw [evB_eq h0 (by omega),h1 _ n (by omega) (by omega) (by omega)]
  simp only [fmOcc,tmOccL,fmOccL,Nat.add_zero,Nat.zero_add]
theorem tmsS_far {b:Int}:∀ (l:List Tm) (s:Bool),tmsS farG b s l=(s||!Tm.leastL 268435456 l)
 | [],s=>by simp [tmsS,Tm.leastL]
 | t::l,s=>by rw [tmsS,tmsS_far l,Tm.leastL,farG];cases s<;>cases t.least 268435456<;>simp
mutual
theorem es_far:∀ (f:Fm) (b:Int) (s:Bool),f.es farG b s=(s||!f.least 268435456)
 | .mk k t l a,b,s=>by rw [Fm.es,esL_far a,tmsS_far,Fm.least];cases s<;>cases Tm.leastL 268435456 l<;>simp
theorem esL_far:∀ (l:List Fm) (b:Int) (s:Bool),Fm.esL farG l b s=(s||!Fm.leastL 268435456 l)
 | [],b,s=>by simp [Fm.esL,Fm.leastL]
 | f::l,b,s=>by rw [Fm.esL,esL_far l,es_far f,Fm.leastL];cases s<;>cases f.least 268435456<;>simp
end
theorem far_least (f:Fm):f.far=!f.least 268435456:=by rw [Fm.far,es_far];rfl
theorem fdp_pos (f:Fm):1≤fdp f:=by cases f;rw [fdp];omega
theorem fdp_two {k:Int} {a b:Fm}:fdp (fmTwo k a b)=max (fdp a) (fdp b)+1:=by simp [fmTwo,fdp,fdpL]
theorem fdp_eqn {x y:Tm}:fdp (fmEq x y)=1:=by simp [fmEq,fdp,fdpL]
theorem least_tm0 {k:Int} {l:List Tm} {M:Int} (hM:0≤M) (h:∀ x∈l,x.least M=true):(tm0 k l).least M=true:=least_mk (by omega) h
theorem fleast_two {k:Int} {a b:Fm} {M:Int} (h1:a.least M=true) (h2:b.least M=true):(fmTwo k a b).least M=true:=by
 rw [fmTwo,Fm.least];simp [Tm.leastL_nil,Fm.leastL_cons,Fm.leastL_nil,h1,h2]
theorem FmG.has {f:Fm} {u:Bool} (h:FmG u f) (hs:fmSz f≤4096) (k:Int):f.has k=((if k==1 then f.fl.c else if k==2 then f.fl.f else f.fl.d),0):=by
 unfold Fm.has
 rw [h.err_val (by omega),if_pos hs];rfl
theorem eachL_count {a b:Int}:∀ (l:List Tm) (n:Nat),(∀ y∈l,∀ m:Nat,m+tmSz y≤1000000→y.eachF (countF a) b (m:Int)=((m+tmOcc y (a+b):Nat):Int))→n+tmSzL l≤1000000 →
  Tm.eachL (countF a) l b (n:Int)=((n+tmOccL l (a+b):Nat):Int)
 | [],n,_,_=>by rw [Tm.eachL_nil,tmOccL];rfl
 | t::l,n,h,hb=>by
  rw [tmSzL] at hb
  have:=tmOcc_le t (a+b)
  rw [Tm.eachL_cons,h t (by simp) n (by omega),eachL_count l _ (fun y hy=>h y (by simp [hy])) (by omega),tmOccL,Nat.add_assoc]
theorem below_eq {k b:Int} (h0:0≤b) (h1:b≤1000000):(if k==2 then addW b 1 else b)=b+tmBelow k:=by
 unfold tmBelow
 cases k==2 with
 | true=>simp only [if_true];exact addW_eq (by omega) (by omega) (by omega) (by omega)
 | false=>simp
mutual
theorem least_mono {m m':Int} (h:m≤m'):∀ t:Tm,t.least m=true→t.least m'=true
 | .mk k i ty l,e=>by
  rw [Tm.least,Bool.and_eq_true] at e ⊢
  exact ⟨by have:=of_decide_eq_true e.1;simp;omega,leastL_mono h l e.2⟩
theorem leastL_mono {m m':Int} (h:m≤m'):∀ l:List Tm,Tm.leastL m l=true→Tm.leastL m' l=true
 | [],_=>by rw [Tm.leastL]
 | t::l,e=>by
  rw [Tm.leastL,Bool.and_eq_true] at e ⊢
  exact ⟨least_mono h t e.1,leastL_mono h l e.2⟩
end
theorem TmG.each_occ:∀ (k:Nat) {t:Tm},TmG t→tmSz t≤k→t.least 1000000000=true→∀ a b:Int,0≤a→0≤b→a+b+k≤1000000 →
  ∀ m:Nat,m+tmSz t≤1000000→t.eachF (countF a) b (m:Int)=((m+tmOcc t (a+b):Nat):Int)
 | 0,t,h,hn,_,_,_,_,_,_,_,_=>by have:=tmSz_pos t;omega
 | k + 1,t,h,hn,hl,a,b,ha,hb,hab,m,hm=>by
  revert hn hl hm
  refine h.cases' (p:=fun t=>tmSz t≤k+1→t.least 1000000000=true→m+tmSz t≤1000000→t.eachF (countF a) b (m:Int)=((m+tmOcc t (a+b):Nat):Int)) ?_ ?_
  ·intro i hi _ hl _
   rw [tmVar,Tm.least_eq] at hl
   have hi2:i≤1000000000:=by rw [Bool.and_eq_true] at hl;exact of_decide_eq_true hl.1
   rw [tmVar,Tm.eachF,Tm.eachL_nil,tmOcc]
   unfold countF
   rw [subW_eq (by omega) (by omega) (by omega) (by omega)]
   have e:(i - b==a)=(i==a+b):=by
    by_cases h:i=a+b
    ·have h1:(i==a+b)=true:=by simpa using h
     rw [h1];simp;omega
    ·have h1:(i==a+b)=false:=by simpa using h
     rw [h1];simp;omega
   rw [e]
   cases (i==a+b) with
   | true=>simp only [beq_self_eq_true,if_true];rw [addW_eq (by omega) (by omega) (by omega) (by omega)];rfl
   | false=>rfl
  ·intro kk ty l hk _ hg _ hn hl hm
   rw [tmSz] at hn hm
   rw [Tm.least,Bool.and_eq_true] at hl
   have hr:=tmBelow_range kk
   rw [Tm.eachF,tmOcc,hk,below_eq hb (by omega)]
   simp only [Bool.false_eq_true,if_false]
   have:=eachL_count (a:=a) (b:=b+tmBelow kk) l m (fun y hy m' hm'=>by
    have hsy:=tmSzL_mem hy
    exact TmG.each_occ k (hg y hy) (by omega) (Tm.leastL_iff.1 hl.2 y hy) a _ ha (by omega) (by omega) m' hm') (by omega)
   rw [this,Int.add_assoc]
theorem TmG.count_occ {t:Tm} (h:TmG t) (hs:tmSz t≤100000) (hl:t.least 1000000000=true) {a:Int} (h0:0≤a) (h1:a≤100000):t.count a=(tmOcc t a:Int):=by
 unfold Tm.count
 have:=TmG.each_occ (tmSz t) h (Nat.le_refl _) hl a 0 h0 (by omega) (by omega) 0 (by omega)
 simpa using this
theorem tmOccL_zero {x:Int}:∀ {l:List Tm},(∀ y∈l,tmOcc y x=0)→tmOccL l x=0
 | [],_=>rfl
 | y::l,h=>by rw [tmOccL,h y (by simp),tmOccL_zero (fun z hz=>h z (by simp [hz]))]
theorem TmG.up_occ:∀ (k:Nat) {t:Tm},TmG t→tmSz t≤k→t.least 536870912=true→∀ b:Int,0≤b→b+k≤1000000→tmOcc (t.up 1 b) b=0
 | 0,t,h,hn,_,_,_,_=>by have:=tmSz_pos t;omega
 | k+1,t,h,hn,hl,b,hb,hab=>by
  revert hn hl
  refine h.cases' (p:=fun t=>tmSz t≤k+1→t.least 536870912=true→tmOcc (t.up 1 b) b=0) ?_ ?_
  ·intro i hi _ hl
   rw [tmVar,Tm.least_eq] at hl
   have hi2:i≤536870912:=by rw [Bool.and_eq_true] at hl;exact of_decide_eq_true hl.1
   rw [tmVar,Tm.up,Tm.upL,tmOcc]
   simp only [beq_self_eq_true,Bool.true_and,if_true]
   by_cases h:i≥b
   ·rw [decide_eq_true h,addW_eq (by omega) (by omega) (by omega) (by omega)]
    have:(i+1==b)=false:=by simp;omega
    simp [this]
   ·rw [decide_eq_false h]
    have:(i==b)=false:=by simp;omega
    simp [this]
  ·intro kk ty l hk _ hg _ hn hl
   rw [tmSz] at hn
   rw [Tm.least,Bool.and_eq_true] at hl
   have hr:=tmBelow_range kk
   have e:addW b (tmBelow kk)=b+tmBelow kk:=addW_eq (by omega) (by omega) (by omega) (by omega)
   rw [Tm.up,Tm.upL_map,tmOcc,hk,e]
   simp only [Bool.false_and,Bool.false_eq_true,if_false]
   refine tmOccL_zero ?_
   intro x hx
   obtain ⟨y,hy,rfl⟩:=List.mem_map.1 hx
   exact TmG.up_occ k (hg y hy) (by have:=tmSzL_mem hy;omega) (Tm.leastL_iff.1 hl.2 y hy) _ (by omega) (by omega)
def bndF (all:Bool) (x:Tm) (f:Fm):Fm:=fmQ (if all then 4 else 5) tNat (fmTwo (if all then 3 else 2) (lessF (tmVar 0) x) f)
theorem bndF_bnd {all:Bool} {x:Tm} {f:Fm} (hx:x.count 0=0):isBnd (bndF all x f)=true:=by
 have h1:bndHead (bndF all x f)=true:=by cases all<;>rfl
 have h2:bndTerm (bndF all x f)=x:=rfl
 have h3:(bndSide (bndF all x f)).kind=3:=rfl
 have h4:fa (fa (bndF all x f) 0) 0=lessF (tmVar 0) x:=rfl
 unfold isBnd bndRest
 rw [h1,h2,h3,h4,Fm.same_refl,hx];rfl
theorem bndF_fl {all:Bool} {x:Tm} {f:Fm} (hx:x.count 0=0):(bndF all x f).fl.d=f.fl.d:=by
 have hk:4≤(bndF all x f).kind:=by cases all<;>simp [bndF,fmQ,Fm.kind]
 rw [Fm.fl_qb hk rfl (bndF_bnd hx) rfl]
theorem lessF_G {u:Bool} {s t:Tm} (hs:TmG s) (ht:TmG t):FmG u (lessF s t):=.eq (.t2 ar3 rfl (.t2 ar3 rfl subT_G (.t1 ar5 rfl hs)) ht) (.t0 ar4 rfl)
theorem lessF_sz {s t:Tm}:fmSz (lessF s t)=tmSz s+tmSz t+21:=by unfold lessF;rw [fmSz_eq,tmSz_2,tmSz_2,tmSz_1,tmSz_0,tmSz_sub];omega
theorem bndF_sz {all:Bool} {x:Tm} {f:Fm}:fmSz (bndF all x f)=tmSz x+fmSz f+24:=by unfold bndF;rw [fmSz_q,fmSz_two,lessF_sz,tmSz_v];omega
theorem bndF_G {u all:Bool} {x:Tm} {f:Fm} (hx:TmG x) (hf:FmG u f):FmG u (bndF all x f) :=
 .q (by cases all<;>simp) .nat (.two (by cases all<;>simp) (lessF_G v0_G hx) hf)
inductive MkDec:Nat→List Ty→Fm→Prop
 | eq {n:Nat} {g:List Ty} {x y:Tm}:MkTm 1 g tNat x→MkTm 1 g tNat y→MkDec n g (fmEq x y)
 | two {n:Nat} {g:List Ty} {k:Int} {a b:Fm} (hk:k=2∨k=3):MkDec n g a→MkDec n g b→MkDec (n+1) g (fmTwo k a b)
 | bnd {n:Nat} {g:List Ty} {all:Bool} {x:Tm} {a:Fm}:MkTm 1 g tNat x→MkDec n (g++[tNat]) a→MkDec (n+1) g (bndF all (x.up 1 0) a)
theorem MkTm.small {g:List Ty} {x:Tm} (h:MkTm 1 g tNat x) (hg:∀ y∈g,MkTy 1 y) (hb:g.length≤10000):TmG x∧tmSz x≤67∧x.least 536870912=true:=by
 have b1:bndT 3 1=67:=rfl
 have g3:∀ y∈g,tySz y≤3:=fun y hy=>(hg y hy).sz1
 have l1:=tySz_nat
 refine ⟨h.G (fun y hy=>(hg y hy).G (by omega)) .nat,?_,?_⟩
 ·have:=(MkTm.sz (M:=3) (by omega) h g3 (by omega)).1;omega
 ·have:=h.least (M:=3) (m:=536870912) (by omega) (by omega) g3 (by omega) (by omega);simpa using this
theorem app_mk {g:List Ty} {s:Ty} (hg:∀ y∈g,MkTy 1 y) (hs:MkTy 1 s):∀ y∈g++[s],MkTy 1 y:=by
 intro y hy
 rcases List.mem_append.1 hy with hy|hy
 ·exact hg y hy
 ·simp at hy;subst hy;exact hs
theorem MkTm.up1 {g:List Ty} {x:Tm} (h:MkTm 1 g tNat x) (hg:∀ y∈g,MkTy 1 y) (hb:g.length≤10000) :
  TmG (x.up 1 0)∧tmSz (x.up 1 0)≤67∧(x.up 1 0).count 0=0:=by
 obtain ⟨h1,h2,h3⟩:=h.small hg hb
 have hG:=TmG.up (b:=1) (by omega) (by omega) 67 h1 h2 h3 0
 refine ⟨hG,by rw [tmSz_up];exact h2,?_⟩
 have hl:(x.up 1 0).least 536870912=true:=by
  have:=h.least (M:=3) (m:=536870911) (by omega) (by omega) (fun y hy=>(hg y hy).sz1) (by rw [tySz_nat];omega) (by rw [tySz_nat];omega)
  have key:∀ (n:Nat) {t:Tm},tmSz t≤n→t.least 536870911=true→∀ fr:Int,TmG t→(t.up 1 fr).least 536870912=true:=by
   intro n
   induction n with
   | zero=>intro t hn _ _ _;have:=tmSz_pos t;omega
   | succ n ih =>
    intro t hn hl fr hG
    cases t with|mk k i ty l =>
    rw [tmSz] at hn
    rw [Tm.least,Bool.and_eq_true] at hl
    have hi:=of_decide_eq_true hl.1
    rw [Tm.up,Tm.upL_map]
    have h0:0≤i:=by cases hG<;>omega
    refine least_mk ?_ ?_
    ·split
     ·rw [addW_eq (by omega) (by omega) (by omega) (by omega)];omega
     ·omega
    ·intro z hz
     obtain ⟨y,hy,rfl⟩:=List.mem_map.1 hz
     refine ih (by have:=tmSzL_mem hy;omega) (Tm.leastL_iff.1 hl.2 y hy) _ ?_
     cases hG with
     | plain _ _ _ h=>exact h y hy
     | var=>simp at hy
     | typd _ _ _ _ h=>exact h y hy
  exact key _ (Nat.le_refl _) (by simpa using this) 0 h1
 rw [hG.count_occ (by rw [tmSz_up];omega) (least_mono (by omega) _ hl) (by omega) (by omega),TmG.up_occ 67 h1 h2 h3 0 (by omega) (by omega)];rfl
theorem MkDec.all {n:Nat} {g:List Ty} {f:Fm} (h:MkDec n g f) (hg:∀ y∈g,MkTy 1 y) (hb:g.length+n≤10000) :
  FmG true f∧fmSz f+1≤136 * 2 ^ n∧f.fl.d=true:=by
 induction h with
 | @eq n g x y h1 h2 =>
  obtain ⟨a1,a2,_⟩:=h1.small hg (by omega)
  obtain ⟨b1,b2,_⟩:=h2.small hg (by omega)
  have:=Nat.one_le_two_pow (n:=n)
  exact ⟨.eq a1 b1,by rw [fmSz_eq];omega,by rw [Fm.fl_eqn]⟩
 | @two n g k a b hk _ _ h1 h2 =>
  obtain ⟨a1,a2,a3⟩:=h1 hg (by omega)
  obtain ⟨b1,b2,b3⟩:=h2 hg (by omega)
  exact ⟨.two hk a1 b1,by rw [fmSz_two,Nat.pow_succ];omega,by rw [Fm.fl_two hk,a3,b3];rfl⟩
 | @bnd n g all x a hx _ h1 =>
  obtain ⟨c1,c2,c3⟩:=hx.up1 hg (by omega)
  obtain ⟨a1,a2,a3⟩:=h1 (app_mk hg .nat) (by simp;omega)
  have:=Nat.one_le_two_pow (n:=n)
  exact ⟨bndF_G c1 a1,by rw [bndF_sz,Nat.pow_succ];omega,by rw [bndF_fl c3,a3]⟩
theorem Fm.good_head {f:Fm} (h:f.good=true):formed f.kind f.type f.terms.length f.args.length=true∧(∀ x∈f.terms,x.good=true)∧∀ x∈f.args,x.good=true:=by
 rw [Fm.good_eq] at h
 simp only [Bool.and_eq_true,List.all_eq_true] at h
 exact ⟨h.1.1,h.1.2,h.2⟩
theorem Fm.good_kind {f:Fm} (h:f.good=true):f.kind=1∨f.kind=2∨f.kind=3∨f.kind=4∨f.kind=5∨f.kind=6∨f.kind=7:=by
 have h:=(Fm.good_head h).1
 unfold formed fmWant at h
 by_cases h1:f.kind=1
 ·exact .inl h1
 by_cases h2:f.kind=2
 ·exact .inr (.inl h2)
 by_cases h3:f.kind=3
 ·exact .inr (.inr (.inl h3))
 by_cases h4:f.kind=4
 ·exact .inr (.inr (.inr (.inl h4)))
 by_cases h5:f.kind=5
 ·exact .inr (.inr (.inr (.inr (.inl h5))))
 by_cases h6:f.kind=6
 ·exact .inr (.inr (.inr (.inr (.inr (.inl h6)))))
 by_cases h7:f.kind=7
 ·exact .inr (.inr (.inr (.inr (.inr (.inr h7)))))
 simp [h1,h2,h3,h4,h5,h6,h7] at h
theorem Fm.good_two {f:Fm} (h:f.good=true) (hk:f.kind=2∨f.kind=3):∃ a b,f.args=[a,b]∧a.good=true∧b.good=true:=by
 obtain ⟨h1,_,h3⟩:=Fm.good_head h
 have hl:f.args.length=2:=by
  unfold formed fmWant at h1
  rcases hk with hk|hk<;>rw [hk] at h1<;>simp at h1<;>omega
 obtain ⟨a,b,e⟩:=lst2 hl
 rw [e] at h3
 exact ⟨a,b,e,h3 a (by simp),h3 b (by simp)⟩
theorem Fm.good_q {f:Fm} (h:f.good=true) (hk:f.kind=4∨f.kind=5∨f.kind=6∨f.kind=7):∃ a,f.args=[a]∧a.good=true:=by
 obtain ⟨h1,_,h3⟩:=Fm.good_head h
 have hl:f.args.length=1:=by
  unfold formed fmWant at h1
  rcases hk with hk|hk|hk|hk<;>rw [hk] at h1<;>simp at h1<;>omega
 obtain ⟨a,e⟩:=lst1 hl
 rw [e] at h3
 exact ⟨a,e,h3 a (by simp)⟩
theorem Fm.good_eqn {f:Fm} (h:f.good=true) (hk:f.kind=1):∃ u v,f.terms=[u,v]∧u.good=true∧v.good=true:=by
 obtain ⟨h1,h3,_⟩:=Fm.good_head h
 have hl:f.terms.length=2:=by
  unfold formed fmWant at h1
  rw [hk] at h1;simp at h1;omega
 obtain ⟨a,b,e⟩:=lst2 hl
 rw [e] at h3
 exact ⟨a,b,e,h3 a (by simp),h3 b (by simp)⟩
theorem Tm.good_app {t:Tm} (h:t.good=true) (hk:t.kind=3):∃ p q,t.args=[p,q]∧p.good=true∧q.good=true:=by
 rw [Tm.good_eq] at h
 simp only [Bool.and_eq_true,List.all_eq_true] at h
 have hl:t.args.length=2:=by
  have h1:=h.1
  unfold tmHead at h1
  rw [hk,ar3] at h1
  simp at h1;omega
 obtain ⟨a,b,e⟩:=lst2 hl
 have h3:=h.2
 rw [e] at h3
 exact ⟨a,b,e,h3 a (by simp),h3 b (by simp)⟩
theorem bnd_k {f:Fm} (hk:f.kind=6∨f.kind=7):isBnd f=false:=by
 unfold isBnd bndHead
 rcases hk with hk|hk<;>rw [hk]<;>rfl
theorem bnd_ty {f:Fm} (h:(f.type.kind != 1)=true):isBnd f=false:=by
 unfold isBnd bndHead
 rw [h];simp
theorem bnd_a4 {f a:Fm} (hk:f.kind=4) (ha:f.args=[a]) (h:(a.kind != 3)=true):isBnd f=false:=by
 unfold isBnd bndHead fa
 rw [ha,hk];simp [h]
theorem bnd_a5 {f a:Fm} (hk:f.kind=5) (ha:f.args=[a]) (h:(a.kind != 2)=true):isBnd f=false:=by
 unfold isBnd bndHead fa
 rw [ha,hk];simp [h]
theorem bnd_x {f a x y:Fm} (ha:f.args=[a]) (hx:a.args=[x,y]) (h:(x.kind != 1)=true):isBnd f=false:=by
 unfold isBnd bndHead fa
 rw [ha]
 have e:([a].getD 0 zeroF)=a:=rfl
 rw [e,hx]
 have e:([x,y].getD 0 zeroF)=x:=rfl
 rw [e,h];simp
theorem bnd_t {f a x y:Fm} {u v:Tm} (ha:f.args=[a]) (hx:a.args=[x,y]) (hu:x.terms=[u,v]):bndSide f=u∧bndTerm f=ta u 1∧bndBody f=y∧fa (fa f 0) 0=x:=by
 unfold bndTerm bndBody bndSide fa ft
 rw [ha]
 have e:([a].getD 0 zeroF)=a:=rfl
 rw [e,hx]
 have e:([x,y].getD 0 zeroF)=x:=rfl
 rw [e,hu]
 exact ⟨rfl,rfl,rfl,rfl⟩
theorem bnd_u {f a x y:Fm} {u v:Tm} (ha:f.args=[a]) (hx:a.args=[x,y]) (hu:x.terms=[u,v]) (h:(u.kind != 3)=true):isBnd f=false:=by
 obtain ⟨h1,h2,h3,h4⟩:=bnd_t ha hx hu
 unfold isBnd bndRest
 rw [h1,h];simp
theorem bnd_q {f a x y:Fm} {u v p q:Tm} (ha:f.args=[a]) (hx:a.args=[x,y]) (hu:x.terms=[u,v]) (hq:u.args=[p,q]) (h:decide (q.count 0>0)=true):isBnd f=false:=by
 obtain ⟨h1,h2,h3,h4⟩:=bnd_t ha hx hu
 have e:ta u 1=q:=ta_at (by rw [hq];rfl)
 unfold isBnd bndRest
 rw [h2,e,h];simp
theorem bnd_s {f a x y:Fm} {u v p q:Tm} (ha:f.args=[a]) (hx:a.args=[x,y]) (hu:x.terms=[u,v]) (hq:u.args=[p,q]) (h:Fm.same x (lessF (tmVar 0) q)=false):isBnd f=false:=by
 obtain ⟨h1,h2,h3,h4⟩:=bnd_t ha hx hu
 have e:ta u 1=q:=ta_at (by rw [hq];rfl)
 unfold isBnd bndRest
 rw [h2,e,h4,h];simp
theorem bnd_yes {f a x y:Fm} {u v p q:Tm} (hk:(f.kind=4∧(a.kind != 3)=false)∨(f.kind=5∧(a.kind != 2)=false)) (ht:(f.type.kind != 1)=false) (ha:f.args=[a]) (hx:a.args=[x,y])
  (hx1:(x.kind != 1)=false) (hu:x.terms=[u,v]) (hu1:(u.kind != 3)=false) (hq:u.args=[p,q]) (hc:decide (q.count 0>0)=false) (h:Fm.same x (lessF (tmVar 0) q)=true) :
  isBnd f=true∧bndTerm f=q∧bndBody f=y:=by
 obtain ⟨h1,h2,h3,h4⟩:=bnd_t ha hx hu
 have e:ta u 1=q:=ta_at (by rw [hq];rfl)
 have e0:fa f 0=a:=fa_at (by rw [ha];rfl)
 refine ⟨?_,by rw [h2,e],h3⟩
 unfold isBnd bndRest bndHead
 rw [h1,h2,e,h4,h,hc,hu1,hx1,ht,e0]
 rcases hk with ⟨hk,hk2⟩|⟨hk,hk2⟩<;>rw [hk]<;>simp [hk2]
@[go_sem] def taskV (p:(List Ty × Ty) × (Fm × Bool)):V:=.tup [.sl .any (p.1.1.map Ty.cells),.agg p.1.2.cells,.agg p.2.1.cells,.bool p.2.2]
theorem Fm.ok_good {f:Fm} (h:(fmErr f != 0)=false):f.good=true:=by
 have h0:fmErr f=0:=by simpa using h
 have:=Fm.ok_nodes h0
 unfold Fm.good
 cases hn:f.nodes with
 | none=>exact absurd hn this
 | some n=>rfl
theorem fmSzL_mem:∀ {l:List Fm} {x:Fm},x∈l→fmSz x≤fmSzL l
 | y::l,x,h=>by
  rw [fmSzL]
  rcases List.mem_cons.1 h with rfl|h
  ·omega
  ·have:=fmSzL_mem h;omega
theorem fmSz_arg {f x:Fm} (h:x∈f.args):fmSz x<fmSz f:=by
 obtain ⟨k,t,l,a⟩:=f
 rw [fmSz]
 have:=fmSzL_mem (show x∈a from h)
 omega
theorem bnd_body {f a:Fm} (ha:f.args=[a]) (ga:a.good=true) (h:isBnd f=true):∃ x y,a.args=[x,y]∧bndBody f=y∧y.good=true:=by
 unfold isBnd bndHead at h
 simp only [Bool.and_eq_true,Bool.not_eq_true'] at h
 have e0:fa f 0=a:=fa_at (by rw [ha];rfl)
 have h3:=h.1.1.2
 rw [e0] at h3
 have hk:a.kind=2∨a.kind=3:=by
  split at h3<;>simp at h3
  ·exact .inr h3
  ·exact .inl h3
 obtain ⟨x,y,e,gx,gy⟩:=Fm.good_two ga hk
 exact ⟨x,y,e,by unfold bndBody;rw [e0];exact fa_at (by rw [e];rfl),gy⟩
theorem flag_eqn:(Fl.mk false true true).n=6:=rfl
attribute [go_sem] Fl.and Fl.or Fl.and6 Fl.and1 Fl.and2 Fl.and4 Fl.or1 Bool.false_or Bool.or_false Bool.and_false Bool.false_and
@[go_sem] def tmErrV (p:Tm × Int):V:=.tup [.agg p.1.cells,.int .i64 p.2]
theorem TmG.szW {t:Tm} (h:TmG t) (hs:tmSz t≤1000000):t.szW=(tmSz t:Int):=Tm.szW_nodes _ _ (h.nodes_val hs)
theorem FmG.szW {u:Bool} {f:Fm} (h:FmG u f) (hs:fmSz f≤1000000):f.szW=(fmSz f:Int):=Fm.szW_nodes _ _ (h.nodes_val hs)
theorem TmG.err0 {t:Tm} (h:TmG t) (hs:tmSz t≤4096):tmErr t=0:=by rw [h.err_val (by omega),if_pos hs]
theorem FmG.err0 {u:Bool} {f:Fm} (h:FmG u f) (hs:fmSz f≤4096):fmErr f=0:=by rw [h.err_val (by omega),if_pos hs]
def allF (l:List Ty) (f:Fm):Fm:=l.foldr (fun t f=>fmQ 4 t f) f
inductive NodeTy (Q:Ty→Prop):Int→Ty→List Ty→Ty→Prop
 | app {ty a b:Ty}:NodeTy Q 3 ty [tFun a b,a] b
 | zero {ty:Ty}:NodeTy Q 4 ty [] tNat
 | succ {ty:Ty}:NodeTy Q 5 ty [tNat] tNat
 | recr {t:Ty}:NodeTy Q 6 t [t,tFun tNat (tFun t t),tNat] t
 | nil {ty:Ty}:NodeTy Q 7 ty [] tList
 | cons {ty:Ty}:NodeTy Q 8 ty [tNat,tList] tList
 | fold {t:Ty}:NodeTy Q 9 t [t,tFun tNat (tFun tList (tFun t t)),tList] t
 | pair {ty a b:Ty}:Q (tPair a b)→NodeTy Q 10 ty [a,b] (tPair a b)
 | fst {ty a b:Ty}:NodeTy Q 11 ty [tPair a b] a
 | snd {ty a b:Ty}:NodeTy Q 12 ty [tPair a b] b
 | unit {ty:Ty}:NodeTy Q 13 ty [] tUnit
inductive HasTy (Q:Ty→Prop):List Ty→Tm→Ty→Prop
 | var {g:List Ty} {i:Nat} {t:Ty} (hi:i<g.length) (h:g[g.length - 1 - i]? = some t):HasTy Q g (tmVar i) t
 | lam {g:List Ty} {a b:Ty} {t:Tm}:Q (tFun a b)→HasTy Q (g++[a]) t b→HasTy Q g (tmT 2 a [t]) (tFun a b)
 | n0 {g:List Ty} {k:Int} {ty s:Ty}:NodeTy Q k ty [] s→HasTy Q g (tmT k ty []) s
 | n1 {g:List Ty} {k:Int} {ty s a:Ty} {x:Tm}:NodeTy Q k ty [a] s→HasTy Q g x a→HasTy Q g (tmT k ty [x]) s
 | n2 {g:List Ty} {k:Int} {ty s a b:Ty} {x y:Tm}:NodeTy Q k ty [a,b] s→HasTy Q g x a→HasTy Q g y b→HasTy Q g (tmT k ty [x,y]) s
 | n3 {g:List Ty} {k:Int} {ty s a b c:Ty} {x y z:Tm}:NodeTy Q k ty [a,b,c] s→HasTy Q g x a→HasTy Q g y b→HasTy Q g z c→HasTy Q g (tmT k ty [x,y,z]) s
theorem TyG.pair' {a b:Ty} (ha:TyF a) (hb:TyF b) (h:tySz a+tySz b≤63):TyG (tPair a b):=⟨.pair ha hb,by rw [tySz_pair];omega⟩
theorem TyG.fun' {a b:Ty} (ha:TyF a) (hb:TyF b) (h:tySz a+tySz b≤63):TyG (tFun a b):=⟨.func ha hb,by rw [tySz_fun];omega⟩
theorem last0 {g:List Ty} {a:Ty}:(g++[a])[(g++[a]).length - 1 - 0]? = some a:=by simp
theorem HasTy.v0 {Q:Ty→Prop} {g:List Ty} {a:Ty}:HasTy Q (g++[a]) (tmVar 0) a:=.var (i:=0) (by simp) last0
theorem HasTy.v1 {Q:Ty→Prop} {g:List Ty} {a b:Ty}:HasTy Q (g++[a]++[b]) (tmVar 1) a:=.var (i:=1) (by simp) (by
 have e:(g++[a]++[b]).length - 1 - 1=g.length:=by simp
 rw [e,List.getElem?_append_left (by simp),List.getElem?_append_right (by simp)];simp)
theorem HasTy.lam1 {g:List Ty} {b:Ty} {t:Tm} (hb:TyG (tFun tNat b)) (h:HasTy TyG (g++[tNat]) t b):HasTy TyG g (lamN t) (tFun tNat b):=.lam hb h
theorem tNN:TyG (tFun tNat tNat):=.fun' .nat .nat (by rw [tySz_nat];omega)
theorem tNNN:TyG (tFun tNat (tFun tNat tNat)):=.fun' .nat tNN.1 (by rw [tySz_fun,tySz_nat];omega)
theorem HasTy.num {Q:Ty→Prop} {g:List Ty}:∀ n,HasTy Q g (numT n) tNat
 | 0=>.n0 (ty:=.mk 0 []) .zero
 | n+1=>.n1 (ty:=.mk 0 []) .succ (HasTy.num n)
theorem HasTy.plus {g:List Ty}:HasTy TyG g plusT (tFun tNat (tFun tNat tNat)) :=
 .lam1 tNNN (.lam1 tNN (.n3 .recr .v1 (.lam1 tNNN (.lam1 tNN (.n1 (ty:=.mk 0 []) .succ .v0))) .v0))
theorem HasTy.pred {g:List Ty}:HasTy TyG g predT (tFun tNat tNat) :=
 .lam1 tNN (.n3 .recr (.n0 (ty:=.mk 0 []) .zero) (.lam1 tNNN (.lam1 tNN .v1)) .v0)
theorem HasTy.sub {g:List Ty}:HasTy TyG g subT (tFun tNat (tFun tNat tNat)) :=
 .lam1 tNNN (.lam1 tNN (.n3 .recr .v1 (.lam1 tNNN (.lam1 tNN (.n2 (ty:=.mk 0 []) .app .pred .v0))) .v0))
theorem MkTm.ty {n:Nat} {g:List Ty} {t:Ty} {x:Tm} (h:MkTm n g t x):(∀ y∈g,TyF y∧tySz y≤20)→TyF t∧tySz t≤20→HasTy TyG g x t:=by
 have app:∀ {g l:List Ty},(∀ y∈g,TyF y∧tySz y≤20)→(∀ y∈l,TyF y∧tySz y≤20)→∀ y∈g++l,TyF y∧tySz y≤20:=by
  intro g l h1 h2 y hy
  rcases List.mem_append.1 hy with hy|hy
  ·exact h1 y hy
  ·exact h2 y hy
 have nn:TyF tNat∧tySz tNat≤20:=⟨.nat,by rw [tySz_nat];omega⟩
 have ll:TyF tList∧tySz tList≤20:=⟨.list,by rw [tySz_list];omega⟩
 have l1:=tySz_nat
 have l2:=tySz_list
 induction h with
 | var hi h=>exact fun _ _=>.var hi h
 | @app n g t s b x hs _ _ h1 h2 =>
  intro hg ht
  have hs':TyF s∧tySz s≤20:=⟨hs.F,by have:=hs.sz0;omega⟩
  exact .n2 (ty:=.mk 0 []) .app (.lam (.fun' hs'.1 ht.1 (by omega)) (h1 (app hg (by simp [hs'])) ht)) (h2 hg hs')
 | @fst n g t s x y hs _ _ h1 h2 =>
  intro hg ht
  have hs':TyF s∧tySz s≤20:=⟨hs.F,by have:=hs.sz0;omega⟩
  exact .n1 (ty:=.mk 0 []) .fst (.n2 (ty:=.mk 0 []) (.pair (.pair' ht.1 hs'.1 (by omega))) (h1 hg ht) (h2 hg hs'))
 | @snd n g t s x y hs _ _ h1 h2 =>
  intro hg ht
  have hs':TyF s∧tySz s≤20:=⟨hs.F,by have:=hs.sz0;omega⟩
  exact .n1 (ty:=.mk 0 []) .snd (.n2 (ty:=.mk 0 []) (.pair (.pair' hs'.1 ht.1 (by omega))) (h1 hg hs') (h2 hg ht))
 | @recr n g t b f k hk _ _ h1 h2 =>
  intro hg ht
  have e:g++[tNat,t]=g++[tNat]++[t]:=by simp
  have hf:=h1 (app hg (by simp [nn,ht])) ht
  rw [e] at hf
  have tt:TyG (tFun t t):=.fun' ht.1 ht.1 (by omega)
  exact .n3 .recr (h2 hg ht) (.lam (.fun' .nat tt.1 (by rw [tySz_fun];omega)) (.lam tt hf)) (.num k)
 | @fold n g t b f x _ _ _ h1 h2 h3 =>
  intro hg ht
  have e:g++[tNat,tList,t]=g++[tNat]++[tList]++[t]:=by simp
  have hf:=h1 (app hg (by simp [nn,ll,ht])) ht
  rw [e] at hf
  have tt:TyG (tFun t t):=.fun' ht.1 ht.1 (by omega)
  have lt:TyG (tFun tList (tFun t t)):=.fun' .list tt.1 (by rw [tySz_fun];omega)
  exact .n3 .fold (h2 hg ht) (.lam (.fun' .nat lt.1 (by rw [tySz_fun,tySz_fun];omega)) (.lam lt (.lam tt hf))) (h3 hg ll)
 | @fapp n g t s x i hi h _ h1 =>
  intro hg ht
  have hs:=hg _ (List.mem_of_getElem? h)
  have hs':TyF s∧tySz s≤20:=by
   obtain ⟨h1,h2⟩:=hs
   rw [tySz_fun] at h2
   cases h1 with
   | func ha hb=>exact ⟨ha,by omega⟩
  exact .n2 (ty:=.mk 0 []) .app (.var hi h) (h1 hg hs')
 | succ _ h1=>exact fun hg _=>.n1 (ty:=.mk 0 []) .succ (h1 hg nn)
 | plus _ _ h1 h2=>exact fun hg _=>.n2 (ty:=.mk 0 []) .app (.n2 (ty:=.mk 0 []) .app .plus (h1 hg nn)) (h2 hg nn)
 | sub _ _ h1 h2=>exact fun hg _=>.n2 (ty:=.mk 0 []) .app (.n2 (ty:=.mk 0 []) .app .sub (h1 hg nn)) (h2 hg nn)
 | num=>exact fun _ _=>.num _
 | cons _ _ h1 h2=>exact fun hg _=>.n2 (ty:=.mk 0 []) .cons (h1 hg nn) (h2 hg ll)
 | nil=>exact fun _ _=>.n0 (ty:=.mk 0 []) .nil
 | @pair n g a b x y _ _ h1 h2 =>
  intro hg ht
  obtain ⟨ht,hz⟩:=ht
  rw [tySz_pair] at hz
  cases ht with
  | pair ha hb=>exact .n2 (ty:=.mk 0 []) (.pair (.pair' ha hb (by omega))) (h1 hg ⟨ha,by omega⟩) (h2 hg ⟨hb,by omega⟩)
 | @lam n g a b x _ h1 =>
  intro hg ht
  obtain ⟨ht,hz⟩:=ht
  rw [tySz_fun] at hz
  cases ht with
  | func ha hb=>exact .lam (.fun' ha hb (by omega)) (h1 (app hg (by simp [ha];omega)) ⟨hb,by omega⟩)
 | unit=>exact fun _ _=>.n0 (ty:=.mk 0 []) .unit
theorem HasTy.W {g:List Ty} {t:Tm} {s:Ty} (h:HasTy TyG g t s):(∀ y∈g,TyW y)→TmW t→TyW s∧TyW t.type:=by
 induction h with
 | var hi h=>exact fun hg _=>⟨hg _ (List.mem_of_getElem? h),tZero_W⟩
 | lam ht _ _=>exact fun _ hw=>⟨ht.1.W,hw.ty⟩
 | n0 hN=>intro hg hw;refine ⟨?_,hw.ty⟩;cases hN<;>first|exact tNat_W|exact tList_W|exact tUnit_W
 | n1 hN _ h1 =>
  intro hg hw
  have w1:=(h1 hg (hw.arg (by simp [tmT,Tm.args]))).1
  refine ⟨?_,hw.ty⟩
  cases hN with
  | succ=>exact tNat_W
  | fst=>exact w1.arg (by simp [tPair,Ty.args])
  | snd=>exact w1.arg (by simp [tPair,Ty.args])
 | n2 hN _ _ h1 h2 =>
  intro hg hw
  have w1:=(h1 hg (hw.arg (by simp [tmT,Tm.args]))).1
  have w2:=(h2 hg (hw.arg (by simp [tmT,Tm.args]))).1
  refine ⟨?_,hw.ty⟩
  cases hN with
  | app=>exact w1.arg (by simp [tFun,Ty.args])
  | cons=>exact tList_W
  | pair hp=>exact hp.1.W
 | n3 hN _ _ _ h1 h2 h3 =>
  intro hg hw
  have w1:=(h1 hg (hw.arg (by simp [tmT,Tm.args]))).1
  refine ⟨?_,hw.ty⟩
  cases hN with
  | recr=>exact w1
  | fold=>exact w1
theorem var_j {i:Int} (hl:(tmVar i).least 1000000000=true):i≤1000000000:=by
 rw [tmVar,Tm.least,Bool.and_eq_true] at hl;exact of_decide_eq_true hl.1
mutual
def Tm.rb (G:Int→Int→Tm):Tm→Int→Tm
 | .mk k i t l,b=>if k==1 then G i b else .mk k i t (Tm.rbL G l (if k==2 then addW b 1 else b))
def Tm.rbL (G:Int→Int→Tm):List Tm→Int→List Tm
 | [],_=>[]
 | t::l,b=>t.rb G b::Tm.rbL G l b
end
theorem Tm.rbL_map {G:Int→Int→Tm}:∀ (l:List Tm) (b:Int),Tm.rbL G l b=l.map fun t=>t.rb G b
 | [],b=>by simp [Tm.rbL]
 | t::l,b=>by simp [Tm.rbL,Tm.rbL_map l b]
theorem Tm.rb_eq (G:Int→Int→Tm) (t:Tm) (b:Int):t.rb G b=if t.kind==1 then G t.index b else .mk t.kind t.index t.type (t.args.map fun x=>x.rb G (if t.kind==2 then addW b 1 else b)):=by
 cases t;rw [Tm.rb,Tm.rbL_map];rfl
def liftG (fr b i below:Int):Tm:=tmVar (if decide (subW i below≥fr) then addW i b else i)
def tLift (t:Tm) (fr b:Int):Tm:=t.rb (liftG fr b) 0
def putG (a:Int) (s:Tm) (i below:Int):Tm :=
 if subW i below==a then tLift s 0 (addW a below) else if decide (subW i below>a) then tmVar (subW i 1) else tmVar i
def tPut (t:Tm) (a:Int) (s:Tm):Tm:=t.rb (putG a s) 0
theorem TmG.rb_up {b:Int} (hb0:0≤b) (hb:b≤1000000) {fr:Int} (hf0:0≤fr) (hf:fr≤100000):∀ (n:Nat) {t:Tm},TmG t→tmSz t≤n→t.least 1000000000=true→∀ d:Int,0≤d→d+n≤100000 →
  t.rb (liftG fr b) d=t.up b (fr+d)
 | 0,t,h,hn,_,_,_,_=>by have:=tmSz_pos t;omega
 | n+1,t,h,hn,hl,d,h0,hd=>by
  revert hn hl
  refine h.cases' (p:=fun t=>tmSz t≤n+1→t.least 1000000000=true→t.rb (liftG fr b) d=t.up b (fr+d)) ?_ ?_
  ·intro i hi _ hl
   have hi2:=var_j hl
   rw [tmVar,Tm.rb,Tm.up,Tm.upL]
   simp only [beq_self_eq_true,if_true,Bool.true_and,liftG]
   rw [subW_eq (by omega) (by omega) (by omega) (by omega)]
   have e:decide (i - d≥fr)=decide (i≥fr+d):=by
    by_cases h:i≥fr+d
    ·rw [decide_eq_true h,decide_eq_true (by omega)]
    ·rw [decide_eq_false h,decide_eq_false (by omega)]
   rw [e];rfl
  ·intro k ty l hk _ hg _ hn hl
   rw [tmSz] at hn
   rw [Tm.least,Bool.and_eq_true] at hl
   have hr:=tmBelow_range k
   have e:addW (fr+d) (tmBelow k)=fr+(d+tmBelow k):=by rw [addW_eq (by omega) (by omega) (by omega) (by omega)];omega
   rw [Tm.rb,Tm.rbL_map,Tm.up,Tm.upL_map,hk,e,below_eq h0 (by omega)]
   simp only [Bool.false_and,Bool.false_eq_true,if_false]
   congr 1
   refine List.map_congr_left fun y hy=>?_
   exact TmG.rb_up hb0 hb hf0 hf n (hg y hy) (by have:=tmSzL_mem hy;omega) (Tm.leastL_iff.1 hl.2 y hy) _ (by omega) (by omega)
theorem tLift_up {t:Tm} {fr b:Int} (h:TmG t) (hs:tmSz t≤5000) (hl:t.least 536870912=true) (hb0:0≤b) (hb:b≤1000000) (hf0:0≤fr) (hf:fr≤100000):tLift t fr b=t.up b fr:=by
 have:=TmG.rb_up hb0 hb hf0 hf _ h (Nat.le_refl _) (least_mono (by omega) _ hl) 0 (by omega) (by omega)
 rw [Int.add_zero] at this
 exact this
mutual
theorem near_true {M:Int} (hM:M≤536870912):∀ (t:Tm) (b:Int) (s:Bool),t.least M=true→t.eachF nearF b s=s
 | .mk k i ty l,b,s,h=>by
  rw [Tm.least,Bool.and_eq_true] at h
  have hi:=of_decide_eq_true h.1
  rw [Tm.eachF,nearL_true hM l _ _ h.2]
  split
  ·unfold nearF;rw [decide_eq_true (by omega)];simp
  ·rfl
theorem nearL_true {M:Int} (hM:M≤536870912):∀ (l:List Tm) (b:Int) (s:Bool),Tm.leastL M l=true→Tm.eachL nearF l b s=s
 | [],b,s,_=>by rw [Tm.eachL]
 | t::l,b,s,h=>by
  rw [Tm.leastL,Bool.and_eq_true] at h
  rw [Tm.eachL,near_true hM t b s h.1,nearL_true hM l b s h.2]
end
theorem near_ok {t:Tm} (h:t.least 536870912=true):t.near=true:=near_true (by omega) t 0 true h
inductive FmTy (Q:Ty→Prop):List Ty→Fm→Prop
 | eq {g:List Ty} {x y:Tm}:HasTy Q g x tNat→HasTy Q g y tNat→FmTy Q g (fmEq x y)
 | two {g:List Ty} {k:Int} {a b:Fm} (hk:k=2∨k=3):FmTy Q g a→FmTy Q g b→FmTy Q g (fmTwo k a b)
 | q {g:List Ty} {k:Int} {s:Ty} {a:Fm} (hk:k=4∨k=5∨k=6∨k=7):FmTy Q (g++[s]) a→FmTy Q g (fmQ k s a)
theorem HasTy.up1 {s:Ty} {g':List Ty} {t:Tm} {ty:Ty} (h:HasTy TyG g' t ty):∀ g l:List Ty,g'=g++l→l.length+tmSz t≤100000→g.length≤100000→HasTy TyG (g++[s]++l) (t.up 1 (l.length:Int)) ty:=by
 induction h with
 | @var g' i t hi h =>
  intro g l e hb hg
  subst e
  rw [tmVar,Tm.up,Tm.upL]
  simp only [beq_self_eq_true,Bool.true_and]
  simp only [List.length_append] at hi h
  by_cases hc:(i:Int)≥(l.length:Int)
  ·rw [decide_eq_true hc]
   simp only [if_true]
   have e:addW (i:Int) 1=((i+1:Nat):Int):=by rw [addW_eq (by omega) (by omega) (by omega) (by omega)];simp
   rw [e]
   refine HasTy.var (i:=i+1) (by simp only [List.length_append,List.length_cons,List.length_nil];omega) ?_
   have e1:(g++[s]++l).length - 1 - (i+1)=g.length+l.length - 1 - i:=by simp only [List.length_append,List.length_cons,List.length_nil];omega
   rw [e1,List.append_assoc,List.getElem?_append_left (by omega),← h,List.getElem?_append_left (by omega)]
  ·rw [decide_eq_false hc]
   simp only [Bool.false_eq_true,if_false]
   refine HasTy.var (i:=i) (by simp only [List.length_append,List.length_cons,List.length_nil];omega) ?_
   have e1:(g++[s]++l).length - 1 - i=(g++[s]).length+(l.length - 1 - i):=by simp only [List.length_append,List.length_cons,List.length_nil];omega
   have e2:g.length+l.length - 1 - i=g.length+(l.length - 1 - i):=by omega
   rw [e1,List.getElem?_append_right (by omega),Nat.add_sub_cancel_left,← h,e2,List.getElem?_append_right (by omega),Nat.add_sub_cancel_left]
 | @lam g' a b t hG _ ih =>
  intro g l e hb hg
  subst e
  rw [tmSz_T1] at hb
  rw [tmT,Tm.up,Tm.upL_map]
  have e1:addW (l.length:Int) (tmBelow 2)=((l++[a]).length:Int):=by
   have:tmBelow 2=1:=rfl
   rw [this,addW_eq (by omega) (by omega) (by omega) (by omega)];simp
  rw [e1]
  have:=ih g (l++[a]) (by simp) (by simp;omega) hg
  refine HasTy.lam hG ?_
  rw [List.append_assoc];exact this
 | @n0 g' k ty s' hN =>
  intro g l e hb hg
  have hk:(k==1)=false:=by cases hN<;>rfl
  rw [tmT,Tm.up,Tm.upL_map,hk]
  exact .n0 hN
 | @n1 g' k ty s' a x hN _ ih =>
  intro g l e hb hg
  have hk:(k==1)=false:=by cases hN<;>rfl
  have hk2:tmBelow k=0:=by cases hN<;>rfl
  rw [tmSz_T1] at hb
  rw [tmT,Tm.up,Tm.upL_map,hk,hk2,addW_zero (by omega) (by omega)]
  exact .n1 hN (ih g l e (by omega) hg)
 | @n2 g' k ty s' a b x y hN _ _ ih1 ih2 =>
  intro g l e hb hg
  have hk:(k==1)=false:=by cases hN<;>rfl
  have hk2:tmBelow k=0:=by cases hN<;>rfl
  have z:tmSz (tmT k ty [x,y])=tmSz x+tmSz y+1:=by simp [tmT,tmSz,tmSzL]
  rw [tmT,Tm.up,Tm.upL_map,hk,hk2,addW_zero (by omega) (by omega)]
  exact .n2 hN (ih1 g l e (by omega) hg) (ih2 g l e (by omega) hg)
 | @n3 g' k ty s' a b c x y z hN _ _ _ ih1 ih2 ih3 =>
  intro g l e hb hg
  have hk:(k==1)=false:=by cases hN<;>rfl
  have hk2:tmBelow k=0:=by cases hN<;>rfl
  rw [tmSz_T3] at hb
  rw [tmT,Tm.up,Tm.upL_map,hk,hk2,addW_zero (by omega) (by omega)]
  exact .n3 hN (ih1 g l e (by omega) hg) (ih2 g l e (by omega) hg) (ih3 g l e (by omega) hg)
theorem HasTy.up0 {s:Ty} {g:List Ty} {t:Tm} {ty:Ty} (h:HasTy TyG g t ty) (hb:tmSz t≤10000) (hg:g.length≤10000):HasTy TyG (g++[s]) (t.up 1 0) ty:=by
 have:=h.up1 (s:=s) g [] (by simp) (by simp;omega) (by omega)
 simpa using this
theorem less_ty {g:List Ty} {x:Tm} (h:HasTy TyG (g++[tNat]) x tNat):FmTy TyG (g++[tNat]) (lessF (tmVar 0) x) :=
 .eq (.n2 (ty:=.mk 0 []) .app (.n2 (ty:=.mk 0 []) .app .sub (.n1 (ty:=.mk 0 []) .succ .v0)) h) (.n0 (ty:=.mk 0 []) .zero)
theorem bnd_ty' {g:List Ty} {all:Bool} {x:Tm} {f:Fm} (hx:HasTy TyG (g++[tNat]) x tNat) (hf:FmTy TyG (g++[tNat]) f):FmTy TyG g (bndF all x f) :=
 .q (by cases all<;>simp) (.two (by cases all<;>simp) (less_ty hx) hf)
theorem mk20 {g:List Ty} (hg:∀ y∈g,MkTy 1 y):∀ y∈g,TyF y∧tySz y≤20:=fun y hy=>⟨(hg y hy).F,by have:=(hg y hy).sz1;omega⟩
theorem nat20:TyF tNat∧tySz tNat≤20:=⟨.nat,by rw [tySz_nat];omega⟩
theorem MkFm.ty {n:Nat} {g:List Ty} {f:Fm} (h:MkFm true n g f) (hg:∀ y∈g,MkTy 1 y):FmTy TyG g f:=by
 induction h with
 | eq h1 h2=>exact .eq (h1.ty (mk20 hg) nat20) (h2.ty (mk20 hg) nat20)
 | two hk _ _ h1 h2=>exact .two hk (h1 hg) (h2 hg)
 | q hk hs _ h1 =>
  simp only [if_true] at hs
  exact .q (by rcases hk with h|h|⟨_,h|h⟩<;>simp [h]) (h1 (app_mk hg hs))
theorem MkDec.ty {n:Nat} {g:List Ty} {f:Fm} (h:MkDec n g f) (hg:∀ y∈g,MkTy 1 y) (hb:g.length+n≤10000):FmTy TyG g f:=by
 induction h with
 | eq h1 h2=>exact .eq (h1.ty (mk20 hg) nat20) (h2.ty (mk20 hg) nat20)
 | two hk _ _ h1 h2=>exact .two hk (h1 hg (by omega)) (h2 hg (by omega))
 | @bnd n g all x b hx _ h1 =>
  have hz:=(hx.small hg (by omega)).2.1
  exact bnd_ty' ((hx.ty (mk20 hg) nat20).up0 (by omega) (by omega)) (h1 (app_mk hg .nat) (by simp;omega))
theorem HasTy.upl {Q:Ty→Prop} {m g':List Ty} {t:Tm} {ty:Ty} (h:HasTy Q g' t ty):∀ g l:List Ty,g'=g++l→l.length+tmSz t≤100000→g.length≤100000→m.length≤100000→HasTy Q (g++m++l) (t.up (m.length:Int) (l.length:Int)) ty:=by
 induction h with
 | @var g' i t hi h =>
  intro g l e hb hg hm
  subst e
  rw [tmVar,Tm.up,Tm.upL]
  simp only [beq_self_eq_true,Bool.true_and]
  simp only [List.length_append] at hi h
  by_cases hc:(i:Int)≥(l.length:Int)
  ·rw [decide_eq_true hc]
   simp only [if_true]
   have e:addW (i:Int) (m.length:Int)=((i+m.length:Nat):Int):=by rw [addW_eq (by omega) (by omega) (by omega) (by omega)];simp
   rw [e]
   refine HasTy.var (i:=i+m.length) (by simp only [List.length_append];omega) ?_
   have e1:(g++m++l).length - 1 - (i+m.length)=g.length+l.length - 1 - i:=by simp only [List.length_append];omega
   rw [e1,List.append_assoc,List.getElem?_append_left (by omega),← h,List.getElem?_append_left (by omega)]
  ·rw [decide_eq_false hc]
   simp only [Bool.false_eq_true,if_false]
   refine HasTy.var (i:=i) (by simp only [List.length_append];omega) ?_
   have e1:(g++m++l).length - 1 - i=(g++m).length+(l.length - 1 - i):=by simp only [List.length_append];omega
   have e2:g.length+l.length - 1 - i=g.length+(l.length - 1 - i):=by omega
   rw [e1,List.getElem?_append_right (by omega),Nat.add_sub_cancel_left,← h,e2,List.getElem?_append_right (by omega),Nat.add_sub_cancel_left]
 | @lam g' a b t hG _ ih =>
  intro g l e hb hg hm
  subst e
  rw [tmSz_T1] at hb
  rw [tmT,Tm.up,Tm.upL_map]
  have e1:addW (l.length:Int) (tmBelow 2)=((l++[a]).length:Int):=by
   have:tmBelow 2=1:=rfl
   rw [this,addW_eq (by omega) (by omega) (by omega) (by omega)];simp
  rw [e1]
  have:=ih g (l++[a]) (by simp) (by simp;omega) hg hm
  refine HasTy.lam hG ?_
  rw [List.append_assoc];exact this
 | @n0 g' k ty s' hN =>
  intro g l e hb hg hm
  have hk:(k==1)=false:=by cases hN<;>rfl
  rw [tmT,Tm.up,Tm.upL_map,hk]
  exact .n0 hN
 | @n1 g' k ty s' a x hN _ ih =>
  intro g l e hb hg hm
  have hk:(k==1)=false:=by cases hN<;>rfl
  have hk2:tmBelow k=0:=by cases hN<;>rfl
  rw [tmSz_T1] at hb
  rw [tmT,Tm.up,Tm.upL_map,hk,hk2,addW_zero (by omega) (by omega)]
  exact .n1 hN (ih g l e (by omega) hg hm)
 | @n2 g' k ty s' a b x y hN _ _ ih1 ih2 =>
  intro g l e hb hg hm
  have hk:(k==1)=false:=by cases hN<;>rfl
  have hk2:tmBelow k=0:=by cases hN<;>rfl
  have z:tmSz (tmT k ty [x,y])=tmSz x+tmSz y+1:=by simp [tmT,tmSz,tmSzL]
  rw [tmT,Tm.up,Tm.upL_map,hk,hk2,addW_zero (by omega) (by omega)]
  exact .n2 hN (ih1 g l e (by omega) hg hm) (ih2 g l e (by omega) hg hm)
 | @n3 g' k ty s' a b c x y z hN _ _ _ ih1 ih2 ih3 =>
  intro g l e hb hg hm
  have hk:(k==1)=false:=by cases hN<;>rfl
  have hk2:tmBelow k=0:=by cases hN<;>rfl
  rw [tmSz_T3] at hb
  rw [tmT,Tm.up,Tm.upL_map,hk,hk2,addW_zero (by omega) (by omega)]
  exact .n3 hN (ih1 g l e (by omega) hg hm) (ih2 g l e (by omega) hg hm) (ih3 g l e (by omega) hg hm)
theorem HasTy.inn {Q:Ty→Prop} {a:Ty} {x:Tm} {g':List Ty} {t:Tm} {ty:Ty} (h:HasTy Q g' t ty):∀ g l:List Ty,g'=g++[a]++l→HasTy Q g x a→l.length+tmSz t≤50000→g.length+tmSz x≤50000→HasTy Q (g++l) (tmInn x 0 t (l.length:Int)) ty:=by
 induction h with
 | @var g' i t hi h =>
  intro g l e hx hb hg
  subst e
  have e0:addW 0 (l.length:Int)=(l.length:Int):=addW_z (by omega) (by omega)
  rw [tmVar,tmInn,e0]
  simp only [beq_self_eq_true,if_true]
  simp only [List.length_append,List.length_cons,List.length_nil] at hi h
  rcases Nat.lt_trichotomy i l.length with hc|hc|hc
  ·have c1:((i:Int)==(l.length:Int))=false:=by simp;omega
   have c2:decide ((i:Int)>(l.length:Int))=false:=by simp;omega
   rw [c1,c2]
   simp only [Bool.false_eq_true,if_false]
   refine HasTy.var (i:=i) (by simp only [List.length_append];omega) ?_
   have e1:(g++l).length - 1 - i=g.length+(l.length - 1 - i):=by simp only [List.length_append];omega
   have e2:g.length+(0+1)+l.length - 1 - i=(g++[a]).length+(l.length - 1 - i):=by simp only [List.length_append,List.length_cons,List.length_nil];omega
   rw [e1,List.getElem?_append_right (by omega),Nat.add_sub_cancel_left,← h,e2,List.getElem?_append_right (by omega),Nat.add_sub_cancel_left]
  ·subst hc
   simp only [beq_self_eq_true,if_true]
   have e2:g.length+(0+1)+l.length - 1 - l.length=g.length:=by omega
   rw [e2,List.append_assoc,List.getElem?_append_right (by omega),Nat.sub_self] at h
   simp only [List.cons_append,List.getElem?_cons_zero,Option.some.injEq] at h
   subst h
   have:=hx.upl (m:=l) g [] (by simp) (by simp;omega) (by omega) (by omega)
   simpa using this
  ·have c1:((i:Int)==(l.length:Int))=false:=by simp;omega
   have c2:decide ((i:Int)>(l.length:Int))=true:=by simp;omega
   have e3:subW (i:Int) 1=((i - 1:Nat):Int):=by rw [subW_eq (by omega) (by omega) (by omega) (by omega)];omega
   rw [c1,c2,e3]
   simp only [Bool.false_eq_true,if_false,if_true]
   refine HasTy.var (i:=i - 1) (by simp only [List.length_append];omega) ?_
   have e1:(g++l).length - 1 - (i - 1)=g.length+l.length - i:=by simp only [List.length_append];omega
   have e2:g.length+(0+1)+l.length - 1 - i=g.length+l.length - i:=by omega
   rw [e1,List.getElem?_append_left (by omega),← h,e2,List.append_assoc,List.getElem?_append_left (by omega)]
 | @lam g' b c t hG _ ih =>
  intro g l e hx hb hg
  subst e
  rw [tmSz_T1] at hb
  rw [tmT,tmInn,tmInnL_map]
  have e1:addW (l.length:Int) (tmBelow 2)=((l++[b]).length:Int):=by
   have:tmBelow 2=1:=rfl
   rw [this,addW_eq (by omega) (by omega) (by omega) (by omega)];simp
  rw [e1]
  have:=ih g (l++[b]) (by simp) hx (by simp;omega) hg
  refine HasTy.lam hG ?_
  rw [List.append_assoc];exact this
 | @n0 g' k ty s' hN =>
  intro g l e hx hb hg
  have hk:(k==1)=false:=by cases hN<;>rfl
  rw [tmT,tmInn,tmInnL_map,hk]
  exact .n0 hN
 | @n1 g' k ty s' b y hN _ ih =>
  intro g l e hx hb hg
  have hk:(k==1)=false:=by cases hN<;>rfl
  have hk2:tmBelow k=0:=by cases hN<;>rfl
  rw [tmSz_T1] at hb
  rw [tmT,tmInn,tmInnL_map,hk,hk2,addW_zero (by omega) (by omega)]
  exact .n1 hN (ih g l e hx (by omega) hg)
 | @n2 g' k ty s' b c y z hN _ _ ih1 ih2 =>
  intro g l e hx hb hg
  have hk:(k==1)=false:=by cases hN<;>rfl
  have hk2:tmBelow k=0:=by cases hN<;>rfl
  have zz:tmSz (tmT k ty [y,z])=tmSz y+tmSz z+1:=by simp [tmT,tmSz,tmSzL]
  rw [tmT,tmInn,tmInnL_map,hk,hk2,addW_zero (by omega) (by omega)]
  exact .n2 hN (ih1 g l e hx (by omega) hg) (ih2 g l e hx (by omega) hg)
 | @n3 g' k ty s' b c d y z w hN _ _ _ ih1 ih2 ih3 =>
  intro g l e hx hb hg
  have hk:(k==1)=false:=by cases hN<;>rfl
  have hk2:tmBelow k=0:=by cases hN<;>rfl
  rw [tmSz_T3] at hb
  rw [tmT,tmInn,tmInnL_map,hk,hk2,addW_zero (by omega) (by omega)]
  exact .n3 hN (ih1 g l e hx (by omega) hg) (ih2 g l e hx (by omega) hg) (ih3 g l e hx (by omega) hg)
theorem tmSz_T2 {k:Int} {t:Ty} {a b:Tm}:tmSz (tmT k t [a,b])=tmSz a+tmSz b+1:=by simp [tmT,tmSz,tmSzL]
mutual
def tmCl:Tm→Int→Bool
 | .mk k i _ l,n=>if k==1 then decide (i<n)&&l.isEmpty else tmClL l (n+tmBelow k)
def tmClL:List Tm→Int→Bool
 | [],_=>true
 | t::l,n=>tmCl t n&&tmClL l n
end
theorem tmClL_mem:∀ {l:List Tm} {n:Int},tmClL l n=true→∀ x∈l,tmCl x n=true
 | t::l,n,h,x,hx=>by
  rw [tmClL,Bool.and_eq_true] at h
  rcases List.mem_cons.1 hx with rfl|hx
  ·exact h.1
  ·exact tmClL_mem h.2 x hx
theorem map_id {g:Tm→Tm}:∀ {l:List Tm},(∀ x∈l,g x=x)→l.map g=l
 | [],_=>rfl
 | t::l,h=>by rw [List.map_cons,h t (by simp),map_id (fun x hx=>h x (by simp [hx]))]
theorem up_cl {b:Int}:∀ (n:Nat) (t:Tm),tmSz t≤n→∀ m fr:Int,tmCl t m=true→m≤fr→0≤fr→fr+n≤1000000→t.up b fr=t
 | 0,t,hn,_,_,_,_,_,_=>by have:=tmSz_pos t;omega
 | n+1,.mk k i ty l,hn,m,fr,hc,hm,h0,hb=>by
  rw [tmSz] at hn
  have hr:=tmBelow_range k
  have e:addW fr (tmBelow k)=fr+tmBelow k:=addW_eq (by omega) (by omega) (by omega) (by omega)
  rw [tmCl] at hc
  rw [Tm.up,Tm.upL_map,e]
  cases hk:(k==1) with
  | true =>
   rw [hk] at hc
   simp only [if_true,Bool.and_eq_true,decide_eq_true_eq,List.isEmpty_iff] at hc
   obtain ⟨hc,rfl⟩:=hc
   have e2:decide (i≥fr)=false:=by simp;omega
   rw [e2]
   simp only [Bool.and_false,Bool.false_eq_true,if_false,List.map_nil]
  | false =>
   rw [hk] at hc
   simp only [Bool.false_eq_true,if_false] at hc
   simp only [Bool.false_and,Bool.false_eq_true,if_false]
   rw [map_id (fun x hx=>up_cl n x (by have:=tmSzL_mem hx;omega) (m+tmBelow k) _ (tmClL_mem hc x hx) (by omega) (by omega) (by omega))]
theorem inn_cl {s:Tm}:∀ (n:Nat) (t:Tm),tmSz t≤n→∀ m d:Int,tmCl t m=true→m≤d→0≤d→d+n≤1000000→tmInn s 0 t d=t
 | 0,t,hn,_,_,_,_,_,_=>by have:=tmSz_pos t;omega
 | n+1,.mk k i ty l,hn,m,d,hc,hm,h0,hb=>by
  rw [tmSz] at hn
  have hr:=tmBelow_range k
  have e:addW d (tmBelow k)=d+tmBelow k:=addW_eq (by omega) (by omega) (by omega) (by omega)
  have e0:addW 0 d=d:=by rw [addW_eq (by omega) (by omega) (by omega) (by omega)];omega
  rw [tmCl] at hc
  rw [tmInn,tmInnL_map,e,e0]
  cases hk:(k==1) with
  | true =>
   rw [hk] at hc
   simp only [if_true,Bool.and_eq_true,decide_eq_true_eq,List.isEmpty_iff] at hc
   obtain ⟨hc,rfl⟩:=hc
   have e2:(i==d)=false:=by simp;omega
   have e3:decide (i>d)=false:=by simp;omega
   rw [e2,e3]
   simp only [Bool.false_eq_true,if_false,if_true]
  | false =>
   rw [hk] at hc
   simp only [Bool.false_eq_true,if_false] at hc
   simp only [Bool.false_eq_true,if_false]
   rw [map_id (fun x hx=>inn_cl n x (by have:=tmSzL_mem hx;omega) (m+tmBelow k) _ (tmClL_mem hc x hx) (by omega) (by omega) (by omega))]
theorem occ_map {g:Tm→Tm} {x y:Int}:∀ {l:List Tm},(∀ t∈l,tmOcc (g t) x=tmOcc t y)→tmOccL (l.map g) x=tmOccL l y
 | [],_=>rfl
 | t::l,h=>by rw [List.map_cons,tmOccL,tmOccL,h t (by simp),occ_map (fun z hz=>h z (by simp [hz]))]
theorem var_i {i:Int} (hl:(tmVar i).least 1000000000=true):i≤1000000000:=by
 rw [tmVar,Tm.least,Bool.and_eq_true] at hl;exact of_decide_eq_true hl.1
theorem TmG.up_occ_gap {b:Int} (hb0:0≤b) (hb1:b≤1000000):∀ (k:Nat) {t:Tm},TmG t→tmSz t≤k→t.least 1000000000=true→∀ fr x:Int,0≤fr→fr≤x→x<fr+b→fr+k≤1000000→tmOcc (t.up b fr) x=0
 | 0,t,h,hn,_,_,_,_,_,_,_=>by have:=tmSz_pos t;omega
 | k+1,t,h,hn,hl,fr,x,h0,hx,hxf,hb=>by
  revert hn hl
  refine h.cases' (p:=fun t=>tmSz t≤k+1→t.least 1000000000=true→tmOcc (t.up b fr) x=0) ?_ ?_
  ·intro i hi _ hl
   have hi2:=var_i hl
   rw [tmVar,Tm.up,Tm.upL,tmOcc]
   simp only [beq_self_eq_true,Bool.true_and,if_true]
   by_cases h:i≥fr
   ·rw [decide_eq_true h,addW_eq (by omega) (by omega) (by omega) (by omega)]
    have e1:(i+b==x)=false:=by simp;omega
    simp [e1]
   ·rw [decide_eq_false h]
    have e1:(i==x)=false:=by simp;omega
    simp [e1]
  ·intro kk ty l hk _ hg _ hn hl
   rw [tmSz] at hn
   rw [Tm.least,Bool.and_eq_true] at hl
   have hr:=tmBelow_range kk
   have e:addW fr (tmBelow kk)=fr+tmBelow kk:=addW_eq (by omega) (by omega) (by omega) (by omega)
   rw [Tm.up,Tm.upL_map,tmOcc,hk,e]
   simp only [Bool.false_and,Bool.false_eq_true,if_false]
   refine tmOccL_zero ?_
   intro z hz
   obtain ⟨y,hy,rfl⟩:=List.mem_map.1 hz
   exact TmG.up_occ_gap hb0 hb1 k (hg y hy) (by have:=tmSzL_mem hy;omega) (Tm.leastL_iff.1 hl.2 y hy) _ _ (by omega) (by omega) (by omega) (by omega)
theorem TmG.inn_occ {s:Tm} (hs:TmG s) (hss:tmSz s≤10000) (hsl:s.least 1000000000=true):∀ (k:Nat) {t:Tm},TmG t→tmSz t≤k→t.least 1000000000=true→∀ d x:Int,0≤x→x<d→d+k≤500000→tmOcc (tmInn s 0 t d) x=tmOcc t x
 | 0,t,h,hn,_,_,_,_,_,_=>by have:=tmSz_pos t;omega
 | k + 1,t,h,hn,hl,d,x,hx,hxf,hb=>by
  revert hn hl
  have e0:addW 0 d=d:=by rw [addW_eq (by omega) (by omega) (by omega) (by omega)];omega
  refine h.cases' (p:=fun t=>tmSz t≤k+1→t.least 1000000000=true→tmOcc (tmInn s 0 t d) x=tmOcc t x) ?_ ?_
  ·intro i hi _ hl
   have hi2:=var_i hl
   rw [tmVar,tmInn,tmOcc,e0]
   simp only [beq_self_eq_true,if_true]
   by_cases h1:i=d
   ·have e1:(i==d)=true:=by simpa using h1
    have e2:(i==x)=false:=by simp;omega
    rw [e1,e2]
    simp only [if_true,Bool.false_eq_true,if_false]
    exact TmG.up_occ_gap (by omega) (by omega) _ hs (Nat.le_refl _) hsl 0 x (by omega) hx (by omega) (by omega)
   ·have e1:(i==d)=false:=by simpa using h1
    rw [e1]
    simp only [Bool.false_eq_true,if_false]
    by_cases h2:i>d
    ·have e2:(i==x)=false:=by simp;omega
     have e3:(i - 1==x)=false:=by simp;omega
     rw [decide_eq_true h2,e2,subW_eq (by omega) (by omega) (by omega) (by omega)]
     simp [tmVar,tmOcc,e3]
    ·rw [decide_eq_false h2]
     simp [tmOcc]
  ·intro kk ty l hk _ hg _ hn hl
   rw [tmSz] at hn
   rw [Tm.least,Bool.and_eq_true] at hl
   have hr:=tmBelow_range kk
   have e:addW d (tmBelow kk)=d+tmBelow kk:=addW_eq (by omega) (by omega) (by omega) (by omega)
   rw [tmInn,tmInnL_map,tmOcc,hk,e]
   simp only [Bool.false_eq_true,if_false,tmOcc,hk]
   exact occ_map fun y hy=>TmG.inn_occ hs hss hsl k (hg y hy) (by have:=tmSzL_mem hy;omega) (Tm.leastL_iff.1 hl.2 y hy) _ _ (by omega) (by omega) (by omega)
mutual
def Fm.up (b:Int):Fm→Int→Fm
 | .mk k t l a,fr=>.mk k t (l.map fun x=>x.up b fr) (Fm.upL b a (addW fr (fmBelow k)))
def Fm.upL (b:Int):List Fm→Int→List Fm
 | [],_=>[]
 | t::l,fr=>t.up b fr::Fm.upL b l fr
end
theorem Fm.upL_map {b:Int}:∀ (l:List Fm) (fr:Int),Fm.upL b l fr=l.map fun t=>t.up b fr
 | [],fr=>by simp [Fm.upL]
 | t::l,fr=>by simp [Fm.upL,Fm.upL_map l fr]
theorem Fm.up_eq (b:Int) (t:Fm) (fr:Int):t.up b fr=.mk t.kind t.type (t.terms.map fun x=>x.up b fr) (t.args.map fun x=>x.up b (addW fr (fmBelow t.kind))):=by
 cases t;rw [Fm.up,Fm.upL_map];rfl
theorem least_args {M:Int} {f x:Fm} (h:f.least M=true) (hx:x∈f.args):x.least M=true:=by
 rw [Fm.least_eq,Bool.and_eq_true] at h
 exact Fm.leastL_iff.1 h.2 x hx
theorem least_terms {M:Int} {f:Fm} {x:Tm} (h:f.least M=true) (hx:x∈f.terms):x.least M=true:=by
 rw [Fm.least_eq,Bool.and_eq_true] at h
 exact Tm.leastL_iff.1 h.1 x hx
theorem left_cl:tmCl (tm0 3 [subT,tm0 5 [tmVar 0]]) 1=true:=by decide
theorem left_sz:tmSz (tm0 3 [subT,tm0 5 [tmVar 0]])=19:=by rw [tmSz_2,tmSz_sub,tmSz_1,tmSz_v]
theorem inn_tm0 {s:Tm} {k d:Int} {l:List Tm} (hk:(k==1)=false):tmInn s 0 (tm0 k l) d=tm0 k (l.map fun x=>tmInn s 0 x (addW d (tmBelow k))):=by
 rw [tm0,tmInn,tmInnL_map,hk];rfl
theorem MkTy.pair1 {a b:Ty} (h:MkTy 1 (tPair a b)):MkTy 0 a∧MkTy 0 b:=by cases h with|pair h1 h2=>exact ⟨h1,h2⟩
theorem fmOcc_eq {x y:Tm} {a:Int}:fmOcc (fmEq x y) a=tmOcc x a+tmOcc y a:=by simp [fmEq,fmOcc,tmOccL,fmOccL]
theorem fmOcc_two {k:Int} {x y:Fm} {a:Int} (hk:k=2∨k=3):fmOcc (fmTwo k x y) a=fmOcc x a+fmOcc y a:=by
 rcases hk with rfl|rfl<;>simp [fmTwo,fmOcc,tmOccL,fmOccL,fmBelow,quant]
theorem fmOcc_q {k:Int} {t:Ty} {x:Fm} {a:Int} (hk:k=4∨k=5∨k=6∨k=7):fmOcc (fmQ k t x) a=fmOcc x (a+1):=by
 rcases hk with rfl|rfl|rfl|rfl<;>simp [fmQ,fmOcc,tmOccL,fmOccL,fmBelow,quant]
theorem least_eqn {M:Int} {x y:Tm} (h1:x.least M=true) (h2:y.least M=true):(fmEq x y).least M=true:=by
 rw [Fm.least_eq];simp only [fmEq,Fm.terms,Fm.args,Tm.leastL_cons,Tm.leastL_nil,Fm.leastL_nil,h1,h2,Bool.and_self]
theorem least_two {M k:Int} {x y:Fm} (h1:x.least M=true) (h2:y.least M=true):(fmTwo k x y).least M=true:=by
 rw [Fm.least_eq];simp only [fmTwo,Fm.terms,Fm.args,Fm.leastL_cons,Tm.leastL_nil,Fm.leastL_nil,h1,h2,Bool.and_self]
theorem least_q {M k:Int} {t:Ty} {x:Fm} (h1:x.least M=true):(fmQ k t x).least M=true:=by
 rw [Fm.least_eq];simp only [fmQ,Fm.terms,Fm.args,Fm.leastL_cons,Tm.leastL_nil,Fm.leastL_nil,h1,Bool.and_self]
theorem fmUp_eqn {b d:Int} {x y:Tm}:(fmEq x y).up b d=fmEq (x.up b d) (y.up b d):=by rw [Fm.up_eq];rfl
theorem fmUp_two {b d k:Int} {x y:Fm}:(fmTwo k x y).up b d=fmTwo k (x.up b (addW d (fmBelow k))) (y.up b (addW d (fmBelow k))):=by rw [Fm.up_eq];rfl
theorem fmUp_q {b d k:Int} {t:Ty} {x:Fm}:(fmQ k t x).up b d=fmQ k t (x.up b (addW d (fmBelow k))):=by rw [Fm.up_eq];rfl
theorem FmG.up {u:Bool} {b:Int} (hb0:0≤b) (hb:b≤1000000) {f:Fm} (h:FmG u f):f.least 536870912=true→∀ d:Int,FmG u (f.up b d)∧fmSz (f.up b d)=fmSz f:=by
 induction h with
 | @eq x y hx hy =>
  intro hl d
  have l1:=least_terms (x:=x) hl (by simp [fmEq,Fm.terms])
  have l2:=least_terms (x:=y) hl (by simp [fmEq,Fm.terms])
  rw [fmUp_eqn,fmSz_eq,fmSz_eq,tmSz_up,tmSz_up]
  exact ⟨.eq (TmG.up hb0 hb _ hx (Nat.le_refl _) l1 d) (TmG.up hb0 hb _ hy (Nat.le_refl _) l2 d),rfl⟩
 | @two k p q hk _ _ h1 h2 =>
  intro hl d
  obtain ⟨a1,a2⟩:=h1 (least_args hl (by simp [fmTwo,Fm.args])) (addW d (fmBelow k))
  obtain ⟨b1,b2⟩:=h2 (least_args hl (by simp [fmTwo,Fm.args])) (addW d (fmBelow k))
  rw [fmUp_two,fmSz_two,fmSz_two,a2,b2]
  exact ⟨.two hk a1 b1,rfl⟩
 | @q k t p hk ht _ h1 =>
  intro hl d
  obtain ⟨a1,a2⟩:=h1 (least_args hl (by simp [fmQ,Fm.args])) (addW d (fmBelow k))
  rw [fmUp_q,fmSz_q,fmSz_q,a2]
  exact ⟨.q hk ht a1,rfl⟩
end GoAbs
