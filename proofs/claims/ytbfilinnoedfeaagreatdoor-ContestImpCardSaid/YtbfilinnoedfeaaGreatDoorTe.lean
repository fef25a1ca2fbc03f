/-
 Walks: several parts in one text.
-/
import Derived.Test.YtbfilinnoedfeaaGreatDoorHb
import Derived.Test.YtbfilinnoedfeaaGreatDoorTd
import Derived.Test.YtbfilinnoedfeaaGreatDoorMn
import Derived.Test.YtbfilinnoedfeaaGreatDoorMa
set_option linter.unusedSimpArgs false
set_option linter.unusedVariables false
set_option maxRecDepth 20000
set_option maxHeartbeats 4000000
namespace Go.Proofs.YtbfilinnoedfeaaGreatDoor
open Go GoAbs Go.Proofs
theorem hset_id {h:H} {d:GoAbs.Id} {o:GoAbs.Obj} (hd:h d=some o):hset h d o=h:=by
 funext j
 by_cases e:j=d
 ·subst e;rw [hset_same,hd]
 ·rw [hset_other e]
theorem c_PutFormula1 (s:Tm) (hs:TmW s) (A d:GoAbs.Id) (cs:List V) (t:Tm) (ht:TmW t) (b:Int) (u:Unit) :
  TurnsE Tryz.prog env 253 (.agg t.cells::.int .i64 b::[.ptr A 0]) [(A,.box s.cells)] d (.box cs) (.agg (tmSp s 0 t b).cells) (.box cs):=by
 intro h he hd
 simp only [List.mem_cons,List.not_mem_nil,or_false,forall_eq] at he
 rw [hset_id hd]
 have hc:=c_sput s hs 0 t ht b
 have hin:∀ S,InV S (V.agg (tmSp s 0 t b).cells):=fun S=>by simp [InV,InL_Tm]
 generalize tmSp s 0 t b=x at *
 clear hd
 refine en Tryz.func253 [.cell 5 36] rfl rfl fun g0 w0 gen hrel hfr hfr' hres=>?_
 have f1:=fresh_ne hfr he
 have f2:=fresh_ne' hfr he
 repeat' (first
  |exact hin _|exact agf (by assumption)
  | (first|refine wp rfl ?_|refine cp hc ?_|refine finF hrel ?_ ?_ ?_)<;>try simp only [go_sem, *])
theorem c_PutFormula (f:Fm) (hf:FmW f) (s:Tm) (hs:TmW s):Pure Tryz.prog env 205 [.agg f.cells,.agg s.cells] (.agg (f.sp s).cells):=by
 intro h
 unfold Fm.sp
 refine en Tryz.func205 [.cell 4 48] rfl rfl fun g0 w0 gen hrel hfr hfr' hres=>?_
 have nA:(⟨gen,0,1⟩:GoAbs.Id)≠⟨gen,0,0⟩:=by simp
 have hc:=c_sEach (fun _:Unit=>f.cells) (fun t b=>tmSp s 0 t b) (fun _ _ u=>u) 253 [.ptr ⟨gen,0,1⟩ 0] rfl (fun _ _=>InL_Fm f) ⟨gen,0,1⟩ ⟨gen,0,0⟩ (.box s.cells) nA
  (fun t ht b u=>c_PutFormula1 s hs _ _ _ t ht b u) f hf 0 ()
 clear nA
 generalize f.ev (fun t b=>tmSp s 0 t b) 0=g at hc ⊢
 repeat' (first
  |exact hin _|exact agf (by assumption)
  | (first|refine wp rfl ?_|(refine Call1_turnE (hc) ?_ ?_ ?_;(focus ((simp only [go_sem, *]<;>(repeat (first|assumption|rfl|refine And.intro ?_ ?_)));done));(focus ((simp only [go_sem, *]<;>first|rfl|assumption);done)))|refine finF hrel ?_ ?_ ?_)<;>try simp only [go_sem, *])
theorem c_Grown1 (m:Int) (A d:GoAbs.Id) (nA:A≠d) (t:Tm) (ht:TmW t) (b n:Int) :
  TurnsE Tryz.prog env 251 (.agg t.cells::.int .i64 b::[.ptr d 0,.ptr A 0]) [(A,.box [.int .i64 m])] d (.box [.int .i64 n]) (.agg t.cells) (.box [.int .i64 (grownG m t b n)]):=by
 intro h he hd
 simp only [List.mem_cons,List.not_mem_nil,or_false,forall_eq] at he
 have n3:(A=d)=False:=by simpa using nA
 have hc:=c_uses t ht b
 have hw:IntKind.i64.wrap (m * t.us b)=mulW m (t.us b):=rfl
 have hw1:IntKind.i64.wrap (n+mulW m (t.us b))=addW n (mulW m (t.us b)):=rfl
 unfold grownG
 generalize t.us b=u at *
 generalize mulW m u=p at *
 generalize addW n p=q at *
 clear nA
 refine en Tryz.func251 [.cell 6 36] rfl rfl fun g0 w0 gen hrel hfr hfr' hres=>?_
 have f1:=fresh_ne hfr hd
 have f2:=fresh_ne' hfr hd
 have f3:=fresh_ne hfr he
 have f4:=fresh_ne' hfr he
 repeat' (first
  |(refine ⟨?_,?_⟩;focus ((repeat' (first|refine ⟨?_,?_⟩|refine .inr ?_));all_goals kernel_rfl))
  |exact agb (by assumption)
  | (first|refine wp rfl ?_|refine cp hc ?_|refine finT hrel hd ?_ ?_ ?_ ?_ ?_)<;>try simp only [go_sem, *])
theorem c_Grown (f:Fm) (hf:FmW f) (s:Tm) (hs:TmW s):Pure Tryz.prog env 203 [.agg f.cells,.agg s.cells] (.int .i64 (f.grown s)):=by
 intro h
 unfold Fm.grown
 have h1:=c_Size f hf
 have h2:=c_Nodes s hs
 have hw:IntKind.i64.wrap (s.szW - 1)=subW s.szW 1:=rfl
 generalize s.szW=z at *
 generalize subW z 1=m at *
 generalize f.szW=n0 at *
 refine en Tryz.func203 [.tmp 4] rfl rfl fun g0 w0 gen hrel hfr hfr' hres=>?_
 have nA:(⟨gen,1,6⟩:GoAbs.Id)≠⟨gen,1,5⟩:=by simp
 have hc:=c_sEach (fun n:Int=>[V.int .i64 n]) (fun t _=>t) (grownG m) 251 [.ptr ⟨gen,1,5⟩ 0,.ptr ⟨gen,1,6⟩ 0] rfl (fun _ _=>by simp [InL,InV]) ⟨gen,1,6⟩ ⟨gen,1,5⟩ (.box [.int .i64 m]) nA
  (fun t ht b n=>c_Grown1 m _ _ nA t ht b n) f hf 0 n0
 clear nA
 generalize f.ev (fun t _=>t) 0=g at hc ⊢
 generalize f.es (grownG m) 0 n0=r at hc ⊢
 repeat' (first
  |(refine ⟨?_,?_⟩;focus ((repeat' (first|refine ⟨?_,?_⟩|refine .inr ?_));all_goals kernel_rfl))
  |exact hin _|exact agf (by assumption)
  | (first|refine wp rfl ?_|refine cp h1 ?_|refine cp h2 ?_|(refine Call1_turnE (hc) ?_ ?_ ?_;(focus ((simp only [go_sem, *]<;>(repeat (first|assumption|rfl|refine And.intro ?_ ?_)));done));(focus ((simp only [go_sem, *]<;>first|rfl|assumption);done)))|refine finF hrel ?_ ?_ ?_)<;>try simp only [go_sem, *])
theorem c_FarFormula1 (A d:GoAbs.Id) (oA:GoAbs.Obj) (nA:A≠d) (t:Tm) (ht:TmW t) (b:Int) (s:Bool) :
  TurnsE Tryz.prog env 149 (.agg t.cells::.int .i64 b::[.ptr d 0]) [(A,oA)] d (.box [.bool s]) (.agg t.cells) (.box [.bool (farG t b s)]):=by
 intro h he hd
 clear he nA
 have hc:=c_Far t ht
 unfold farG
 generalize (!t.least 268435456)=u at *
 cases s
 all_goals
  simp only [Bool.false_or,Bool.true_or]
  refine en Tryz.func149 [.cell 5 36] rfl rfl fun g0 w0 gen hrel hfr hfr' hres=>?_
  have f1:=fresh_ne hfr hd
  have f2:=fresh_ne' hfr hd
  repeat' (first
   |exact agb (by assumption)
   | (first|refine wp rfl ?_|(refine gs (fun hb=>?_) fun hb=>?_)<;>try simp only [Bool.not_true,Bool.not_false] at hb|refine cp hc ?_|refine finT hrel hd ?_ ?_ ?_ ?_ ?_)<;>try simp only [go_sem, *])
theorem c_FarFormula (f:Fm) (hf:FmW f):Pure Tryz.prog env 104 [.agg f.cells] (.bool f.far):=by
 intro h
 unfold Fm.far
 refine en Tryz.func104 [.tmp 2] rfl rfl fun g0 w0 gen hrel hfr hfr' hres=>?_
 have nA:(⟨gen,0,0⟩:GoAbs.Id)≠⟨gen,1,0⟩:=by simp
 have hc:=c_sEach (fun n:Bool=>[V.bool n]) (fun t _=>t) farG 149 [.ptr ⟨gen,1,0⟩ 0] rfl (fun _ _=>by simp [InL,InV]) ⟨gen,0,0⟩ ⟨gen,1,0⟩ (.box f.cells) nA
  (fun t ht b n=>c_FarFormula1 _ _ _ nA t ht b n) f hf 0 false
 clear nA
 generalize f.ev (fun t _=>t) 0=g at hc ⊢
 generalize f.es farG 0 false=r at hc ⊢
 repeat' (first
  |exact hin _|exact agf (by assumption)
  | (first|refine wp rfl ?_|(refine Call1_turnE (hc) ?_ ?_ ?_;(focus ((simp only [go_sem, *]<;>(repeat (first|assumption|rfl|refine And.intro ?_ ?_)));done));(focus ((simp only [go_sem, *]<;>first|rfl|assumption);done)))|refine finF hrel ?_ ?_ ?_)<;>try simp only [go_sem, *])
theorem c_quantifiers:∀ t:Fm,FmW t→Pure Tryz.prog env 204 [.agg t.cells] (.int .i64 t.qs):=by
 intro t
 induction t using Fm.ind with|h t ih=>?_
 intro ht h
 have hlen:=ht.len
 have ih':∀ x∈t.args,Pure Tryz.prog env 204 [.agg x.cells] (.int .i64 x.qs):=fun x hx=>ih x hx (ht.arg hx)
 clear ih
 have hv0:=t.qs_eq.symm
 generalize hvv:t.qs=v at hv0 ⊢
 clear hvv
 have hw1:IntKind.i64.wrap (0+1)=1:=rfl
 have hw3:IntKind.i64.wrap 1=1:=rfl
 have hkk:(t.kind==4)=true∨((t.kind==4)=false∧(t.kind==5)=true)∨((t.kind==4)=false∧(t.kind==5)=false):=by cases h1:(t.kind==4)<;>cases h2:(t.kind==5)<;>simp_all
 rcases hkk with k4|⟨k4,k5⟩|⟨k4,k5⟩
 all_goals
  simp only [k4,Bool.true_or,Bool.false_or,if_true] at hv0
  try simp only [k5,if_true,Bool.false_eq_true,if_false] at hv0
  refine en Tryz.func204 [.tmp 2] rfl rfl fun g0 w0 gen hrel hfr hfr' hres=>?_
  repeat' (first
   |exact hin _|exact agf (by assumption)
   | (first|refine wp rfl ?_|refine spt rfl ?_|refine spf rfl ?_|(refine spl (fun hc=>?_) fun hc=>?_)<;>(try rw [beq_iff_eq] at hc)<;>try simp only [hc]|(refine gs (fun hb=>?_) fun hb=>?_)<;>try simp only [Bool.not_true,Bool.not_false] at hb|refine finF hrel ?_ ?_ ?_)<;>try simp only [go_sem, *])
  refine AR_range [2,17] [] (fun i σ=>Agree h σ.h∧∃ n,σ.tm 3=.int .i64 n∧Fm.qsL n (t.args.drop i)=v) (t.args).length (by first|omega|(simp only [go_sem, *]<;>omega)) ⟨rfl,rfl,rfl⟩ rfl (by simp only [go_sem, *]) (by simp only [go_sem, *]) ?_ (by intro i σ t v ht hK;simp only [List.mem_cons,List.not_mem_nil,or_false] at ht;rcases ht with rfl|rfl|rfl<;>exact hK) ?_ ?_
  ·simp only [go_sem, *]
   first|exact ⟨_,rfl,hv0⟩|exact ⟨(by repeat (first|exact Agree.refl _|assumption|refine Agree.new ?_ (hgf0 _ _)|refine Agree.new ?_ (hfr' _ _))),_,rfl,hv0⟩
  ·clear hv0
   intro i σ gr0 hgl_gr0 hgn hlt jI jN jS ⟨jA,n,jn,jv⟩
   obtain ⟨jT,jB⟩:=jS
   simp only [go_sem] at jT jB
   have hgf:=fresh_of hgn
   have hgf0:=fun r i=>agree_fresh jA (hgf r i)
   have eg_gen_gr0:=gen_lt (show gen<gr0 by omega)
   have eh_gen_gr0:=gen_lt' (show gen<gr0 by omega)
   obtain ⟨x,hx⟩:∃ x,(t.args)[i]? = some x:=⟨_,List.getElem?_eq_getElem hlt⟩
   have hxm:=List.mem_of_getElem? hx
   have hm:=min_lt hlt
   clear hgn
   rw [drop_get hx,Fm.qsL_cons] at jv
   have hc:=ih' x hxm
   have hw2:IntKind.i64.wrap (n+x.qs)=addW n x.qs:=rfl
   clear ih'
   repeat' (first
    |exact hin _|exact agf (by assumption)
    | (first|refine wp rfl ?_|refine spt rfl ?_|refine spf rfl ?_|(refine spl (fun hc=>?_) fun hc=>?_)<;>(try rw [beq_iff_eq] at hc)<;>try simp only [hc]|(refine gs (fun hb=>?_) fun hb=>?_)<;>try simp only [Bool.not_true,Bool.not_false] at hb|refine AR_inv ?_|refine cp hc ?_|refine finF hrel ?_ ?_ ?_)<;>try simp only [go_sem, *])
   first|exact ⟨_,rfl,jv⟩|exact ⟨(by repeat (first|exact Agree.refl _|assumption|refine Agree.new ?_ (hgf0 _ _)|refine Agree.new ?_ (hfr' _ _))),_,rfl,jv⟩
  ·clear hv0
   intro σ ga0 hgl_ga0 hgn jS ⟨jA,n,jn,jv⟩
   obtain ⟨jT,jB⟩:=jS
   simp only [go_sem] at jT jB
   have hgf:=fresh_of hgn
   have hgf0:=fun r i=>agree_fresh jA (hgf r i)
   have eg_gen_ga0:=gen_lt (show gen<ga0 by omega)
   have eh_gen_ga0:=gen_lt' (show gen<ga0 by omega)
   clear hgn
   rw [List.drop_length,Fm.qsL_nil] at jv
   subst jv
   clear ih'
   repeat' (first
    |exact hin _|exact agf (by assumption)
    | (first|refine wp rfl ?_|refine spt rfl ?_|refine spf rfl ?_|(refine spl (fun hc=>?_) fun hc=>?_)<;>(try rw [beq_iff_eq] at hc)<;>try simp only [hc]|(refine gs (fun hb=>?_) fun hb=>?_)<;>try simp only [Bool.not_true,Bool.not_false] at hb|refine finF hrel ?_ ?_ ?_)<;>try simp only [go_sem, *])
theorem c_kinds (f:Fm) (hf:FmW f):Pure Tryz.prog env 151 [.agg f.cells] (.tup [.agg f.look.1.1.cells,.agg f.look.1.2.cells]):=by
 intro h
 have h1:=c_Witness f hf
 have h2:=c_Challenge f hf
 simp only [tyErrV,Fm.witness,Fm.challenge] at h1 h2
 generalize f.look.1.1=a at *
 generalize f.look.1.2=b at *
 generalize f.look.2=e at *
 refine en Tryz.func151 [.cell 2 29,.cell 3 29] rfl rfl fun g0 w0 gen hrel hfr hfr' hres=>?_
 repeat' (first
  |(refine ⟨?_,?_⟩;focus ((repeat' (first|refine ⟨?_,?_⟩|refine .inr ?_));all_goals kernel_rfl))
  |exact hin _|exact agf (by assumption)
  | (first|refine wp rfl ?_|refine cp h1 ?_|refine cp h2 ?_|refine finF hrel ?_ ?_ ?_)<;>try simp only [go_sem, *])
theorem zeroF_W':FmW zeroF:=.mk _ _ _ _ tZero_W (by simp) (by simp) (by simp) (by simp)
theorem c_mTwo (k:Int) (x y:Fm × Int) (a b:Fm) (v c w d:Tm) (hx:FmW x.1) (hy:FmW y.1)
  (h1:Pure Tryz.prog env 106 [.agg a.cells,.agg v.cells,.agg c.cells] (fmErrV x))
  (h2:Pure Tryz.prog env 106 [.agg b.cells,.agg w.cells,.agg d.cells] (fmErrV y)) :
  Pure Tryz.prog env 152 [.int .i64 k,.agg a.cells,.agg v.cells,.agg c.cells,.agg b.cells,.agg w.cells,.agg d.cells] (fmErrV (mTwo k x y)):=by
 intro h
 obtain ⟨xf,xe⟩:=x
 obtain ⟨yf,ye⟩:=y
 simp only [fmErrV] at h1 h2 hx hy
 unfold mTwo
 have hin:∀ S,InV S (fmErrV (mTwo k (xf,xe) (yf,ye))):=fun S=>by simp [fmErrV,InV,InL,InL_Fm]
 have hS:=c_Size (fmTwo k xf yf) (fmTwo_W hx hy)
 rw [fmTwo,Fm.mk_cells] at hS
 simp only [Ty.mk_kind,Ty.mk_args,List.map_nil,List.map_cons] at hS
 simp only
 cases q1:(xe != 0) with
 | true =>
  clear hS
  simp only [if_true,fmErrV,zeroF,Fm.mk_cells,Ty.mk_kind,Ty.mk_args,List.map_nil]
  refine en Tryz.func152 [.cell 14 48,.tmp 15] rfl rfl fun g0 w0 gen hrel hfr hfr' hres=>?_
  repeat' (first
   |exact hin _|exact agf (by assumption)
   | (first|refine wp rfl ?_|refine spt rfl ?_|refine spf rfl ?_|(refine spl (fun hc=>?_) fun hc=>?_)<;>(try rw [beq_iff_eq] at hc)<;>try simp only [hc]|refine cp h1 ?_|refine cp h2 ?_|refine finF hrel ?_ ?_ ?_)<;>try simp only [go_sem, *])
 | false =>
 cases q2:(ye != 0) with
 | true =>
  clear hS
  simp only [if_true,Bool.false_eq_true,if_false,fmErrV,zeroF,Fm.mk_cells,Ty.mk_kind,Ty.mk_args,List.map_nil]
  refine en Tryz.func152 [.cell 14 48,.tmp 15] rfl rfl fun g0 w0 gen hrel hfr hfr' hres=>?_
  repeat' (first
   |exact hin _|exact agf (by assumption)
   | (first|refine wp rfl ?_|refine spt rfl ?_|refine spf rfl ?_|(refine spl (fun hc=>?_) fun hc=>?_)<;>(try rw [beq_iff_eq] at hc)<;>try simp only [hc]|refine cp h1 ?_|refine cp h2 ?_|refine finF hrel ?_ ?_ ?_)<;>try simp only [go_sem, *])
 | false =>
 cases q3:decide ((fmTwo k xf yf).szW>4096) with
 | true =>
  have q3':decide ((Fm.mk k (.mk 0 []) [] [xf,yf]).szW>4096)=true:=q3
  clear q3
  simp only [if_true,Bool.false_eq_true,if_false,fmErrV,zeroF,Fm.mk_cells,Ty.mk_kind,Ty.mk_args,List.map_nil]
  refine en Tryz.func152 [.cell 14 48,.tmp 15] rfl rfl fun g0 w0 gen hrel hfr hfr' hres=>?_
  repeat' (first
   |exact hin _|exact agf (by assumption)
   | (first|refine wp rfl ?_|refine spt rfl ?_|refine spf rfl ?_|(refine spl (fun hc=>?_) fun hc=>?_)<;>(try rw [beq_iff_eq] at hc)<;>try simp only [hc]|refine cp h1 ?_|refine cp h2 ?_|refine cp hS ?_|refine finF hrel ?_ ?_ ?_)<;>try simp only [go_sem, *])
 | false =>
  have q3':decide ((Fm.mk k (.mk 0 []) [] [xf,yf]).szW>4096)=false:=q3
  clear q3
  simp only [Bool.false_eq_true,if_false,fmErrV,fmTwo,Fm.mk_cells,Ty.mk_kind,Ty.mk_args,List.map_nil,List.map_cons]
  refine en Tryz.func152 [.cell 14 48,.tmp 15] rfl rfl fun g0 w0 gen hrel hfr hfr' hres=>?_
  repeat' (first
   |exact hin _|exact agf (by assumption)
   | (first|refine wp rfl ?_|refine spt rfl ?_|refine spf rfl ?_|(refine spl (fun hc=>?_) fun hc=>?_)<;>(try rw [beq_iff_eq] at hc)<;>try simp only [hc]|refine cp h1 ?_|refine cp h2 ?_|refine cp hS ?_|refine finF hrel ?_ ?_ ?_)<;>try simp only [go_sem, *])
theorem fsp_W {s:Tm} (hs:TmW s):∀ (f:Fm) (d:Int),FmW f→FmW (f.ev (fun t b=>tmSp s 0 t b) d):=by
 intro f
 induction f using Fm.ind with|h f ih=>?_
 intro d hf
 rw [Fm.ev_eq]
 refine .mk _ _ _ _ hf.ty (by rw [List.length_map];exact hf.tlen) ?_ (by rw [List.length_map];exact hf.len) ?_
 ·intro x hx
  obtain ⟨y,hy,rfl⟩:=List.mem_map.1 hx
  exact sp_W hs _ _ (hf.term hy)
 ·intro x hx
  obtain ⟨y,hy,rfl⟩:=List.mem_map.1 hx
  exact ih y hy _ (hf.arg hy)
theorem c_mWith (r:Fm→Tm→Tm→Fm × Int) (body:Fm) (x w c:Tm) (hb:FmW body) (hx:TmW x)
  (h1:Pure Tryz.prog env 106 [.agg (body.sp x).cells,.agg w.cells,.agg c.cells] (fmErrV (r (body.sp x) w c))) :
  Pure Tryz.prog env 157 [.agg body.cells,.agg x.cells,.agg w.cells,.agg c.cells] (fmErrV (mWith r body x w c)):=by
 intro h
 unfold mWith
 have h2:=c_Nodes x hx
 have h3:=c_Grown body hb x hx
 have h4:=c_quantifiers body hb
 have h5:=c_PutFormula body hb x hx
 have hw:IntKind.i64.wrap (body.grown x - body.qs)=subW (body.grown x) body.qs:=rfl
 have hin:∀ S,InV S (fmErrV (r (body.sp x) w c)):=fun S=>by simp [fmErrV,InV,InL,InL_Fm]
 generalize r (body.sp x) w c=p at *
 obtain ⟨pf,pe⟩:=p
 simp only [fmErrV] at h1 hin
 generalize body.sp x=g at *
 generalize body.grown x=n1 at *
 generalize body.qs=n2 at *
 generalize subW n1 n2=n3 at *
 cases q1:decide (x.szW>4096) with
 | true =>
  simp only [Bool.true_or,if_true,fmErrV,zeroF,Fm.mk_cells,Ty.mk_kind,Ty.mk_args,List.map_nil]
  clear hin h3 h4 h5 h1
  refine en Tryz.func157 [.cell 8 48,.tmp 9] rfl rfl fun g0 w0 gen hrel hfr hfr' hres=>?_
  repeat' (first
   |(refine ⟨?_,?_⟩;focus ((repeat' (first|refine ⟨?_,?_⟩|refine .inr ?_));all_goals kernel_rfl))
   |exact hin _|exact agf (by assumption)
   | (first|refine wp rfl ?_|refine spt rfl ?_|refine spf rfl ?_|(refine spl (fun hc=>?_) fun hc=>?_)<;>(try rw [beq_iff_eq] at hc)<;>try simp only [hc]|(refine gs (fun hb=>?_) fun hb=>?_)<;>try simp only [Bool.not_true,Bool.not_false] at hb|refine cp h2 ?_|refine finF hrel ?_ ?_ ?_)<;>try simp only [go_sem, *])
 | false =>
 cases q2:decide (n3>4096) with
 | true =>
  simp only [Bool.false_or,if_true,fmErrV,zeroF,Fm.mk_cells,Ty.mk_kind,Ty.mk_args,List.map_nil]
  clear hin h5 h1
  refine en Tryz.func157 [.cell 8 48,.tmp 9] rfl rfl fun g0 w0 gen hrel hfr hfr' hres=>?_
  repeat' (first
   |(refine ⟨?_,?_⟩;focus ((repeat' (first|refine ⟨?_,?_⟩|refine .inr ?_));all_goals kernel_rfl))
   |exact hin _|exact agf (by assumption)
   | (first|refine wp rfl ?_|refine spt rfl ?_|refine spf rfl ?_|(refine spl (fun hc=>?_) fun hc=>?_)<;>(try rw [beq_iff_eq] at hc)<;>try simp only [hc]|(refine gs (fun hb=>?_) fun hb=>?_)<;>try simp only [Bool.not_true,Bool.not_false] at hb|refine cp h2 ?_|refine cp h3 ?_|refine cp h4 ?_|refine finF hrel ?_ ?_ ?_)<;>try simp only [go_sem, *])
 | false =>
  simp only [Bool.or_false,Bool.false_eq_true,if_false,fmErrV]
  refine en Tryz.func157 [.cell 8 48,.tmp 9] rfl rfl fun g0 w0 gen hrel hfr hfr' hres=>?_
  repeat' (first
   |(refine ⟨?_,?_⟩;focus ((repeat' (first|refine ⟨?_,?_⟩|refine .inr ?_));all_goals kernel_rfl))
   |exact hin _|exact agf (by assumption)
   | (first|refine wp rfl ?_|refine spt rfl ?_|refine spf rfl ?_|(refine spl (fun hc=>?_) fun hc=>?_)<;>(try rw [beq_iff_eq] at hc)<;>try simp only [hc]|(refine gs (fun hb=>?_) fun hb=>?_)<;>try simp only [Bool.not_true,Bool.not_false] at hb|refine cp h2 ?_|refine cp h3 ?_|refine cp h4 ?_|refine cp h5 ?_|refine cp h1 ?_|refine finF hrel ?_ ?_ ?_)<;>try simp only [go_sem, *])
end Go.Proofs.YtbfilinnoedfeaaGreatDoor
