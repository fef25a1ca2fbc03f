/-
 Walks: the reference's types of values, and whether values are the same.
-/
import Derived.Test.YtbfilinnoedfeaaGreatDoorOp
import Derived.Test.YtbfilinnoedfeaaGreatDoorTn
import Derived.Test.YtbfilinnoedfeaaGreatDoorNx
import Derived.Test.YtbfilinnoedfeaaGreatDoorAbsDd
set_option linter.unusedSimpArgs false
set_option linter.unusedVariables false
set_option maxRecDepth 20000
set_option maxHeartbeats 4000000
namespace Go.Proofs.YtbfilinnoedfeaaGreatDoor
open Go GoAbs Go.Proofs
theorem c_r05Ints (a b:List Int) (ha:a.length≤5000):Pure Tryz.prog env 134 [.sl .any (ints a),.sl .any (ints b)] (.bool (a==b)):=by
 intro h
 have la:=ints_len a
 have lb:=ints_len b
 have hga:∀ (i:Nat) (x:Int),a[i]? = some x→(ints a)[i]? = some [.int .i64 x]:=fun i x hx=>by simp [ints,hx]
 have hgb:∀ (i:Nat) (x:Int),b[i]? = some x→(ints b)[i]? = some [.int .i64 x]:=fun i x hx=>by simp [ints,hx]
 generalize ints a=A at *
 generalize ints b=B at *
 cases k2:((a.length:Int)==(b.length:Int)) with
 | false =>
  have k2':((a.length:Int) != (b.length:Int))=true:=by simp only [bne,k2,Bool.not_false]
  have hv:(a==b)=false:=by
   cases e:(a==b) with
   | false=>rfl
   | true =>
    have:=eq_of_beq e
    subst this
    simp at k2
  clear k2 hga hgb ha
  exact ek_ Tryz.func134 [.tmp 4]
 | true =>
  have k2':((a.length:Int) != (b.length:Int))=false:=by simp only [bne,k2,Bool.not_true]
  have hget:=get_same k2
  have hln:a.length≤b.length∧b.length≤a.length:=by simp at k2;omega
  clear k2
  have hse:(a==b)=(a==b):=rfl
  generalize hv:(a==b)=v at hse ⊢
  clear hse
  refine en_ Tryz.func134 [.tmp 4] fun g0 w0 gen hrel hfr hfr' hres=>?_
  refine wq_ ?_
  refine ar_ [0,1] [] (fun i σ=>Agree h σ.h∧(a.drop i==b.drop i)=v) (a).length ?_ ?_ ?_
  ·simp only [go_sem, *]
   first|done|exact ag_|exact ⟨ag_,hv⟩|exact hv
  ·clear hv
   intro i σ gr0 hgl_gr0 hgn hlt jI jN jS ⟨jA,jv⟩
   obtain ⟨jT,jB⟩:=jS
   simp only [go_sem] at jT jB
   obtain ⟨hgf,hgf0,eg_gen_gr0,eh_gen_gr0⟩:=rnd hgn hgl_gr0 jA
   obtain ⟨x,hx,hxm,hm⟩:=rnx hlt
   clear hgn
   obtain ⟨y,hy⟩:=hget i x hx
   rw [drop_get hx,drop_get hy,show ((x::a.drop (i+1))==(y::b.drop (i+1)))=(x==y&&(a.drop (i+1)==b.drop (i+1))) from rfl] at jv
   have hx1:=hga i x hx
   have hy1:=hgb i y hy
   clear hget hga hgb
   cases hxy:(x==y) with
   | false =>
    rw [hxy] at jv
    simp only [Bool.false_and] at jv
    have hn:(x != y)=true:=by simp only [bne,hxy,Bool.not_false]
    subst jv
    clear hxy
    exact wk_
   | true =>
    rw [hxy] at jv
    simp only [Bool.true_and] at jv
    have hn:(x != y)=false:=by simp only [bne,hxy,Bool.not_true]
    clear hxy
    repeat' (first
     |(refine ⟨?_,?_⟩;focus ((repeat' (first|refine ⟨?_,?_⟩|refine .inr ?_));all_goals kernel_rfl))
     |exact hin _|exact agf (by assumption)
     | (first|refine wp rfl ?_|refine spt rfl ?_|refine spf rfl ?_|(refine spl (fun hc=>?_) fun hc=>?_)<;>(try rw [beq_iff_eq] at hc)<;>try simp only [hc]|refine AR_inv ?_|refine finF hrel ?_ ?_ ?_)<;>try simp only [go_sem, *])
    first|done|exact ag_|exact ⟨ag_,jv⟩|exact jv
  ·clear hv hga hgb hget
   intro σ ga0 hgl_ga0 hgn jS ⟨jA,jv⟩
   obtain ⟨jT,jB⟩:=jS
   simp only [go_sem] at jT jB
   obtain ⟨hgf,hgf0,eg_gen_ga0,eh_gen_ga0⟩:=rnd hgn hgl_ga0 jA
   clear hgn
   have e:(a.drop a.length==b.drop a.length)=true:=by
    rw [List.drop_length,List.drop_of_length_le (by omega)];rfl
   rw [e] at jv
   subst jv
   clear e
   exact wk_
theorem c_r05Same:∀ a:PVl,VlW a→∀ b:PVl,VlW b→Pure Tryz.prog env 74 [.agg a.cells,.agg b.cells] (.bool (PVl.same a b)):=by
 intro a
 induction a using PVl.ind with|h a ih=>?_
 intro ha b hb h
 have hlen:=ha.len
 have ih':∀ x∈a.args,∀ y∈b.args,Pure Tryz.prog env 74 [.agg x.cells,.agg y.cells] (.bool (PVl.same x y)):=fun x hx y hy=>ih x hx (ha.arg x hx) y (hb.arg y hy)
 have hll:a.list.length≤5000:=by cases ha;assumption
 have hI:=c_r05Ints a.list b.list hll
 clear ih ha hb hll
 have hse:=PVl.same_eq a b
 rw [hse]
 clear hse
 rw [PVl.cells_eq a,PVl.cells_eq b]
 have wIa:=weakLL_ints a.list
 have wIb:=weakLL_ints b.list
 generalize ints a.list=Ia at *
 generalize ints b.list=Ib at *
 generalize (a.list==b.list)=bl at *
 cases k1:(a.kind==b.kind) with
 | false =>
  have k1':=ne_of_beq k1
  simp only [Bool.false_and]
  clear k1 ih' hI
  exact ek_ Tryz.func74 [.tmp 4]
 | true =>
 have k1':=ne_of_beq k1
 simp only [Bool.true_and]
 cases k2:(a.num==b.num) with
 | false =>
  have k2':=ne_of_beq k2
  simp only [Bool.false_and]
  clear k1 k2 ih' hI
  exact ek_ Tryz.func74 [.tmp 4]
 | true =>
 have k2':=ne_of_beq k2
 simp only [Bool.true_and]
 cases bl with
 | false =>
  simp only [Bool.false_and]
  clear k1 k2 ih'
  exact ek_ Tryz.func74 [.tmp 4]
 | true =>
 simp only [Bool.true_and]
 clear k1 k2
 cases k3:((a.args.length:Int)==(b.args.length:Int)) with
 | false =>
  have k3':=ne_of_beq k3
  have hv:PVl.sameL a.args b.args=false:=by
   cases e:PVl.sameL a.args b.args with
   | false=>rfl
   | true=>have:=PVl.sameL_len e;simp [this] at k3
  clear k3 ih'
  exact ek_ Tryz.func74 [.tmp 4]
 | true =>
  have k3':=ne_of_beq k3
  have hget:=get_same k3
  have hln:a.args.length≤b.args.length∧b.args.length≤a.args.length:=by simp at k3;omega
  simp only [Bool.not_true] at k1' k2' k3'
  clear k3
  have hse:PVl.sameL a.args b.args=PVl.sameL a.args b.args:=rfl
  generalize hv:PVl.sameL a.args b.args=v at hse ⊢
  clear hse
  refine en_ Tryz.func74 [.tmp 4] fun g0 w0 gen hrel hfr hfr' hres=>?_
  refine wq_ ?_
  clear hI
  refine ar_ [2,3] [⟨gen,0,0⟩,⟨gen,0,1⟩] (fun i σ=>Agree h σ.h∧PVl.sameL (a.args.drop i) (b.args.drop i)=v) (a.args).length ?_ ?_ ?_
  ·simp only [go_sem, *]
   first|done|exact ag_|exact ⟨ag_,hv⟩|exact hv
  ·clear hv
   intro i σ gr0 hgl_gr0 hgn hlt jI jN jS ⟨jA,jv⟩
   obtain ⟨jT,jB⟩:=jS
   simp only [go_sem] at jT jB
   obtain ⟨hgf,hgf0,eg_gen_gr0,eh_gen_gr0⟩:=rnd hgn hgl_gr0 jA
   obtain ⟨x,hx,hxm,hm⟩:=rnx hlt
   clear hgn
   obtain ⟨y,hy⟩:=hget i x hx
   rw [drop_get hx,drop_get hy,PVl.sameL] at jv
   have hc:=ih' x hxm y (List.mem_of_getElem? hy)
   clear ih' hget
   cases hxy:PVl.same x y with
   | false =>
    rw [hxy] at hc jv
    simp only [Bool.false_and] at jv
    subst jv
    exact wk_
   | true =>
    rw [hxy] at hc jv
    simp only [Bool.true_and] at jv
    repeat' (first
     |(refine ⟨?_,?_⟩;focus ((repeat' (first|refine ⟨?_,?_⟩|refine .inr ?_));all_goals kernel_rfl))
     | (first|refine wp rfl ?_|refine spt rfl ?_|refine spf rfl ?_|(refine spl (fun hc=>?_) fun hc=>?_)<;>(try rw [beq_iff_eq] at hc)<;>try simp only [hc]|(refine gs (fun hb=>?_) fun hb=>?_)<;>try simp only [Bool.not_true,Bool.not_false] at hb|refine cp hc ?_|refine AR_inv ?_)<;>try simp only [go_sem, *])
    first|done|exact ag_|exact ⟨ag_,jv⟩|exact jv
  ·clear hv ih' hget
   intro σ ga0 hgl_ga0 hgn jS ⟨jA,jv⟩
   obtain ⟨jT,jB⟩:=jS
   simp only [go_sem] at jT jB
   obtain ⟨hgf,hgf0,eg_gen_ga0,eh_gen_ga0⟩:=rnd hgn hgl_ga0 jA
   clear hgn
   have hq:a.args.length=b.args.length:=by omega
   rw [List.drop_length,hq,List.drop_length,PVl.sameL] at jv
   subst jv
   clear hq hln
   exact wk_
theorem isVl_tyW {a:Ty} {v:PVl} {t:Tm} (hv:IsVl a v t):TyW a:=by
 induction hv with
 | num n=>exact tNat_W
 | list l=>exact tList_W
 | unit=>exact tUnit_W
 | pair _ _ h1 h2=>exact tPair_W h1 h2
theorem c_r05typed {a:Ty} {v:PVl} {t:Tm} (hv:IsVl a v t):Pure Tryz.prog env 73 [.agg v.cells] (.agg a.cells):=by
 induction hv with
 | num n =>
  intro h
  have hc:=c_refNat
  rw [PVl.mk_cells]
  rw [nat_cells] at hc ⊢
  exact ek_ Tryz.func73 [.cell 2 29]
 | list l =>
  intro h
  have hc:=c_refList
  rw [PVl.mk_cells]
  rw [list_cells] at hc ⊢
  generalize l.map (fun (n:Nat)=>(n:Int))=l
  have h5:∀ S,InLL S (ints l):=fun S=>by simp only [go_sem, *]
  exact ek_ Tryz.func73 [.cell 2 29]
 | unit =>
  intro h
  have hc:=c_refUnit
  rw [PVl.mk_cells]
  rw [unit_cells] at hc ⊢
  exact ek_ Tryz.func73 [.cell 2 29]
 | @pair a b x y s t h1 h2 i1 i2 =>
  intro h
  have h3:=c_refTwo a b (isVl_tyW h1) (isVl_tyW h2)
  rw [PVl.mk_cells]
  clear h1 h2
  simp only [List.map_cons,List.map_nil]
  generalize tPair a b=ty at *
  exact ek_ Tryz.func73 [.cell 2 29]
theorem c_r05TypeOf {a:Ty} {v:PVl} {t:Tm} (hv:IsVl a v t) (hz:tmSz t≤4096) (ha:TyG a):Pure Tryz.prog env 30 [.agg v.cells] (.tup [.agg a.cells,.int .i64 0]):=by
 intro h
 have h1:=c_vCheck hv hz ha
 have h2:=c_r05typed hv
 have n0:((0:Int) != 0)=false:=rfl
 clear hz ha hv
 exact ek_ Tryz.func30 [.cell 2 29,.tmp 3]
end Go.Proofs.YtbfilinnoedfeaaGreatDoor
