/-
 Walks: a value in memory of its own.
-/
import Derived.Test.YteaijonkbbkkjaaGreatDoorMj
import Derived.Test.YteaijonkbbkkjaaGreatDoorAbsDd
set_option linter.unusedSimpArgs false
set_option linter.unusedVariables false
set_option maxRecDepth 20000
set_option maxHeartbeats 4000000
namespace Go.Proofs.YteaijonkbbkkjaaGreatDoor
open Go GoAbs Go.Proofs
theorem c_clone (l:List Int) (hl:l.length≤5000):Pure Tryz.prog env 62 [.sl .any (ints l)] (.sl .any (ints l)):=by
 intro h
 have hlen:(ints l).length≤5000:=by rw [ints_len];exact hl
 have h1:(ints l).all (fun e=>e.length==1)=true:=by simp [ints]
 have hwL:weakLL (ints l)=ints l:=weakLL_ints l
 have hz:0+(ints l).length=(ints l).length:=Nat.zero_add _
 have h2:(ints l).flatten.all oneV=true:=by
  unfold ints
  rw [List.all_eq_true]
  intro v hv
  obtain ⟨r,hr,hv⟩:=List.mem_flatten.1 hv
  obtain ⟨n,_,rfl⟩:=List.mem_map.1 hr
  simp at hv;subst hv;rfl
 have h3:(ints l).length * 8≤140737488355328:=by omega
 have h4:(ints l).length≤140737488355328:=by omega
 have h5:∀ S,InLL S (ints l):=fun S=>by simp only [go_sem, *]
 generalize ints l=L at *
 refine en_ Tryz.func62 [.tmp 2] fun g0 w0 gen hrel hfr hfr' hres=>?_
 refine AR_seq ?_
 refine AR_region ?_
 simp only [go_sem, *]
 refine AR_seq ?_
 refine AR_seq ?_
 refine AR_region_nil 1 rfl rfl rfl rfl Tryz.underlying22 ?_
 simp only [go_sem, *]
 refine ⟨_,_,rfl,fun b hb=>?_⟩
 cases b with
 | true =>
  obtain rfl:=hb rfl
  exact wk_
 | false =>
  clear hb
  exact wk_
theorem c_own:∀ v:PVl,VlW v→Pure Tryz.prog env 35 [.agg v.cells] (.agg v.cells):=by
 intro v
 induction v using PVl.ind with|h t ih=>?_
 intro ht h
 have hlen:=ht.len
 have hll:t.list.length≤5000:=by cases ht;assumption
 have ih':∀ x∈t.args,Pure Tryz.prog env 35 [.agg x.cells] (.agg x.cells):=fun x hx=>ih x hx (ht.arg x hx)
 clear ih ht
 have hC:=c_clone t.list hll
 clear hll
 rw [PVl.cells_eq t]
 have hwL:weakLL (ints t.list)=ints t.list:=weakLL_ints _
 have h5:∀ S,InLL S (ints t.list):=fun S=>by simp only [go_sem, *]
 generalize ints t.list=Li at *
 refine en_ Tryz.func35 [.cell 2 36] fun g0 w0 gen hrel hfr hfr' hres=>?_
 refine wq_ ?_
 refine ar_ [1,2,13] [⟨gen,0,1⟩] (fun i σ=>Agree h σ.h∧∃ v,σ.h ⟨gen,0,0⟩=some (.box [.int .i64 t.kind,.int .i64 t.num,.sl .any Li,v])∧OwnS h σ.h v 4 ((t.args.take i).map PVl.cells)) (t.args).length ?_ ?_ ?_
 ·simp only [go_sem, *]
  exact ⟨ag_,_,rfl,.inl rfl⟩
 ·
  intro i σ gr0 hgl_gr0 hgn hlt jI jN jS ⟨jA,v,jb,jO0⟩
  obtain ⟨jT,jB⟩:=jS
  simp only [go_sem] at jT jB
  obtain ⟨hgf,hgf0,eg_gen_gr0,eh_gen_gr0⟩:=rnd hgn hgl_gr0 jA
  obtain ⟨x,hx,hxm,hm⟩:=rnx hlt
  clear hgn
  have hc:=ih' x hxm
  have hts:(t.args.take (i+1)).map PVl.cells=(t.args.take i).map PVl.cells++[x.cells]:=by rw [List.take_add_one,hx];simp
  clear ih' hC
  repeat' (first
   |(refine ⟨?_,?_⟩;focus ((repeat' (first|refine ⟨?_,?_⟩|refine .inr ?_));all_goals kernel_rfl))
   |(refine okE_app_ownd jO0 (by repeat (first|exact Keeps.refl _|refine Keeps.new ?_ (hgf _ _)|refine Keeps.new ?_ (hfr' _ _)|refine Keeps.box ?_ rfl|refine Keeps.box ?_ (by simp only [go_sem, *]))) rfl (by simp only [go_sem, *]<;>omega) (by first|exact hgf0 _ _|exact hfr' _ _) (by simp only [go_sem, *]) (by intro hd e;simp only [logOk_cons,logOk_nil,and_true];repeat (first|exact trivial|refine ⟨.inr (by kernel_rfl),?_⟩|exact .inr (by kernel_rfl))) ?_;intro v' h' id' jO jK jAg jAb jF;obtain ⟨cO,rfl⟩:=jO.val;simp only [go_sem, *])
   | (first|refine wp rfl ?_|refine spt rfl ?_|refine spf rfl ?_|(refine spl (fun hc=>?_) fun hc=>?_)<;>(try rw [beq_iff_eq] at hc)<;>try simp only [hc]|refine cp hc ?_|refine AR_inv ?_)<;>try simp only [go_sem, *])
  refine ⟨?_,_,rfl,jO.keep (Keeps.box (Keeps.refl _) (by simp only [go_sem, *]))⟩
  exact Agree.new (jAg ag_) (hfr' _ _)
 ·
  intro σ ga0 hgl_ga0 hgn jS ⟨jA,v,jb,jO0⟩
  obtain ⟨jT,jB⟩:=jS
  simp only [go_sem] at jT jB
  obtain ⟨hgf,hgf0,eg_gen_ga0,eh_gen_ga0⟩:=rnd hgn hgl_ga0 jA
  clear hgn
  rw [List.take_length] at jO0
  obtain ⟨c,rfl⟩:=jO0.val
  clear ih' hC
  exact wk_
end Go.Proofs.YteaijonkbbkkjaaGreatDoor
