/-
 Walks: tasks; the sanity check of the chapter.
-/
import Derived.Test.YteaijonkbbkkjaaGreatDoorMh
import Derived.Test.YteaijonkbbkkjaaGreatDoorMa
set_option linter.unusedSimpArgs false
set_option linter.unusedVariables false
set_option maxRecDepth 20000
set_option maxHeartbeats 4000000
namespace Go.Proofs.YteaijonkbbkkjaaGreatDoor
open Go GoAbs Go.Proofs
theorem c_universal (f:Fm) (hf:FmW f) (hg:f.good=true) (hs:fmSz f≤1000000) :
  Pure Tryz.prog env 84 [.agg f.cells] (.tup [.sl .any (f.univ.1.map Ty.cells),.agg f.univ.2.cells]):=by
 intro h
 have hb:=univ_len f
 generalize hu0:f.univ=p at *
 obtain ⟨ul,uf⟩:=p
 simp only at hb ⊢
 refine en_ Tryz.func84 [.tmp 2,.cell 3 45] fun g0 w0 gen hrel hfr hfr' hres=>?_
 refine wq_ ?_
 refine AR_loop_nat (fun i σ=>σ.tm 1=.ptr ⟨gen,0,0⟩ 0∧σ.tm 3=.ptr ⟨gen,0,2⟩ 0∧σ.h ⟨gen,0,2⟩=some (.box [.int .i64 0,.int .i64 0,.sl .full [],.sl .full [],.sl .full []])∧Agree h σ.h ∧
  ∃ (f':Fm) (l':List Ty),σ.h ⟨gen,0,0⟩=some (.box f'.cells)∧OwnS h σ.h (σ.tm 4) 2 (l'.map Ty.cells)∧FmW f'∧f'.good=true∧l'++f'.univ.1=ul∧f'.univ.2=uf∧l'.length=i) ul.length ?_ ?_
 ·simp only [go_sem, *]
  exact ⟨ag_,f,[],rfl,.inl rfl,hf,hg,by rw [hu0];rfl,by rw [hu0],rfl⟩
 clear hf hg hu0
 intro i σ hi ⟨j1,j2,j3,j4,f',l',j5,j6,j7,j8,j9,j10,j11⟩
 refine AR_gen (fun gn hgn=>?_)
 have hgf:=fresh_of hgn
 have hgf0:∀ r i,h ⟨gn,r,i⟩=none:=fun r i=>agree_fresh j4 (hgf r i)
 have e1:=gen_ne hgn j5
 have e2:=gen_ne' hgn j5
 clear hgn
 cases k:(f'.kind==4) with
 | true =>
  obtain ⟨a,ha,ga⟩:=Fm.good_q j8 (.inl (by simpa using k))
  have wa:FmW a:=j7.arg (by rw [ha];simp)
  have hO:=c_OwnType f'.type j7.ty
  rw [Fm.univ_4 k ha] at j9 j10
  have hlt:i<ul.length:=by
   have:=congrArg List.length j9
   simp at this;omega
  clear j7 j8
  have hts:((l'++[f'.type]).map Ty.cells)=l'.map Ty.cells++[f'.type.cells]:=by simp
  repeat' (first
   |(refine ⟨?_,?_⟩;focus ((repeat' (first|refine ⟨?_,?_⟩|refine .inr ?_));all_goals kernel_rfl))
   |(refine okE_app_owne j6 (by repeat (first|exact Keeps.refl _|refine Keeps.new ?_ (hgf _ _)|refine Keeps.new ?_ (hfr' _ _)|refine Keeps.box ?_ rfl|refine Keeps.box ?_ (by simp only [go_sem, *]))) rfl (by simp only [go_sem, *]<;>omega) (by first|exact hgf0 _ _|exact hfr' _ _) (by simp only [go_sem, *]) (by intro hd e;simp only [logOk_cons,logOk_nil,and_true];repeat (first|exact trivial|refine ⟨.inr (by kernel_rfl),?_⟩|exact .inr (by kernel_rfl))) ?_;intro v' h' id' jO jK jAg jAb jF jI;obtain ⟨cO,rfl⟩:=jO.val;simp only [go_sem, *])
   | (first|refine wp rfl ?_|refine spt rfl ?_|refine spf rfl ?_|(refine spl (fun hc=>?_) fun hc=>?_)<;>(try rw [beq_iff_eq] at hc)<;>try simp only [hc]|refine cp hO ?_|refine AR_inv ?_)<;>try simp only [go_sem, *])
  exact ⟨Agree.new (jAg ag_) (hfr' _ _),a,l'++[f'.type],rfl,by rw [hts];exact jO.keep (Keeps.box (Keeps.refl _) (by rw [jK _ (by rw [j5];rfl),j5];rfl)),wa,ga,by simpa using j9,j10,by simp;omega⟩
 | false =>
  rw [Fm.univ_n k] at j9 j10
  simp only [List.append_nil] at j9 j10
  subst j9
  subst j10
  obtain ⟨c,j6⟩:=j6.val
  clear j7 j8
  exact wk_
end Go.Proofs.YteaijonkbbkkjaaGreatDoor
