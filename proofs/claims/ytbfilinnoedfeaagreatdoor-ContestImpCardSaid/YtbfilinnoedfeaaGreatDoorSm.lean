/-
 Walks: a candidate out of the deck; the law of ContestAnd.
-/
import Derived.Test.YtbfilinnoedfeaaGreatDoorSj
import Derived.Test.YtbfilinnoedfeaaGreatDoorSl
import Derived.Test.YtbfilinnoedfeaaGreatDoorTf
import Derived.Test.YtbfilinnoedfeaaGreatDoorTg
import Derived.Test.YtbfilinnoedfeaaGreatDoorNy
import Derived.Test.YtbfilinnoedfeaaGreatDoorMd
import Derived.Test.YtbfilinnoedfeaaGreatDoorAbsD
import Derived.Test.YtbfilinnoedfeaaGreatDoorNx
import Derived.Test.YtbfilinnoedfeaaGreatDoorMa
import Derived.Test.YtbfilinnoedfeaaGreatDoorWu
import Derived.Test.YtbfilinnoedfeaaGreatDoorAbsDd
set_option linter.unusedSimpArgs false
set_option linter.unusedVariables false
set_option maxRecDepth 20000
set_option maxHeartbeats 4000000
namespace Go.Proofs.YtbfilinnoedfeaaGreatDoor
open Go GoAbs Go.Proofs
theorem c_Pick (l:List Int) (hl:l.length≤1000) {t:Ty} (hG:TyG t) (a:Nat):∃ (x:Tm) (a':Nat),Cl x t∧tmSz x≤700∧TmW x ∧
  ∀ d,Turns Tryz.prog env 19 [.ptr d 0,.agg t.cells] d (.box (deckC l a)) (.agg x.cells) (.box (deckC l a')):=by
 have h1:=c_r32Candidates 2 (by omega) hG.1 hG.err (n:=tyH t) (Nat.le_refl _)
 have hp:=candN_pos' hG.1 (m:=2) (n:=tyH t) (Nat.le_refl _)
 have hln:=@candN_len (tyH t) 2 t
 have hok:=candN_ok' (K:=10) hG.1 (m:=2) (by omega) hG.2 (n:=tyH t) (g:=[]) (Nat.le_refl _)
 replace h1:Pure Tryz.prog env 51 [.agg t.cells,.int .i64 2] (.tup [.sl .any ((candN (tyH t) t 2).map Tm.cells),.int .i64 0]):=h1
 generalize candN (tyH t) t 2=N at *
 have hr:=nextD_range (l:=l) (a:=a) (n:=N.length) (by omega) (by omega)
 have hN:=fun d=>c_Next l hl d a N.length
 generalize nextD l a N.length=q at hr hN
 obtain ⟨k,a'⟩:=q
 simp only at hr hN
 obtain ⟨i,rfl⟩:∃ i:Nat,k=i:=⟨k.toNat,by omega⟩
 obtain ⟨x,hx⟩:∃ x,N[i]? = some x:=⟨_,List.getElem?_eq_getElem (by omega)⟩
 have ok:=hok x (List.mem_of_getElem? hx)
 have hz:=hG.2
 have sz:=ok.sz
 refine ⟨x,a',⟨ok.ty,ok.gd,by omega⟩,by omega,ok.w,?_⟩
 replace hN:∀ d,Turns Tryz.prog env 27 [.ptr d 0,.int .i64 N.length] d (.box (deckC l a)) (.int .i64 (i:Nat)) (.box (deckC l a')):=hN
 have hti:Int.toNat (i:Int)=i:=rfl
 have h0i:(0≤(i:Int))=True:=by simp
 have hl0:((N.length:Int)==0)=false:=beq_eq_false_iff_ne.2 (by omega)
 clear hok ok sz hz hG hr
 intro d h hd
 refine en Tryz.func19 [.cell 4 36] rfl rfl fun g0 w0 gen hrel hfr hfr' hres=>?_
 have f1:=fresh_ne hfr hd
 have f2:=fresh_ne' hfr hd
 repeat' (first
  |exact agb (by assumption)
  | (first|refine wp rfl ?_|refine spt rfl ?_|refine spf rfl ?_|(refine spl (fun hc=>?_) fun hc=>?_)<;>(try rw [beq_iff_eq] at hc)<;>try simp only [hc]|refine cp h1 ?_|(refine ct (hN d) ?_ ?_;focus ((simp only [go_sem, *]<;>rfl);done))|refine finT hrel hd ?_ ?_ ?_ ?_ ?_)<;>try simp only [go_sem, *])
theorem c_r28Join (a b:Ty) (s t:Tm):Pure Tryz.prog env 21 [.agg a.cells,.agg b.cells,.agg s.cells,.agg t.cells] (.agg (chJoin a b s t).cells):=by
 intro h
 have h1:=c_r28none a
 have h2:=c_r28none b
 have h3:=c_r24Node 10 [s,t]
 have hin:∀ S,InV S (V.agg (chJoin a b s t).cells):=fun S=>by simp [InV,InL_Tm]
 unfold chJoin at hin ⊢
 simp only [List.map_cons,List.map_nil] at h3
 generalize tm0 10 [s,t]=p at *
 generalize (a.kind==5)=q1 at *
 generalize (b.kind==5)=q2 at *
 cases q1<;>cases q2<;>simp only [if_true,Bool.false_eq_true,if_false] at hin ⊢
 all_goals
  refine en Tryz.func21 [.cell 8 36] rfl rfl fun g0 w0 gen hrel hfr hfr' hres=>?_
  repeat' (first
   |exact hin _|exact agf (by assumption)
   | (first|refine wp rfl ?_|refine spt rfl ?_|refine spf rfl ?_|(refine spl (fun hc=>?_) fun hc=>?_)<;>(try rw [beq_iff_eq] at hc)<;>try simp only [hc]|refine cp h1 ?_|refine cp h2 ?_|refine cp h3 ?_|refine finF hrel ?_ ?_ ?_)<;>try simp only [go_sem, *])
theorem c_limits32 (e:Int):Pure Tryz.prog env 18 [.int .i64 e] (.bool (e==4||e==5||e==3)):=by
 intro h
 generalize hv:(e==4||e==5||e==3)=v
 refine en Tryz.func18 [.tmp 2] rfl rfl fun g0 w0 gen hrel hfr hfr' hres=>?_
 repeat' (first
  |exact hin _|exact agf (by assumption)
  | (first|refine wp rfl ?_|(refine gs (fun hb=>?_) fun hb=>?_)<;>try simp only [Bool.not_true,Bool.not_false] at hb|refine finF hrel ?_ ?_ ?_)<;>try simp only [go_sem, *])
 all_goals (rw [← hv];simp_all)
theorem decV_of {a:Ans} (h:codes a.2.2):∃ (b:Bool) (k e:Int),decV a=.tup [.bool b,.int .i64 k,.int .i64 e]∧(e=0∧a.2.2=0∧a.1=b∨e=4∨e=5):=by
 unfold decV
 rcases h with h|h|h
 ·rw [if_neg (by simp [h])]
  exact ⟨_,_,_,rfl,.inl ⟨rfl,h,rfl⟩⟩
 ·rw [if_pos (by simp [h]),h]
  exact ⟨_,_,_,rfl,.inr (.inl rfl)⟩
 ·rw [if_pos (by simp [h]),h]
  exact ⟨_,_,_,rfl,.inr (.inr rfl)⟩
end Go.Proofs.YtbfilinnoedfeaaGreatDoor
