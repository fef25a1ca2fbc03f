/-
 Walks: several parts in one text.
-/
import Derived.Test.YtbfilinnoedfeaaGreatDoorMd
import Derived.Test.YtbfilinnoedfeaaGreatDoorMb
import Derived.Test.YtbfilinnoedfeaaGreatDoorMa
import Derived.Test.YtbfilinnoedfeaaGreatDoorAbsC
import Derived.Test.YtbfilinnoedfeaaGreatDoorAbsD
import Derived.Test.YtbfilinnoedfeaaGreatDoorMc
import Derived.Test.YtbfilinnoedfeaaGreatDoorAbsDd
set_option linter.unusedSimpArgs false
set_option linter.unusedVariables false
set_option maxRecDepth 20000
set_option maxHeartbeats 4000000
namespace Go.Proofs.YtbfilinnoedfeaaGreatDoor
open Go GoAbs Go.Proofs
theorem c_Decidable0 (l:List Int) (hl:l.length≤1000) (a:Nat) :
  ∃ x y a',MkTm 1 [] tNat x∧MkTm 1 [] tNat y∧FmW (fmEq x y)∧∀ d,Turns Tryz.prog env 26 [.ptr d 0,.sl .any [],.int .i64 0] d (.box (deckC l a)) (.agg (fmEq x y).cells) (.box (deckC l a')):=by
 obtain ⟨x,a1,hx,wx,Tx⟩:=c_Term l hl 1 [] tNat a (by simp) .nat (by rw [tyH_nat];omega) (by rw [tyH_nat];simp) (by rw [tyH_nat];omega)
 obtain ⟨y,a2,hy,wy,Ty⟩:=c_Term l hl 1 [] tNat a1 (by simp) .nat (by rw [tyH_nat];omega) (by rw [tyH_nat];simp) (by rw [tyH_nat];omega)
 refine ⟨x,y,a2,hx,hy,fmEq_W wx wy,?_⟩
 simp only [List.map_nil] at Tx Ty
 have hz:decide ((0:Int)>0)=false:=rfl
 intro d h hd
 refine en_ Tryz.func26 [.cell 6 48] fun g0 w0 gen hrel hfr hfr' hres=>?_
 have f1:=fresh_ne hfr hd
 have f2:=fresh_ne' hfr hd
 repeat' (first
  |(refine ⟨?_,?_⟩;focus ((repeat' (first|refine ⟨?_,?_⟩|refine .inr ?_));all_goals kernel_rfl))
  |exact agb (by assumption)
  | (first|refine wp rfl ?_|refine spt rfl ?_|refine spf rfl ?_|(refine spl (fun hc=>?_) fun hc=>?_)<;>(try rw [beq_iff_eq] at hc)<;>try simp only [hc]|refine cp c_refNat ?_|refine cp (c_Eq _ _ wx wy) ?_|(refine ct (Tx d) ?_ ?_;focus ((simp only [go_sem, *]<;>rfl);done))|(refine ct (Ty d) ?_ ?_;focus ((simp only [go_sem, *]<;>rfl);done))|refine finT hrel hd ?_ ?_ ?_ ?_ ?_)<;>try simp only [go_sem, *])
theorem c_Plain (l:List Int) (hl:l.length≤1000) (a:Nat):∃ t a',PlainTy t∧∀ d,Turns Tryz.prog env 28 [.ptr d 0] d (.box (deckC l a)) (.agg t.cells) (.box (deckC l a')):=by
 have hr:=nextD_range (l:=l) (a:=a) (n:=6) (by omega) (by omega)
 have hX:=c_Next l hl
 have ht:=c_refTwo tNat tList tNat_W tList_W
 have ht2:=c_refTwo tNat tNat tNat_W tNat_W
 generalize hq:nextD l a 6=q at hr
 obtain ⟨c,a1⟩:=q
 have hN:∀ d,Turns Tryz.prog env 27 [.ptr d 0,.int .i64 6] d (.box (deckC l a)) (.int .i64 c) (.box (deckC l a1)):=fun d=>by
  have:=hX d a 6
  rw [hq] at this
  exact this
 clear hX hq hl
 simp only at hr
 obtain rfl|rfl|rfl|rfl|rfl|rfl:c=0∨c=1∨c=2∨c=3∨c=4∨c=5:=by omega
 ·refine ⟨tNat,a1,.inl rfl,fun d h hd=>?_⟩
  clear ht ht2
  refine en_ Tryz.func28 [.cell 2 29] fun g0 w0 gen hrel hfr hfr' hres=>?_
  have f1:=fresh_ne hfr hd
  have f2:=fresh_ne' hfr hd
  repeat' (first
   |exact agb (by assumption)
   | (first|refine wp rfl ?_|refine spt rfl ?_|refine spf rfl ?_|(refine spl (fun hc=>?_) fun hc=>?_)<;>(try rw [beq_iff_eq] at hc)<;>try simp only [hc]|refine cp c_refNat ?_|(refine ct (hN _) ?_ ?_;focus ((simp only [go_sem, *]<;>rfl);done))|refine finT hrel hd ?_ ?_ ?_ ?_ ?_)<;>try simp only [go_sem, *])
 ·refine ⟨tNat,a1,.inl rfl,fun d h hd=>?_⟩
  clear ht ht2
  refine en_ Tryz.func28 [.cell 2 29] fun g0 w0 gen hrel hfr hfr' hres=>?_
  have f1:=fresh_ne hfr hd
  have f2:=fresh_ne' hfr hd
  repeat' (first
   |exact agb (by assumption)
   | (first|refine wp rfl ?_|refine spt rfl ?_|refine spf rfl ?_|(refine spl (fun hc=>?_) fun hc=>?_)<;>(try rw [beq_iff_eq] at hc)<;>try simp only [hc]|refine cp c_refNat ?_|(refine ct (hN _) ?_ ?_;focus ((simp only [go_sem, *]<;>rfl);done))|refine finT hrel hd ?_ ?_ ?_ ?_ ?_)<;>try simp only [go_sem, *])
 ·refine ⟨tList,a1,.inr (.inl rfl),fun d h hd=>?_⟩
  clear ht ht2
  refine en_ Tryz.func28 [.cell 2 29] fun g0 w0 gen hrel hfr hfr' hres=>?_
  have f1:=fresh_ne hfr hd
  have f2:=fresh_ne' hfr hd
  repeat' (first
   |exact agb (by assumption)
   | (first|refine wp rfl ?_|refine spt rfl ?_|refine spf rfl ?_|(refine spl (fun hc=>?_) fun hc=>?_)<;>(try rw [beq_iff_eq] at hc)<;>try simp only [hc]|refine cp c_refList ?_|(refine ct (hN _) ?_ ?_;focus ((simp only [go_sem, *]<;>rfl);done))|refine finT hrel hd ?_ ?_ ?_ ?_ ?_)<;>try simp only [go_sem, *])
 ·refine ⟨tUnit,a1,.inr (.inr (.inl rfl)),fun d h hd=>?_⟩
  clear ht ht2
  refine en_ Tryz.func28 [.cell 2 29] fun g0 w0 gen hrel hfr hfr' hres=>?_
  have f1:=fresh_ne hfr hd
  have f2:=fresh_ne' hfr hd
  repeat' (first
   |exact agb (by assumption)
   | (first|refine wp rfl ?_|refine spt rfl ?_|refine spf rfl ?_|(refine spl (fun hc=>?_) fun hc=>?_)<;>(try rw [beq_iff_eq] at hc)<;>try simp only [hc]|refine cp c_refUnit ?_|(refine ct (hN _) ?_ ?_;focus ((simp only [go_sem, *]<;>rfl);done))|refine finT hrel hd ?_ ?_ ?_ ?_ ?_)<;>try simp only [go_sem, *])
 ·refine ⟨tPair tNat tList,a1,.inr (.inr (.inr (.inl rfl))),fun d h hd=>?_⟩
  clear ht2
  refine en_ Tryz.func28 [.cell 2 29] fun g0 w0 gen hrel hfr hfr' hres=>?_
  have f1:=fresh_ne hfr hd
  have f2:=fresh_ne' hfr hd
  repeat' (first
   |exact agb (by assumption)
   | (first|refine wp rfl ?_|refine spt rfl ?_|refine spf rfl ?_|(refine spl (fun hc=>?_) fun hc=>?_)<;>(try rw [beq_iff_eq] at hc)<;>try simp only [hc]|refine cp c_refNat ?_|refine cp c_refList ?_|refine cp ht ?_|(refine ct (hN _) ?_ ?_;focus ((simp only [go_sem, *]<;>rfl);done))|refine finT hrel hd ?_ ?_ ?_ ?_ ?_)<;>try simp only [go_sem, *])
 ·refine ⟨tPair tNat tNat,a1,.inr (.inr (.inr (.inr rfl))),fun d h hd=>?_⟩
  clear ht
  refine en_ Tryz.func28 [.cell 2 29] fun g0 w0 gen hrel hfr hfr' hres=>?_
  have f1:=fresh_ne hfr hd
  have f2:=fresh_ne' hfr hd
  repeat' (first
   |exact agb (by assumption)
   | (first|refine wp rfl ?_|refine spt rfl ?_|refine spf rfl ?_|(refine spl (fun hc=>?_) fun hc=>?_)<;>(try rw [beq_iff_eq] at hc)<;>try simp only [hc]|refine cp c_refNat ?_|refine cp ht2 ?_|(refine ct (hN _) ?_ ?_;focus ((simp only [go_sem, *]<;>rfl);done))|refine finT hrel hd ?_ ?_ ?_ ?_ ?_)<;>try simp only [go_sem, *])
end Go.Proofs.YtbfilinnoedfeaaGreatDoor
