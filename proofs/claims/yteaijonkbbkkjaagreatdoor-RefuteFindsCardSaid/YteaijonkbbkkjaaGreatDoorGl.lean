/-
 Walks: decidable formulas out of the deck.
-/
import Derived.Test.YteaijonkbbkkjaaGreatDoorMr
import Derived.Test.YteaijonkbbkkjaaGreatDoorVc
import Derived.Test.YteaijonkbbkkjaaGreatDoorMd
set_option linter.unusedSimpArgs false
set_option linter.unusedVariables false
set_option maxRecDepth 20000
set_option maxHeartbeats 4000000
namespace Go.Proofs.YteaijonkbbkkjaaGreatDoor
open Go GoAbs Go.Proofs
theorem mk_FH {g:List Ty} (hg:∀ y∈g,MkTy 1 y):∀ y∈g,TyF y∧tyH y≤40:=fun y hy=>⟨(hg y hy).F,by have:=(hg y hy).H;omega⟩
theorem c_Decidable (l:List Int) (hl:l.length≤1000):∀ (n:Nat),n≤4→∀ (g:List Ty) (a:Nat),(∀ y∈g,MkTy 1 y)→g.length+n≤100 →
  ∃ f a',MkDec n g f∧FmW f∧∀ d,Turns Tryz.prog env 40 [.ptr d 0,.sl .any (g.map Ty.cells),.int .i64 n] d (.box (deckC l a)) (.agg f.cells) (.box (deckC l a')):=by
 intro n
 have heq:∀ (g:List Ty) (a:Nat),(∀ y∈g,MkTy 1 y)→g.length≤200→∃ x a1,MkTm 1 g tNat x∧TmW x ∧
   (∀ d,Turns Tryz.prog env 67 [.ptr d 0,.sl .any (g.map Ty.cells),.agg tNat.cells,.int .i64 1] d (.box (deckC l a)) (.agg x.cells) (.box (deckC l a1))):=by
  intro g a hg hb
  obtain ⟨x,a1,hx,wx,Tx⟩:=c_Term l hl 1 g tNat a (mk_FH hg) .nat (by rw [tyH_nat];omega) (by rw [tyH_nat];simp;omega) (by rw [tyH_nat];omega)
  exact ⟨x,a1,hx,wx,Tx⟩
 induction n with
 | zero =>
  intro _ g a hg hb
  have hz:decide (((0:Nat):Int)>0)=false:=rfl
  obtain ⟨x,ax,kx,wx,Tx⟩:=heq g a hg (by omega)
  obtain ⟨y,ay,ky,wy,Ty⟩:=heq g ax hg (by omega)
  refine ⟨_,ay,.eq kx ky,fmEq_W wx wy,?_⟩
  clear heq hg
  intro d h hd
  refine en_ Tryz.func40 [.cell 6 45] fun g0 w0 gen hrel hfr hfr' hres=>?_
  have f1:=fresh_ne hfr hd
  have f2:=fresh_ne' hfr hd
  repeat' (first
   |(refine ⟨?_,?_⟩;focus ((repeat' (first|refine ⟨?_,?_⟩|refine .inr ?_));all_goals kernel_rfl))
   |exact agb (by assumption)
   | (first|refine wp rfl ?_|refine spt rfl ?_|refine spf rfl ?_|(refine spl (fun hc=>?_) fun hc=>?_)<;>(try rw [beq_iff_eq] at hc)<;>try simp only [hc]|refine cp c_refNat ?_|refine cp (c_Eq _ _ wx wy) ?_|(refine ct (Tx d) ?_ ?_;focus ((simp only [go_sem, *]<;>rfl);done))|(refine ct (Ty d) ?_ ?_;focus ((simp only [go_sem, *]<;>rfl);done))|refine finT hrel hd ?_ ?_ ?_ ?_ ?_)<;>try simp only [go_sem, *])
 | succ n ih =>
  intro hn g a hg hb
  have hz:decide (((n+1:Nat):Int)>0)=true:=by simp<;>omega
  have hw:IntKind.i64.wrap (((n+1:Nat):Int) - 1)=(n:Int):=wrap_eq (by omega) (by omega) (by omega)
  have ih:=ih (by omega)
  have hr:=nextD_range (l:=l) (a:=a) (n:=6) (by omega) (by omega)
  generalize hq:nextD l a 6=q at hr
  obtain ⟨c,a1⟩:=q
  have hc1:(nextD l a 6).1=c:=by rw [hq]
  have hc2:(nextD l a 6).2=a1:=by rw [hq]
  simp only at hr
  clear hq
  obtain rfl|rfl|hm|hge:c=0∨c=1∨(c=2∨c=3)∨4≤c:=by omega
  ·
   obtain ⟨x,ax,kx,wx,Tx⟩:=ih g a1 hg (by omega)
   obtain ⟨y,ay,ky,wy,Ty⟩:=ih g ax hg (by omega)
   refine ⟨_,ay,.two (k:=2) (by omega) kx ky,fmTwo_W wx wy,?_⟩
   clear heq hg ih hr
   intro d h hd
   refine en_ Tryz.func40 [.cell 6 45] fun g0 w0 gen hrel hfr hfr' hres=>?_
   have f1:=fresh_ne hfr hd
   have f2:=fresh_ne' hfr hd
   repeat' (first
    |(refine ⟨?_,?_⟩;focus ((repeat' (first|refine ⟨?_,?_⟩|refine .inr ?_));all_goals kernel_rfl))
    |exact agb (by assumption)
    | (first|refine wp rfl ?_|refine spt rfl ?_|refine spf rfl ?_|(refine spl (fun hc=>?_) fun hc=>?_)<;>(try rw [beq_iff_eq] at hc)<;>try simp only [hc]|refine cp c_refNat ?_|refine cp (c_fmTwo 2 _ _ wx wy) ?_|(refine ct (Tx d) ?_ ?_;focus ((simp only [go_sem, *]<;>rfl);done))|(refine ct (Ty d) ?_ ?_;focus ((simp only [go_sem, *]<;>rfl);done))|refine ct (c_Next l hl d _ _) (by simp only [go_sem, *]<;>rfl) ?_|refine finT hrel hd ?_ ?_ ?_ ?_ ?_)<;>try simp only [go_sem, *])
  ·
   obtain ⟨x,ax,kx,wx,Tx⟩:=ih g a1 hg (by omega)
   obtain ⟨y,ay,ky,wy,Ty⟩:=ih g ax hg (by omega)
   refine ⟨_,ay,.two (k:=3) (by omega) kx ky,fmTwo_W wx wy,?_⟩
   clear heq hg ih hr
   intro d h hd
   refine en_ Tryz.func40 [.cell 6 45] fun g0 w0 gen hrel hfr hfr' hres=>?_
   have f1:=fresh_ne hfr hd
   have f2:=fresh_ne' hfr hd
   repeat' (first
    |(refine ⟨?_,?_⟩;focus ((repeat' (first|refine ⟨?_,?_⟩|refine .inr ?_));all_goals kernel_rfl))
    |exact agb (by assumption)
    | (first|refine wp rfl ?_|refine spt rfl ?_|refine spf rfl ?_|(refine spl (fun hc=>?_) fun hc=>?_)<;>(try rw [beq_iff_eq] at hc)<;>try simp only [hc]|refine cp c_refNat ?_|refine cp (c_fmTwo 3 _ _ wx wy) ?_|(refine ct (Tx d) ?_ ?_;focus ((simp only [go_sem, *]<;>rfl);done))|(refine ct (Ty d) ?_ ?_;focus ((simp only [go_sem, *]<;>rfl);done))|refine ct (c_Next l hl d _ _) (by simp only [go_sem, *]<;>rfl) ?_|refine finT hrel hd ?_ ?_ ?_ ?_ ?_)<;>try simp only [go_sem, *])
  ·
   generalize hq2:nextD l a1 2=q
   obtain ⟨c2,a2⟩:=q
   have hd1:(nextD l a1 2).1=c2:=by rw [hq2]
   have hd2:(nextD l a1 2).2=a2:=by rw [hq2]
   clear hq2
   obtain ⟨x,ax,kx,wx,Tx⟩:=heq g a2 hg (by omega)
   have hgn:=app_mk hg (.nat (n:=1))
   obtain ⟨b,ab,kb,wb,Tb⟩:=ih (g++[tNat]) ax hgn (by simp;omega)
   have hL:=c_longer g [tNat] (by omega) (by simp)
   simp only [List.map_cons,List.map_nil] at hL
   obtain ⟨gx,zx,lx⟩:=kx.small hg (by omega)
   obtain ⟨gb,zb,_⟩:=kb.all hgn (by simp;omega)
   have hpow:2 ^ n≤2 ^ 4:=Nat.pow_le_pow_right (by omega) (by omega)
   have hsm:=bndR_small (all:=(c2==0)) gx (by omega) lx gb (by omega)
   have hB:=c_Bounded08 (c2==0) x wx b wb
   rw [hsm] at hB
   unfold fmErrV at hB
   have wz:=bndF_W (all:=(c2==0)) (tmUp_W (b:=1) x 0 wx) wb
   refine ⟨_,ab,.bnd (all:=(c2==0)) kx kb,wz,?_⟩
   clear heq hg ih hr hsm kx kb gx gb zx lx zb hpow hgn wz
   generalize bndF (c2==0) (x.up 1 0) b=z at *
   have n0:((0:Int)==0)=true:=rfl
   rcases hm with rfl|rfl
   all_goals
    intro d h hd
    refine en_ Tryz.func40 [.cell 6 45] fun g0 w0 gen hrel hfr hfr' hres=>?_
    have f1:=fresh_ne hfr hd
    have f2:=fresh_ne' hfr hd
    repeat' (first
     |(refine ⟨?_,?_⟩;focus ((repeat' (first|refine ⟨?_,?_⟩|refine .inr ?_));all_goals kernel_rfl))
     |exact agb (by assumption)
     | (first|refine wp rfl ?_|refine spt rfl ?_|refine spf rfl ?_|(refine spl (fun hc=>?_) fun hc=>?_)<;>(try rw [beq_iff_eq] at hc)<;>try simp only [hc]|refine cp hL ?_|refine cp hB ?_|refine cp c_refNat ?_|(refine ct (Tx d) ?_ ?_;focus ((simp only [go_sem, *]<;>rfl);done))|(refine ct (Tb d) ?_ ?_;focus ((simp only [go_sem, *]<;>rfl);done))|refine ct (c_Next l hl d _ _) (by simp only [go_sem, *]<;>rfl) ?_|refine finT hrel hd ?_ ?_ ?_ ?_ ?_)<;>try simp only [go_sem, *])
  ·
   have q0:(c==0)=false:=by simp;omega
   have q1:(c==1)=false:=by simp;omega
   have q2:(c==2)=false:=by simp;omega
   have q3:(c==3)=false:=by simp;omega
   clear hge hr ih
   obtain ⟨x,ax,kx,wx,Tx⟩:=heq g a1 hg (by omega)
   obtain ⟨y,ay,ky,wy,Ty⟩:=heq g ax hg (by omega)
   refine ⟨_,ay,.eq kx ky,fmEq_W wx wy,?_⟩
   clear heq hg
   intro d h hd
   refine en_ Tryz.func40 [.cell 6 45] fun g0 w0 gen hrel hfr hfr' hres=>?_
   have f1:=fresh_ne hfr hd
   have f2:=fresh_ne' hfr hd
   repeat' (first
    |(refine ⟨?_,?_⟩;focus ((repeat' (first|refine ⟨?_,?_⟩|refine .inr ?_));all_goals kernel_rfl))
    |exact agb (by assumption)
    | (first|refine wp rfl ?_|refine spt rfl ?_|refine spf rfl ?_|(refine spl (fun hc=>?_) fun hc=>?_)<;>(try rw [beq_iff_eq] at hc)<;>try simp only [hc]|refine cp c_refNat ?_|refine cp (c_Eq _ _ wx wy) ?_|(refine ct (Tx d) ?_ ?_;focus ((simp only [go_sem, *]<;>rfl);done))|(refine ct (Ty d) ?_ ?_;focus ((simp only [go_sem, *]<;>rfl);done))|refine ct (c_Next l hl d _ _) (by simp only [go_sem, *]<;>rfl) ?_|refine finT hrel hd ?_ ?_ ?_ ?_ ?_)<;>try simp only [go_sem, *])
end Go.Proofs.YteaijonkbbkkjaaGreatDoor
