/-
 Walks: several parts in one text.
-/
import Derived.Test.YtbfilinnoedfeaaGreatDoorMa
import Derived.Test.YtbfilinnoedfeaaGreatDoorAbsC
set_option linter.unusedSimpArgs false
set_option linter.unusedVariables false
set_option maxRecDepth 20000
set_option maxHeartbeats 4000000
namespace Go.Proofs.YtbfilinnoedfeaaGreatDoor
open Go GoAbs Go.Proofs
end Go.Proofs.YtbfilinnoedfeaaGreatDoor
namespace Go.Proofs.YtbfilinnoedfeaaGreatDoor
open Go GoAbs Go.Proofs
theorem c_New (l:List Int):News Tryz.prog env 9 [.sl .any (ints l)] (deckC l 0):=by
 intro h id hid
 refine en Tryz.func9 [.tmp 2] rfl rfl fun g0 w0 gen hrel hfr hfr' hres=>?_
 repeat' (first
  | exact hin _|exact agf (by assumption)
  | (first|refine wp rfl ?_|refine finF hrel ?_ ?_ ?_)<;>try simp only [go_sem, *])
 refine AR_new hrel hid rfl (by simp only [go_sem, *];rfl) (hfr' _ _) (by simp only [deckC,go_sem, *]) (by repeat (first|exact Agree.refl _|refine Agree.new ?_ (hfr' _ _)))
theorem c_Next (l:List Int) (hl:l.length≤1000) (d:GoAbs.Id) (a:Nat) (n:Int) :
  Turns Tryz.prog env 27 [.ptr d 0,.int .i64 n] d (.box (deckC l a)) (.int .i64 (nextD l a n).1) (.box (deckC l (nextD l a n).2)):=by
 intro h hd
 unfold deckC at hd ⊢
 cases hn:decide (n<1) with
 | true =>
  have hv:nextD l a n=(0,a):=by simp at hn;simp [nextD,hn]
  rw [hv]
  refine en Tryz.func27 [.tmp 4] rfl rfl fun g0 w0 gen hrel hfr hfr' hres=>?_
  have f1:=fresh_ne hfr hd
  have f2:=fresh_ne' hfr hd
  repeat' (first
   | (refine ⟨?_,?_⟩;focus ((repeat' (first|refine And.intro ?_ ?_|refine Or.inr ?_));all_goals kernel_rfl))
   | exact agb (by assumption)
   | (first|refine wp rfl ?_|refine spt rfl ?_|refine spf rfl ?_|(refine spl (fun hc=>?_) fun hc=>?_)<;>(try rw [beq_iff_eq] at hc)<;>try simp only [hc]|(refine gs (fun hb=>?_) fun hb=>?_)<;>try simp only [Bool.not_true,Bool.not_false] at hb|refine finT hrel hd ?_ ?_ ?_ ?_ ?_)<;>try simp only [go_sem, *])
 | false =>
  cases hm:decide ((a:Int)≥(l.length:Int)) with
  | true =>
   have hv:nextD l a n=(0,a):=by simp at hm;simp [nextD,hm]
   rw [hv]
   refine en Tryz.func27 [.tmp 4] rfl rfl fun g0 w0 gen hrel hfr hfr' hres=>?_
   have f1:=fresh_ne hfr hd
   have f2:=fresh_ne' hfr hd
   repeat' (first
    | (refine ⟨?_,?_⟩;focus ((repeat' (first|refine And.intro ?_ ?_|refine Or.inr ?_));all_goals kernel_rfl))
    | exact agb (by assumption)
    | (first|refine wp rfl ?_|refine spt rfl ?_|refine spf rfl ?_|(refine spl (fun hc=>?_) fun hc=>?_)<;>(try rw [beq_iff_eq] at hc)<;>try simp only [hc]|(refine gs (fun hb=>?_) fun hb=>?_)<;>try simp only [Bool.not_true,Bool.not_false] at hb|refine finT hrel hd ?_ ?_ ?_ ?_ ?_)<;>try simp only [go_sem, *])
  | false =>
   simp at hn hm
   obtain ⟨x,hx⟩:∃ x,l[a]? = some x:=⟨_,List.getElem?_eq_getElem hm⟩
   have hv:nextD l a n=(modI x n,a+1):=by
    have:¬ (n<1∨l.length≤a):=by omega
    simp [nextD,this,hx]
   have h1:=c_Mod x n (by omega)
   have hw:=wrap_succ (i:=a) (by omega)
   have hix:(ints l)[a]? = some [.int .i64 x]:=by rw [ints_get,hx];rfl
   have hn':decide (n<1)=false:=by simp;omega
   have hm':decide ((a:Int)≥(l.length:Int))=false:=by simp;omega
   rw [hv]
   clear hn hm
   refine en Tryz.func27 [.tmp 4] rfl rfl fun g0 w0 gen hrel hfr hfr' hres=>?_
   have f1:=fresh_ne hfr hd
   have f2:=fresh_ne' hfr hd
   repeat' (first
    | (refine ⟨?_,?_⟩;focus ((repeat' (first|refine And.intro ?_ ?_|refine Or.inr ?_));all_goals kernel_rfl))
    | exact agb (by assumption)
    | (first|refine wp rfl ?_|refine spt rfl ?_|refine spf rfl ?_|(refine spl (fun hc=>?_) fun hc=>?_)<;>(try rw [beq_iff_eq] at hc)<;>try simp only [hc]|(refine gs (fun hb=>?_) fun hb=>?_)<;>try simp only [Bool.not_true,Bool.not_false] at hb|refine cp (h1) ?_|refine finT hrel hd ?_ ?_ ?_ ?_ ?_)<;>try simp only [go_sem, *])
theorem c_Type (l:List Int) (hl:l.length≤1000) (d:GoAbs.Id):∀ (n:Nat),n≤1000→∀ a:Nat,
  Turns Tryz.prog env 10 [.ptr d 0,.int .i64 n] d (.box (deckC l a)) (.agg (mkType l n a).1.cells) (.box (deckC l (mkType l n a).2)):=by
 intro n
 induction n with
 | zero =>
  intro _ a h hd
  have hz:decide (((0:Nat):Int)>0)=false:=rfl
  rcases kinds7 (nextD l a 7).1 with hk|hk|hk|hk|hk|hk|hk|hk
  all_goals
   simp only [mkType,hk,Int.reduceBEq,if_true,Bool.false_eq_true,if_false]
   refine en Tryz.func10 [.cell 4 29] rfl rfl fun g0 w0 gen hrel hfr hfr' hres=>?_
   have f1:=fresh_ne hfr hd
   have f2:=fresh_ne' hfr hd
   repeat' (first
    | exact agb (by assumption)
    | (first|refine wp rfl ?_|refine spt rfl ?_|refine spf rfl ?_|(refine spl (fun hc=>?_) fun hc=>?_)<;>(try rw [beq_iff_eq] at hc)<;>try simp only [hc]|refine cp (c_refNat) ?_|refine cp (c_refList) ?_|refine cp (c_refUnit) ?_|refine ct (c_Next l hl d _ _) (by simp only [go_sem, *]<;>rfl) ?_|refine finT hrel hd ?_ ?_ ?_ ?_ ?_)<;>try simp only [go_sem, *])
 | succ n ih =>
  intro hn a h hd
  have ih':=ih (by omega)
  have hz:decide (((n+1:Nat):Int)>0)=true:=by simp<;>omega
  have hw:IntKind.i64.wrap (((n+1:Nat):Int) - 1)=(n:Int):=wrap_eq (by omega) (by omega) (by omega)
  clear ih
  rcases kinds7 (nextD l a 7).1 with hk|hk|hk|hk|hk|hk|hk|hk
  all_goals
   simp only [mkType,hk,Int.reduceBEq,if_true,Bool.false_eq_true,if_false]
   have wt:=fun n a=>mkType_W (l:=l) n a
   refine en Tryz.func10 [.cell 4 29] rfl rfl fun g0 w0 gen hrel hfr hfr' hres=>?_
   have f1:=fresh_ne hfr hd
   have f2:=fresh_ne' hfr hd
   repeat' (first
    | exact agb (by assumption)
    | (first|refine wp rfl ?_|refine spt rfl ?_|refine spf rfl ?_|(refine spl (fun hc=>?_) fun hc=>?_)<;>(try rw [beq_iff_eq] at hc)<;>try simp only [hc]|refine cp (c_refNat) ?_|refine cp (c_refList) ?_|refine cp (c_refUnit) ?_|refine cp (c_refTwo _ _ (wt _ _) (wt _ _)) ?_|refine cp (c_refFun _ _ (wt _ _) (wt _ _)) ?_|refine ct (c_Next l hl d _ _) (by simp only [go_sem, *]<;>rfl) ?_|refine ct (ih' _) (by simp only [go_sem, *]<;>rfl) ?_|refine finT hrel hd ?_ ?_ ?_ ?_ ?_)<;>try simp only [go_sem, *])
end Go.Proofs.YtbfilinnoedfeaaGreatDoor
