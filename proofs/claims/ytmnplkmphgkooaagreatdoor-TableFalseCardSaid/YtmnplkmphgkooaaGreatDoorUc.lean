/-
 Walks: the inputs of a formula.
-/
import Derived.Test.YtmnplkmphgkooaaGreatDoorTk
import Derived.Test.YtmnplkmphgkooaaGreatDoorTn
import Derived.Test.YtmnplkmphgkooaaGreatDoorMb
import Derived.Test.YtmnplkmphgkooaaGreatDoorTc
set_option linter.unusedSimpArgs false
set_option linter.unusedVariables false
set_option maxRecDepth 20000
set_option maxHeartbeats 4000000
namespace Go.Proofs.YtmnplkmphgkooaaGreatDoor
open Go GoAbs Go.Proofs
theorem c_tabLongerT {m:Nat} (hm:m≤16) {t:Ty} (ht:PlainTy t) {L:List (List PVl)} (hL:L.length≤64) (hlen:∀ l∈L,l.length≤100) :
  Pure Tryz.prog env 42 [.sl .any (rowsI L),.sl .any ((candN (tyH t) t m).map Tm.cells)] (.sl .any (rowsI (longerV L (candP (tyH t) t m)))):=by
 have zp:=candP_zip ht.plT (m:=m) (Nat.le_refl (tyH t))
 refine c_tabLonger hL candP_len hlen zp.len fun i c v hc hv=>?_
 have hz:=ht.sz
 have ok:=candN_ok' (K:=38) ht.G.1 (m:=m) (by omega) ht.G.2 (n:=tyH t) (g:=[]) (Nat.le_refl _) c (List.mem_of_getElem? hc)
 have sz:=ok.sz
 exact c_valReadT (zp.at hv hc) (by omega) ok.w (ok.gd.err0 (by omega)) (by omega)
theorem c_tabInputs (m:Nat) (hm:m≤16) (ts:List Ty) (hts:∀ t∈ts,PlainTy t) (hl:ts.length≤50) (b:Fm) (hb:b.kind≠4) (hW:FmW (allF ts b)) (he:fmErr (allF ts b)=0) :
  Pure Tryz.prog env 19 [.agg (allF ts b).cells,.int .i64 m] (.tup [.sl .any (rowsI (inputsV m ts)),.int .i64 0]):=by
 intro h
 have h1:=c_fmCheck (allF ts b) hW
 rw [he] at h1
 have n0:((0:Int) != 0)=false:=rfl
 have hc2:decide ((m:Int)<0)=false:=by simp
 have hc3:decide ((m:Int)>16)=false:=by simp;omega
 have hio:∀ i,InOk (ts.take i) (inputsV m (ts.take i)):=fun i=>inputsV_ok hm fun t ht=>by
  have hp:=hts t (List.mem_of_mem_take ht)
  exact ⟨hp.plT,hp.G.1,hp.G.2⟩
 clear hW he
 generalize hF:allF ts b=F at *
 refine en_ Tryz.func19 [.tmp 4,.tmp 5] fun g0 w0 gen hrel hfr hfr' hres=>?_
 refine wq_ ?_
 refine AR_weakTm 9 ?_
 refine AR_loop_nat (fun i σ=>σ.tm 1=.int .i64 m∧σ.tm 2=.ptr ⟨gen,0,0⟩ 0∧σ.h ⟨gen,0,0⟩=some (.box (allF (ts.drop i) b).cells)∧σ.tm 9=.sl .any (rowsI (inputsV m (ts.take i)))∧Agree h σ.h) ts.length ?_ ?_
 ·simp only [List.drop_zero,hF,List.take_zero,inputsV,List.foldl_nil,rowsI,List.map_cons,List.map_nil,go_sem, *]
  exact ag_
 clear hF
 intro i σ hi ⟨j1,j2,j3,j4,j5⟩
 refine AR_gen (fun gn hgn=>?_)
 have hgf:=fresh_of hgn
 have hgf0:∀ r i,h ⟨gn,r,i⟩=none:=fun r i=>agree_fresh j5 (hgf r i)
 have ge0:=gen_ne hgn j3
 have gf0:=gen_ne' hgn j3
 clear hgn
 rcases Nat.lt_or_ge i ts.length with hlt|hge
 ·obtain ⟨t,ht⟩:∃ t,ts[i]? = some t:=⟨_,List.getElem?_eq_getElem hlt⟩
  have hp:=hts t (List.mem_of_getElem? ht)
  have h2:=c_plainData hp
  have h3:=c_conCandidates m hm hp.G.1 hp.G.err (n:=tyH t) (Nat.le_refl _)
  have io:=hio i
  have h4:=c_tabLongerT hm hp io.len (fun l hl'=>by have:=(io.val l hl').1;simp at this;omega)
  have htk:inputsV m (ts.take (i+1))=longerV (inputsV m (ts.take i)) (candP (tyH t) t m):=by rw [List.take_add_one,ht];exact inputsV_snoc
  have hd:ts.drop i=t::ts.drop (i+1):=drop_get ht
  have hk:(allF (ts.drop i) b).kind=4:=by rw [hd];rfl
  have hty:(allF (ts.drop i) b).type=t:=by rw [hd];rfl
  have har:(allF (ts.drop i) b).args=[allF (ts.drop (i+1)) b]:=by rw [hd];rfl
  rw [htk]
  clear htk hio io hd ht hp hts h1
  generalize allF (ts.drop i) b=f at *
  generalize allF (ts.drop (i+1)) b=f' at *
  generalize inputsV m (ts.take i)=L at *
  generalize longerV L (candP (tyH t) t m)=L' at *
  generalize candN (tyH t) t m=C at *
  have hw:=@rowsI_weak L
  have hw2:=@rowsI_weak L'
  first|refine wq_ ?_|exact wk_
  all_goals exact ag_
 ·obtain rfl:i=ts.length:=by omega
  have hk:((allF (ts.drop ts.length) b).kind==4)=false:=by rw [List.drop_length];exact beq_eq_false_iff_ne.2 hb
  rw [List.take_length] at j4
  clear hio hts h1
  generalize allF (ts.drop ts.length) b=f at *
  generalize inputsV m ts=L at *
  have hw:=@rowsI_weak L
  have hin:InLL (fun id=>h id≠none) (rowsI L):=rowsI_in
  first|refine wq_ ?_|exact wk_
  all_goals simp only [rowsI_in,go_sem, *]
end Go.Proofs.YtmnplkmphgkooaaGreatDoor
