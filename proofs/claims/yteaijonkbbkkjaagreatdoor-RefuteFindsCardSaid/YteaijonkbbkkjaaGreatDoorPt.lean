/-
 Walks: several parts in one text.
-/
import Derived.Test.YteaijonkbbkkjaaGreatDoorPx
import Derived.Test.YteaijonkbbkkjaaGreatDoorPv
import Derived.Test.YteaijonkbbkkjaaGreatDoorPz
import Derived.Test.YteaijonkbbkkjaaGreatDoorQy
import Derived.Test.YteaijonkbbkkjaaGreatDoorAbsDd
set_option linter.unusedSimpArgs false
set_option linter.unusedVariables false
set_option maxRecDepth 20000
set_option maxHeartbeats 4000000
namespace Go.Proofs.YteaijonkbbkkjaaGreatDoor
open Go GoAbs Go.Proofs
theorem c_ValuesP {t:Ty} (ht:PlainTy t) {bd m:Nat} (hb:bd≤16) (hm:m≤65536) :
  Pure Tryz.prog env 11 [.agg t.cells,.int .i64 bd,.int .i64 m] (.tup [.sl .any (((vals bd t).take m).map PVl.cells),.int .i64 0]):=by
 refine c_ValuesOf (fun S=>by simp only [go_sem, *]) (c_rfLook ht hb hm) (c_first t bd m) (it_first hm (it_values bd (by omega) ht.plT) (c_values t bd)) (fun v hv=>?_) (by simp;omega)
 obtain ⟨s,h1,h2⟩:=vals_isVl hb ht.plT v (List.mem_of_mem_take hv)
 exact c_own v (h1.W (by have:=ht.sz;omega))
attribute [go_sem] Option.map_none Option.map_some
theorem nextSmall (l:List Int) (hl:l.length≤1000) (a n:Nat) (h1:1≤n) (h2:n≤100):∃ c a':Nat,c<n∧∀ d,Turns Tryz.prog env 20 [.ptr d 0,.int .i64 n] d (.box (deckC l a)) (.int .i64 c) (.box (deckC l a')):=by
 have hr:=nextD_range (l:=l) (a:=a) (n:=n) (by omega) (by omega)
 have hX:=c_Next l hl
 generalize hq:nextD l a n=q at hr
 obtain ⟨c,a1⟩:=q
 simp only at hr
 obtain ⟨c',rfl⟩:∃ c':Nat,c=c':=⟨c.toNat,by omega⟩
 refine ⟨c',a1,by omega,fun d=>?_⟩
 have:=hX d a n
 rw [hq] at this
 exact this
theorem c_RefuteFinds (l:List Int):Pure Tryz.prog env 5 [.sl .any (ints l)] (.bool true):=by
 have hS:=c_sane21
 have hF:=c_Few l
 cases hf:decide ((l.length:Int)≤500) with
 | false =>
  rw [hf] at hF
  clear hf
  intro h
  exact ek_ Tryz.func5 [.tmp 2]
 | true =>
 rw [hf] at hF
 have hl:l.length≤1000:=by simp at hf;omega
 clear hf
 have hN:=c_New l
 obtain ⟨g,vs,ts,f,a',hs,hg2,hz,hgp,mf,wf,Tw⟩:=c_uni21 l hl 0
 replace Tw:∀ d,Turns Tryz.prog env 15 [.ptr d 0] d (.box (deckC l 0)) (.tup [.agg (allF g f).cells,.sl .any (vs.map PVl.cells)]) (.box (deckC l a')):=Tw
 obtain ⟨k,b,hFr⟩:=front_mk mf hgp hg2
 have hk:=hFr.len
 have hbz:=hFr.sz
 obtain ⟨T,hT⟩:=terms_of (ts:=k)
 have hA:∀ l∈tries 3 4 k,IsVls k l (T l):=fun l hl=>hT l (tries_is (by omega) hFr.plain l hl)
 have h1:=c_find21 hFr hA (w:=65536) (by omega) (by omega) (by omega)
 have kA:∀ l∈tries 3 4 k,HoldOk (holdsT b T) l:=fun l hl=>holdsT_ok (hA l hl) (by omega) hFr.dc (by omega)
 have cA:=findR_code (tries 3 4 k) 65536 kA (by omega)
 have sA:∀ x,(findR (holdsT b T) (tries 3 4 k) 65536).1=some x→Pure Tryz.prog env 18 [.agg (allF g f).cells,.sl .any (x.map PVl.cells),.int .i64 65536] (.int .i64 0):=fun x hx=>by
  obtain ⟨u,hu⟩:=findR_refutes kA hx
  exact c_refuted hFr (hA x (findR_some _ _ kA hx).1) hu
 have nA:(findR (holdsT b T) (tries 3 4 k) 65536).1=none→(findR (holdsT b T) (tries 3 4 k) 65536).2=0→∀ x∈tries 3 4 k,Pure Tryz.prog env 18 [.agg (allF g f).cells,.sl .any (x.map PVl.cells),.int .i64 65536] (.int .i64 21):=fun h0 h00 x hx=>by
  obtain ⟨w',u,q1,q2⟩:=findR_none _ _ h0 h00 x hx
  exact c_refuted hFr (hA x hx) ((kA x hx).up _ _ _ _ q2 q1).2
 have hU:=c_r08Universal (allF g f) hFr.good.toW (hFr.good.err0 (by have:=hFr.size;omega)) (by have:=hFr.size;omega)
 rw [hFr.univ] at hU
 simp only at hU
 have hV:∀ t∈k,∃ A:List PVl,A.length≤4∧1≤A.length∧A=(vals 3 t).take 4∧Pure Tryz.prog env 11 [.agg t.cells,.int .i64 3,.int .i64 4] (.tup [.sl .any (A.map PVl.cells),.int .i64 0]):=fun t ht=>by
  have hv:=c_ValuesP (hFr.plain t ht) (bd:=3) (m:=4) (by omega) (by omega)
  have hp:=vals_pos (hFr.plain t ht).plT (show 1≤3 by omega)
  exact ⟨_,by simp only [List.length_take];omega,by simp only [List.length_take];omega,rfl,hv⟩
 replace h1:Pure Tryz.prog env 16 [.agg (allF g f).cells,.int .i64 3,.int .i64 4,.int .i64 65536] (findV (findR (holdsT b T) (tries 3 4 k) 65536)):=h1
 clear kA hA hT hFr hbz mf wf hgp hz hs hg2
 unfold findV at h1
 generalize findR (holdsT b T) (tries 3 4 k) 65536=ra at *
 generalize allF g f=F at *
 obtain ⟨oa,ea⟩:=ra
 simp only at h1 cA sA nA
 have hwa:weakLL ((oa.getD []).map PVl.cells)=(oa.getD []).map PVl.cells:=weakLL_PVl _
 by_cases hz:ea=0
 ·subst hz
  have n0:((0:Int) != 0)=false:=rfl
  have m0:((0:Int)==0)=true:=rfl
  cases oa with
  | some x =>
   have hr:=sA x rfl
   simp only [Option.getD_some,Option.isSome_some] at h1 hwa
   clear sA nA cA hV hU
   intro h
   refine en_ Tryz.func5 [.tmp 2] fun g0 w0 gen hrel hfr hfr' hres=>?_
   repeat' (first
    |exact hin _|exact agf (by assumption)
    | (first|refine wp rfl ?_|refine spt rfl ?_|refine spf rfl ?_|(refine spl (fun hc=>?_) fun hc=>?_)<;>(try rw [beq_iff_eq] at hc)<;>try simp only [hc]|(refine gs (fun hb=>?_) fun hb=>?_)<;>try simp only [Bool.not_true,Bool.not_false] at hb|refine cp hS ?_|refine cp hF ?_|refine Call1_new ⟨gen,1000,0⟩ (hN) (by first|exact hfr' _ _|simp only [go_sem, *]) ?_|(refine ct (Tw _) ?_ ?_;focus ((simp only [go_sem, *]<;>rfl);done))|refine cp h1 ?_|refine cp hr ?_|refine finF hrel ?_ ?_ ?_)<;>try simp only [go_sem, *])
  | none =>
   have hR:=nA rfl rfl
   simp only [Option.getD_none,Option.isSome_none,List.map_nil] at h1
   have hNx:=nextSmall l hl
   have dz:decide ((((0:Nat)):Int)>0)=false:=rfl
   clear sA nA cA hwa
   intro h
   refine en_ Tryz.func5 [.tmp 2] fun g0 w0 gen hrel hfr hfr' hres=>?_
   repeat' (first
    | (first|refine wp rfl ?_|refine spt rfl ?_|refine spf rfl ?_|(refine spl (fun hc=>?_) fun hc=>?_)<;>(try rw [beq_iff_eq] at hc)<;>try simp only [hc]|(refine gs (fun hb=>?_) fun hb=>?_)<;>try simp only [Bool.not_true,Bool.not_false] at hb|refine cp hS ?_|refine cp hF ?_|refine Call1_new ⟨gen,1000,0⟩ (hN) (by first|exact hfr' _ _|simp only [go_sem, *]) ?_|(refine ct (Tw _) ?_ ?_;focus ((simp only [go_sem, *]<;>rfl);done))|refine cp h1 ?_|refine cp hU ?_)<;>try simp only [go_sem, *])
   clear hS hF hN Tw h1 hU
   refine ar_ [3,4,58] [⟨gen,6,5⟩] (fun i σ=>Agree h σ.h∧∃ (L:List PVl) (a:Nat),σ.h ⟨gen,1000,0⟩=some (.box (deckC l a))∧OwnS h σ.h (σ.tm 12) 4 (L.map PVl.cells)∧L.length=i∧L∈tries 3 4 (k.take i)) (k).length ?_ ?_ ?_
   ·simp only [go_sem, *]
    exact ⟨ag_,[],a',rfl,.inl rfl,rfl,by simp [tries,lns]⟩
   ·
    intro i σ gr0 hgl_gr0 hgn hlt jI jN jS ⟨jA,L,a,jd,jO0,jL,jM⟩
    obtain ⟨jT,jB⟩:=jS
    simp only [go_sem] at jT jB
    obtain ⟨hgf,hgf0,eg_gen_gr0,eh_gen_gr0⟩:=rnd hgn hgl_gr0 jA
    obtain ⟨x,hx,hxm,hm⟩:=rnx hlt
    clear hgn
    obtain ⟨A,hA4,hA1,hAe,hVA⟩:=hV x hxm
    obtain ⟨c,a2,hc,hNa⟩:=hNx a A.length hA1 (by omega)
    obtain ⟨v,hv⟩:∃ v,A[c]? = some v:=⟨_,List.getElem?_eq_getElem hc⟩
    have hM':L++[v]∈tries 3 4 (k.take (i+1)):=tries_snoc hx (by rw [← hAe];exact List.mem_of_getElem? hv) jM
    have hLs:(L++[v]).map PVl.cells=L.map PVl.cells++[v.cells]:=by simp
    have hLl:(L++[v]).length=i+1:=by simp [jL]
    have mA:((A.length:Int)==0)=false:=by rw [beq_eq_false_iff_ne];omega
    have hcl:(c:Int)<(A.length:Int):=by omega
    have hwA:weakLL (A.map PVl.cells)=A.map PVl.cells:=weakLL_PVl A
    have hLb:L.length≤3:=by have:=jL;have:=hk;omega
    clear hV hNx hR hAe jM
    repeat' (first
     |(refine okE_app_own jO0 (by repeat (first|exact Keeps.refl _|refine Keeps.new ?_ (hgf _ _)|refine Keeps.new ?_ (hfr' _ _)|refine Keeps.box ?_ rfl|refine Keeps.box ?_ (by simp only [go_sem, *]))) rfl (by simp only [go_sem, *]<;>omega) (by first|exact hgf0 _ _|exact hfr' _ _) (by simp only [go_sem, *]) (by intro hd;cases hd) ?_;intro v' h' log' jO jK jAg jAb jF;simp only [go_sem, *])
     | (first|refine wp rfl ?_|refine spt rfl ?_|refine spf rfl ?_|(refine spl (fun hc=>?_) fun hc=>?_)<;>(try rw [beq_iff_eq] at hc)<;>try simp only [hc]|(refine gs (fun hb=>?_) fun hb=>?_)<;>try simp only [Bool.not_true,Bool.not_false] at hb|refine cp hVA ?_|(refine ct (hNa _) ?_ ?_;focus ((simp only [go_sem, *]<;>rfl);done))|refine AR_inv ?_)<;>try simp only [go_sem, *])
    exact ⟨jAg ag_,L++[v],a2,rfl,by rw [hLs];exact jO,hLl,hM'⟩
   ·
    intro σ ga0 hgl_ga0 hgn jS ⟨jA,L,a,jd,jO0,jL,jM⟩
    obtain ⟨jT,jB⟩:=jS
    simp only [go_sem] at jT jB
    obtain ⟨hgf,hgf0,eg_gen_ga0,eh_gen_ga0⟩:=rnd hgn hgl_ga0 jA
    clear hgn
    rw [List.take_length] at jM
    have hr:=hR L jM
    obtain ⟨cO,jO0⟩:=jO0.val
    have hwL:weakLL (L.map PVl.cells)=L.map PVl.cells:=weakLL_PVl L
    have m21:((21:Int)==21)=true:=rfl
    clear hV hNx hR jM
    exact wk_
 ·have hc:(ea != 0)=true:=by simpa using hz
  have hl5:=c_limit21 ea
  rw [show (ea==5||ea==4)=true by rcases cA with h|h|h;exact absurd h hz;rw [h];rfl;rw [h];rfl] at hl5
  clear sA nA hU hV cA hz
  generalize oa.isSome=ba at *
  generalize oa.getD []=xa at *
  intro h
  refine en_ Tryz.func5 [.tmp 2] fun g0 w0 gen hrel hfr hfr' hres=>?_
  repeat' (first
   |exact hin _|exact agf (by assumption)
   | (first|refine wp rfl ?_|refine spt rfl ?_|refine spf rfl ?_|(refine spl (fun hc=>?_) fun hc=>?_)<;>(try rw [beq_iff_eq] at hc)<;>try simp only [hc]|(refine gs (fun hb=>?_) fun hb=>?_)<;>try simp only [Bool.not_true,Bool.not_false] at hb|refine cp hS ?_|refine cp hF ?_|refine Call1_new ⟨gen,1000,0⟩ (hN) (by first|exact hfr' _ _|simp only [go_sem, *]) ?_|(refine ct (Tw _) ?_ ?_;focus ((simp only [go_sem, *]<;>rfl);done))|refine cp h1 ?_|refine cp hl5 ?_|refine finF hrel ?_ ?_ ?_)<;>try simp only [go_sem, *])
end Go.Proofs.YteaijonkbbkkjaaGreatDoor
