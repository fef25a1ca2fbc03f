/-
 Walks: several parts in one text.
-/
import Derived.Test.YteaijonkbbkkjaaGreatDoorMr
import Derived.Test.YteaijonkbbkkjaaGreatDoorNy
import Derived.Test.YteaijonkbbkkjaaGreatDoorMd
import Derived.Test.YteaijonkbbkkjaaGreatDoorMn
set_option linter.unusedSimpArgs false
set_option linter.unusedVariables false
set_option maxRecDepth 20000
set_option maxHeartbeats 4000000
namespace Go.Proofs.YteaijonkbbkkjaaGreatDoor
open Go GoAbs Go.Proofs
theorem de3 {g:List Ty} (hg:∀ y∈g,V9 1 y):∀ y∈g,TyF y∧tyH y≤40:=fun y hy=>⟨(hg y hy).F,by have:=(hg y hy).H;omega⟩
theorem br0 (l:List Int) (hl:l.length≤1000):∀ (n:Nat),n≤4→∀ (g:List Ty) (a:Nat),(∀ y∈g,V9 1 y)→g.length+n≤100 →
  ∃ f a',ax0 n g f∧FmW f∧∀ d,D1 Tryz.prog env 40 [.ptr d 0,.sl .any (g.map Ty.cells),.int .i64 n] d (.box (C1 l a)) (.agg f.cells) (.box (C1 l a')):=by
 intro n;have heq:∀ (g:List Ty) (a:Nat),(∀ y∈g,V9 1 y)→g.length≤200→∃ x a1,L2 1 g r5 x∧TmW x ∧
   (∀ d,D1 Tryz.prog env 67 [.ptr d 0,.sl .any (g.map Ty.cells),.agg r5.cells,.int .i64 1] d (.box (C1 l a)) (.agg x.cells) (.box (C1 l a1))):=by
  intro g a hg hb;obtain ⟨x,a1,hx,wx,Tx⟩:=cO5 l hl 1 g r5 a (de3 hg) .nat (by rw [ae3];omega) (by rw [ae3];simp;omega) (by rw [ae3];omega);exact ⟨x,a1,hx,wx,Tx⟩
 induction n with
 | zero =>
  intro _ g a hg hb;have hz:decide (((0:Nat):Int)>0)=false:=rfl;obtain ⟨x,ax,kx,wx,Tx⟩:=heq g a hg om_;obtain ⟨y,ay,ky,wy,Ty⟩:=heq g ax hg om_;refine ⟨_,ay,.eq kx ky,aW9 wx wy,?_⟩;clear heq hg;intro d h hd;refine en_ Tryz.func40 [.cell 6 45] fun g0 w0 gen b7 hfr c6 m0=>?_;have f1:=c7 hfr hd;have f2:=l4 hfr hd
  repeat' (first
   |(refine ⟨?_,?_⟩;focus ((repeat' (first|refine ⟨?_,?_⟩|refine .inr ?_));all_goals kernel_rfl))
   |exact agb as_
   | (first|refine wp rfl ?_|refine spt rfl ?_|refine spf rfl ?_|(refine spl (fun hc=>?_) fun hc=>?_)<;>(try rw [beq_iff_eq] at hc)<;>try simp only [hc]|refine cp D8 ?_|refine cp (cH6 _ _ wx wy) ?_|(refine ct (Tx d) ?_ ?_;focus ((simp only [go_sem, *]<;>rfl);done))|(refine ct (Ty d) ?_ ?_;focus ((simp only [go_sem, *]<;>rfl);done))|refine Z4 b7 hd ?_ ?_ ?_ ?_ ?_)<;>try simp only [go_sem, *])
 | succ n ih =>
  intro hn g a hg hb;have hz:decide (((n+1:Nat):Int)>0)=true:=by simp<;>omega
  have hw:IntKind.i64.wrap (((n+1:Nat):Int) - 1)=(n:Int):=w8 om_ om_ om_;have ih:=ih om_;have hr:=L5 (l:=l) (a:=a) (n:=6) om_ om_;generalize hq:D2 l a 6=q at hr;obtain ⟨c,a1⟩:=q;have hc1:(D2 l a 6).1=c:=by rw [hq]
  have hc2:(D2 l a 6).2=a1:=by rw [hq]
  simp only at hr;clear hq;obtain rfl|rfl|hm|hge:c=0∨c=1∨(c=2∨c=3)∨4≤c:=by omega
  ·
   obtain ⟨x,ax,kx,wx,Tx⟩:=ih g a1 hg om_;obtain ⟨y,ay,ky,wy,Ty⟩:=ih g ax hg om_;refine ⟨_,ay,.two (k:=2) om_ kx ky,aJ8 wx wy,?_⟩;clear heq hg ih hr;intro d h hd;refine en_ Tryz.func40 [.cell 6 45] fun g0 w0 gen b7 hfr c6 m0=>?_;have f1:=c7 hfr hd;have f2:=l4 hfr hd
   repeat' (first
    |(refine ⟨?_,?_⟩;focus ((repeat' (first|refine ⟨?_,?_⟩|refine .inr ?_));all_goals kernel_rfl))
    |exact agb as_
    | (first|refine wp rfl ?_|refine spt rfl ?_|refine spf rfl ?_|(refine spl (fun hc=>?_) fun hc=>?_)<;>(try rw [beq_iff_eq] at hc)<;>try simp only [hc]|refine cp D8 ?_|refine cp (aV2 2 _ _ wx wy) ?_|(refine ct (Tx d) ?_ ?_;focus ((simp only [go_sem, *]<;>rfl);done))|(refine ct (Ty d) ?_ ?_;focus ((simp only [go_sem, *]<;>rfl);done))|refine ct (N7 l hl d _ _) sr_ ?_|refine Z4 b7 hd ?_ ?_ ?_ ?_ ?_)<;>try simp only [go_sem, *])
  ·
   obtain ⟨x,ax,kx,wx,Tx⟩:=ih g a1 hg om_;obtain ⟨y,ay,ky,wy,Ty⟩:=ih g ax hg om_;refine ⟨_,ay,.two (k:=3) om_ kx ky,aJ8 wx wy,?_⟩;clear heq hg ih hr;intro d h hd;refine en_ Tryz.func40 [.cell 6 45] fun g0 w0 gen b7 hfr c6 m0=>?_;have f1:=c7 hfr hd;have f2:=l4 hfr hd
   repeat' (first
    |(refine ⟨?_,?_⟩;focus ((repeat' (first|refine ⟨?_,?_⟩|refine .inr ?_));all_goals kernel_rfl))
    |exact agb as_
    | (first|refine wp rfl ?_|refine spt rfl ?_|refine spf rfl ?_|(refine spl (fun hc=>?_) fun hc=>?_)<;>(try rw [beq_iff_eq] at hc)<;>try simp only [hc]|refine cp D8 ?_|refine cp (aV2 3 _ _ wx wy) ?_|(refine ct (Tx d) ?_ ?_;focus ((simp only [go_sem, *]<;>rfl);done))|(refine ct (Ty d) ?_ ?_;focus ((simp only [go_sem, *]<;>rfl);done))|refine ct (N7 l hl d _ _) sr_ ?_|refine Z4 b7 hd ?_ ?_ ?_ ?_ ?_)<;>try simp only [go_sem, *])
  ·
   generalize hq2:D2 l a1 2=q;obtain ⟨c2,a2⟩:=q;have hd1:(D2 l a1 2).1=c2:=by rw [hq2]
   have hd2:(D2 l a1 2).2=a2:=by rw [hq2]
   clear hq2;obtain ⟨x,ax,kx,wx,Tx⟩:=heq g a2 hg om_;have hgn:=bH2 hg (.nat (n:=1));obtain ⟨b,ab,kb,wb,Tb⟩:=ih (g++[r5]) ax hgn (by simp;omega);have hL:=aB4 g [r5] om_ sp_;simp only [List.map_cons,List.map_nil] at hL;obtain ⟨gx,zx,lx⟩:=kx.small hg om_;obtain ⟨gb,zb,_⟩:=kb.all hgn (by simp;omega);have dl6:2 ^ n≤2 ^ 4:=Nat.pow_le_pow_right om_ om_;have hsm:=bK6 (all:=(c2==0)) gx om_ lx gb om_;have hB:=bq6 (c2==0) x wx b wb;rw [hsm] at hB;unfold Y5 at hB;have wz:=cp3 (all:=(c2==0)) (bk6 (b:=1) x 0 wx) wb;refine ⟨_,ab,.bnd (all:=(c2==0)) kx kb,wz,?_⟩;clear heq hg ih hr hsm kx kb gx gb zx lx zb dl6 hgn wz;generalize J0 (c2==0) (x.up 1 0) b=z at *;have n0:((0:Int)==0)=true:=rfl;rcases hm with rfl|rfl
   all_goals
    intro d h hd;refine en_ Tryz.func40 [.cell 6 45] fun g0 w0 gen b7 hfr c6 m0=>?_;have f1:=c7 hfr hd;have f2:=l4 hfr hd
    repeat' (first
     |(refine ⟨?_,?_⟩;focus ((repeat' (first|refine ⟨?_,?_⟩|refine .inr ?_));all_goals kernel_rfl))
     |exact agb as_
     | (first|refine wp rfl ?_|refine spt rfl ?_|refine spf rfl ?_|(refine spl (fun hc=>?_) fun hc=>?_)<;>(try rw [beq_iff_eq] at hc)<;>try simp only [hc]|refine cp hL ?_|refine cp hB ?_|refine cp D8 ?_|(refine ct (Tx d) ?_ ?_;focus ((simp only [go_sem, *]<;>rfl);done))|(refine ct (Tb d) ?_ ?_;focus ((simp only [go_sem, *]<;>rfl);done))|refine ct (N7 l hl d _ _) sr_ ?_|refine Z4 b7 hd ?_ ?_ ?_ ?_ ?_)<;>try simp only [go_sem, *])
  ·
   have q0:(c==0)=false:=by simp;omega
   have q1:(c==1)=false:=by simp;omega
   have q2:(c==2)=false:=by simp;omega
   have q3:(c==3)=false:=by simp;omega
   clear hge hr ih;obtain ⟨x,ax,kx,wx,Tx⟩:=heq g a1 hg om_;obtain ⟨y,ay,ky,wy,Ty⟩:=heq g ax hg om_;refine ⟨_,ay,.eq kx ky,aW9 wx wy,?_⟩;clear heq hg;intro d h hd;refine en_ Tryz.func40 [.cell 6 45] fun g0 w0 gen b7 hfr c6 m0=>?_;have f1:=c7 hfr hd;have f2:=l4 hfr hd
   repeat' (first
    |(refine ⟨?_,?_⟩;focus ((repeat' (first|refine ⟨?_,?_⟩|refine .inr ?_));all_goals kernel_rfl))
    |exact agb as_
    | (first|refine wp rfl ?_|refine spt rfl ?_|refine spf rfl ?_|(refine spl (fun hc=>?_) fun hc=>?_)<;>(try rw [beq_iff_eq] at hc)<;>try simp only [hc]|refine cp D8 ?_|refine cp (cH6 _ _ wx wy) ?_|(refine ct (Tx d) ?_ ?_;focus ((simp only [go_sem, *]<;>rfl);done))|(refine ct (Ty d) ?_ ?_;focus ((simp only [go_sem, *]<;>rfl);done))|refine ct (N7 l hl d _ _) sr_ ?_|refine Z4 b7 hd ?_ ?_ ?_ ?_ ?_)<;>try simp only [go_sem, *])
theorem bl4 (g:List Ty) (hg:∀ y∈g,TyG y) (hl:g.length≤16):Pure Tryz.prog env 151 [.sl .any (g.map Ty.cells)] (.int .i64 0):=by
 intro h;have d1:decide ((g.length:Int)>16)=false:=by simp;omega
 have n0:((0:Int) != 0)=false:=rfl;have hc:∀ y∈g,Pure Tryz.prog env 136 [.agg y.cells] (.int .i64 0):=fun y hy=>by
  have:=ag2 y (hg y hy).1.W;rw [(hg y hy).err] at this;exact this
 clear hg;refine en_ Tryz.func151 [.tmp 2] fun g0 w0 gen b7 hfr c6 m0=>?_;refine wq_ ?_;refine ar_ [9] [] (fun i σ=>g9 h σ.h∧True) (g).length ?_ ?_ ?_
 ·simp only [go_sem, *]
  exact ag_
 ·
  intro i σ gr0 l6 hgn hlt jI jN jS ⟨jA,_⟩;obtain ⟨jT,jB⟩:=jS;simp only [go_sem] at jT jB;obtain ⟨hgf,m6,n7,n8⟩:=rnd hgn l6 jA;obtain ⟨x,hx,hxm,hm⟩:=rnx hlt;clear hgn;have h1:=hc x hxm;clear hc
  first|refine wq_ ?_|exact wk_
  all_goals exact g9.new jA (m6 _ _)
 ·clear hc
  intro σ ga0 l9 hgn jS ⟨jA,_⟩;obtain ⟨jT,jB⟩:=jS;simp only [go_sem] at jT jB;obtain ⟨hgf,m6,n9,o0⟩:=rnd hgn l9 jA;clear hgn;exact wk_
theorem bJ3 (g:List Ty) (t:Tm) (s:Ty) (h:w7 TyG g t s) (hg:∀ y∈g,TyW y) (ht:TmW t) (he:Z2 t=0) (hb:g.length+m7 t≤1000000) :
  Pure Tryz.prog env 211 [.sl .any (g.map Ty.cells),.agg t.cells] (.tup [.agg s.cells,.int .i64 0]):=by
 have h1:=am0 t ht;rw [he] at h1;have h2:=bP5 h hg ht hb;have n0:((0:Int) != 0)=false:=rfl;clear h hg ht he hb;intro h;exact ek_ Tryz.func211 [.cell 4 27,.tmp 5]
theorem aW1 {g:List Ty} {f:Fm} (h:ak3 TyG g f):(∀ x∈f.r8,w7 TyG g x r5)∧(∀ x∈f.args,ak3 TyG (if Z3 f.kind then g++[f.type] else g) x):=by
 cases h with
 | eq h1 h2=>exact ⟨by intro x hx;simp [M3,Fm.r8] at hx;rcases hx with rfl|rfl<;>assumption,by simp [M3,Fm.args]⟩
 | @two g k a b hk h1 h2 =>
  have e:Z3 k=false:=by rcases hk with rfl|rfl<;>rfl
  refine ⟨by simp [E8,Fm.r8],?_⟩;intro x hx;simp only [E8,Fm.args,Fm.kind,e,Bool.false_eq_true,if_false,List.mem_cons,List.not_mem_nil,or_false] at hx ⊢;rcases hx with rfl|rfl<;>assumption
 | @q g k s a hk h1 =>
  have e:Z3 k=true:=by rcases hk with rfl|rfl|rfl|rfl<;>rfl
  refine ⟨by simp [fmQ,Fm.r8],?_⟩;intro x hx;simp only [fmQ,Fm.args,Fm.kind,Fm.type,e,if_true,List.mem_cons,List.not_mem_nil,or_false] at hx ⊢;subst hx;exact h1
theorem cC2:∀ (n:Nat) (f:Fm) (g:List Ty),z6 f≤n→ak3 TyG g f→FmG true f→z6 f≤4096→FmW f→(∀ y∈g,TyW y)→g.length+z6 f≤100000 →
  Pure Tryz.prog env 192 [.sl .any (g.map Ty.cells),.agg f.cells] (.int .i64 0):=by
 intro n
 induction n with
 | zero =>
  intro f g hn;have:1≤z6 f:=by (cases f;rw [z6];omega)
  omega
 | succ n ih =>
 intro f g hn hf gf zf wf hg hb h;have hlen:=wf.len;have ch4:=wf.aE3;obtain ⟨p1,p2⟩:=aW1 hf;have gT:∀ x∈f.r8,TmG x:=by
  cases gf with
  | eq hx hy=>intro x hx';simp [M3,Fm.r8] at hx';rcases hx' with rfl|rfl<;>assumption
  | two=>simp [E8,Fm.r8]
  | q=>simp [fmQ,Fm.r8]
 have gA:∀ x∈f.args,FmG true x:=by
  cases gf with
  | eq=>simp [M3,Fm.args]
  | two hk ha hb=>intro x hx';simp [E8,Fm.args] at hx';rcases hx' with rfl|rfl<;>assumption
  | q hk hs ha=>intro x hx';simp [fmQ,Fm.args] at hx';subst hx';assumption
 have sT:∀ x∈f.r8,m7 x<z6 f:=by
  intro x hx;obtain ⟨k,t,l,a⟩:=f;rw [z6];have:=I3 (show x∈l from hx);omega
 have aR6:∀ x∈f.r8,Pure Tryz.prog env 211 [.sl .any (g.map Ty.cells),.agg x.cells] (.tup [.agg r5.cells,.int .i64 0]):=by
  intro x hx;have hs:=sT x hx;exact bJ3 g x r5 (p1 x hx) hg (wf.term hx) ((gT x hx).aj7 om_) om_
 have hq:=U2 f.kind;have hk1:((1:Int) != 1)=false:=rfl;have n0:((0:Int) != 0)=false:=rfl;have hnk:r5.kind=1:=rfl;have t1:(0:Int)≤(g.length:Int):=by omega
 have t2:((g.length:Int)).toNat=g.length:=Int.toNat_natCast _;have t3:List.take g.length (g.map Ty.cells)=g.map Ty.cells:=List.take_of_length_le sp_;have t4:0≤g.length:=by omega
 have t5:g.length≤g.length:=Nat.le_refl _;have mn:∀ (f:Operand→V),Option.map f none=none:=fun _=>rfl;have ml:(g.map Ty.cells).length=g.length:=by simp
 have b3:(g.length+1) * 32≤140737488355328:=by omega
 have b4:g.length+1≤140737488355328:=by omega
 have ax7:∀ x∈f.args,Pure Tryz.prog env 192 [.sl .any ((if Z3 f.kind then g++[f.type] else g).map Ty.cells),.agg x.cells] (.int .i64 0):=by
  intro x hx;have hs:=ac3 hx;refine ih x _ om_ (p2 x hx) (gA x hx) om_ (wf.arg hx) ?_ ?_
  ·intro y hy
   split at hy
   ·rcases List.mem_append.1 hy with hy|hy
    ·exact hg y hy
    ·simp at hy;subst hy;exact wf.ty
   ·exact hg y hy
  ·split<;>(try simp only [List.length_append,List.length_cons,List.length_nil])<;>omega
 clear ih p1 p2 gT gA sT hf gf wf hg;refine en_ Tryz.func192 [.tmp 4] fun g0 w0 gen b7 hfr c6 m0=>?_;refine wq_ ?_;refine ar_ [0,3,13] [⟨gen,0,0⟩] (fun i σ=>g9 h σ.h∧True) (f.r8).length ?_ ?_ ?_
 ·simp only [go_sem, *]
  exact ag_
 ·clear ax7
  intro i σ gr0 l6 hgn hlt jI jN jS ⟨jA,_⟩;obtain ⟨jT,jB⟩:=jS;simp only [go_sem] at jT jB;obtain ⟨hgf,m6,n7,n8⟩:=rnd hgn l6 jA;obtain ⟨x,hx,hxm,hm⟩:=rnx hlt;clear hgn;have h1:=aR6 x hxm;clear aR6
  first|refine wq_ ?_|exact wk_
  all_goals exact (by repeat (first|exact jA|refine g9.new ?_ (m6 _ _)))
 clear aR6;intro σ ga0 l9 hgn jS ⟨jA,_⟩;obtain ⟨jT,jB⟩:=jS;simp only [go_sem] at jT jB;obtain ⟨hgf,m6,n9,o0⟩:=rnd hgn l9 jA;clear hgn;have hwk:B2 (g.map Ty.cells++[f.type.cells])=(g++[f.type]).map Ty.cells:=by rw [← H8 (g++[f.type])];simp
 cases hqq:Z3 f.kind with
 | false =>
  rw [hqq] at hq ax7;simp only [Bool.false_eq_true,if_false] at ax7;clear hqq;refine wq_ ?_;refine ar_ [0,46] [] (fun i σ=>g9 h σ.h∧True) (f.args).length ?_ ?_ ?_
  ·simp only [go_sem, *]
   first|done|exact ag_|exact ⟨ag_,jA⟩|exact jA
  ·
   intro i σ gr1 M8 hgn hlt jI jN jS ⟨jA,_⟩;obtain ⟨jT,jB⟩:=jS;simp only [go_sem] at jT jB;have hgf:=c8 hgn;have m6:=fun r i=>s7 jA (hgf r i);have G2:=s8 (show gen<gr1 by omega);have G8:=o9 (show gen<gr1 by omega);have K8:=s8 (show ga0<gr1 by omega);have K5:=o9 (show ga0<gr1 by omega);obtain ⟨x,hx,hxm,hm⟩:=rnx hlt;clear hgn;have h1:=ax7 x hxm;clear ax7
   first|refine wq_ ?_|exact wk_
   all_goals exact (by repeat (first|exact jA|refine g9.new ?_ (m6 _ _)))
  ·clear ax7
   intro σ ga1 M7 hgn jS ⟨jA,_⟩;obtain ⟨jT,jB⟩:=jS;simp only [go_sem] at jT jB;have hgf:=c8 hgn;have m6:=fun r i=>s7 jA (hgf r i);have G3:=s8 (show gen<ga1 by omega);have G4:=o9 (show gen<ga1 by omega);have K6:=s8 (show ga0<ga1 by omega);have K3:=o9 (show ga0<ga1 by omega);clear hgn;exact wk_
 | true =>
  rw [hqq] at hq ax7;simp only [if_true] at ax7;clear hqq;refine wq_ ?_;refine ar_ [0,46] [] (fun i σ=>g9 h σ.h∧True) (f.args).length ?_ ?_ ?_
  ·simp only [go_sem, *]
   first|done|exact ag_|exact ⟨ag_,jA⟩|exact jA
  ·
   intro i σ gr1 M8 hgn hlt jI jN jS ⟨jA,_⟩;obtain ⟨jT,jB⟩:=jS;simp only [go_sem] at jT jB;have hgf:=c8 hgn;have m6:=fun r i=>s7 jA (hgf r i);have G2:=s8 (show gen<gr1 by omega);have G8:=o9 (show gen<gr1 by omega);have K8:=s8 (show ga0<gr1 by omega);have K5:=o9 (show ga0<gr1 by omega);obtain ⟨x,hx,hxm,hm⟩:=rnx hlt;clear hgn;have h1:=ax7 x hxm;clear ax7
   first|refine wq_ ?_|exact wk_
   all_goals exact (by repeat (first|exact jA|refine g9.new ?_ (m6 _ _)))
  ·clear ax7
   intro σ ga1 M7 hgn jS ⟨jA,_⟩;obtain ⟨jT,jB⟩:=jS;simp only [go_sem] at jT jB;have hgf:=c8 hgn;have m6:=fun r i=>s7 jA (hgf r i);have G3:=s8 (show gen<ga1 by omega);have G4:=o9 (show gen<ga1 by omega);have K6:=s8 (show ga0<ga1 by omega);have K3:=o9 (show ga0<ga1 by omega);clear hgn;exact wk_
theorem bU9 (g:List Ty) (hg:∀ y∈g,TyG y) (hl:g.length≤16) (f:Fm) (hf:ak3 TyG g f) (gf:FmG true f) (zf:z6 f≤4096) (wf:FmW f) :
  Pure Tryz.prog env 97 [.sl .any (g.map Ty.cells),.agg f.cells] (.int .i64 0):=by
 have h1:=bl4 g hg hl;have h2:=V7 f wf;rw [gf.aj7 zf] at h2;have h3:=cC2 _ f g (Nat.le_refl _) hf gf zf wf (fun y hy=>(hg y hy).1.W) om_;have n0:((0:Int) != 0)=false:=rfl;have h4:Pure Tryz.prog env 152 [.sl .any (g.map Ty.cells),.agg f.cells] (.int .i64 0):=by
  clear h1 hg hl hf gf zf wf;intro h;exact ek_ Tryz.func152 [.tmp 4]
 clear h2 h3 hg hl hf gf zf wf;intro h;exact ek_ Tryz.func97 [.tmp 4]
end Go.Proofs.YteaijonkbbkkjaaGreatDoor
