/-
 Walks: formulas that are typed.
-/
import Derived.Test.YteaijonkbbkkjaaGreatDoorMf
import Derived.Test.YteaijonkbbkkjaaGreatDoorNz
import Derived.Test.YteaijonkbbkkjaaGreatDoorMn
set_option linter.unusedSimpArgs false
set_option linter.unusedVariables false
set_option maxRecDepth 20000
set_option maxHeartbeats 4000000
namespace Go.Proofs.YteaijonkbbkkjaaGreatDoor
open Go GoAbs Go.Proofs
theorem ax3 (g:List Ty) (hg:∀ y∈g,TyG y) (hl:g.length≤16):Pure Tryz.prog env 81 [.sl .any (g.map Ty.cells)] (.int .i64 0):=by
 intro h;have d1:decide ((g.length:Int)>16)=false:=by simp;omega
 have n0:((0:Int) != 0)=false:=rfl;have hc:∀ y∈g,Pure Tryz.prog env 58 [.agg y.cells] (.int .i64 0):=fun y hy=>by
  have:=al8 y (hg y hy).1.W;rw [(hg y hy).err] at this;exact this
 clear hg;refine en_ Tryz.func81 [.tmp 2] fun g0 w0 gen b7 hfr c6 m0=>?_;refine wq_ ?_;refine ar_ [9] [] (fun i σ=>g9 h σ.h∧True) (g).length ?_ ?_ ?_
 ·simp only [go_sem, *]
  exact ag_
 ·
  intro i σ gr0 l6 hgn hlt jI jN jS ⟨jA,_⟩;obtain ⟨jT,jB⟩:=jS;simp only [go_sem] at jT jB;obtain ⟨hgf,m6,n7,n8⟩:=rnd hgn l6 jA;obtain ⟨x,hx,hxm,hm⟩:=rnx hlt;clear hgn;have h1:=hc x hxm;clear hc
  first|refine wq_ ?_|exact wk_
  all_goals exact g9.new jA (m6 _ _)
 ·clear hc
  intro σ ga0 l9 hgn jS ⟨jA,_⟩;obtain ⟨jT,jB⟩:=jS;simp only [go_sem] at jT jB;obtain ⟨hgf,m6,n9,o0⟩:=rnd hgn l9 jA;clear hgn;exact wk_
theorem bz0 {g:List Ty} {t:Tm} (h:w7 TyG g t r5) (hg:∀ y∈g,TyW y) (ht:TmW t) (hb:g.length+m7 t≤1000000) :
  Pure Tryz.prog env 139 [.sl .any (g.map szC),.agg t.cells] (.int .i64 0):=by
 have hc:=bB2 h hg ht hb;have i1:=aS8 r5 1;rw [show (r5.kind==1)=true from rfl] at i1;have h0:Pure Tryz.prog env 184 [.sl .any (g.map szC),.agg t.cells,.int .i64 1] (.int .i64 0):=by
  intro h;clear hg ht hb;generalize r5=q at *;exact ek_ Tryz.func184 [.tmp 6]
 intro h;clear hc i1 hg ht hb;exact ek_ Tryz.func139 [.tmp 4]
theorem bl3:∀ (n:Nat) (f:Fm) (g:List Ty),z6 f≤n→ak3 TyG g f→z6 f≤4096→FmW f→(∀ y∈g,TyW y)→g.length+z6 f≤5000 →
  Pure Tryz.prog env 83 [.sl .any (g.map szC),.agg f.cells] (.int .i64 0):=by
 intro n
 induction n with
 | zero =>
  intro f g hn;have:1≤z6 f:=by (cases f;rw [z6];omega)
  omega
 | succ n ih =>
 intro f g hn hf zf wf hg hb h;have hlen:=wf.len;have ch4:=wf.aE3;obtain ⟨p1,p2⟩:=aW1 hf;have sT:∀ x∈f.r8,m7 x<z6 f:=by
  intro x hx;obtain ⟨k,t,l,a⟩:=f;rw [z6];have:=I3 (show x∈l from hx);omega
 have aR6:∀ x∈f.r8,Pure Tryz.prog env 139 [.sl .any (g.map szC),.agg x.cells] (.int .i64 0):=by
  intro x hx;have hs:=sT x hx;exact bz0 (p1 x hx) hg (wf.term hx) om_
 have ax7:∀ x∈f.args,Pure Tryz.prog env 83 [.sl .any ((if Z3 f.kind then g++[f.type] else g).map szC),.agg x.cells] (.int .i64 0):=by
  intro x hx;have hs:=ac3 hx;refine ih x _ om_ (p2 x hx) om_ (wf.arg hx) ?_ ?_
  ·intro y hy
   split at hy
   ·rcases List.mem_append.1 hy with hy|hy
    ·exact hg y hy
    ·simp at hy;subst hy;exact wf.ty
   ·exact hg y hy
  ·split<;>(try simp only [List.length_append,List.length_cons,List.length_nil])<;>omega
 have cL7:=ce0 g f.type wf.ty om_;have cX8:f.kind=1∨f.kind=2∨f.kind=3∨f.kind=4∨f.kind=5∨f.kind=6∨f.kind=7:=by
  cases hf with
  | eq _ _=>exact .inl rfl
  | two hk _ _=>rcases hk with rfl|rfl<;>simp [E8,Fm.kind]
  | q hk _=>rcases hk with rfl|rfl|rfl|rfl<;>simp [fmQ,Fm.kind]
 clear ih p1 p2 sT hf wf hg hn hb zf;rcases cX8 with hk|hk|hk|hk|hk|hk|hk
 ·clear ax7 cL7
  refine en_ Tryz.func83 [.tmp 4] fun g0 w0 gen b7 hfr c6 m0=>?_
  repeat' (first
   | (first|refine wp rfl ?_|refine spt rfl ?_|refine spf rfl ?_|(refine spl (fun hc=>?_) fun hc=>?_)<;>(try rw [beq_iff_eq] at hc)<;>try simp only [hc])<;>try simp only [go_sem, *])
  refine ar_ [0,42] [] (fun i σ=>g9 h σ.h∧True) (f.r8).length ?_ ?_ ?_
  ·simp only [go_sem, *]
   exact ag_
  ·
   intro i σ gr1 M8 hgn hlt jI jN jS ⟨jA,_⟩;obtain ⟨jT,jB⟩:=jS;simp only [go_sem] at jT jB;obtain ⟨hgf,m6,G2,G8⟩:=rnd hgn M8 jA;obtain ⟨x,hx,hxm,hm⟩:=rnx hlt;clear hgn;have h1:=aR6 x hxm;clear aR6
   repeat' (first
    | (first|refine wp rfl ?_|refine spt rfl ?_|refine spf rfl ?_|(refine spl (fun hc=>?_) fun hc=>?_)<;>(try rw [beq_iff_eq] at hc)<;>try simp only [hc]|refine cp h1 ?_|refine u7 ?_)<;>try simp only [go_sem, *])
   all_goals exact (by repeat (first|exact jA|refine g9.new ?_ (m6 _ _)))
  ·clear aR6
   intro σ ga1 M7 hgn jS ⟨jA,_⟩;obtain ⟨jT,jB⟩:=jS;simp only [go_sem] at jT jB;obtain ⟨hgf,m6,G3,G4⟩:=rnd hgn M7 jA;clear hgn
   repeat' (first
    |exact hin _|exact agf as_
    | (first|refine wp rfl ?_|refine spt rfl ?_|refine spf rfl ?_|(refine spl (fun hc=>?_) fun hc=>?_)<;>(try rw [beq_iff_eq] at hc)<;>try simp only [hc]|refine A9 b7 ?_ ?_ ?_)<;>try simp only [go_sem, *])
 all_goals
  rw [hk] at ax7;clear aR6;simp only [Z3,Int.reduceBEq,Bool.or_true,Bool.true_or,Bool.or_self,Bool.or_false,Bool.false_or,if_true,if_false,Bool.false_eq_true] at ax7;refine en_ Tryz.func83 [.tmp 4] fun g0 w0 gen b7 hfr c6 m0=>?_
  repeat' (first
   | (first|refine wp rfl ?_|refine spt rfl ?_|refine spf rfl ?_|(refine spl (fun hc=>?_) fun hc=>?_)<;>(try rw [beq_iff_eq] at hc)<;>try simp only [hc]|refine cp cL7 ?_)<;>try simp only [go_sem, *])
  refine ar_ [0,3,28] [⟨gen,0,0⟩] (fun i σ=>g9 h σ.h∧True) (f.args).length ?_ ?_ ?_
  ·simp only [go_sem, *]
   exact ag_
  ·
   intro i σ gr0 l6 hgn hlt jI jN jS ⟨jA,_⟩;obtain ⟨jT,jB⟩:=jS;simp only [go_sem] at jT jB;obtain ⟨hgf,m6,n7,n8⟩:=rnd hgn l6 jA;obtain ⟨x,hx,hxm,hm⟩:=rnx hlt;clear hgn;have h1:=ax7 x hxm;clear ax7
   repeat' (first
    | (first|refine wp rfl ?_|refine spt rfl ?_|refine spf rfl ?_|(refine spl (fun hc=>?_) fun hc=>?_)<;>(try rw [beq_iff_eq] at hc)<;>try simp only [hc]|refine cp h1 ?_|refine u7 ?_)<;>try simp only [go_sem, *])
   all_goals exact (by repeat (first|exact jA|refine g9.new ?_ (m6 _ _)))
  ·clear ax7
   intro σ ga0 l9 hgn jS ⟨jA,_⟩;obtain ⟨jT,jB⟩:=jS;simp only [go_sem] at jT jB;obtain ⟨hgf,m6,n9,o0⟩:=rnd hgn l9 jA;clear hgn
   repeat' (first
    |exact hin _|exact agf as_
    | (first|refine wp rfl ?_|refine spt rfl ?_|refine spf rfl ?_|(refine spl (fun hc=>?_) fun hc=>?_)<;>(try rw [beq_iff_eq] at hc)<;>try simp only [hc]|refine A9 b7 ?_ ?_ ?_)<;>try simp only [go_sem, *])
theorem ao9 (g:List Ty) (hg:∀ y∈g,TyG y) (hl:g.length≤16) (f:Fm) (hf:ak3 TyG g f) (he:P5 f=0) (zf:z6 f≤4096) (wf:FmW f) :
  Pure Tryz.prog env 50 [.sl .any (g.map Ty.cells),.agg f.cells] (.int .i64 0):=by
 intro h;have h1:=ax3 g hg hl;have h2:=am5 f wf;rw [he] at h2;have h3:=aO5 g (fun y hy=>(hg y hy).1.W) om_;have h4:=bl3 _ f g (Nat.le_refl _) hf zf wf (fun y hy=>(hg y hy).1.W) om_;have n0:((0:Int) != 0)=false:=rfl;clear hg hl hf he zf wf;exact ek_ Tryz.func50 [.tmp 4]
theorem bd8 (t:Tm) (s:Ty) (h:w7 TyG [] t s) (ht:TmW t) (he:Z2 t=0) (hb:m7 t≤1000000) :
  Pure Tryz.prog env 261 [.sl .any [],.agg t.cells] (.tup [.agg s.cells,.int .i64 0]):=by
 have ws:TyW s:=(h.W sp_ ht).1;intro hh;have h1:=ax3 [] sp_ sp_;have h2:=bn5 t ht;rw [he] at h2;have h3:=aO5 [] sp_ sp_;have h4:=bB2 h sp_ ht (by simpa using hb);have h5:=ah8 s ws;have n0:((0:Int) != 0)=false:=rfl;simp only [List.map_nil] at h1 h3 h4;rw [Q2 s] at h5;have ec:=Q2 s;clear h ht he hb ws;generalize s.cells=sc at *;subst ec;unfold szC at h4;exact ek_ Tryz.func261 [.cell 4 27,.tmp 5]
end Go.Proofs.YteaijonkbbkkjaaGreatDoor
