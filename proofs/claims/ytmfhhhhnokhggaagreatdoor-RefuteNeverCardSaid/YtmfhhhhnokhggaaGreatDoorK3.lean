/-
 Walks: several parts in one text.
-/
import Derived.Test.YtmfhhhhnokhggaaGreatDoorK0
import Derived.Test.YtmfhhhhnokhggaaGreatDoorAbsDe
import Derived.Maps.RangeWalk
import Derived.Maps.AppendAt
import Derived.OwnWalk
import Derived.Deep.RegionWith
import Derived.Deep.Cut
import Derived.Deep.Onto
set_option linter.unusedSimpArgs false
set_option linter.unusedVariables false
set_option maxRecDepth 20000
set_option maxHeartbeats 4000000
namespace Go.Proofs.YtmfhhhhnokhggaaGreatDoor
open Go GoAbs Go.Proofs Go.RowKit Go.Maps
theorem ec0:Tryz.prog.underlying 221=some (.map 3 4):=by kernel_rfl
theorem u_3:Tryz.prog.underlying 3=some (.int .i64):=by kernel_rfl
theorem u_4:Tryz.prog.underlying 4=some .bool:=by kernel_rfl
theorem ei6:Tryz.prog.underlying 22=some (.slice 3):=by kernel_rfl
theorem i_3:(Tryz.prog.info? 3).map (fun i=>(i.zero,i.size,i.bytes))=some (some (.int .i64 0),1,8):=by kernel_rfl
theorem dE6:Keyed Tryz.prog 3:=int_keyed u_3
theorem ea2:Tryz.f182.ntmps=44:=by kernel_rfl
theorem dg9 {w:World} {base:Nat} {e:TypeId} {size:Nat} {v:Value} {n:Nat} {xs:List Value} (h:w.ownsRow base e size v n xs):∃ a c,v=.slice a n c:=by
 rcases h.2 with ⟨rfl,rfl⟩|⟨g,cap,_,rfl,_⟩
 ·exact ⟨_,_,rfl⟩
 ·exact ⟨_,_,rfl⟩
theorem or_some {w:World} {base:Nat} {e:TypeId} {size:Nat} {v:Value} {n:Nat} {xs:List Value} (h:w.ownsRow base e size v n xs) (hn:0<n):∃ g c,v=.slice (some ⟨g,0,none⟩) n c/\base<=g/\g<w.heap.size:=by
 rcases h.2 with ⟨_,rfl⟩|⟨g,cap,cur,rfl,hb,hh,_⟩
 ·omega
 ·refine ⟨g,cap,rfl,hb,?_⟩
  rcases R0 g w.heap.size with h'|h'
  ·exact h'
  ·simp [Array.getElem?_eq_none h'] at hh
theorem dw2 (es:List Int) (k:Nat) (hk:k<=es.length) (z u:Int):((es.take k++z::es.drop k).map (Value.int .i64)).set k (.int .i64 u)=(es.take k++u::es.drop k).map (Value.int .i64):=by
 rw [<- List.map_set,List.set_append_right _ _ (by rw [ae6];omega)];simp [ae6,aZ0 hk]
theorem df0 (es:List Int) (m:Nat) {y:Int} (hy:es[m]? = some y):es.take (m+1)++y::es.drop (m+1)=es.take m++y::es.drop m:=by
 have hm:m<es.length:=(F2.1 hy).1;have hym:es[m]=y:=(F2.1 hy).2;have h1:es.drop m=y::es.drop (m+1):=by rw [bN1 hm,hym]
 have h2:es.take (m+1)=es.take m++[y]:=by rw [bC8,hy];rfl
 rw [h1,h2];simp
set_option maxRecDepth 100000 in
set_option maxHeartbeats 4000000 in
theorem dz6 (b n:Nat) (D0:DataW Unit) (w:World) (hown:w.ownsMap Tryz.prog 3 (plainElem (H:=Unit) Tryz.prog 4) b n D0) (l:List Int) (hl:l.length<=1000000) (hD:∀ x:Int,Maps.has D0 (.int .i64 x)=true↔x∈l) (hs:l.Pairwise (·<·)) :
  Calls Tryz.prog 182 #[.map (some b)] w fun e w'=>∃ v,e=.returned v/\w'.ownsRow w.heap.size 3 1 v l.length (l.map (Value.int .i64))/\Below w.heap.size w w':=by
 obtain ⟨i0,hi,hz0,hz1,hz2⟩:=info_parts i_3;have hbl:=hown.lt
 go_enter Tryz.func182,ea2
 go_wp2_with (first
  | (at_range;refine wpList_range_own _ rfl _ 221 rfl 3 4 dE6 ec0 _ b n D0 rfl hown ?_;intro w0 hrg0 hg0 hs0)
  | go_in)
 go_frame
 go_loopw [3] (fun v wr=>∃ (left:Lit->Bool) (cnt:Nat) (es:List Int),wr.ranges Tryz.prog 3 (plainElem (H:=Unit) Tryz.prog 4) b w.heap.size n D0 left cnt /\
   wr.ownsRow (w.heap.size+1) 3 1 v es.length (es.map (Value.int .i64))/\es.Pairwise (·<·)/\(∀ x,x∈es↔x∈l/\left (.int .i64 x)=false)/\Below w.heap.size w wr)
  (fun _ wr=>wr.rangeLeft b w.heap.size)
 case atStart =>
  exact ⟨_,_,[],hrg0,World.ownsRow_nil _ _ _ _,List.Pairwise.nil,fun x=>by
   simp only [K0,false_iff,not_and,Bool.not_eq_false];exact fun hx=>(hD x).2 hx,(Below.refl _ _).grown hg0 (w7 _) (fun j hj=>by cases hj)⟩
 case round =>
  obtain ⟨left,cnt,es,hrg,hrow,hes,hm,hB⟩:=hrel;obtain ⟨a,c,rfl⟩:=dg9 hrow;have hel:es.length<=l.length:=bc5 es l (hes.imp fun h=>Int.ne_of_lt h) fun x hx=>((hm x).1 hx).1
  go_wp2_with (first
   | (at_next;refine wpList_next_ranges _ rfl _ rfl 3 dE6 (plainElem (H:=Unit) Tryz.prog 4) (Value.int .i64) (fun v:Value=>v) (fun key kl hk=>by obtain ⟨x,hx,_⟩:=Maps.keyOf_int_inv u_3 hk;exact ⟨x,hx⟩) (fun v y hv=>⟨v,rfl⟩) b w.heap.size n _ _ _ rfl hrg ?_ ?_)
   | go_in)
  ·intro hc0 hl0
   go_wp2
   go_ret
   have e:es=l:=List.Perm.eq_of_pairwise (le:=(·<·)) (fun a b _ _ h1 h2=>by omega) hes hs ((List.perm_ext_iff_of_nodup (hes.imp fun h=>Int.ne_of_lt h) (hs.imp fun h=>Int.ne_of_lt h)).2 fun t=>by rw [hm t,hl0];simp);subst e;exact ⟨_,rfl,hrow.mono a_,hB⟩
  ·intro x c0 kl y yp w1 cnt1 hk hlx hv hat hrg1 hlt hg1 hs1 hen
   obtain ⟨x',ex,rfl,hwx⟩:=Maps.keyOf_int_inv u_3 hk;cases ex;have hrow1:=hrow.kept hg1 (by
    rcases hrow.2 with ⟨h1,_⟩|⟨g,cap,cur,h1,h2,_⟩
    ·rw [h1];exact .inl rfl
    ·rw [h1];right;simp [Value.ownBlock];omega)
   have hsz:=hB.size;replace hs1:=hs1.symm
   go_wp2_with (first
    | (at_builtin;refine wpList_append_own _ rfl _ _ 22 rfl (w.heap.size+1) 3 i0 (.int .i64 0) 1 8 ei6 hi hz0 hz1 hz2 rfl (by decide) _ _ _ rfl (hrow1.alloc _) ⟨w1.heap.size,0,none⟩ 1 1 [.int .i64 x] rfl rfl (cell_one_new _ _ _) (ints_oneCell .i64 [x]) (by unfold maxLen;omega) a_ (by simp;omega) ?_;intro v' w2 hown' hgrow2 hnil2;go_frame)
    | go_in)
   have hrg2:=(hrg1.alloc (.cells #[.int .i64 x] 3)).kept hgrow2 (fun e=>by
     have h7:=hrow1.lt b (by simpa [Act.eval] using e.symm);omega) (fun e=>by
     have h7:=hrow1.lt w.heap.size (by simpa [Act.eval] using e.symm);omega)
   obtain ⟨gk,ck,rfl,hgb,hgl⟩:=or_some hown' a_;have hB2:Below w.heap.size w w2:=((hB.grown hg1 a_ (fun j hj=>by cases hj;omega)).alloc a_ _).grown hgrow2 (by simp;omega) (fun j hj=>by
    have h7:=hrow1.lt j (by simpa [Act.eval] using hj);omega)
   have hx1:x∈l:=(hD x).1 (Maps.has_true_of_atKey hat);have hx2:x ∉ es:=fun h=>by have:=((hm x).1 h).2;rw [hlx] at this;cases this
   go_loopw [5] (fun i wr=>∃ (k:Nat) (z:Int),i=.int .i64 k/\k<=es.length/\wr.ownsRow (w.heap.size+1) 3 1 (.slice (some ⟨gk,0,none⟩) (es.length+1) ck) (es.length+1) ((es.take k++z::es.drop k).map (Value.int .i64)) /\
     (∀ y∈es.drop k,x<y)/\wr.ranges Tryz.prog 3 (plainElem (H:=Unit) Tryz.prog 4) b w.heap.size n D0 (fun z=>left z&&!z.sameKey (.int .i64 x)) cnt1/\Below w.heap.size w wr)
    (fun i _=>(intOf i).toNat)
   case atStart =>
    exact ⟨es.length,x,rfl,w7 _,by simpa using hown',b_,hrg2,hB2⟩
   case round =>
    obtain ⟨k,z,rfl,hk1,hrow3,hgt,hrg3,hB3⟩:=hrel;have hrow4:=fun (xs:List Int) (u:Int) (e:(((es.take k++z::es.drop k).map (Value.int .i64)).set k (.int .i64 u))=xs.map (Value.int .i64))=>e ▸ (hrow3.stored k (.int .i64 u)).1;have hg4:=fun u:Int=>(hrow3.stored k (.int .i64 u)).2;have hfz:=hrow3.frozenAt k;have hfin:(∀ y∈es.take k,y<x)->((es.take k++x::es.drop k).Pairwise (·<·)):=fun hlow=>by
     refine bN3.2 ⟨hes.sublist (List.take_sublist _ _),bC7.2 ⟨hgt,hes.sublist (List.drop_sublist _ _)⟩,fun a ha b hb=>?_⟩;rcases D9.1 hb with rfl|hb
     ·exact hlow a ha
     ·have:=hlow a ha;have:=hgt b hb;omega
    have p8:=dw2 es k hk1 z;have hck:wr.cell? ⟨gk,k,none⟩=some (.int .i64 z):=by
     rw [hrow3.cellAt k a_,U0,aA1 (by rw [ao2,ae6];omega),ao2,ae6,aZ0 hk1,Nat.sub_self]
     rfl
    have tail:∀ {W:World},W=wr.setCell ⟨gk,k,none⟩ (.int .i64 x)->(∀ y∈es.take k,y<x)->(∃ (left:Lit->Bool) (cnt:Nat) (es1:List Int),W.ranges Tryz.prog 3 (plainElem (H:=Unit) Tryz.prog 4) b w.heap.size n D0 left cnt /\
      W.ownsRow (w.heap.size+1) 3 1 (.slice (some ⟨gk,0,none⟩) (es.length+1) ck) es1.length (es1.map (Value.int .i64))/\es1.Pairwise (·<·)/\(∀ x,x∈es1↔x∈l/\left (.int .i64 x)=false)/\Below w.heap.size w W)/\cnt1=W.rangeLeft b w.heap.size:=by
     rintro W rfl hlow;have hrg4:=hrg3.kept (hg4 x) (fun e=>by have:=Option.some.inj e;omega) (fun e=>by have:=Option.some.inj e;omega);refine ⟨⟨_,cnt1,es.take k++x::es.drop k,hrg4,?_,hfin hlow,fun t=>?_,hB3.grown (hg4 x) hB3.size (fun j hj=>by cases hj;omega)⟩,hrg4.left_eq.symm⟩
     ·have e1:(es.take k++x::es.drop k).length=es.length+1:=by simp [ae6];omega
      rw [e1];exact hrow4 _ x (p8 x)
     ·have e2:t∈es.take k++x::es.drop k↔t=x\/t∈es:=by
       rw [Q8,D9]
       conv=>rhs;rw [<- cw6 k es,Q8]
       constructor
       ·rintro (h|h|h)
        ·exact .inr (.inl h)
        ·exact .inl h
        ·exact .inr (.inr h)
       ·rintro (h|h|h)
        ·exact .inr (.inl h)
        ·exact .inl h
        ·exact .inr (.inr h)
      rw [e2,hm t];by_cases htx:t=x
      ·subst htx;simp [hx1,Lit.sameKey]
      ·simp [htx,Lit.sameKey,Ne.symm htx]
    clear hrow1 hrow hown' hgrow2 hnil2 hgl hB2 hrg2 hrg1 hg1 hen hwx hk hat hs1;rcases R0 0 k with hk0|hk0
    ·obtain ⟨m,rfl⟩:∃ m,k=m+1:=⟨k - 1,a_⟩
     obtain ⟨y,hy⟩:∃ y,es[m]? = some y:=⟨es[m],W4 a_⟩;have hcy:wr.cell? ⟨gk,m,none⟩=some (.int .i64 y):=by
      rw [hrow3.cellAt m a_,U0,aA2 (by rw [ao2,ae6];omega),ah6,be2,B8 a_,hy]
      rfl
     by_cases hyx:y>x
     ·go_wp2
      refine ⟨⟨m,y,rfl,a_,hrow4 _ y (by rw [p8 y,df0 es m hy]),fun t ht=>?_,hrg3.kept (hg4 y) (fun e=>by have:=Option.some.inj e;omega) (fun e=>by have:=Option.some.inj e;omega),hB3.grown (hg4 y) hB3.size (fun j hj=>by cases hj;omega)⟩,by simp [intOf]<;>omega⟩;have hm':m<es.length:=(F2.1 hy).1;rw [bN1 hm',(F2.1 hy).2] at ht;rcases D9.1 ht with rfl|ht
      ·exact hyx
      ·exact hgt t ht
     ·go_wp2
      obtain ⟨q1,q2⟩:=tail rfl (fun t ht=>by
       have hym:y<x:=by
        have:y≠x:=by rintro rfl;exact hx2 (Q7 hy)
        omega
       rw [bC8,hy] at ht;rcases Q8.1 ht with ht|ht
       ·have hm':m<es.length:=(F2.1 hy).1
        have:=(bN3.1 ((cw6 m es).symm ▸ hes)).2.2 t ht y (by rw [bN1 hm',(F2.1 hy).2];simp);omega
       ·simp at ht;omega)
      exact ⟨q1,by rw [<- q2,hrg.left_eq];exact hlt⟩
    ·go_wp2
     obtain ⟨q1,q2⟩:=tail rfl (fun t ht=>by rw [show k=0 by omega] at ht;simp at ht);exact ⟨q1,by rw [<- q2,hrg.left_eq];exact hlt⟩
theorem dc6 (t:Ty) (n m:Int):formed 1 t n m=(Z1 t&&n==2&&m==0):=rfl
variable {k:Int}
theorem cL5 (hk:k=2\/k=3) (t:Ty) (n m:Int):formed k t n m=(Z1 t&&n==0&&m==2):=by rcases hk with rfl|rfl<;>rfl
theorem cg2 (h:X8 k=true):k=4\/k=5\/k=6\/k=7:=by simpa [X8,or_assoc] using h
theorem dc7 (hk:X8 k=true) (t:Ty) (n m:Int):formed k t n m=(ae5 t==0&&n==0&&m==1):=by
 rcases cg2 hk with rfl|rfl|rfl|rfl<;>rfl
theorem cL6 (h1:(k==1)=false) (h2:(k==2)=false) (h3:(k==3)=false) (hk:X8 k=false) (t:Ty) (n m:Int):formed k t n m=false:=by
 simp only [X8,bo5] at hk;simp [formed,ap7,h1,h2,h3,hk]
theorem bH0:∀ t:Fm,FmW t->c_ env 129 [.agg t.cells] (.bool t.J4):=by
 intro t
 induction t using Fm.ind with|h t ih=>?_
 intro ht h;have ih':∀ x∈t.args,c_ env 129 [.agg x.cells] (.bool x.J4):=fun x hx=>ih x hx (ht.arg hx);clear ih;have hv0:=t.aq6.symm;have hZ:=bf4 t.type;have hQ:=bq2 t.kind;have hC:=ab0 t.type ht.ty;have hT:=fun x hx=>bf7 x (ht.term (x:=x) hx);generalize hvv:t.J4=v at hv0 ⊢;clear hvv ht;cases k1:(t.kind==1) with
 | true =>
  have hk:t.kind=1:=by simpa using k1
  rw [hk,dc6] at hv0;clear k1;cases b1:((t.args.length:Int)==0) with
  | false =>
   simp only [b1,J6,aG6] at hv0;clear ih' hT;subst hv0;exact d_ Tryz.func129 [.tmp 2]
  | true =>
  cases b2:Z1 t.type with
  | false =>
   simp only [b2,J6,aG6] at hv0;clear ih' hT;subst hv0;exact d_ Tryz.func129 [.tmp 2]
  | true =>
  rw [b2] at hZ;cases b3:((t.a7.length:Int)==2) with
  | false =>
   simp only [b3,J6,aG6] at hv0;clear ih' hT;subst hv0;exact d_ Tryz.func129 [.tmp 2]
  | true =>
  obtain ⟨x,y,hxy⟩:=cO0 (show t.a7.length=2 by have:=b3;simp at this;omega);have ha0:t.args=[]:=aR1.1 (by simpa using b1);have h1:=hT x (by rw [hxy];simp);have h2:=hT y (by rw [hxy];simp);clear hT ih' b1 b3;simp only [b2,hxy,ha0,J1,S0,aQ7,aQ9,bj5] at hv0;simp only [show (((0+1+1:Nat):Int)==2)=true from rfl,show (((0:Nat):Int)==0)=true from rfl,J7] at hv0;cases b4:x.J4 with
  | false =>
   rw [b4,J6] at hv0;rw [b4] at h1;subst hv0;exact d_ Tryz.func129 [.tmp 2]
  | true =>
   rw [b4,J7] at hv0;rw [b4] at h1;subst hv0;refine g_ Tryz.func129 [.tmp 2] fun g0 w0 gen g9 hfr e9 n8=>?_
   repeat' (first
    |exact hin _|exact agf l_
    | (first|refine wp rfl ?_|refine spt rfl ?_|refine spf rfl ?_|(refine spl (fun hc=>?_) fun hc=>?_)<;>(try rw [L1] at hc)<;>try simp only [hc]|(refine gs (fun hb=>?_) fun hb=>?_)<;>try simp only [E7,M9] at hb|refine cp hZ ?_|refine cp hC ?_|refine cp hQ ?_|refine cp h1 ?_|refine cp h2 ?_|refine Y7 g9 ?_ ?_ ?_)<;>try simp only [go_sem, *])
   all_goals (simp_all;done)
 | false =>
 cases k23:(t.kind==2||t.kind==3) with
 | true =>
  have hk:t.kind=2\/t.kind=3:=by simpa using k23
  rw [cL5 hk] at hv0;clear k23;rcases hk with hk|hk
  all_goals
   clear k1;cases b1:((t.a7.length:Int)==0) with
   | false =>
    simp only [b1,J6,aG6] at hv0;clear ih' hT;subst hv0;exact d_ Tryz.func129 [.tmp 2]
   | true =>
   cases b2:Z1 t.type with
   | false =>
    simp only [b2,J6,aG6] at hv0;clear ih' hT;subst hv0;exact d_ Tryz.func129 [.tmp 2]
   | true =>
   rw [b2] at hZ;cases b3:((t.args.length:Int)==2) with
   | false =>
    simp only [b3,J6,aG6] at hv0;clear ih' hT;subst hv0;exact d_ Tryz.func129 [.tmp 2]
   | true =>
   obtain ⟨x,y,hxy⟩:=cO0 (show t.args.length=2 by have:=b3;simp at this;omega);have ha0:t.a7=[]:=aR1.1 (by simpa using b1);have h1:=ih' x (by rw [hxy];simp);have h2:=ih' y (by rw [hxy];simp);clear hT ih' b1 b3;simp only [b2,hxy,ha0,J1,S0,aQ7,aQ9,bj5] at hv0;simp only [show (((0+1+1:Nat):Int)==2)=true from rfl,show (((0:Nat):Int)==0)=true from rfl,J7] at hv0;cases b4:x.J4 with
   | false =>
    rw [b4,J6] at hv0;rw [b4] at h1;subst hv0;exact d_ Tryz.func129 [.tmp 2]
   | true =>
    rw [b4,J7] at hv0;rw [b4] at h1;subst hv0;refine g_ Tryz.func129 [.tmp 2] fun g0 w0 gen g9 hfr e9 n8=>?_
    repeat' (first
     |exact hin _|exact agf l_
     | (first|refine wp rfl ?_|refine spt rfl ?_|refine spf rfl ?_|(refine spl (fun hc=>?_) fun hc=>?_)<;>(try rw [L1] at hc)<;>try simp only [hc]|(refine gs (fun hb=>?_) fun hb=>?_)<;>try simp only [E7,M9] at hb|refine cp hZ ?_|refine cp hC ?_|refine cp hQ ?_|refine cp h1 ?_|refine cp h2 ?_|refine Y7 g9 ?_ ?_ ?_)<;>try simp only [go_sem, *])
    all_goals (simp_all;done)
 | false =>
 have k2:(t.kind==2)=false:=by cases h2:(t.kind==2)<;>simp_all
 have k3:(t.kind==3)=false:=by cases h3:(t.kind==3)<;>simp_all
 clear k23;cases kq:X8 t.kind with
 | true =>
  rw [dc7 kq] at hv0;cases b1:((t.a7.length:Int)==0) with
  | false =>
   simp only [b1,J6,aG6] at hv0;clear ih' hT;subst hv0;exact d_ Tryz.func129 [.tmp 2]
  | true =>
  cases b2:(ae5 t.type==0) with
  | false =>
   simp only [b2,J6,aG6] at hv0;clear ih' hT;subst hv0;exact d_ Tryz.func129 [.tmp 2]
  | true =>
  cases b3:((t.args.length:Int)==1) with
  | false =>
   simp only [b3,J6,aG6] at hv0;clear ih' hT;subst hv0;exact d_ Tryz.func129 [.tmp 2]
  | true =>
  obtain ⟨x,hxy⟩:=dx4 (show t.args.length=1 by have:=b3;simp at this;omega);have ha0:t.a7=[]:=aR1.1 (by simpa using b1);have h1:=ih' x (by rw [hxy];simp);clear hT ih' b1 b3;simp only [b2,hxy,ha0,J1,S0,aQ7,aQ9,bj5] at hv0;simp only [show (((0+1:Nat):Int)==1)=true from rfl,show (((0:Nat):Int)==0)=true from rfl,J7] at hv0;subst hv0;refine g_ Tryz.func129 [.tmp 2] fun g0 w0 gen g9 hfr e9 n8=>?_
  repeat' (first
   |exact hin _|exact agf l_
   | (first|refine wp rfl ?_|refine spt rfl ?_|refine spf rfl ?_|(refine spl (fun hc=>?_) fun hc=>?_)<;>(try rw [L1] at hc)<;>try simp only [hc]|(refine gs (fun hb=>?_) fun hb=>?_)<;>try simp only [E7,M9] at hb|refine cp hZ ?_|refine cp hC ?_|refine cp hQ ?_|refine cp h1 ?_|refine Y7 g9 ?_ ?_ ?_)<;>try simp only [go_sem, *])
  all_goals (simp_all;done)
 | false =>
  rw [cL6 k1 k2 k3 kq,J6,J6] at hv0;clear ih' hT;subst hv0;exact d_ Tryz.func129 [.tmp 2]
theorem aa9 (t:Fm) (ht:FmW t):c_ env 88 [.agg t.cells] (.int .i64 (Q0 t)):=by
 intro h;have h1:=bH0 t ht;have h2:=aS2 t ht;have hsz:=t.aa2;have hv0:(chk 4096 t.nodes).2=Q0 t:=rfl;generalize hvv:Q0 t=v at hv0 ⊢;clear hvv;unfold Fm.J4 at h1;cases hn:t.nodes with
 | none =>
  rw [hn] at h1 hv0;simp only [chk,bV4] at h1 hv0;subst hv0;clear h2 hsz;exact d_ Tryz.func88 [.tmp 2]
 | some n =>
  rw [hsz n hn] at h2;rw [hn] at h1 hv0;simp only [chk,bV3] at h1 hv0;clear hsz hn;cases hd:decide (n>4096) with
  | true =>
   have:4096<n:=by simpa using hd
   rw [B8 this] at hv0;subst hv0;exact d_ Tryz.func88 [.tmp 2]
  | false =>
   have:¬ 4096<n:=by simpa using hd
   rw [y9 this] at hv0;subst hv0;exact d_ Tryz.func88 [.tmp 2]
theorem aD9 (t:Tm):c_ env 121 [.agg t.cells] (.int .i64 (m9 t.kind)):=by
 intro h;unfold m9;cases hk:(t.kind==2) with
 | true =>
  refine g_ Tryz.func121 [.tmp 2] fun g0 w0 gen g9 hfr e9 n8=>?_
  first|refine e_ ?_|exact i_
  all_goals simp
 | false =>
  refine g_ Tryz.func121 [.tmp 2] fun g0 w0 gen g9 hfr e9 n8=>?_
  first|refine e_ ?_|exact i_
  all_goals simp
theorem aS1 (t:Fm):c_ env 83 [.agg t.cells] (.int .i64 (u9 t.kind)):=by
 intro h;have hq:=bq2 t.kind;unfold u9;cases hk:X8 t.kind with
 | true =>
  rw [hk] at hq;refine g_ Tryz.func83 [.tmp 2] fun g0 w0 gen g9 hfr e9 n8=>?_
  first|refine e_ ?_|exact i_
  all_goals simp
 | false =>
  rw [hk] at hq;refine g_ Tryz.func83 [.tmp 2] fun g0 w0 gen g9 hfr e9 n8=>?_
  first|refine e_ ?_|exact i_
  all_goals simp
theorem bf6 (m:Int):∀ t:Tm,TmW t->c_ env 230 [.agg t.cells,.int .i64 m] (.bool (t.least m)):=by
 intro t
 induction t using Tm.ind with|h t ih=>?_
 intro ht h;have hlen:=ht.len;have ih':∀ x∈t.args,c_ env 230 [.agg x.cells,.int .i64 m] (.bool (x.least m)):=fun x hx=>ih x hx (ht.arg hx);clear ih;have hv0:=(t.I6 m).symm;generalize hvv:t.least m=v at hv0 ⊢;clear hvv;cases hi:decide (t.index>m) with
 | true =>
  have:decide (t.index<=m)=false:=by simp at hi ⊢;omega
  rw [this,J6] at hv0;subst hv0;clear ih';exact d_ Tryz.func230 [.tmp 4]
 | false =>
 have:decide (t.index<=m)=true:=by simp at hi ⊢;omega
 rw [this,J7] at hv0;clear this;refine g_ Tryz.func230 [.tmp 4] fun g0 w0 gen g9 hfr e9 n8=>?_;refine e_ ?_;refine k_ [1,12] [] (fun i σ=>Tm.L4 m (t.args.drop i)=v) (t.args) ?_ ?_ ?_
 ·simp only [go_sem, *]
  first|exact f_|exact ⟨f_,hv0⟩
 ·clear hv0 hi
  intro i x σ gr0 o5 hgf l6 l9 m6 hx hxm hm hlt jI jN jT jA jv;rw [s9 hx,Tm.G1] at jv;have hc:=ih' x hxm;clear ih';cases hn:x.least m with
  | false =>
   rw [hn] at hc;rw [hn,J6] at jv;subst jv;exact i_
  | true =>
   rw [hn] at hc;rw [hn,J7] at jv;refine e_ ?_
   first|exact f_|exact ⟨f_,jv⟩
 ·clear hv0 hi
  intro σ ga0 q9 hgf l6 l8 m5 jT jA jv;rw [y6,Tm.D5] at jv;subst jv;clear ih';exact i_
theorem bH5:∀ t:Tm,TmW t->∀ at':Int,c_ env 241 [.agg t.cells,.int .i64 at'] (.int .i64 (t.times at')):=by
 intro t
 induction t using Tm.ind with|h t ih=>?_
 intro ht at' h;have hlen:=ht.len;have ih':∀ x∈t.args,c_ env 241 [.agg x.cells,.int .i64 (o9 at' (m9 t.kind))] (.int .i64 (x.times (o9 at' (m9 t.kind)))):=fun x hx=>ih x hx (ht.arg hx) _;clear ih;have hB:=aD9 t;have hv0:=(t.bA6 at').symm;generalize hvv:t.times at'=v at hv0 ⊢;clear hvv;have hw:IntKind.i64.wrap (at'+m9 t.kind)=o9 at' (m9 t.kind):=rfl;generalize o9 at' (m9 t.kind)=a2 at *;have hw1:IntKind.i64.wrap (0+1)=o9 0 1:=rfl;cases hk:(t.kind==1&&t.index==at') with
 | true =>
  have hk1:(t.kind==1)=true:=by cases h1:(t.kind==1)<;>simp_all
  have hk2:(t.index==at')=true:=by cases h1:(t.index==at')<;>simp_all
  rw [hk] at hv0;simp only [p7] at hv0;generalize o9 0 1=n0 at *;clear hk;refine g_ Tryz.func241 [.tmp 4] fun g0 w0 gen g9 hfr e9 n8=>?_;refine e_ ?_;refine k_ [1,2,4,20] [⟨gen,0,0⟩] (fun i σ=>∃ n,σ.tm 5=.int .i64 n/\Tm.T4 a2 n (t.args.drop i)=v) (t.args) ?_ ?_ ?_
  ·simp only [go_sem, *]
   first|exact ⟨_,rfl,hv0⟩|exact ⟨f_,_,rfl,hv0⟩
  ·clear hv0
   intro i x σ gr0 o5 hgf l6 l9 m6 hx hxm hm hlt jI jN jT jA ⟨n,jn,jv⟩;rw [s9 hx,Tm.Y1] at jv;have hc:=ih' x hxm;have hw2:IntKind.i64.wrap (n+x.times a2)=o9 n (x.times a2):=rfl;clear ih';refine e_ ?_
   first|exact ⟨_,rfl,jv⟩|exact ⟨f_,_,rfl,jv⟩
  ·clear hv0
   intro σ ga0 q9 hgf l6 l8 m5 jT jA ⟨n,jn,jv⟩;rw [y6,Tm.V3] at jv;subst jv;clear ih';exact i_
 | false =>
  rw [hk] at hv0;simp only [B2,r6] at hv0;have hkk:((t.kind==1)=true/\(t.index==at')=false)\/(t.kind==1)=false:=by cases h1:(t.kind==1)<;>cases h2:(t.index==at')<;>simp_all
  clear hk hw1;rcases hkk with ⟨hk1,hk2⟩|hk1
  all_goals
   refine g_ Tryz.func241 [.tmp 4] fun g0 w0 gen g9 hfr e9 n8=>?_;refine e_ ?_;refine k_ [1,2,4,20] [⟨gen,0,0⟩] (fun i σ=>∃ n,σ.tm 5=.int .i64 n/\Tm.T4 a2 n (t.args.drop i)=v) (t.args) ?_ ?_ ?_
   ·simp only [go_sem, *]
    first|exact ⟨_,rfl,hv0⟩|exact ⟨f_,_,rfl,hv0⟩
   ·clear hv0
    intro i x σ gr0 o5 hgf l6 l9 m6 hx hxm hm hlt jI jN jT jA ⟨n,jn,jv⟩;rw [s9 hx,Tm.Y1] at jv;have hc:=ih' x hxm;have hw2:IntKind.i64.wrap (n+x.times a2)=o9 n (x.times a2):=rfl;clear ih';refine e_ ?_
    first|exact ⟨_,rfl,jv⟩|exact ⟨f_,_,rfl,jv⟩
   ·clear hv0
    intro σ ga0 q9 hgf l6 l8 m5 jT jA ⟨n,jn,jv⟩;rw [y6,Tm.V3] at jv;subst jv;clear ih';exact i_
theorem dQ0 {b:Int}:∀ (t:Tm) (fr:Int),TmW t->TmW (t.up b fr):=by
 intro t
 induction t using Tm.ind with|h t ih=>?_
 intro fr ht;rw [Tm.aL5];refine .mk _ _ _ _ ht.ty (by rw [ao2];exact ht.len) ?_;intro x hx;obtain ⟨y,hy,rfl⟩:=G5.1 hx;exact ih y hy _ (ht.arg hy)
theorem cn0 (b:Int):∀ t:Tm,TmW t->∀ fr:Int,c_ env 82 [.agg t.cells,.int .i64 fr,.int .i64 b] (.agg (t.up b fr).cells):=by
 intro t
 induction t using Tm.ind with|h t ih=>?_
 intro ht fr h;have hlen:=ht.len;have ih':∀ x∈t.args,c_ env 82 [.agg x.cells,.int .i64 (o9 fr (m9 t.kind)),.int .i64 b] (.agg (x.up b (o9 fr (m9 t.kind))).cells):=fun x hx=>ih x hx (ht.arg hx) _;clear ih;have hB:=aD9 t;have hv0:V.agg (Tm.mk t.kind (if t.kind==1&&decide (t.index>=fr) then o9 t.index b else t.index) t.type (t.args.map fun x=>x.up b (o9 fr (m9 t.kind)))).cells=.agg (t.up b fr).cells:=by rw [Tm.aL5]
 have hin:∀ S,InV S (V.agg (t.up b fr).cells):=fun S=>by simp [InV,at6]
 generalize hvv:V.agg (t.up b fr).cells=v at hv0 hin ⊢;clear hvv;have hw:IntKind.i64.wrap (fr+m9 t.kind)=o9 fr (m9 t.kind):=rfl;generalize o9 fr (m9 t.kind)=a2 at *;have hw1:IntKind.i64.wrap (t.index+b)=o9 t.index b:=rfl;cases hk:(t.kind==1&&decide (t.index>=fr)) with
 | true =>
  have hk1:(t.kind==1)=true:=by cases h1:(t.kind==1)<;>simp_all
  have hk2:decide (t.index>=fr)=true:=by cases h1:decide (t.index>=fr)<;>simp_all
  rw [hk] at hv0;simp only [p7] at hv0;generalize o9 t.index b=n0 at *;clear hk;refine g_ Tryz.func82 [.cell 6 52] fun g0 w0 gen g9 hfr e9 n8=>?_;refine e_ ?_;refine k_ [1,2,3,6,7,32] [⟨gen,0,0⟩,⟨gen,0,1⟩] (fun i σ=>∃ v,σ.h ⟨gen,1,7⟩=some (.box [.int .i64 t.kind,.int .i64 n0,.int .i64 t.type.kind,.sl .any (t.type.args.map Ty.cells),v])/\Q4 h σ.h v 5 (((t.args.take i).map fun x=>x.up b a2).map Tm.cells)) (t.args) ?_ ?_ ?_
  ·simp only [go_sem, *]
   exact ⟨f_,_,rfl,.inl rfl⟩
  ·clear hv0
   intro i x σ gr0 o5 hgf l6 l9 m6 hx hxm hm hlt jI jN jT jA ⟨v,jb,jO0⟩;have hc:=ih' x hxm;have hts:((t.args.take (i+1)).map fun x=>x.up b a2).map Tm.cells=((t.args.take i).map fun x=>x.up b a2).map Tm.cells++[(x.up b a2).cells]:=by rw [p9 hx,U0];rfl
   clear ih';exact p_
  ·
   intro σ ga0 q9 hgf l6 l8 m5 jT jA ⟨v,jb,jO0⟩;rw [L2] at jO0;obtain ⟨c,rfl⟩:=jO0.val;clear ih';rw [Tm.r7] at hv0;subst hv0;exact i_
 | false =>
  rw [hk] at hv0;simp only [B2,r6] at hv0;have hkk:((t.kind==1)=true/\decide (t.index>=fr)=false)\/(t.kind==1)=false:=by cases h1:(t.kind==1)<;>cases h2:decide (t.index>=fr)<;>simp_all
  clear hk hw1;rcases hkk with ⟨hk1,hk2⟩|hk1
  all_goals
   refine g_ Tryz.func82 [.cell 6 52] fun g0 w0 gen g9 hfr e9 n8=>?_;refine e_ ?_;refine k_ [1,2,3,6,7,32] [⟨gen,0,0⟩,⟨gen,0,1⟩] (fun i σ=>∃ v,σ.h ⟨gen,1,7⟩=some (.box [.int .i64 t.kind,.int .i64 t.index,.int .i64 t.type.kind,.sl .any (t.type.args.map Ty.cells),v])/\Q4 h σ.h v 5 (((t.args.take i).map fun x=>x.up b a2).map Tm.cells)) (t.args) ?_ ?_ ?_
   ·simp only [go_sem, *]
    exact ⟨f_,_,rfl,.inl rfl⟩
   ·clear hv0
    intro i x σ gr0 o5 hgf l6 l9 m6 hx hxm hm hlt jI jN jT jA ⟨v,jb,jO0⟩;have hc:=ih' x hxm;have hts:((t.args.take (i+1)).map fun x=>x.up b a2).map Tm.cells=((t.args.take i).map fun x=>x.up b a2).map Tm.cells++[(x.up b a2).cells]:=by rw [p9 hx,U0];rfl
    clear ih';exact p_
   ·
    intro σ ga0 q9 hgf l6 l8 m5 jT jA ⟨v,jb,jO0⟩;rw [L2] at jO0;obtain ⟨c,rfl⟩:=jO0.val;clear ih';rw [Tm.r7] at hv0;subst hv0;exact i_
theorem dA3 {s:Tm} (hs:TmW s) {a:Int}:∀ (t:Tm) (d:Int),TmW t->TmW (D6 s a t d):=by
 intro t
 induction t using Tm.ind with|h t ih=>?_
 intro d ht;rw [bd6]
 repeat' split
 ·exact dQ0 _ _ hs
 ·exact A6 _
 ·exact ht
 ·refine .mk _ _ _ _ ht.ty (by rw [ao2];exact ht.len) ?_
  intro x hx;obtain ⟨y,hy,rfl⟩:=G5.1 hx;exact ih y hy _ (ht.arg hy)
theorem cZ4 (s:Tm) (hs:TmW s) (at':Int):∀ t:Tm,TmW t->∀ d:Int,c_ env 242 [.agg t.cells,.int .i64 at',.int .i64 d,.agg s.cells] (.agg (D6 s at' t d).cells):=by
 intro t
 induction t using Tm.ind with|h t ih=>?_
 intro ht d h;have hlen:=ht.len;have ih':∀ x∈t.args,c_ env 242 [.agg x.cells,.int .i64 at',.int .i64 (o9 d (m9 t.kind)),.agg s.cells] (.agg (D6 s at' x (o9 d (m9 t.kind))).cells):=fun x hx=>ih x hx (ht.arg hx) _;clear ih;have hB:=aD9 t;have hw:IntKind.i64.wrap (d+m9 t.kind)=o9 d (m9 t.kind):=rfl;have hw0:IntKind.i64.wrap (at'+d)=o9 at' d:=rfl;cases hk1:(t.kind==1) with
 | true =>
  have hw1:IntKind.i64.wrap (t.index - 1)=K5 t.index 1:=rfl;have hU:=cn0 (o9 at' d) s hs 0;rw [bd6,hk1];simp only [p7];clear ih' hB hw;generalize o9 at' d=a0 at *;cases hk2:(t.index==a0) with
  | true =>
   simp only [p7];exact d_ Tryz.func242 [.cell 8 52]
  | false =>
   cases hk3:decide (t.index>a0) with
   | true =>
    simp only [p7,B2,r6];refine g_ Tryz.func242 [.cell 8 52] fun g0 w0 gen g9 hfr e9 n8=>?_
    repeat' (first
     |(refine ⟨?_,?_⟩;focus ((repeat' (first|refine ⟨?_,?_⟩|refine .inr ?_));all_goals kernel_rfl))
     |exact hin _|exact agf l_
     | (first|refine wp rfl ?_|refine spt rfl ?_|refine spf rfl ?_|(refine spl (fun hc=>?_) fun hc=>?_)<;>(try rw [L1] at hc)<;>try simp only [hc]|refine cp (an8 _) ?_|refine Y7 g9 ?_ ?_ ?_)<;>try simp only [go_sem, *])
   | false =>
    simp only [B2,r6];exact d_ Tryz.func242 [.cell 8 52]
 | false =>
  have hv0:V.agg (Tm.mk t.kind t.index t.type (t.args.map fun x=>D6 s at' x (o9 d (m9 t.kind)))).cells=.agg (D6 s at' t d).cells:=by
   rw [bd6 s at' t,hk1];rfl
  have hin:∀ S,InV S (V.agg (D6 s at' t d).cells):=fun S=>by simp [InV,at6]
  generalize hvv:V.agg (D6 s at' t d).cells=v at hv0 hin ⊢;clear hvv hw0;generalize o9 d (m9 t.kind)=a2 at *;refine g_ Tryz.func242 [.cell 8 52] fun g0 w0 gen g9 hfr e9 n8=>?_;refine e_ ?_;refine k_ [1,2,4,7,8,9,45] [⟨gen,0,0⟩,⟨gen,0,1⟩,⟨gen,0,2⟩] (fun i σ=>∃ v,σ.h ⟨gen,7,7⟩=some (.box [.int .i64 t.kind,.int .i64 t.index,.int .i64 t.type.kind,.sl .any (t.type.args.map Ty.cells),v])/\Q4 h σ.h v 5 (((t.args.take i).map fun x=>D6 s at' x a2).map Tm.cells)) (t.args) ?_ ?_ ?_
  ·simp only [go_sem, *]
   exact ⟨f_,_,rfl,.inl rfl⟩
  ·clear hv0
   intro i x σ gr0 o5 hgf l6 l9 m6 hx hxm hm hlt jI jN jT jA ⟨v,jb,jO0⟩;have hc:=ih' x hxm;have hts:((t.args.take (i+1)).map fun x=>D6 s at' x a2).map Tm.cells=((t.args.take i).map fun x=>D6 s at' x a2).map Tm.cells++[(D6 s at' x a2).cells]:=by rw [p9 hx,U0];rfl
   clear ih';exact p_
  ·
   intro σ ga0 q9 hgf l6 l8 m5 jT jA ⟨v,jb,jO0⟩;rw [L2] at jO0;obtain ⟨c,rfl⟩:=jO0.val;clear ih';rw [Tm.r7] at hv0;subst hv0;exact i_
theorem cI7 (m:Int):∀ t:Fm,FmW t->c_ env 229 [.agg t.cells,.int .i64 m] (.bool (t.least m)):=by
 intro t
 induction t using Fm.ind with|h t ih=>?_
 intro ht h;have hlen:=ht.len;have ao0:=ht.au6;have ih':∀ x∈t.args,c_ env 229 [.agg x.cells,.int .i64 m] (.bool (x.least m)):=fun x hx=>ih x hx (ht.arg hx);clear ih;have hv0:=(t.I6 m).symm;generalize hvv:t.least m=v at hv0 ⊢;clear hvv;refine g_ Tryz.func229 [.tmp 4] fun g0 w0 gen g9 hfr e9 n8=>?_;refine e_ ?_;refine k_ [1,2,10] [⟨gen,0,0⟩] (fun i σ=>(Tm.L4 m (t.a7.drop i)&&Fm.L4 m t.args)=v) (t.a7) ?_ ?_ ?_
 ·simp only [go_sem, *]
  first|exact f_|exact ⟨f_,hv0⟩
 ·clear hv0 ih'
  intro i x σ gr0 o5 hgf l6 l9 m6 hx hxm hm hlt jI jN jT jA jv;rw [s9 hx,Tm.G1] at jv;have hc:=bf6 m x (ht.term hxm);cases hn:x.least m with
  | false =>
   rw [hn] at hc;rw [hn,J6,J6] at jv;subst jv;exact i_
  | true =>
   rw [hn] at hc;rw [hn,J7] at jv;refine e_ ?_
   first|exact f_|exact ⟨f_,jv⟩
 clear hv0;intro σ ga0 q9 hgf l6 l8 m5 jT jA jv;rw [y6,Tm.D5,J7] at jv;refine e_ ?_;refine k_ [1,22] [] (fun i σ=>Fm.L4 m (t.args.drop i)=v) (t.args) ?_ ?_ ?_
 ·simp only [go_sem, *]
  all_goals (first|exact jv|exact ⟨f_,jv⟩)
 ·clear jv
  intro i x σ gr1 I2 hgf l6 C1 C6 hx hxm hm hlt jI jN jT jA jv;have z7:=o7 (show gen<gr1 by omega);have z9:=n6 (show gen<gr1 by omega);rw [s9 hx,Fm.G1] at jv;have hc:=ih' x hxm;clear ih';cases hn:x.least m with
  | false =>
   rw [hn] at hc;rw [hn,J6] at jv;subst jv;exact i_
  | true =>
   rw [hn] at hc;rw [hn,J7] at jv;refine e_ ?_
   first|exact f_|exact ⟨f_,jv⟩
 ·clear jv
  intro σ ga1 I1 hgf l6 C0 C5 jT jA jv;have z6:=o7 (show gen<ga1 by omega);have z8:=n6 (show gen<ga1 by omega);rw [y6,Fm.D5] at jv;subst jv;clear ih';exact i_
theorem cI8:∀ t:Fm,FmW t->∀ at':Int,c_ env 231 [.agg t.cells,.int .i64 at'] (.int .i64 (t.times at')):=by
 intro t
 induction t using Fm.ind with|h t ih=>?_
 intro ht at' h;have hlen:=ht.len;have ao0:=ht.au6;have ih':∀ x∈t.args,c_ env 231 [.agg x.cells,.int .i64 (o9 at' (u9 t.kind))] (.int .i64 (x.times (o9 at' (u9 t.kind)))):=fun x hx=>ih x hx (ht.arg hx) _;clear ih;have hB:=aS1 t;have hv0:=(t.bA6 at').symm;generalize hvv:t.times at'=v at hv0 ⊢;clear hvv;have hw:IntKind.i64.wrap (at'+u9 t.kind)=o9 at' (u9 t.kind):=rfl;generalize o9 at' (u9 t.kind)=a2 at *;refine g_ Tryz.func231 [.tmp 4] fun g0 w0 gen g9 hfr e9 n8=>?_;refine e_ ?_;refine k_ [1,2,4,11] [⟨gen,0,0⟩] (fun i σ=>∃ n,σ.tm 5=.int .i64 n/\Fm.T4 a2 (Tm.T4 at' n (t.a7.drop i)) t.args=v) (t.a7) ?_ ?_ ?_
 ·simp only [go_sem, *]
  first|exact ⟨_,rfl,hv0⟩|exact ⟨f_,_,rfl,hv0⟩
 ·clear hv0 ih'
  intro i x σ gr0 o5 hgf l6 l9 m6 hx hxm hm hlt jI jN jT jA ⟨n,jn,jv⟩;rw [s9 hx,Tm.Y1] at jv;have hc:=bH5 x (ht.term hxm) at';have hw2:IntKind.i64.wrap (n+x.times at')=o9 n (x.times at'):=rfl;refine e_ ?_
  first|exact ⟨_,rfl,jv⟩|exact ⟨f_,_,rfl,jv⟩
 clear hv0;intro σ ga0 q9 hgf l6 l8 m5 jT jA ⟨n,jn,jv⟩;rw [y6,Tm.V3] at jv;refine e_ ?_;refine k_ [1,2,4,24] [⟨gen,0,0⟩] (fun i σ=>∃ n,σ.tm 5=.int .i64 n/\Fm.T4 a2 n (t.args.drop i)=v) (t.args) ?_ ?_ ?_
 ·simp only [go_sem, *]
  first|exact ⟨_,rfl,jv⟩|exact ⟨f_,_,rfl,jv⟩
 ·clear jv
  intro i x σ gr1 I2 hgf l6 C1 C6 hx hxm hm hlt jI jN jT jA ⟨n',jn',jv⟩;have z7:=o7 (show gen<gr1 by omega);have z9:=n6 (show gen<gr1 by omega);rw [s9 hx,Fm.Y1] at jv;have hc:=ih' x hxm;have hw2:IntKind.i64.wrap (n'+x.times a2)=o9 n' (x.times a2):=rfl;clear ih';refine e_ ?_
  first|exact ⟨_,rfl,jv⟩|exact ⟨f_,_,rfl,jv⟩
 ·clear jv
  intro σ ga1 I1 hgf l6 C0 C5 jT jA ⟨n',jn',jv⟩;have z6:=o7 (show gen<ga1 by omega);have z8:=n6 (show gen<ga1 by omega);rw [y6,Fm.V3] at jv;subst jv;clear ih';exact i_
theorem bk1 (t:Tm) (ht:TmW t):c_ env 167 [.agg t.cells] (two (chk 4096 t.nodes)):=by
 intro h;have hc:=bk7 t ht;have hin:∀ S,InV S (two (chk 4096 t.nodes)):=fun S=>by simp [two,InV,InL]
 cases hn:t.nodes with
 | none =>
  rw [hn] at hc hin;refine g_ Tryz.func167 [.tmp 2,.tmp 3] fun g0 w0 gen g9 hfr e9 n8=>?_
  first|refine e_ ?_|exact i_
  all_goals simp [two,chk]
 | some n =>
  rw [hn] at hc hin;refine g_ Tryz.func167 [.tmp 2,.tmp 3] fun g0 w0 gen g9 hfr e9 n8=>?_
  repeat' (first
   |exact hin _|exact agf l_
   | (first|refine wp rfl ?_|refine spt rfl ?_|refine spf rfl ?_|(refine spl (fun hc=>?_) fun hc=>?_)<;>(try rw [L1] at hc)<;>try simp only [hc]|refine cp hc ?_|refine Y7 g9 ?_ ?_ ?_)<;>try simp only [go_sem, *])
  all_goals (try simp only [aW3,bV0] at *)
  all_goals first|(have hcn:¬ 4096<n:=by omega);simp [two,chk,hcn]|(have hcn:4096<n:=by omega);simp [two,chk,hcn]
theorem bQ2 (t:Tm) (ht:TmW t):c_ env 285 [.agg t.cells] (.int .i64 (ag1 t)):=by
 intro h;have hc:=bk1 t ht;unfold two at hc;refine g_ Tryz.func285 [.tmp 2] fun g0 w0 gen g9 hfr e9 n8=>?_
 first|refine e_ ?_|exact i_
 all_goals simp [ag1]
theorem bk4:∀ a:Tm,TmW a->∀ b:Tm,TmW b->c_ env 227 [.agg a.cells,.agg b.cells] (.bool (Tm.same a b)):=by
 intro a
 induction a using Tm.ind with|h a ih=>?_
 intro ha b hb h;have hlen:=ha.len;have ih':∀ x∈a.args,∀ y∈b.args,c_ env 227 [.agg x.cells,.agg y.cells] (.bool (Tm.same x y)):=fun x hx y hy=>ih x hx (ha.arg hx) y (hb.arg hy);have hT:=U2 a.type ha.ty b.type hb.ty;clear ih ha hb;have hse:=(Tm.aw6 a b).symm;generalize Tm.same a b=v at hse ⊢;cases k1:(a.kind==b.kind) with
 | false =>
  rw [k1] at hse;simp only [J6] at hse;subst hse;have k1':=I0 k1;clear k1 ih';exact d_ Tryz.func227 [.tmp 4]
 | true =>
 have k1':=I0 k1;rw [k1] at hse;simp only [J7] at hse;cases k3:(a.index==b.index) with
 | false =>
  rw [k3] at hse;simp only [J6] at hse;subst hse;have k3':=I0 k3;clear k1 k3 ih';exact d_ Tryz.func227 [.tmp 4]
 | true =>
 have k3':=I0 k3;rw [k3] at hse;simp only [J7] at hse;cases k4:Ty.same a.type b.type with
 | false =>
  rw [k4] at hse hT;simp only [J6] at hse;subst hse;clear k1 k3 k4 ih';exact d_ Tryz.func227 [.tmp 4]
 | true =>
 rw [k4] at hse hT;simp only [J7] at hse;clear k1 k3 k4;cases k2:((a.args.length:Int)==(b.args.length:Int)) with
 | false =>
  rw [aY6 k2] at hse;subst hse;have k2':=I0 k2;clear k2 ih';exact d_ Tryz.func227 [.tmp 4]
 | true =>
  have k2':=I0 k2;have ad5:=aO8 k2;have hln:a.args.length<=b.args.length/\b.args.length<=a.args.length:=by simp at k2;omega
  clear k2;simp only [E7] at k1' k2' k3';refine g_ Tryz.func227 [.tmp 4] fun g0 w0 gen g9 hfr e9 n8=>?_;refine e_ ?_;refine k_ [2,3] [⟨gen,0,0⟩,⟨gen,0,1⟩] (fun i σ=>Tm.A5 (a.args.drop i) (b.args.drop i)=v) (a.args) ?_ ?_ ?_
  ·simp only [go_sem, *]
   first|done|exact f_|exact ⟨f_,hse⟩|exact hse
  ·clear hse
   intro i x σ gr0 o5 hgf l6 l9 m6 hx hxm hm hlt jI jN jT jA jv;obtain ⟨y,hy⟩:=ad5 i x hx;rw [s9 hx,s9 hy,Tm.A5] at jv;have hc:=ih' x hxm y (Q7 hy);clear ih' ad5;cases hxy:Tm.same x y with
   | false =>
    rw [hxy] at hc jv;simp only [J6] at jv;subst jv;exact i_
   | true =>
    rw [hxy] at hc jv;simp only [J7] at jv;exact x_
    first|done|exact f_|exact ⟨f_,jv⟩|exact jv
  ·clear hse
   intro σ ga0 q9 hgf l6 l8 m5 jT jA jv;have hq:a.args.length=b.args.length:=by omega
   rw [y6,hq,y6,Tm.A5] at jv;subst jv;clear ih' ad5 hq hln;exact i_
theorem bZ0:∀ t:Pf,PfW t->c_ env 69 [.agg t.cells] (.agg t.cells):=by
 intro t
 induction t using Pf.ind with|h t ih=>?_
 intro ht h;have hlen:=ht.len;have dd9:=ht.au6;have ao0:=ht.dt9;have ih':∀ x∈t.args,c_ env 69 [.agg x.cells] (.agg x.cells):=fun x hx=>ih x hx (ht.arg hx);clear ih;have hc0:=U1 t.type ht.ty;have hin:∀ S,InV S (V.agg t.cells):=fun S=>by simp [InV,aW9]
 have hv0:=congrArg V.agg t.l4;obtain ⟨v,hvv⟩:∃ v,V.agg t.cells=v:=⟨_,rfl⟩;rw [hvv] at hin hv0;have dD9:∀ {P:V->Prop},P v->P (V.agg t.cells):=fun h=>hvv ▸ h;refine dD9 (P:=fun v=>Ret Tryz.prog env 69 [.agg t.cells] h v h) ?_;clear hvv dD9;refine g_ Tryz.func69 [.cell 2 34] fun g0 w0 gen g9 hfr e9 n8=>?_;refine e_ ?_;clear hc0;refine k_ [1,2,3,19] [⟨gen,0,0⟩,⟨gen,0,1⟩] (fun i σ=>∃ v,σ.h ⟨gen,1,8⟩=some (.box [.int .i64 t.kind,.int .i64 t.index,.int .i64 t.type.kind,.sl .any (t.type.args.map Ty.cells),v,.sl .full [],.sl .full []])/\Q4 h σ.h v 5 ((t.a7.take i).map Tm.cells)) (t.a7) ?_ ?_ ?_
 ·simp only [go_sem, *]
  exact ⟨f_,_,rfl,.inl rfl⟩
 ·clear hv0 ih'
  intro i x σ gr0 o5 hgf l6 l9 m6 hx hxm hm hlt jI jN jT jA ⟨v,jb,jO0⟩;have hc:=al6 x (ht.term hxm);have hts:(t.a7.take (i+1)).map Tm.cells=(t.a7.take i).map Tm.cells++[x.cells]:=p9 hx;exact p_
 intro σ ga0 q9 hgf l6 l8 m5 jT jA ⟨v1,jb,jO1⟩;rw [L2] at jO1;obtain ⟨c1,rfl⟩:=jO1.val;clear jO1;refine e_ ?_;refine k_ [1,2,3,34] [⟨gen,0,0⟩,⟨gen,0,1⟩] (fun i σ=>∃ v,σ.h ⟨gen,1,8⟩=some (.box [.int .i64 t.kind,.int .i64 t.index,.int .i64 t.type.kind,.sl .any (t.type.args.map Ty.cells),.sl c1 (t.a7.map Tm.cells),v,.sl .full []])/\Q4 h σ.h v 5 ((t.N5.take i).map Fm.cells)) (t.N5) ?_ ?_ ?_
 ·simp only [go_sem, *]
  first|exact ⟨_,rfl,.inl rfl⟩|exact ⟨f_,_,rfl,.inl rfl⟩
 ·clear hv0 ih'
  intro i x σ gr1 I2 hgf l6 C1 C6 hx hxm hm hlt jI jN jT jA ⟨v,jb',jO0⟩;have z7:=o7 (show gen<gr1 by omega);have z9:=n6 (show gen<gr1 by omega);have hc:=af1 x (ht.form hxm);have hts:(t.N5.take (i+1)).map Fm.cells=(t.N5.take i).map Fm.cells++[x.cells]:=p9 hx;exact p_
 intro σ ga1 I1 hgf l6 C0 C5 jT jA ⟨v2,jb',jO2⟩;have z6:=o7 (show gen<ga1 by omega);have z8:=n6 (show gen<ga1 by omega);rw [L2] at jO2;obtain ⟨c2,rfl⟩:=jO2.val;clear jO2;refine e_ ?_;refine k_ [2,3,49] [⟨gen,0,1⟩] (fun i σ=>∃ v,σ.h ⟨gen,1,8⟩=some (.box [.int .i64 t.kind,.int .i64 t.index,.int .i64 t.type.kind,.sl .any (t.type.args.map Ty.cells),.sl c1 (t.a7.map Tm.cells),.sl c2 (t.N5.map Fm.cells),v])/\Q4 h σ.h v 7 ((t.args.take i).map Pf.cells)) (t.args) ?_ ?_ ?_
 ·simp only [go_sem, *]
  first|exact ⟨_,rfl,.inl rfl⟩|exact ⟨f_,_,rfl,.inl rfl⟩
 ·clear hv0
  intro i x σ gr2 bq8 hgf l6 aI2 aI8 hx hxm hm hlt jI jN jT jA ⟨v,jb'',jO0⟩;have aI4:=o7 (show gen<gr2 by omega);have aJ0:=n6 (show gen<gr2 by omega);have aI0:=o7 (show ga0<gr2 by omega);have aI6:=n6 (show ga0<gr2 by omega);have hc:=ih' x hxm;have hts:(t.args.take (i+1)).map Pf.cells=(t.args.take i).map Pf.cells++[x.cells]:=p9 hx;clear ih';exact p_
 ·
  intro σ ga2 bq7 hgf l6 aI1 aI7 jT jA ⟨v3,jb'',jO3⟩;have aI3:=o7 (show gen<ga2 by omega);have aI9:=n6 (show gen<ga2 by omega);have aH9:=o7 (show ga0<ga2 by omega);have aI5:=n6 (show ga0<ga2 by omega);rw [L2] at jO3;obtain ⟨c3,rfl⟩:=jO3.val;clear ih';subst hv0;exact i_
theorem bu4 (k:Int) (l:List Pf) (hl:l.length<=10) (hw:∀ x∈l,PfW x):c_ env 31 [.int .i64 k,.sl .any (l.map Pf.cells)] (.agg [.int .i64 k,.int .i64 0,.int .i64 0,.sl .any [],.sl .any [],.sl .any [],.sl .any (l.map Pf.cells)]):=by
 intro h;refine g_ Tryz.func31 [.cell 4 34] fun g0 w0 gen g9 hfr e9 n8=>?_;refine e_ ?_;refine k_ [4,5,10] [⟨gen,0,0⟩] (fun i σ=>∃ v,σ.h ⟨gen,1,2⟩=some (.box [.int .i64 k,.int .i64 0,.int .i64 0,.sl .full [],.sl .full [],.sl .full [],v])/\Q4 h σ.h v 7 ((l.take i).map Pf.cells)) (l) ?_ ?_ ?_
 ·simp only [go_sem, *]
  exact ⟨f_,_,rfl,.inl rfl⟩
 ·
  intro i x σ gr0 o5 hgf l6 l9 m6 hx hxm hm hlt jI jN jT jA ⟨v,jb,jO0⟩;have hc:=bZ0 x (hw x hxm);have hts:(l.take (i+1)).map Pf.cells=(l.take i).map Pf.cells++[x.cells]:=p9 hx;exact p_
 ·
  intro σ ga0 q9 hgf l6 l8 m5 jT jA ⟨v1,jb,jO1⟩;rw [L2] at jO1;obtain ⟨c1,rfl⟩:=jO1.val;exact i_
theorem as5 (t:Tm) (ht:TmW t):c_ env 17 [.agg t.cells] (.agg (E9 t).cells):=by
 intro h;have h1:=al6 t ht;have hv0:V.agg [.int .i64 18,.int .i64 0,.int .i64 0,.sl .any [],.sl .any [t.cells],.sl .any [],.sl .any []]=.agg (E9 t).cells:=rfl;exact d_ Tryz.func17 [.cell 2 34]
theorem bq1 (i:Int):c_ env 45 [.int .i64 i] (.agg (ae3 i).cells):=by
 intro h;have hv0:V.agg [.int .i64 1,.int .i64 i,.int .i64 0,.sl .any [],.sl .any [],.sl .any [],.sl .any []]=.agg (ae3 i).cells:=rfl;exact d_ Tryz.func45 [.cell 2 34]
theorem cz3 (f:Fm) (p:Pf) (hf:FmW f) (hp:PfW p):c_ env 33 [.agg f.cells,.agg p.cells] (.agg (at2 f p).cells):=by
 intro h;have h1:=af1 f hf;have h2:=bu4 6 [p] b_ (by simpa using hp);have hv0:V.agg [.int .i64 6,.int .i64 0,.int .i64 0,.sl .any [],.sl .any [],.sl .any [f.cells],.sl .any [p.cells]]=.agg (at2 f p).cells:=rfl;exact d_ Tryz.func33 [.cell 4 34]
theorem bP7 (k:Int) (s:Ty) (p:Pf) (hs:TyW s) (hp:PfW p):c_ env 36 [.int .i64 k,.agg s.cells,.agg p.cells] (.agg (ae2 k s p).cells):=by
 intro h;have h1:=U1 s hs;have h2:=bu4 k [p] b_ (by simpa using hp);have hv0:V.agg [.int .i64 k,.int .i64 0,.int .i64 s.kind,.sl .any (s.args.map Ty.cells),.sl .any [],.sl .any [],.sl .any [p.cells]]=.agg (ae2 k s p).cells:=rfl;exact d_ Tryz.func36 [.cell 6 34]
theorem cm3 (k:Int) (t:Tm) (p:Pf) (ht:TmW t) (hp:PfW p):c_ env 38 [.int .i64 k,.agg t.cells,.agg p.cells] (.agg (aY4 k t p).cells):=by
 intro h;have h1:=al6 t ht;have h2:=bu4 k [p] b_ (by simpa using hp);have hv0:V.agg [.int .i64 k,.int .i64 0,.int .i64 0,.sl .any [],.sl .any [t.cells],.sl .any [],.sl .any [p.cells]]=.agg (aY4 k t p).cells:=rfl;exact d_ Tryz.func38 [.cell 6 34]
theorem bP8 (k:Int) (f:Fm) (t:Tm) (p:Pf) (hf:FmW f) (ht:TmW t) (hp:PfW p):c_ env 41 [.int .i64 k,.agg f.cells,.agg t.cells,.agg p.cells] (.agg (aA6 k f t p).cells):=by
 intro h;have h1:=af1 f hf;have h2:=cm3 k t p ht hp;rw [show (aY4 k t p).cells=[.int .i64 k,.int .i64 0,.int .i64 0,.sl .any [],.sl .any [t.cells],.sl .any [],.sl .any [p.cells]] by rfl] at h2;have hv0:V.agg [.int .i64 k,.int .i64 0,.int .i64 0,.sl .any [],.sl .any [t.cells],.sl .any [f.cells],.sl .any [p.cells]]=.agg (aA6 k f t p).cells:=rfl;exact d_ Tryz.func41 [.cell 8 34]
theorem cz4 (k:Int) (f:Fm) (t:Tm) (p q:Pf) (hf:FmW f) (ht:TmW t) (hp:PfW p) (hq:PfW q):c_ env 44 [.int .i64 k,.agg f.cells,.agg t.cells,.agg p.cells,.agg q.cells] (.agg (aB8 k f t p q).cells):=by
 intro h;have h1:=af1 f hf;have h2:=al6 t ht;have h3:=bu4 k [p,q] b_ (by simp [hp,hq]);have hv0:V.agg [.int .i64 k,.int .i64 0,.int .i64 0,.sl .any [],.sl .any [t.cells],.sl .any [f.cells],.sl .any [p.cells,q.cells]]=.agg (aB8 k f t p q).cells:=rfl;exact d_ Tryz.func44 [.cell 10 34]
theorem bH4 (f:Fm) (p q:Pf) (hf:FmW f) (hp:PfW p) (hq:PfW q):c_ env 48 [.agg f.cells,.agg p.cells,.agg q.cells] (.agg (ai8 f p q).cells):=by
 intro h;have h1:=af1 f hf;have h2:=bu4 19 [p,q] b_ (by simp [hp,hq]);have hv0:V.agg [.int .i64 19,.int .i64 0,.int .i64 0,.sl .any [],.sl .any [],.sl .any [f.cells],.sl .any [p.cells,q.cells]]=.agg (ai8 f p q).cells:=rfl;exact d_ Tryz.func48 [.cell 6 34]
theorem cJ6 (k:Int) (h1:1<=k) (h2:k<=20):c_ env 126 [.int .i64 k] (bT2 k):=by
 intro h;have hk:k=1\/k=2\/k=3\/k=4\/k=5\/k=6\/k=7\/k=8\/k=9\/k=10\/k=11\/k=12\/k=13\/k=14\/k=15\/k=16\/k=17\/k=18\/k=19\/k=20:=by omega
 clear h1 h2;rcases hk with rfl|rfl|rfl|rfl|rfl|rfl|rfl|rfl|rfl|rfl|rfl|rfl|rfl|rfl|rfl|rfl|rfl|rfl|rfl|rfl
 all_goals
  simp only [bT2,cs9,Int.reduceEq,or_true,true_or,or_self,p7,r6];exact o_ Tryz.func126 [.cell 2 178,.tmp 3]
theorem cY5:∀ t:Tm,TmW t->∀ a:Int,c_ env 213 [.agg t.cells,.int .i64 a] (.bool (t.ak8 a)):=by
 intro t
 induction t using Tm.ind with|h t ih=>?_
 intro ht a h;have hlen:=ht.len;have ih':∀ x∈t.args,c_ env 213 [.agg x.cells,.int .i64 (o9 a (m9 t.kind))] (.bool (x.ak8 (o9 a (m9 t.kind)))):=fun x hx=>ih x hx (ht.arg hx) _;clear ih;have hB:=aD9 t;have hv0:=(t.bb1 a).symm;have hw:IntKind.i64.wrap (a+m9 t.kind)=o9 a (m9 t.kind):=rfl;generalize t.ak8 a=v at hv0 ⊢;generalize o9 a (m9 t.kind)=a2 at *;cases hk:(t.kind==1&&t.index==a) with
 | true =>
  have hk1:(t.kind==1)=true:=by cases h1:(t.kind==1)<;>simp_all
  have hk2:(t.index==a)=true:=by cases h1:(t.index==a)<;>simp_all
  rw [hk,aM0] at hv0;subst hv0;clear hk ih' hw hB;exact d_ Tryz.func213 [.tmp 4]
 | false =>
  rw [hk,aW4] at hv0;have hkk:((t.kind==1)=true/\(t.index==a)=false)\/(t.kind==1)=false:=by cases h1:(t.kind==1)<;>cases h2:(t.index==a)<;>simp_all
  clear hk;have hv1:(t.args.drop 0).any (fun x=>x.ak8 a2)=v:=hv0;clear hv0;rcases hkk with ⟨hk1,hk2⟩|hk1
  all_goals
   refine g_ Tryz.func213 [.tmp 4] fun g0 w0 gen g9 hfr e9 n8=>?_;refine e_ ?_;refine k_ [1,2,17] [⟨gen,0,0⟩] (fun i σ=>(t.args.drop i).any (fun x=>x.ak8 a2)=v) (t.args) ?_ ?_ ?_
   ·simp only [go_sem, *]
    first|exact hv1|exact ⟨f_,hv1⟩
   ·clear hv1
    intro i x σ gr0 o5 hgf l6 l9 m6 hx hxm hm hlt jI jN jT jA jv;rw [s9 hx,aZ1] at jv;have hc:=ih' x hxm;clear ih';cases hn:x.ak8 a2 with
    | true =>
     rw [hn] at hc;rw [hn,aM0] at jv;subst jv;exact i_
    | false =>
     rw [hn] at hc;rw [hn,aW4] at jv;refine e_ ?_
     first|exact f_|exact ⟨f_,jv⟩
   ·clear hv1
    intro σ ga0 q9 hgf l6 l8 m5 jT jA jv;rw [y6,bj6] at jv;subst jv;clear ih';exact i_
theorem bs8 {t:Tm} (h:TmG t):t.J4=true:=Option.isSome_iff_ne_none.2 h.nodes
theorem bW5 {u:Bool} {t:Fm} (h:FmG u t):t.J4=true:=Option.isSome_iff_ne_none.2 h.nodes
theorem cJ7:∀ t:Pf,PfW t->PfG t->c_ env 85 [.agg t.cells] (.bool true):=by
 intro t
 induction t using Pf.ind with|h t ih=>?_
 intro ht hg h;have hlen:=ht.len;have dd9:=ht.au6;have ao0:=ht.dt9;obtain ⟨a,b,c,x,y,hn,hk,ha,hb,hc,hi,hx,hy,hy',gt,gf,gp⟩:=hg.facts;have ih':∀ x∈t.args,c_ env 85 [.agg x.cells] (.bool true):=fun x hx=>ih x hx (ht.arg hx) (gp x hx);clear ih;have h1:=cJ6 t.kind hk.1 hk.2;rw [bT2,hn] at h1;simp only at h1;have n1:((t.a7.length:Int) != a)=false:=by simp [ha]
 have n2:((t.N5.length:Int) != b)=false:=by simp [hb]
 have n3:((t.args.length:Int) != c)=false:=by simp [hc]
 have n4:decide (t.index<0)=false:=by simp;omega
 have n5:x=false->(t.index != 0)=false:=fun e=>by simp [hx e]
 have h2:y=true->c_ env 67 [.agg t.type.cells] (.int .i64 0):=fun e=>by
  have:=ab0 t.type ht.ty;rw [(hy e).err] at this;exact this
 have h3:y=false->c_ env 127 [.agg t.type.cells] (.bool true):=fun e=>by
  have:=bf4 t.type;rw [hy' e] at this ⊢;exact this
 have ft:∀ x∈t.a7,c_ env 128 [.agg x.cells] (.bool true):=fun x hx=>by
  have:=bf7 x (ht.term hx);rw [bs8 (gt x hx).g] at this;exact this
 have ff:∀ x∈t.N5,c_ env 129 [.agg x.cells] (.bool true):=fun x hx=>by
  have:=bH0 x (ht.form hx);rw [bW5 (gf x hx).g] at this;exact this
 have n0:((0:Int) != 0)=false:=rfl;clear hn hk ha hb hc hi hx hy hy' gt gf gp hg;have tail:∀ (g0:G) (w0:World) (gen:Nat),True:=fun _ _ _=>trivial;clear tail;cases x<;>cases y
 all_goals
  first
  | (have h2:=h2 rfl;clear h3)
  | (have h3:=h3 rfl;clear h2)
 all_goals try (have n5:=n5 rfl)
 all_goals
  refine g_ Tryz.func85 [.tmp 2] fun g0 w0 gen g9 hfr e9 n8=>?_;refine e_ ?_;clear h1;refine k_ [1,78] [⟨gen,0,0⟩] (fun i σ=>True) (t.a7) ?_ ?_ ?_
  ·simp only [go_sem, *]
   first|done|exact f_|exact ⟨f_,trivial⟩
  ·
   intro i x σ gr0 o5 hgf l6 l9 m6 hx hxm hm hlt jI jN jT jA jt;have hc:=ft x hxm;clear ft ff ih'
   first|refine e_ ?_|exact i_
   all_goals first|exact f_|exact ⟨f_,trivial⟩
  intro σ ga0 q9 hgf l6 l8 m5 jT jA jt;clear ft;refine e_ ?_;refine k_ [1,89] [⟨gen,0,0⟩] (fun i σ=>True) (t.N5) ?_ ?_ ?_
  ·simp only [go_sem, *]
   first|done|exact f_|exact ⟨f_,trivial⟩
  ·
   intro i x σ gr1 I2 hgf l6 C1 C6 hx hxm hm hlt jI jN jT jA jt;have z7:=o7 (show gen<gr1 by omega);have z9:=n6 (show gen<gr1 by omega);have hc:=ff x hxm;clear ff ih'
   first|refine e_ ?_|exact i_
   all_goals first|exact f_|exact ⟨f_,trivial⟩
  intro σ ga1 I1 hgf l6 C0 C5 jT jA jt;have z6:=o7 (show gen<ga1 by omega);have z8:=n6 (show gen<ga1 by omega);clear ff;refine e_ ?_;refine k_ [100] [] (fun i σ=>True) (t.args) ?_ ?_ ?_
  ·simp only [go_sem, *]
   first|done|exact f_|exact ⟨f_,trivial⟩
  ·
   intro i x σ gr2 bq8 hgf l6 aI2 aI8 hx hxm hm hlt jI jN jT jA jt;have aI4:=o7 (show gen<gr2 by omega);have aJ0:=n6 (show gen<gr2 by omega);have aI0:=o7 (show ga0<gr2 by omega);have aI6:=n6 (show ga0<gr2 by omega);have hc:=ih' x hxm;clear ih'
   first|refine e_ ?_|exact i_
   all_goals first|exact f_|exact ⟨f_,trivial⟩
  intro σ ga2 bq7 hgf l6 aI1 aI7 jT jA jt;have aI3:=o7 (show gen<ga2 by omega);have aI9:=n6 (show gen<ga2 by omega);have aH9:=o7 (show ga0<ga2 by omega);have aI5:=n6 (show ga0<ga2 by omega);clear ih';exact i_
theorem du0 {s:Tm} (hs:TmW s) {a:Int}:∀ (t:Fm) (d:Int),FmW t->FmW (I3 s a t d):=by
 intro t
 induction t using Fm.ind with|h t ih=>?_
 intro d ht;rw [cb5];refine .mk _ _ _ _ ht.ty (by rw [ao2];exact ht.au6) ?_ (by rw [ao2];exact ht.len) ?_
 ·intro x hx
  obtain ⟨y,hy,rfl⟩:=G5.1 hx;exact dA3 hs y _ (ht.term hy)
 ·intro x hx
  obtain ⟨y,hy,rfl⟩:=G5.1 hx;exact ih y hy _ (ht.arg hy)
theorem dJ0 (s:Tm) (hs:TmW s) (at':Int):∀ t:Fm,FmW t->∀ d:Int,c_ env 232 [.agg t.cells,.int .i64 at',.int .i64 d,.agg s.cells] (.agg (I3 s at' t d).cells):=by
 intro t
 induction t using Fm.ind with|h t ih=>?_
 intro ht d h;have hlen:=ht.len;have ao0:=ht.au6;have ih':∀ x∈t.args,c_ env 232 [.agg x.cells,.int .i64 at',.int .i64 (o9 d (u9 t.kind)),.agg s.cells] (.agg (I3 s at' x (o9 d (u9 t.kind))).cells):=fun x hx=>ih x hx (ht.arg hx) _;clear ih;have hB:=aS1 t;have hw:IntKind.i64.wrap (d+u9 t.kind)=o9 d (u9 t.kind):=rfl;have hv0:V.agg (Fm.mk t.kind t.type (t.a7.map fun x=>D6 s at' x d) (t.args.map fun x=>I3 s at' x (o9 d (u9 t.kind)))).cells=.agg (I3 s at' t d).cells:=by
  rw [cb5 s at' t]
 have hin:∀ S,InV S (V.agg (I3 s at' t d).cells):=fun S=>by simp [InV,aC6]
 generalize hvv:V.agg (I3 s at' t d).cells=v at hv0 hin ⊢;clear hvv;generalize o9 d (u9 t.kind)=a2 at *;refine g_ Tryz.func232 [.cell 8 36] fun g0 w0 gen g9 hfr e9 n8=>?_;refine e_ ?_;refine k_ [1,2,4,7,8,9,20] [⟨gen,0,0⟩,⟨gen,0,1⟩,⟨gen,0,2⟩] (fun i σ=>∃ v,σ.h ⟨gen,1,5⟩=some (.box [.int .i64 t.kind,.int .i64 t.type.kind,.sl .any (t.type.args.map Ty.cells),v,.sl .full []])/\Q4 h σ.h v 5 (((t.a7.take i).map fun x=>D6 s at' x d).map Tm.cells)) (t.a7) ?_ ?_ ?_
 ·simp only [go_sem, *]
  exact ⟨f_,_,rfl,.inl rfl⟩
 ·clear hv0 ih'
  intro i x σ gr0 o5 hgf l6 l9 m6 hx hxm hm hlt jI jN jT jA ⟨v,jb,jO0⟩;have hc:=cZ4 s hs at' x (ht.term hxm) d;have hts:((t.a7.take (i+1)).map fun x=>D6 s at' x d).map Tm.cells=((t.a7.take i).map fun x=>D6 s at' x d).map Tm.cells++[(D6 s at' x d).cells]:=by rw [p9 hx,U0];rfl
  exact p_
 intro σ ga0 q9 hgf l6 l8 m5 jT jA ⟨v1,jb,jO1⟩;rw [L2] at jO1;obtain ⟨c1,rfl⟩:=jO1.val;clear jO1;refine e_ ?_;refine k_ [1,2,4,7,8,9,38] [⟨gen,0,0⟩,⟨gen,0,1⟩,⟨gen,0,2⟩] (fun i σ=>∃ v,σ.h ⟨gen,1,5⟩=some (.box [.int .i64 t.kind,.int .i64 t.type.kind,.sl .any (t.type.args.map Ty.cells),.sl c1 ((t.a7.map fun x=>D6 s at' x d).map Tm.cells),v])/\Q4 h σ.h v 5 (((t.args.take i).map fun x=>I3 s at' x a2).map Fm.cells)) (t.args) ?_ ?_ ?_
 ·simp only [go_sem, *]
  first|exact ⟨_,rfl,.inl rfl⟩|exact ⟨f_,_,rfl,.inl rfl⟩
 ·clear hv0
  intro i x σ gr1 I2 hgf l6 C1 C6 hx hxm hm hlt jI jN jT jA ⟨v,jb',jO0⟩;have z7:=o7 (show gen<gr1 by omega);have z9:=n6 (show gen<gr1 by omega);have hc:=ih' x hxm;have hts:((t.args.take (i+1)).map fun x=>I3 s at' x a2).map Fm.cells=((t.args.take i).map fun x=>I3 s at' x a2).map Fm.cells++[(I3 s at' x a2).cells]:=by rw [p9 hx,U0];rfl
  clear ih';exact p_
 ·
  intro σ ga1 I1 hgf l6 C0 C5 jT jA ⟨v,jb',jO0⟩;have z6:=o7 (show gen<ga1 by omega);have z8:=n6 (show gen<ga1 by omega);rw [L2] at jO0;obtain ⟨c,rfl⟩:=jO0.val;clear ih';rw [Fm.r7] at hv0;subst hv0;exact i_
theorem dr2 (f:Fm) (hf:FmW f) (a:Int) (s:Tm) (hs:TmW s):c_ env 212 [.agg f.cells,.int .i64 a,.agg s.cells] (P6 (D8 f a s)):=by
 intro h;have h1:=aa9 f hf;have h2:=ag6 s hs;have h3:=cI7 536870912 f hf;have h4:=bf6 536870912 s hs;have h5:=aS2 f hf;have h6:=cI8 f hf a;have h7:=M3 s hs;have h8:=dJ0 s hs a f hf 0;have h9:=af1 _ (du0 hs (a:=a) f 0 hf);have hz:A0.cells=[.int .i64 0,.int .i64 0,.sl .any [],.sl .any [],.sl .any []]:=by simp [A0,Fm.r7,Ty.O0,Ty.N9]
 unfold D8 P6;cases k1:(Q0 f != 0) with
 | true =>
  simp only [p7,hz];clear h2 h3 h4 h5 h6 h7 h8 h9;exact d_ Tryz.func212 [.cell 6 36,.tmp 7]
 | false =>
 simp only [B2,r6];cases k2:decide (a<0) with
 | true =>
  simp only [aM0,p7,hz];clear h2 h3 h4 h5 h6 h7 h8 h9;exact d_ Tryz.func212 [.cell 6 36,.tmp 7]
 | false =>
 cases k3:decide (a>4096) with
 | true =>
  simp only [aW7,p7,hz];clear h2 h3 h4 h5 h6 h7 h8 h9;exact d_ Tryz.func212 [.cell 6 36,.tmp 7]
 | false =>
 simp only [aR2,B2,r6];cases k4:(ag1 s != 0) with
 | true =>
  simp only [p7,hz];clear h3 h4 h5 h6 h7 h8 h9;exact d_ Tryz.func212 [.cell 6 36,.tmp 7]
 | false =>
 simp only [B2,r6];cases k5:f.least 536870912 with
 | false =>
  rw [k5] at h3;simp only [M9,aM0,p7,hz];clear h4 h5 h6 h7 h8 h9;exact d_ Tryz.func212 [.cell 6 36,.tmp 7]
 | true =>
 rw [k5] at h3;cases k6:s.least 536870912 with
 | false =>
  rw [k6] at h4;simp only [M9,aW7,p7,hz];clear h5 h6 h7 h8 h9;exact d_ Tryz.func212 [.cell 6 36,.tmp 7]
 | true =>
 rw [k6] at h4;simp only [E7,aR2,B2,r6];have w1:IntKind.i64.wrap (s.szW - 1)=K5 s.szW 1:=rfl;have w2:IntKind.i64.wrap (f.times a * K5 s.szW 1)=bp4 (f.times a) (K5 s.szW 1):=rfl;have w3:IntKind.i64.wrap (f.szW+bp4 (f.times a) (K5 s.szW 1))=o9 f.szW (bp4 (f.times a) (K5 s.szW 1)):=rfl;cases k7:decide (o9 f.szW (bp4 (f.times a) (K5 s.szW 1))>4096) with
 | true =>
  simp only [p7,hz];clear h8 h9;exact d_ Tryz.func212 [.cell 6 36,.tmp 7]
 | false =>
  simp only [B2,r6];exact d_ Tryz.func212 [.cell 6 36,.tmp 7]
theorem cW7 (d:GoAbs.Id) (l:List Int) (hl:l.length<=1000000) (h:H) (hd:h d=some (.map l)):Ret Tryz.prog env 182 [.mpr d] h (.sl .any (ints l)) h :=
 dy3 ⟨_,Tryz.func182,rfl,by kernel_rfl⟩ u_3 u_4 hd fun b n D0 w ho hD hs=>dz6 b n D0 w ho l hl hD hs
theorem bG8 (d:GoAbs.Id) (l:List Int) (hl:l.length<=1000000):aA8 Tryz.prog env 182 [.mpr d] [(d,.map l)] (.sl .any (ints l)):=by
 intro h he;simp only [D9,K0,D1,an4] at he;exact cW7 d l hl h he
theorem ds6 (a b:List Int) (ha:a.length<=100000) (hb:b.length<=100000) (ra:∀ x∈a,0<=x/\x<=1000000) (rb:∀ x∈b,0<=x/\x<=1000000) :
  c_ env 132 [.sl .any (ints a),.sl .any (ints b)] (.sl .any (ints (V9 a b))):=by
 intro h;have hv0:T0 b (T0 a [])=V9 a b:=rfl;generalize V9 a b=v at hv0 ⊢;refine g_ Tryz.func132 [.tmp 4] fun g0 w0 gen g9 hfr e9 n8=>?_;refine e_ ?_;refine k_ [1,4,5,11] [] (fun i σ=>σ.h ⟨gen,1,0⟩=some (.map (T0 (a.take i) []))) (a) ?_ ?_ ?_
 ·simp only [go_sem, *]
  exact ⟨f_,rfl⟩
 ·clear hv0
  intro i x σ gr0 o5 hgf l6 l9 m6 hx hxm hm hlt jI jN jT jA jm;have hx1:(ints a)[i]? = some [.int .i64 x]:=by simp [ints,hx]
  have hp:bS3 (T0 (a.take i) []) x=some (T0 (a.take (i+1)) []):=by
   rw [bn7 hx];have:=aq3 (a.take i) [];rw [ae6] at this;exact bS4 (by simp at this;omega) (ra x hxm).1 (by have:=(ra x hxm).2;omega)
  refine e_ ?_;exact jA.new (e9 _ _)
 ·
  intro σ ga0 q9 hgf l6 l8 m5 jT jA jm;rw [L2] at jm;refine e_ ?_;refine k_ [4,5,20] [] (fun i σ=>σ.h ⟨gen,1,0⟩=some (.map (T0 (b.take i) (T0 a [])))) (b) ?_ ?_ ?_
  ·simp only [go_sem, *]
   first|rfl|exact ⟨jA,rfl⟩
  ·clear hv0
   intro i x σ gr1 I2 hgf l6 C1 C6 hx hxm hm hlt jI jN jT jA jm2;have z7:=o7 (show gen<gr1 by omega);have z9:=n6 (show gen<gr1 by omega);have hx1:(ints b)[i]? = some [.int .i64 x]:=by simp [ints,hx]
   have hp:bS3 (T0 (b.take i) (T0 a [])) x=some (T0 (b.take (i+1)) (T0 a [])):=by
    rw [bn7 hx];have h1:=aq3 (b.take i) (T0 a []);have h2:=aq3 a [];rw [ae6] at h1;exact bS4 (by simp at h2;omega) (rb x hxm).1 (by have:=(rb x hxm).2;omega)
   refine e_ ?_;exact jA.new (e9 _ _)
  ·
   intro σ ga1 I1 hgf l6 C0 C5 jT jA jm2;have z6:=o7 (show gen<ga1 by omega);have z8:=n6 (show gen<ga1 by omega);rw [L2,hv0] at jm2;have hvl:v.length<=1000000:=by
    rw [<- hv0];have h1:=aq3 b (T0 a []);have h2:=aq3 a [];simp at h2;omega
   have hc:=bG8 ⟨gen,1,0⟩ v hvl;clear hv0
   repeat' (first
    |exact hin _|exact agf l_
    | (first|refine wp rfl ?_|refine spt rfl ?_|refine spf rfl ?_|(refine spl (fun hc=>?_) fun hc=>?_)<;>(try rw [L1] at hc)<;>try simp only [hc]|(refine R3 (hc) ?_ ?_;(focus ((simp only [go_sem, *]<;>(repeat (first|assumption|rfl|refine And.intro ?_ ?_)));done)))|refine Y7 g9 ?_ ?_ ?_)<;>try simp only [go_sem, *])
theorem dI3:∀ t:Tm,TmW t->t.least 1000000=true->∀ (dep:Int) (d:GoAbs.Id) (m:List Int),0<=dep->dep+a8 t<=1000000->m.length+a8 t<=1000000 ->
  m_ env 228 [.agg t.cells,.int .i64 dep,.mpr d] d (.map m) (.tup []) (.map (t.marks dep m)):=by
 intro t
 induction t using Tm.ind with|h t ih=>?_
 intro ht hle dep d m hd0 hd1 hm1 h hd;have hlen:=ht.len;rw [Tm.I6,A3,aW3] at hle;obtain ⟨ee7,dW7⟩:=hle;have hlx:∀ x∈t.args,x.least 1000000=true:=fun x hx=>Tm.G7.1 dW7 x hx;have hsz:a8 t=F7 t.args+1:=by cases t;rfl
 have ee1:0<=m9 t.kind/\m9 t.kind<=1:=by unfold m9;split<;>omega
 have ih':∀ x∈t.args,∀ m:List Int,m.length+a8 x<=1000000->dep+m9 t.kind+a8 x<=1000000->m_ env 228 [.agg x.cells,.int .i64 (dep+m9 t.kind),.mpr d] d (.map m) (.tup []) (.map (x.marks (dep+m9 t.kind) m)) :=
  fun x hx m hm hdx=>ih x hx (ht.arg hx) (hlx x hx) _ d m a_ hdx hm
 clear ih;have hB:=aD9 t;have hv0:=(t.bc3 dep m).symm;have hdx:dep+m9 t.kind+F7 t.args<=1000000:=by omega
 generalize hd2:dep+m9 t.kind=d2 at ih' hv0 hdx;have hw1:IntKind.i64.wrap (dep+m9 t.kind)=d2:=by rw [<- hd2];exact x7 a_ a_ a_
 clear hd2;generalize t.marks dep m=v at hv0 ⊢;obtain ⟨m0,hm0⟩:∃ m0,(if (t.kind==1&&decide (t.index>=dep))=true then V2 (t.index - dep) m else m)=m0:=⟨_,rfl⟩;rw [hm0] at hv0;have hm2:m0.length+F7 t.args<=1000000:=by
  rw [<- hm0];split
  ·have:=aK3 (t.index - dep) m;omega
  ·omega
 have dV8:((t.kind==1)=false/\m0=m)\/((t.kind==1)=true/\decide (t.index>=dep)=false/\m0=m)\/((t.kind==1)=true/\decide (t.index>=dep)=true/\IntKind.i64.wrap (t.index - dep)=t.index - dep/\bS3 m (t.index - dep)=some m0):=by
  cases hk:(t.kind==1)
  ·rw [hk,J6] at hm0;exact .inl ⟨rfl,by simpa using hm0.symm⟩
  ·rw [hk,J7] at hm0
   cases hi:decide (t.index>=dep)
   ·rw [hi] at hm0;exact .inr (.inl ⟨rfl,rfl,by simpa using hm0.symm⟩)
   ·rw [hi,B8 rfl] at hm0
    have hi':t.index>=dep:=by simpa using hi
    exact .inr (.inr ⟨rfl,rfl,x7 a_ a_ a_,by rw [<- hm0];exact bS4 a_ a_ a_⟩)
 clear hm0 ee7 dW7 hlx hd1 hm1 hsz ee1;rcases dV8 with ⟨hk,rfl⟩|⟨hk,hi,rfl⟩|⟨hk,hi,hw2,hp⟩
 all_goals
  refine g_ Tryz.func228 [] fun g0 w0 gen g9 hfr e9 n8=>?_;have f1:=n9 hfr hd;have f2:=p6 hfr hd;refine e_ ?_;refine v_ [1,2,3,23] [⟨gen,0,0⟩] (fun i σ=>a6 d h σ.h/\∃ m',σ.h d=some (.map m')/\Tm.ap9 (t.args.drop i) d2 m'=v/\m'.length+F7 (t.args.drop i)<=1000000) (t.args).length ?_ ?_ ?_
  ·simp only [go_sem, *]
   exact ⟨by repeat (first|exact a6.refl _ _|assumption|refine a6.new ?_ (e9 _ _)|refine a6.set ?_),_,rfl,hv0,hm2⟩
  ·clear hv0 hm2
   intro i σ gr0 o5 hgn hlt jI jN jS ⟨jA,m',js,jv,jl⟩;obtain ⟨jT,jB⟩:=jS;simp only [go_sem] at jT jB;have hgf:=o0 hgn;have l6:=p5 hd jA hgf (fun r i e=>by have:=hfr d (by rw [hd];simp);rw [e] at this;simp at this;omega);have aO3:=u5 hfr hd (show gen<gr0 by omega);have aO5:=D4 hfr hd (show gen<gr0 by omega);have l9:=o7 (show gen<gr0 by omega);have m6:=n6 (show gen<gr0 by omega);obtain ⟨x,hx,hxm,hm⟩:=rnx hlt;clear hgn;rw [s9 hx,Tm.bm5] at jv;rw [s9 hx,F7] at jl;have hxz:=I9 hxm;have hc:=ih' x hxm m' a_ a_;have hl2:=x.bJ9 d2 m';clear ih'
   repeat' (first
    |(refine ⟨?_,?_⟩;focus ((repeat' (first|refine ⟨?_,?_⟩|refine .inr ?_));all_goals kernel_rfl))
    | (first|refine wp rfl ?_|refine spt rfl ?_|refine spf rfl ?_|(refine spl (fun hc=>?_) fun hc=>?_)<;>(try rw [L1] at hc)<;>try simp only [hc]|(refine gs (fun hb=>?_) fun hb=>?_)<;>try simp only [E7,M9] at hb|refine cp hB ?_|refine ct (hc) q_ ?_|refine D3 ?_)<;>try simp only [go_sem, *])
   exact ⟨by repeat (first|assumption|refine a6.new ?_ (l6 _ _)|refine a6.set ?_),_,rfl,jv,a_⟩
  ·clear hv0 hm2
   intro σ ga0 q9 hgn jS ⟨jA,m',js,jv,jl⟩;obtain ⟨jT,jB⟩:=jS;simp only [go_sem] at jT jB;have hgf:=o0 hgn;have l6:=p5 hd jA hgf (fun r i e=>by have:=hfr d (by rw [hd];simp);rw [e] at this;simp at this;omega);have aO2:=u5 hfr hd (show gen<ga0 by omega);have aO4:=D4 hfr hd (show gen<ga0 by omega);have l8:=o7 (show gen<ga0 by omega);have m5:=n6 (show gen<ga0 by omega);clear hgn;rw [y6,Tm.aJ7] at jv;subst jv;clear ih';refine e_ ?_;refine ed9 g9 hd (by simp only [go_sem,L6]) jA js ?_;simp only [go_sem, *]
theorem dI8 (t:Tm) (ht:TmW t) (he:ag1 t=0) (hl:t.least 1000000=true) (hz:a8 t<=100000):c_ env 211 [.agg t.cells] (.tup [.sl .any (ints (aF6 t)),.int .i64 0]):=by
 intro h;have h1:=ag6 t ht;rw [he] at h1;have h2:=dI3 t ht hl 0;have h3:=t.bJ9 0 [];have hv0:t.marks 0 []=aF6 t:=rfl;generalize aF6 t=v at hv0 ⊢;rw [hv0] at h3;have h4:=fun d=>bG8 d v (by simp at h3;omega);have h2':=fun d=>h2 d [] a_ a_ (by simp;omega);rw [hv0] at h2';have n0:((0:Int) != 0)=false:=rfl;clear h2 hv0;refine g_ Tryz.func211 [.tmp 2,.tmp 3] fun g0 w0 gen g9 hfr e9 n8=>?_
 repeat' (first
  |exact hin _|exact agf l_
  | (first|refine wp rfl ?_|refine spt rfl ?_|refine spf rfl ?_|(refine spl (fun hc=>?_) fun hc=>?_)<;>(try rw [L1] at hc)<;>try simp only [hc]|refine cp h1 ?_|refine ct (h2' _) q_ ?_|(refine R3 (h4 _) ?_ ?_;(focus ((simp only [go_sem, *]<;>(repeat (first|assumption|rfl|refine And.intro ?_ ?_)));done)))|refine Y7 g9 ?_ ?_ ?_)<;>try simp only [go_sem, *])
theorem dJ1 (t:Tm) (ht:TmW t) (he:ag1 t=0) (hl:t.least 1000000=true) (hz:a8 t<=100000):c_ env 188 [.agg t.cells] (.sl .any (ints (aF6 t))):=by
 intro h;have h1:=dI8 t ht he hl hz;generalize aF6 t=v at h1 ⊢;exact d_ Tryz.func188 [.tmp 2]
theorem cJ4:∀ t:Pf,PfW t->c_ env 131 [.agg t.cells] (.int .i64 t.szW):=by
 intro t
 induction t using Pf.ind with|h t ih=>?_
 intro ht h;have hlen:=ht.len;have dd9:=ht.au6;have ao0:=ht.dt9;have ih':∀ x∈t.args,c_ env 131 [.agg x.cells] (.int .i64 x.szW):=fun x hx=>ih x hx (ht.arg hx);clear ih;have hv0:=t.aY7.symm;generalize hvv:t.szW=v at hv0 ⊢;clear hvv;refine g_ Tryz.func131 [.tmp 2] fun g0 w0 gen g9 hfr e9 n8=>?_;refine e_ ?_;refine k_ [1,2,11] [⟨gen,0,0⟩] (fun i σ=>∃ n,σ.tm 3=.int .i64 n/\Pf.Q6 (Fm.Q6 (Tm.Q6 n (t.a7.drop i)) t.N5) t.args=v) (t.a7) ?_ ?_ ?_
 ·simp only [go_sem, *]
  exact ⟨f_,_,rfl,hv0⟩
 ·clear hv0
  intro i x σ gr0 o5 hgf l6 l9 m6 hx hxm hm hlt jI jN jT jA ⟨n,jn,jv⟩;rw [s9 hx,Tm.U7] at jv;have hc:=M3 x (ht.term hxm);clear ih';refine e_ ?_;exact ⟨f_,_,rfl,jv⟩
 clear hv0;intro σ ga0 q9 hgf l6 l8 m5 jT jA ⟨n1,jn,jv⟩;rw [y6,Tm.aa1] at jv;refine e_ ?_;refine k_ [1,2,23] [⟨gen,0,0⟩] (fun i σ=>∃ n,σ.tm 3=.int .i64 n/\Pf.Q6 (Fm.Q6 n (t.N5.drop i)) t.args=v) (t.N5) ?_ ?_ ?_
 ·simp only [go_sem, *]
  first|exact ⟨f_,_,rfl,jv⟩|exact ⟨_,rfl,jv⟩
 ·clear jv
  intro i x σ gr1 I2 hgf l6 C1 C6 hx hxm hm hlt jI jN jT jA ⟨n,jn',jv⟩;have z7:=o7 (show gen<gr1 by omega);have z9:=n6 (show gen<gr1 by omega);rw [s9 hx,Fm.U7] at jv;have hc:=aS2 x (ht.form hxm);clear ih';refine e_ ?_;exact ⟨f_,_,rfl,jv⟩
 clear jv;intro σ ga1 I1 hgf l6 C0 C5 jT jA ⟨n2,jn',jv⟩;have z6:=o7 (show gen<ga1 by omega);have z8:=n6 (show gen<ga1 by omega);rw [y6,Fm.aa1] at jv;refine e_ ?_;refine k_ [2,35] [] (fun i σ=>∃ n,σ.tm 3=.int .i64 n/\Pf.Q6 n (t.args.drop i)=v) (t.args) ?_ ?_ ?_
 ·simp only [go_sem, *]
  first|exact ⟨f_,_,rfl,jv⟩|exact ⟨_,rfl,jv⟩
 ·clear jv
  intro i x σ gr2 bq8 hgf l6 aI2 aI8 hx hxm hm hlt jI jN jT jA ⟨n,jn'',jv⟩;have aI4:=o7 (show gen<gr2 by omega);have aJ0:=n6 (show gen<gr2 by omega);have aI0:=o7 (show ga0<gr2 by omega);have aI6:=n6 (show ga0<gr2 by omega);rw [s9 hx,Pf.U7] at jv;have hc:=ih' x hxm;clear ih';refine e_ ?_;exact ⟨f_,_,rfl,jv⟩
 clear jv;intro σ ga2 bq7 hgf l6 aI1 aI7 jT jA ⟨n3,jn'',jv⟩;have aI3:=o7 (show gen<ga2 by omega);have aI9:=n6 (show gen<ga2 by omega);have aH9:=o7 (show ga0<ga2 by omega);have aI5:=n6 (show ga0<ga2 by omega);rw [y6,Pf.aa1] at jv;subst jv;clear ih';exact i_
theorem cJ8:∀ t:Pf,PfW t->c_ env 130 [.agg t.cells] (.bool t.small):=by
 intro t
 induction t using Pf.ind with|h t ih=>?_
 intro ht h;have hlen:=ht.len;have dd9:=ht.au6;have ao0:=ht.dt9;have ih':∀ x∈t.args,c_ env 130 [.agg x.cells] (.bool x.small):=fun x hx=>ih x hx (ht.arg hx);clear ih;have hv0:((t.a7.drop 0).all (fun t=>!decide (t.szW>4096))&&t.N5.all (fun f=>!decide (f.szW>4096))&&Pf.an1 t.args)=t.small:=t.dj3.symm;generalize hvv:t.small=v at hv0 ⊢;clear hvv;refine g_ Tryz.func130 [.tmp 2] fun g0 w0 gen g9 hfr e9 n8=>?_;refine e_ ?_;refine k_ [1,10] [⟨gen,0,0⟩] (fun i σ=>((t.a7.drop i).all (fun t=>!decide (t.szW>4096))&&t.N5.all (fun f=>!decide (f.szW>4096))&&Pf.an1 t.args)=v) (t.a7) ?_ ?_ ?_
 ·simp only [go_sem, *]
  first|exact hv0|exact ⟨f_,hv0⟩
 ·clear hv0
  intro i x σ gr0 o5 hgf l6 l9 m6 hx hxm hm hlt jI jN jT jA jv;rw [s9 hx,aQ7] at jv;have hc:=M3 x (ht.term hxm);clear ih';cases hn:decide (x.szW>4096) with
  | true =>
   rw [hn] at jv;simp only [E7,J6] at jv;subst jv;exact i_
  | false =>
   rw [hn] at jv;simp only [M9,J7] at jv;refine e_ ?_
   first|exact f_|exact ⟨f_,jv⟩
 clear hv0;intro σ ga0 q9 hgf l6 l8 m5 jT jA jv;rw [y6,aQ9,J7] at jv;have jv:((t.N5.drop 0).all (fun f=>!decide (f.szW>4096))&&Pf.an1 t.args)=v:=jv;refine e_ ?_;refine k_ [1,21] [⟨gen,0,0⟩] (fun i σ=>((t.N5.drop i).all (fun f=>!decide (f.szW>4096))&&Pf.an1 t.args)=v) (t.N5) ?_ ?_ ?_
 ·simp only [go_sem, *]
  first|done|exact jv|exact ⟨f_,jv⟩
 ·clear jv
  intro i x σ gr1 I2 hgf l6 C1 C6 hx hxm hm hlt jI jN jT jA jv;have z7:=o7 (show gen<gr1 by omega);have z9:=n6 (show gen<gr1 by omega);rw [s9 hx,aQ7] at jv;have hc:=aS2 x (ht.form hxm);clear ih';cases hn:decide (x.szW>4096) with
  | true =>
   rw [hn] at jv;simp only [E7,J6] at jv;subst jv;exact i_
  | false =>
   rw [hn] at jv;simp only [M9,J7] at jv;refine e_ ?_
   first|exact f_|exact ⟨f_,jv⟩
 clear jv;intro σ ga1 I1 hgf l6 C0 C5 jT jA jv;have z6:=o7 (show gen<ga1 by omega);have z8:=n6 (show gen<ga1 by omega);rw [y6,aQ9,J7] at jv;have jv:Pf.an1 (t.args.drop 0)=v:=jv;refine e_ ?_;refine k_ [32] [] (fun i σ=>Pf.an1 (t.args.drop i)=v) (t.args) ?_ ?_ ?_
 ·simp only [go_sem, *]
  first|done|exact jv|exact ⟨f_,jv⟩
 ·clear jv
  intro i x σ gr2 bq8 hgf l6 aI2 aI8 hx hxm hm hlt jI jN jT jA jv;have aI4:=o7 (show gen<gr2 by omega);have aJ0:=n6 (show gen<gr2 by omega);have aI0:=o7 (show ga0<gr2 by omega);have aI6:=n6 (show ga0<gr2 by omega);rw [s9 hx,Pf.ch5] at jv;have hc:=ih' x hxm;clear ih';cases hn:x.small with
  | false =>
   rw [hn] at jv hc;simp only [J6] at jv;subst jv;exact i_
  | true =>
   rw [hn] at jv hc;simp only [J7] at jv;refine e_ ?_
   first|exact f_|exact ⟨f_,jv⟩
 clear jv;intro σ ga2 bq7 hgf l6 aI1 aI7 jT jA jv;have aI3:=o7 (show gen<ga2 by omega);have aI9:=n6 (show gen<ga2 by omega);have aH9:=o7 (show ga0<ga2 by omega);have aI5:=n6 (show ga0<ga2 by omega);rw [y6,Pf.cu5] at jv;subst jv;clear ih';exact i_
theorem bZ1 (t:Pf) (ht:PfW t):c_ env 86 [.agg t.cells] (.bool t.fits):=by
 intro h;have h1:=cJ8 t ht;have h2:=cJ4 t ht;unfold Pf.fits;cases hs:t.small<;>rw [hs] at h1<;>cases hc:decide (t.szW<=16384)
 all_goals
  simp only [J7,J6];exact d_ Tryz.func86 [.tmp 2]
theorem bH3 (t:Pf) (ht:PfW t) (hg:PfG t):c_ env 50 [.agg t.cells] (.int .i64 (if t.fits=true then 0 else 4)):=by
 intro h;have h1:=cJ7 t ht hg;have h2:=bZ1 t ht;cases hf:t.fits<;>rw [hf] at h2
 all_goals
  simp only [B2,p7,r6];exact d_ Tryz.func50 [.tmp 2]
attribute [go_sem] aQ6 az9 w7 bo9
def kt:Tys:=⟨3,300,303,307,310⟩
variable {ve v:V}
@[go_sem] theorem eh5:kt.int=3:=rfl
@[go_sem] theorem ec3:kt.cell=300:=rfl
@[go_sem] theorem ec2:kt.both=303:=rfl
@[go_sem] theorem ec4:kt.unit=307:=rfl
@[go_sem] theorem eh4:kt.clo=310:=rfl
theorem cU4 {m:Nat} (h:atV (m+1) ve=some v):∃ x n,ve=.el [x,n] 0/\atV m n=some v:=by
 unfold atV at h;split at h
 ·exact absurd ‹_› a_
 ·rename_i i x n e
  cases e;exact ⟨x,n,rfl,h⟩
 ·cases h
theorem cU5 (h:atV 0 ve=some v):∃ n,ve=.el [v,n] 0:=by
 unfold atV at h;split at h
 ·rename_i x n _;cases h;exact ⟨n,rfl⟩
 ·exfalso;omega
 ·cases h
theorem dq7 (i:Nat) (hi:i<=100000) (ha:atV i ve=some v) (hw:J5 v=v) (hin:∀ S,InV S v):c_ env 287 [ve,.int .i64 i] v:=by
 intro h;refine g_ Tryz.func287 [.tmp 4] fun g0 w0 gen g9 hfr e9 n8=>?_;refine e_ ?_;refine E6 (fun j σ=>σ.tm 1=.int .i64 ((i:Int) - j)/\m8 h σ.h/\atV (i - j) (σ.tm 0)=some v) i ?_ ?_
 ·simp only [go_sem, *]
  exact ⟨b_,f_,ha⟩
 clear ha;intro j σ hj ⟨j1,jA,ja⟩;refine ai4 (fun gn hgl hgn=>?_);have hgf:=o0 hgn;have l6:=fun r i=>F3 jA (hgf r i);clear hgn;rcases R0 j i with hlt|hge
 ·have hd:decide ((i:Int) - (j:Int)>0)=true:=by simp;omega
  have hw1:IntKind.i64.wrap ((i:Int) - (j:Int) - 1)=(i:Int) - ((j+1:Nat):Int):=x7 a_ a_ a_;rw [show i - j=(i - (j+1))+1 by omega] at ja;obtain ⟨x,n,e,ja⟩:=cU4 ja;exact x_
  all_goals exact ⟨a_,rfl,jA,ja⟩
 ·have hd:decide ((i:Int) - (j:Int)>0)=false:=by simp;omega
  rw [show i - j=0 by omega] at ja;obtain ⟨n,e⟩:=cU5 ja;clear ja;exact i_
end Go.Proofs.YtmfhhhhnokhggaaGreatDoor
