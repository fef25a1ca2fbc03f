/-
 The abstract layer: what the abstract layer is, and that its operations are followed.
-/
import Derived.WalkKit
import Derived.Orders
set_option linter.unusedSimpArgs false
set_option linter.unusedVariables false
set_option linter.unusedSectionVars false
namespace GoAbs
open Go
structure Id where
 gen : Nat
 reg : Nat
 op : Nat
 deriving DecidableEq
inductive Cap where
 | any
 | full
 | own (id : Id)
inductive V where
 | undef
 | bool (b : Bool)
 | int (k : IntKind) (n : Int)
 | str (s : ByteArray)
 | agg (cs : List V)
 | tup (vs : List V)
 | sl (c : Cap) (es : List (List V))
 | ptr (id : Id) (off : Nat)
 | slb (id : Id) (n : Nat)
 | slr (id : Id) (n cap : Nat)
 | el (cs : List V) (off : Nat)
 | nilp
 | fn (f : Fn) (first captured : List V)
 | nilf
 | iface (t : TypeId) (v : V)
 | nili
inductive Obj where
 | box (cs : List V)
 | tok (n k : Nat)
abbrev H := Id → Option Obj
structure Buf where
 a : Option Addr
 n : Nat
 cap : Nat
 k : Nat
structure G where
 lim : Nat → Nat
 wr : Nat → Bool
 loc : Id → Nat
 buf : Id → Buf
 dom : Id → Bool
 top : Nat
def CapOk (g : G) (a : Option Addr) (len cap k : Nat) : Cap → Prop
 | .any => True
 | .full => cap = len
 | .own id => g.dom id = true ∧ len ≤ (g.buf id).n ∧ (len = (g.buf id).n → g.buf id = ⟨a, len, cap, k⟩)
inductive RV (g : G) (w : World) : Value → V → Prop where
  | undef (c : Value) : RV g w c .undef
  | bool (b : Bool) : RV g w (.bool b) (.bool b)
  | int (k : IntKind) (n : Int) : RV g w (.int k n) (.int k n)
  | str (s : ByteArray) : RV g w (.string s) (.str s)
  | agg (vs : Array Value) (cs : List V) (h : vs.size = cs.length)
      (r : ∀ (i : Nat) (c : Value) (v : V), vs[i]? = some c → cs[i]? = some v → RV g w c v) : RV g w (.agg vs) (.agg cs)
  | tup (vs : Array Value) (cs : List V) (h : vs.size = cs.length)
      (r : ∀ (i : Nat) (c : Value) (v : V), vs[i]? = some c → cs[i]? = some v → RV g w c v) : RV g w (.tuple vs) (.tup cs)
  | sl (a : Option Addr) (cap : Nat) (c : Cap) (es : List (List V)) (k : Nat) (cell : Nat → Value)
      (hk : ∀ e ∈ es, e.length = k) (hcap : es.length ≤ cap)
      (hrun : es ≠ [] → ∃ b off, a = some ⟨b, off, none⟩ ∧ off + es.length * k ≤ g.lim b ∧
        ∀ i, i < es.length * k → w.cell? ⟨b, off + i, none⟩ = some (cell i))
      (hr : ∀ (i : Nat) (v : V), es.flatten[i]? = some v → RV g w (cell i) v)
      (hc : CapOk g a es.length cap k c) : RV g w (.slice a es.length cap) (.sl c es)
  | ptr (id : Id) (off : Nat) (h : g.dom id = true) : RV g w (.pointer (some ⟨g.loc id, off, none⟩)) (.ptr id off)
  | slb (id : Id) (n cap : Nat) (h : g.dom id = true) (hc : n ≤ cap) : RV g w (.slice (some ⟨g.loc id, 0, none⟩) n cap) (.slb id n)
  | slr (id : Id) (n cap : Nat) (h : g.dom id = true) (hc : n ≤ cap) : RV g w (.slice (some ⟨g.loc id, 0, none⟩) n cap) (.slr id n cap)
  | el (b off : Nat) (cs : List V) (o : Nat) (cell : Nat → Value) (hl : off + cs.length ≤ g.lim b)
      (hrun : ∀ i, i < cs.length → w.cell? ⟨b, off + i, none⟩ = some (cell i))
      (hr : ∀ (i : Nat) (v : V), cs[i]? = some v → RV g w (cell i) v) : RV g w (.pointer (some ⟨b, off + o, none⟩)) (.el cs o)
  | nilp : RV g w (.pointer none) .nilp
  | fn (f : Fn) (fs cs : Array Value) (fs' cs' : List V) (h1 : fs.size = fs'.length) (h2 : cs.size = cs'.length)
      (r1 : ∀ (i : Nat) (c : Value) (v : V), fs[i]? = some c → fs'[i]? = some v → RV g w c v)
      (r2 : ∀ (i : Nat) (c : Value) (v : V), cs[i]? = some c → cs'[i]? = some v → RV g w c v) : RV g w (.func f fs cs) (.fn f fs' cs')
  | nilf : RV g w .nilFunc .nilf
  | iface (t : TypeId) (c : Value) (v : V) (r : RV g w c v) : RV g w (.iface t c) (.iface t v)
  | nili : RV g w .nilIface .nili

structure Ext (g : G) (w : World) (g' : G) (w' : World) : Prop where
 os : w'.os = w.os
 tape : w'.tape = w.tape
 output : w'.output = w.output
 size : w.heap.size ≤ w'.heap.size
 lim : ∀ b, g.lim b ≤ g'.lim b
 cells : ∀ b o, o < g.lim b → w'.cell? ⟨b, o, none⟩ = w.cell? ⟨b, o, none⟩
 wr : ∀ b, b < w.heap.size → g.wr b = false → w'.heap[b]? = w.heap[b]? ∧ g'.wr b = false
 dom : ∀ id, g.dom id = true → g'.dom id = true ∧ g'.loc id = g.loc id ∧ (g'.buf id = g.buf id ∨ (g.buf id).n < (g'.buf id).n)
 top : g.top ≤ g'.top
theorem Ext.refl (g : G) (w : World) : Ext g w g w :=
 ⟨rfl, rfl, rfl, Nat.le_refl _, fun _ => Nat.le_refl _, fun _ _ _ => rfl, fun _ _ h => ⟨rfl, h⟩, fun _ h => ⟨h, rfl, .inl rfl⟩, Nat.le_refl _⟩
theorem Ext.trans {g1 g2 g3 : G} {w1 w2 w3 : World} (a : Ext g1 w1 g2 w2) (b : Ext g2 w2 g3 w3) : Ext g1 w1 g3 w3 where
 os := b.os.trans a.os
 tape := b.tape.trans a.tape
 output := b.output.trans a.output
 size := Nat.le_trans a.size b.size
 lim := fun x => Nat.le_trans (a.lim x) (b.lim x)
 cells := fun x o h => (b.cells x o (Nat.lt_of_lt_of_le h (a.lim x))).trans (a.cells x o h)
 wr := fun x hx h => by
  obtain ⟨h1, h2⟩ := a.wr x hx h
  obtain ⟨h3, h4⟩ := b.wr x (Nat.lt_of_lt_of_le hx a.size) h2
  exact ⟨h3.trans h1, h4⟩
 dom := fun id h => by
  obtain ⟨h1, h2, h3⟩ := a.dom id h
  obtain ⟨h4, h5, h6⟩ := b.dom id h1
  refine ⟨h4, h5.trans h2, ?_⟩
  rcases h3 with h3 | h3 <;> rcases h6 with h6 | h6
  ·exact .inl (h6.trans h3)
  ·exact .inr (by rw [← h3]; exact h6)
  ·exact .inr (by rw [h6]; exact h3)
  ·exact .inr (Nat.lt_trans h3 h6)
 top := Nat.le_trans a.top b.top
theorem CapOk.mono {g g' : G} {w w' : World} (x : Ext g w g' w') {a : Option Addr} {len cap k : Nat} {c : Cap} (h : CapOk g a len cap k c) :
  CapOk g' a len cap k c := by
 cases c with
 | any => trivial
 | full => exact h
 | own id =>
  obtain ⟨h1, h2, h3⟩ := h
  obtain ⟨h4, _, h5⟩ := x.dom id h1
  refine ⟨h4, ?_, fun e => ?_⟩
  ·rcases h5 with h5 | h5
   ·rw [h5]; exact h2
   ·omega
  ·rcases h5 with h5 | h5
   ·rw [h5]; exact h3 (by rw [← h5]; exact e)
   ·omega
theorem RV.mono {g g' : G} {w w' : World} (x : Ext g w g' w') {c : Value} {v : V} (h : RV g w c v) : RV g' w' c v := by
 induction h with
 | undef c => exact .undef c
 | bool b => exact .bool b
 | int k n => exact .int k n
 | str s => exact .str s
 | agg vs cs h _ ih => exact .agg vs cs h ih
 | tup vs cs h _ ih => exact .tup vs cs h ih
 | sl a cap c es k cell hk hcap hrun _ hc ih =>
  refine .sl a cap c es k cell hk hcap (fun hne => ?_) ih (hc.mono x)
  obtain ⟨b, off, rfl, hl, hcell⟩ := hrun hne
  exact ⟨b, off, rfl, Nat.le_trans hl (x.lim b), fun i hi => (x.cells b _ (by omega)).trans (hcell i hi)⟩
 | ptr id off h =>
  obtain ⟨h1, h2, _⟩ := x.dom id h
  rw [← h2]; exact .ptr id off h1
 | slb id n cap h hc =>
  obtain ⟨h1, h2, _⟩ := x.dom id h
  rw [← h2]; exact .slb id n cap h1 hc
 | slr id n cap h hc =>
  obtain ⟨h1, h2, _⟩ := x.dom id h
  rw [← h2]; exact .slr id n cap h1 hc
 | el b off cs o cell hl hrun _ ih =>
  exact .el b off cs o cell (Nat.le_trans hl (x.lim b)) (fun i hi => (x.cells b _ (by omega)).trans (hrun i hi)) ih
 | nilp => exact .nilp
 | fn f fs cs fs' cs' h1 h2 _ _ ih1 ih2 => exact .fn f fs cs fs' cs' h1 h2 ih1 ih2
 | nilf => exact .nilf
 | iface t c v _ ih => exact .iface t c v ih
 | nili => exact .nili
def CellsAt (w : World) (b : Nat) (vs : Array Value) : Prop := ∃ ty, w.heap[b]? = some (.cells vs ty (0, 0))
def Spare (g : G) (w : World) (id : Id) : Prop :=
 ∃ b off vs, (g.buf id).a = some ⟨b, off, none⟩ ∧ CellsAt w b vs ∧ off + (g.buf id).cap * (g.buf id).k ≤ vs.size ∧
  g.lim b = off + (g.buf id).n * (g.buf id).k ∧ g.wr b = true
structure Rel (env : Nat → Option (List V)) (g : G) (w : World) (h : H) : Prop where
 dom : ∀ id, g.dom id = true ↔ h id ≠ none
 top : ∀ id, h id ≠ none → id.gen < g.top
 box : ∀ id cs, h id = some (.box cs) → ∃ vs, CellsAt w (g.loc id) vs ∧ cs.length ≤ vs.size ∧
  (∀ (i : Nat) (c : Value) (v : V), vs[i]? = some c → cs[i]? = some v → RV g w c v) ∧ g.lim (g.loc id) = 0 ∧ g.wr (g.loc id) = true
 inj : ∀ id id' cs cs', h id = some (.box cs) → h id' = some (.box cs') → g.loc id = g.loc id' → id = id'
 tok : ∀ id n k, h id = some (.tok n k) → (g.buf id).n = n ∧ n ≤ (g.buf id).cap ∧ (n < (g.buf id).cap → Spare g w id) ∧ (g.buf id).k = k
 apart : ∀ id id' n k cs, h id = some (.tok n k) → n < (g.buf id).cap → h id' = some (.box cs) → ∀ a, (g.buf id).a = some a → a.block ≠ g.loc id'
 apart2 : ∀ id id' n n' k k', h id = some (.tok n k) → n < (g.buf id).cap → h id' = some (.tok n' k') → n' < (g.buf id').cap →
  ∀ a a', (g.buf id).a = some a → (g.buf id').a = some a' → a.block = a'.block → id = id'
 limnew : ∀ b, w.heap.size ≤ b → g.lim b = 0
 glob : ∀ k cs, env k = some cs → RV g w (.pointer (some ⟨k, 0, none⟩)) (.el cs 0)
structure TyI where
 size : Nat
 bytes : Nat
 agg : Bool
 zero : List V
 fields : List (Nat × Nat × Bool)
 fok : Bool
 kind : Nat
 alen : Nat
 esize : Nat
 ebytes : Nat
 eagg : Bool
 ezero : List V
 ik : Option IntKind
 frz : Bool
def toV1 : Value → V
 | .bool b => .bool b
 | .int k n => .int k n
 | .string s => .str s
 | .pointer none => .nilp
 | .slice a len cap => if a = none ∧ len = 0 ∧ cap = 0 then .sl .full [] else .undef
 | .nilFunc => .nilf
 | .nilIface => .nili
 | .func f first captured => if first.size = 0 ∧ captured.size = 0 then .fn f [] [] else .undef
 | _ => .undef
def toV : Value → V
 | .agg cs => .agg (cs.toList.map toV1)
 | v => toV1 v
def szOf (P : Program) (t : TypeId) : Nat :=
 match P.info? t, P.underlying t with
 | some i, some _ => i.size
 | _, _ => 0
def bytesOf (P : Program) (t : TypeId) : Nat := ((P.info? t).map (·.bytes)).getD 0
def aggOf (P : Program) (t : TypeId) : Bool :=
 match P.underlying t with
 | some (.struct _) | some (.array _ _) => true
 | _ => false
def tyi (P : Program) (t : TypeId) : Option TyI :=
  match P.info? t, P.underlying t with
  | some i, some d =>
    match i.zero with
    | some z =>
      some { size := i.size, bytes := i.bytes, agg := aggOf P t, zero := z.cells.toList.map toV1,
             fields := (match d with | .struct fs => fs.toList.map fun f => (f.offset, szOf P f.type, aggOf P f.type) | _ => []),
             fok := (match d with | .struct fs => fs.toList.all fun f => szOf P f.type != 0 | _ => false),
             kind := (match d with | .bool => 1 | .int _ => 2 | .struct _ => 3 | .slice _ => 4 | .array _ _ => 5 | .string => 6 | .pointer _ => 7 | .interface _ => 8 | _ => 0),
             alen := (match d with | .array n _ => n | _ => 0),
             esize := (match d with | .slice e | .array _ e => szOf P e | _ => 0),
             ebytes := (match d with | .slice e | .array _ e => bytesOf P e | _ => 0),
             eagg := (match d with | .slice e | .array _ e => aggOf P e | _ => false),
             ezero := (match d with | .slice e | .array _ e => (match P.info? e with | some j => (match j.zero with | some z => z.cells.toList.map toV1 | none => []) | none => []) | _ => []),
             ik := (match d with | .int k => some k | _ => none),
             frz := (match d with | .struct _ => z.cells.any (fun c => match c with | .pointer none => true | .nilIface => true | _ => false) | _ => false) }
    | none => none
  | _, _ => none

def cellsOf : V → Option (List V)
 | .undef => none
 | .agg cs => some cs
 | .tup _ => none
 | v => some [v]
def partV (agg : Bool) (size : Nat) (cs : List V) (off : Nat) : Option V :=
 if size = 0 then none else if agg then (if off + size ≤ cs.length then some (.agg ((cs.drop off).take size)) else none) else cs[off]?
def splice (cs : List V) (off : Nat) : List V → List V
 | [] => cs
 | v :: vs => splice (cs.set off v) (off + 1) vs
def fillV (fields : List (Nat × Nat)) (cs : List V) : List (Nat × V) → Option (List V)
 | [] => some cs
 | (i, v) :: rest =>
  match fields[i]?, cellsOf v with
  | some (off, size), some xs => if xs.length = size ∧ off + size ≤ cs.length then fillV fields (splice cs off xs) rest else none
  | _, _ => none
def bandI (k : IntKind) (a b : Int) : Int := k.wrap (BitVec.ofInt k.bits a &&& BitVec.ofInt k.bits b).toNat
def borI (k : IntKind) (a b : Int) : Int := k.wrap (BitVec.ofInt k.bits a ||| BitVec.ofInt k.bits b).toNat
def intBin (op : BinOp) (k : IntKind) (a b : Int) : Option V :=
 match op with
 | .add => some (.int k (k.wrap (a + b)))
 | .sub => some (.int k (k.wrap (a - b)))
 | .mul => some (.int k (k.wrap (a * b)))
 | .quo => if b = 0 then none else some (.int k (k.wrap (a.tdiv b)))
 | .rem => if b = 0 then none else some (.int k (a.tmod b))
 | .eql => some (.bool (a == b))
 | .neq => some (.bool (a != b))
 | .lss => some (.bool (a < b))
 | .leq => some (.bool (a ≤ b))
 | .gtr => some (.bool (a > b))
 | .geq => some (.bool (a ≥ b))
 | .and => some (.int k (bandI k a b))
 | .or => some (.int k (borI k a b))
 | _ => none
def nilEq (T : Option TyI) (op : BinOp) (same : Bool) : Option V :=
 match T with
 | some i => if i.kind = 7 then (match op with | .eql => some (.bool same) | .neq => some (.bool !same) | _ => none) else none
 | none => none
def binV (T : Option TyI) (op : BinOp) (x y : V) : Option V :=
 match x, y with
 | .int k a, .int k' b => if k = k' then intBin op k a b else none
 | .bool a, .bool b =>
  match T with
  | some i => if i.kind = 1 then (match op with | .eql => some (.bool (a == b)) | .neq => some (.bool (a != b)) | _ => none) else none
  | none => none
 | .str a, .str b => (match op with | .eql => some (.bool (a.toList == b.toList)) | .neq => some (.bool (!(a.toList == b.toList))) | _ => none)
 | .nilp, .nilp => nilEq T op true
 | .el _ _, .nilp => nilEq T op false
 | .ptr _ _, .nilp => nilEq T op false
 | _, _ => none
def addOff (x : V) (n : Nat) : Option V :=
 match x with
 | .ptr id off => some (.ptr id (off + n))
 | .el cs off => some (.el cs (off + n))
 | _ => none
def natOf : V → Option Nat
 | .int _ n => if 0 ≤ n then some n.toNat else none
 | _ => none
def boundOf (d : Nat) : Option V → Option Nat
 | none => some d
 | some v => natOf v
def sliceV (c : Cap) (es : List (List V)) (lo hi mx : Option V) : Option V :=
 match mx with
 | some m =>
  match boundOf 0 lo, hi.bind natOf, natOf m with
  | some l, some h, some m => if l ≤ h ∧ h ≤ m ∧ m = es.length ∧ h = m then some (.sl .full ((es.take h).drop l)) else none
  | _, _, _ => none
 | none =>
  match boundOf 0 lo, boundOf es.length hi with
  | some l, some h => if l ≤ h ∧ h ≤ es.length then some (.sl (if l = 0 ∧ h = es.length then c else .any) ((es.take h).drop l)) else none
  | _, _ => none
def lenV : V → Option Nat
 | .sl _ es => some es.length
 | .slb _ n => some n
 | .slr _ n _ => some n
 | _ => none
def primV (P : Program) (ρ : Operand → V) : Op → Option V
  | .move x | .assign x => some (ρ x)
  | .pick c a b => match ρ c with | .bool t => some (if t then ρ a else ρ b) | _ => none
  | .build t parts =>
    match tyi P t with
    | some i => if i.kind = 3 ∧ i.fok = true then (fillV (i.fields.map fun f => (f.1, f.2.1)) i.zero (parts.toList.map fun p => (p.1, ρ p.2))).map .agg
                else if i.kind = 5 ∧ i.esize ≠ 0 then (fillV ((List.range i.alen).map fun j => (j * i.esize, i.esize)) i.zero (parts.toList.map fun p => (p.1, ρ p.2))).map .agg else none
    | none => none
  | .nilCheck x => match ρ x with | .ptr id off => some (.ptr id off) | .el cs off => some (.el cs off) | _ => none
  | .binOp op t x y _ => binV (tyi P t) op (ρ x) (ρ y)
  | .unOp op _ x =>
    match op, ρ x with
    | .not, .bool b => some (.bool !b)
    | .neg, .int k n => some (.int k (k.wrap (0 - n)))
    | _, _ => none
  | .convert s d x =>
    match tyi P s, tyi P d, ρ x with
    | some _, some i, .int _ n => i.ik.map fun k => .int k (k.wrap n)
    | _, _, _ => none
  | .fieldAddr s x f =>
    match tyi P s with
    | some i => (match i.fields[f]? with | some (off, size, _) => if size = 0 then none else addOff (ρ x) off | none => none)
    | none => none
  | .field s x f =>
    match tyi P s, ρ x with
    | some i, .agg cs => (match i.fields[f]? with | some (off, size, a) => partV a size cs off | none => none)
    | _, _ => none
  | .indexAddr t x ix =>
    match tyi P t, ρ ix with
    | some i, .int _ n =>
      if i.kind = 4 then
        (match ρ x with
        | .sl _ es => if 0 ≤ n then (match es[n.toNat]? with | some e => if e.length = i.esize ∧ i.esize ≠ 0 then some (.el e 0) else none | none => none) else none
        | .slb id m => if 0 ≤ n ∧ n.toNat < m ∧ i.esize ≠ 0 then some (.ptr id (n.toNat * i.esize)) else none
        | _ => none)
      else if i.kind = 5 ∧ 0 ≤ n ∧ n < i.alen ∧ i.esize ≠ 0 then addOff (ρ x) (n.toNat * i.esize) else none
    | _, _ => none
  | .index t x ix =>
    match tyi P t, ρ x, ρ ix with
    | some i, .agg cs, .int _ n => if i.kind = 5 ∧ 0 ≤ n ∧ n < i.alen then partV i.eagg i.esize cs (n.toNat * i.esize) else none
    | _, _, _ => none
  | .extract x i => match ρ x with | .tup vs => vs[i]? | _ => none
  | .slice t x lo hi mx =>
    match tyi P t, ρ x with
    | some i, .sl c es =>
      if i.kind = 4 ∧ i.esize ≠ 0 ∧ (lo.isNone = true ∨ es.all (fun e => e.length == i.esize) = true) then sliceV c es (lo.map ρ) (hi.map ρ) (mx.map ρ) else none
    | _, _ => none
  | .makeFunc f first captured => some (.fn f (first.toList.map ρ) (captured.toList.map ρ))
  | .typeAssert x _ t ok => match tyi P t, ρ x with
    | some i, .iface t' v => if i.kind = 8 then none else if t' = t then some (if ok then .tup [v, .bool true] else v) else if ok then some (.tup [.undef, .bool false]) else none
    | _, _ => none
  | .makeInterface t x => match tyi P t with | some i => if i.kind = 8 then none else some (.iface t (ρ x)) | none => none
  | .call { callee := .builtin .len, args := args, argTypes := ts } =>
    match args.toList, ts.toList with
    | [x], [t] => (match tyi P t, lenV (ρ x) with | some i, some n => if i.kind = 4 then some (.int .i64 n) else none | _, _ => none)
    | _, _ => none
  | .call { callee := .builtin .max, args := args, .. } =>
    match args.toList.map ρ with
    | [.int k a, .int k' b] => if k = k' then some (.int k (if b > a then b else a)) else none
    | _ => none
  | .call { callee := .builtin .min, args := args, .. } =>
    match args.toList.map ρ with
    | [.int k a, .int k' b] => if k = k' then some (.int k (if b < a then b else a)) else none
    | _ => none
  | _ => none


def RVL (g : G) (w : World) (vs : Array Value) (cs : List V) : Prop :=
 vs.size = cs.length ∧ ∀ (i : Nat) (c : Value) (v : V), vs[i]? = some c → cs[i]? = some v → RV g w c v
theorem RVL.mono {g g' : G} {w w' : World} (x : Ext g w g' w') {vs : Array Value} {cs : List V} (h : RVL g w vs cs) : RVL g' w' vs cs :=
 ⟨h.1, fun i c v a b => (h.2 i c v a b).mono x⟩
theorem RVL.at {g : G} {w : World} {vs : Array Value} {cs : List V} (h : RVL g w vs cs) {i : Nat} {v : V} (hv : cs[i]? = some v) :
  ∃ c, vs[i]? = some c ∧ RV g w c v := by
 have hi : i < cs.length := by
  rcases Nat.lt_or_ge i cs.length with h' | h'
  ·exact h'
  ·simp [List.getElem?_eq_none h'] at hv
 have : i < vs.size := by rw [h.1]; exact hi
 exact ⟨vs[i], by simp [this], h.2 i _ v (by simp [this]) hv⟩
theorem RVL.mk {g : G} {w : World} {vs : Array Value} {cs : List V} (h : vs.size = cs.length)
    (r : ∀ (i : Nat) (v : V), cs[i]? = some v → ∃ c, vs[i]? = some c ∧ RV g w c v) : RVL g w vs cs :=
  ⟨h, fun i c v a b => by
    obtain ⟨c', h1, h2⟩ := r i v b
    rw [a] at h1; cases h1; exact h2⟩

theorem rv_toV1 (g : G) (w : World) (c : Value) : RV g w c (toV1 c) := by
 cases c with
 | bool b => exact .bool _
 | int k n => exact .int _ _
 | string s => exact .str _
 | pointer a => cases a with
  | none => exact .nilp
  | some a => exact .undef _
 | slice a len cap =>
  simp only [toV1]
  split
  ·rename_i h
   obtain ⟨rfl, rfl, rfl⟩ := h
   exact .sl none 0 .full [] 0 (fun _ => .nilFunc) (by simp) (by simp) (by simp) (by simp) rfl
  ·exact .undef _
 | nilFunc => exact .nilf
 | nilIface => exact .nili
 | func f first captured =>
  simp only [toV1]
  split
  ·rename_i h
   obtain ⟨h1, h2⟩ := h
   exact .fn _ _ _ _ _ (by simpa using h1) (by simpa using h2) (by simp) (by simp)
  ·exact .undef _
 | _ => exact .undef _
theorem rvl_toV1 (g : G) (w : World) (cs : Array Value) : RVL g w cs (cs.toList.map toV1) :=
  ⟨by simp, fun i c v h1 h2 => by
    have : cs.toList[i]? = some c := by simpa using h1
    simp only [List.getElem?_map, this, Option.map_some] at h2
    cases h2; exact rv_toV1 g w c⟩

theorem rv_toV (g : G) (w : World) (c : Value) : RV g w c (toV c) := by
 unfold toV
 split
 ·exact .agg _ _ (rvl_toV1 g w _).1 (rvl_toV1 g w _).2
 ·exact rv_toV1 g w _
theorem rvl_one {g : G} {w : World} {c : Value} {v : V} (h : RV g w c v) : RVL g w #[c] [v] :=
  ⟨rfl, fun i a b h1 h2 => by
    cases i with
    | zero => simp at h1 h2; subst h1; subst h2; exact h
    | succ i => simp at h2⟩

theorem rv_cells {g : G} {w : World} {c : Value} {v : V} {cs : List V} (h : RV g w c v) (hc : cellsOf v = some cs) : RVL g w c.cells cs := by
 cases h with
 | undef => simp [cellsOf] at hc
 | agg vs cs' h r => simp [cellsOf] at hc; subst hc; exact ⟨h, r⟩
 | tup => simp [cellsOf] at hc
 | bool b => simp [cellsOf] at hc; subst hc; exact rvl_one (.bool b)
 | int k n => simp [cellsOf] at hc; subst hc; exact rvl_one (.int k n)
 | str s => simp [cellsOf] at hc; subst hc; exact rvl_one (.str s)
 | sl a cap c es k cell hk hcap hrun hr hcc => simp [cellsOf] at hc; subst hc; exact rvl_one (.sl a cap c es k cell hk hcap hrun hr hcc)
 | ptr id off h => simp [cellsOf] at hc; subst hc; exact rvl_one (.ptr id off h)
 | slb id n cap h h2 => simp [cellsOf] at hc; subst hc; exact rvl_one (.slb id n cap h h2)
 | slr id n cap h h2 => simp [cellsOf] at hc; subst hc; exact rvl_one (.slr id n cap h h2)
 | el b off cs o cell hl hrun hr => simp [cellsOf] at hc; subst hc; exact rvl_one (.el b off cs o cell hl hrun hr)
 | nilp => simp [cellsOf] at hc; subst hc; exact rvl_one .nilp
 | fn f fs cs fs' cs' h1 h2 r1 r2 => simp [cellsOf] at hc; subst hc; exact rvl_one (.fn f fs cs fs' cs' h1 h2 r1 r2)
 | nilf => simp [cellsOf] at hc; subst hc; exact rvl_one .nilf
 | iface t c v r => simp [cellsOf] at hc; subst hc; exact rvl_one (.iface t c v r)
 | nili => simp [cellsOf] at hc; subst hc; exact rvl_one .nili
theorem add_off (b off n : Nat) : (⟨b, off, none⟩ : Addr).add n = ⟨b, off + n, none⟩ := by
 unfold Addr.add; split <;> simp_all
theorem rv_addOff {g : G} {w : World} {c : Value} {x v : V} {n : Nat} (h : RV g w c x) (hv : addOff x n = some v) :
  ∃ b o, c = .pointer (some ⟨b, o, none⟩) ∧ RV g w (.pointer (some ⟨b, o + n, none⟩)) v := by
 cases h with
 | ptr id off h => simp [addOff] at hv; subst hv; exact ⟨_, _, rfl, .ptr id _ h⟩
 | el b off cs o cell hl hrun hr =>
  simp [addOff] at hv; subst hv
  exact ⟨_, _, rfl, by rw [Nat.add_assoc]; exact .el b off cs (o + n) cell hl hrun hr⟩
 | _ => simp [addOff] at hv
theorem rvl_splice {g : G} {w : World} : ∀ (new : List V) (nw : List Value) (off : Nat) (vs : Array Value) (cs : List V),
    RVL g w vs cs → RVL g w nw.toArray new →
    RVL g w ((nw.zipIdx).foldl (fun a (c, j) => a.setIfInBounds (off + j) c) vs) (splice cs off new) := by
  suffices H : ∀ (new : List V) (nw : List Value) (off k : Nat) (vs : Array Value) (cs : List V),
      RVL g w vs cs → RVL g w nw.toArray new →
      RVL g w ((nw.zipIdx k).foldl (fun a (c, j) => a.setIfInBounds (off + j) c) vs) (splice cs (off + k) new) by
    intro new nw off vs cs h1 h2
    exact H new nw off 0 vs cs h1 h2
  intro new
  induction new with
  | nil =>
    intro nw off k vs cs h1 h2
    have : nw = [] := by have := h2.1; simpa using this
    subst this; simpa [splice] using h1
  | cons v new ih =>
    intro nw off k vs cs h1 h2
    cases nw with
    | nil => have := h2.1; simp at this
    | cons c nw =>
      simp only [List.zipIdx_cons, List.foldl_cons, splice]
      have hv : RV g w c v := h2.2 0 c v (by simp) (by simp)
      have := ih nw off (k + 1) (vs.setIfInBounds (off + k) c) (cs.set (off + k) v) ⟨by simp [h1.1], fun i a b ha hb => by
        rw [Array.getElem?_setIfInBounds] at ha
        rw [List.getElem?_set] at hb
        by_cases hi : off + k = i
        · subst hi
          simp only [if_true, h1.1] at ha hb
          by_cases hl : off + k < cs.length
          · simp [hl] at ha hb; subst ha; subst hb; exact hv
          · simp [hl] at ha
        · simp [hi] at ha hb
          exact h1.2 i a b ha hb⟩ ⟨by have := h2.1; simpa using this, fun i a b ha hb => h2.2 (i + 1) a b (by simpa using ha) (by simpa using hb)⟩
      simpa [Nat.add_assoc] using this

theorem rv_fill {g : G} {w : World} (fields : List (Nat × Nat)) (place : Nat → Option (Nat × Nat)) (hp : ∀ i x, fields[i]? = some x → place i = some x) :
  ∀ (cparts : List (Nat × Value)) (parts : List (Nat × V)) (vs : Array Value) (cs out : List V),
  parts.length = cparts.length → (∀ (i : Nat) (p : Nat × V) (q : Nat × Value), parts[i]? = some p → cparts[i]? = some q → p.1 = q.1 ∧ RV g w q.2 p.2) →
  RVL g w vs cs → fillV fields cs parts = some out → ∃ ws, Instr.fill place vs cparts = some ws ∧ RVL g w ws out := by
 intro cparts
 induction cparts with
 | nil =>
  intro parts vs cs out hl _ h1 h2
  have : parts = [] := by simpa using hl
  subst this
  simp [fillV] at h2; subst h2
  exact ⟨vs, rfl, h1⟩
 | cons q cparts ih =>
  intro parts vs cs out hl hr h1 h2
  cases parts with
  | nil => simp at hl
  | cons p parts =>
   obtain ⟨i, v⟩ := p
   obtain ⟨i', c⟩ := q
   obtain ⟨e, hv⟩ := hr 0 _ _ rfl rfl
   simp at e hv; subst e
   simp only [fillV] at h2
   split at h2
   ·rename_i off size xs hf hc
    split at h2
    ·rename_i hlen
     have hcc := rv_cells hv hc
     have := ih parts _ _ out (by simpa using hl) (fun j p q hp hq => hr (j + 1) p q (by simpa using hp) (by simpa using hq))
      (rvl_splice xs c.cells.toList off vs cs h1 (by simpa using hcc)) h2
     obtain ⟨ws, hw, hws⟩ := this
     refine ⟨ws, ?_, hws⟩
     simp only [Instr.fill, hp i _ hf]
     rw [if_neg (by simp [hcc.1, h1.1, hlen.1]; omega)]
     rw [← Array.foldl_toList, Array.toList_zipIdx]
     exact hw
    ·simp at h2
   ·simp at h2
theorem szOf_some {P : Program} {t : TypeId} (h : szOf P t ≠ 0) : ∃ i d, P.info? t = some i ∧ P.underlying t = some d ∧ i.size = szOf P t := by
 unfold szOf at h ⊢
 split at h
 ·rename_i i d hi hd; simp only [hi, hd]; exact ⟨i, d, rfl, rfl, rfl⟩
 ·exact absurd rfl h
theorem flat_at : ∀ (es : List (List V)) (k n j : Nat) (el : List V) (v : V), (∀ e ∈ es, e.length = k) → es[n]? = some el → el[j]? = some v →
  es.flatten[n * k + j]? = some v := by
 intro es
 induction es with
 | nil => intro k n j el v _ h; simp at h
 | cons e es ih =>
  intro k n j el v hk h hj
  cases n with
  | zero =>
   simp at h; subst h
   have hl : j < e.length := by
    rcases Nat.lt_or_ge j e.length with h' | h'
    ·exact h'
    ·simp [List.getElem?_eq_none h'] at hj
   rw [Nat.zero_mul, Nat.zero_add, List.flatten_cons, List.getElem?_append_left hl]; exact hj
  | succ n =>
   simp at h
   have he := hk e (by simp)
   have := ih k n j el v (fun x hx => hk x (by simp [hx])) h hj
   rw [List.flatten_cons, List.getElem?_append_right (by rw [he, Nat.add_mul]; omega), he, Nat.add_mul, Nat.one_mul]
   rw [show n * k + k + j - k = n * k + j by omega]; exact this
theorem tyi_inv {P : Program} {t : TypeId} {i : TyI} (h : tyi P t = some i) : ∃ inf d z, P.info? t = some inf ∧ P.underlying t = some d ∧ inf.zero = some z ∧
    i.size = inf.size ∧ i.bytes = inf.bytes ∧ i.agg = aggOf P t ∧ i.zero = z.cells.toList.map toV1 ∧
    (i.kind = 3 → ∃ fs, d = .struct fs ∧ i.fields = fs.toList.map (fun f => (f.offset, szOf P f.type, aggOf P f.type)) ∧ i.fok = fs.toList.all (fun f => szOf P f.type != 0)) ∧
    (i.kind = 4 → ∃ e, d = .slice e ∧ i.esize = szOf P e ∧ i.ebytes = bytesOf P e ∧ i.eagg = aggOf P e) ∧
    (i.kind = 5 → ∃ n e, d = .array n e ∧ i.alen = n ∧ i.esize = szOf P e ∧ i.eagg = aggOf P e) ∧
    (i.kind = 1 → d = .bool) ∧ (∀ k, i.ik = some k → d = .int k) ∧ (i.kind ≠ 8 → ∀ ms, d ≠ .interface ms) ∧
    (∀ (f : Nat) x, i.fields[f]? = some x → ∃ (fs : Array Field) (fd : Field), d = .struct fs ∧ fs[f]? = some fd ∧ x = (fd.offset, szOf P fd.type, aggOf P fd.type)) ∧
    (∀ e, (d = .slice e ∨ ∃ n, d = .array n e) → i.esize = szOf P e ∧
      ∀ j, P.info? e = some j → i.ezero = (match j.zero with | some z => z.cells.toList.map toV1 | none => [])) := by
  unfold tyi at h
  split at h
  case h_2 => simp at h
  rename_i inf d hi hd
  split at h
  case h_2 => simp at h
  rename_i z hz
  cases h
  refine ⟨inf, d, z, hi, hd, hz, rfl, rfl, rfl, rfl, ?_, ?_, ?_, ?_, ?_, ?_, ?_, ?_⟩
  · intro hk; cases d <;> simp at hk; exact ⟨_, rfl, rfl, rfl⟩
  · intro hk; cases d <;> simp at hk; exact ⟨_, rfl, rfl, rfl, rfl⟩
  · intro hk; cases d <;> simp at hk; exact ⟨_, _, rfl, rfl, rfl, rfl⟩
  · intro hk; cases d <;> simp at hk; rfl
  · intro k hk; cases d <;> simp at hk; subst hk; rfl
  · intro hk ms e; subst e; exact hk rfl
  · intro f x hf
    cases d with
    | struct fs =>
      simp only [List.getElem?_map] at hf
      cases hh : fs.toList[f]? with
      | none => simp [hh] at hf
      | some fd =>
        simp only [hh, Option.map_some, Option.some.injEq] at hf
        exact ⟨fs, fd, rfl, by simpa using hh, hf.symm⟩
    | _ => simp at hf
  · intro e he
    rcases he with rfl | ⟨n, rfl⟩
    · exact ⟨rfl, fun j hj => by simp only [hj] <;> cases j.zero <;> rfl⟩
    · exact ⟨rfl, fun j hj => by simp only [hj] <;> cases j.zero <;> rfl⟩

theorem run_isAgg' {P : Program} {t : TypeId} {d : TypeDesc} (h : P.underlying t = some d) (w : World) : (isAgg t).run P w = .ok (aggOf P t) w := by
 simp only [isAgg, aggOf, h, Sem.run_bind, run_underlying h]
 cases d <;> simp
theorem run_sizeOf' {P : Program} {t : TypeId} {i : TypeInfo} (h : P.info? t = some i) (w : World) : (Go.sizeOf t).run P w = .ok i.size w := by
 simp [Go.sizeOf, typeInfo, h]
theorem run_places' {P : Program} (w : World) : ∀ (fs : List Field), (∀ f ∈ fs, szOf P f.type ≠ 0) →
  (fs.mapM fun f => Prod.mk f.offset <$> Go.sizeOf f.type).run P w = .ok (fs.map fun f => (f.offset, szOf P f.type)) w
 | [], _ => rfl
 | f :: fs, h => by
  obtain ⟨i, d, hi, hd, hs⟩ := szOf_some (h f (by simp))
  have ih := run_places' w fs (fun x hx => h x (by simp [hx]))
  simp [List.mapM_cons, run_sizeOf' hi, ih, hs]
theorem flat_take : ∀ (es : List (List V)) (k h : Nat), (∀ e ∈ es, e.length = k) → es.flatten.take (h * k) = (es.take h).flatten
  | [], k, h, _ => by simp
  | e :: es, k, 0, _ => by simp
  | e :: es, k, h + 1, hk => by
    have he := hk e (by simp)
    have ih := flat_take es k h (fun x hx => hk x (by simp [hx]))
    rw [List.flatten_cons, List.take_succ_cons, List.flatten_cons, ← ih, List.take_append, he, Nat.add_mul, Nat.one_mul,
      List.take_of_length_le (by omega), show h * k + k - k = h * k by omega]

theorem flat_drop : ∀ (es : List (List V)) (k l : Nat), (∀ e ∈ es, e.length = k) → (es.drop l).flatten = es.flatten.drop (l * k)
  | [], k, l, _ => by simp
  | e :: es, k, 0, _ => by simp
  | e :: es, k, l + 1, hk => by
    have he := hk e (by simp)
    have ih := flat_drop es k l (fun x hx => hk x (by simp [hx]))
    have e1 : e.drop (l * k + k) = [] := List.drop_of_length_le (by omega)
    rw [List.flatten_cons, List.drop_succ_cons, ih, List.drop_append, he, Nat.add_mul, Nat.one_mul, e1,
      show l * k + k - k = l * k by omega, List.nil_append]

def Runs (P : Program) (g : G) (w : World) (s : Sem Next) (v : V) : Prop := ∃ c, s.run P w = .ok (.value c) w ∧ RV g w c v
theorem run_part' {P : Program} {g : G} {w : World} {t : TypeId} {vs : Array Value} {cs : List V} {off : Nat} {v : V} (hr : RVL g w vs cs)
  (h : partV (aggOf P t) (szOf P t) cs off = some v) : ∃ c, (part t vs off).run P w = .ok c w ∧ RV g w c v := by
 unfold partV at h
 split at h
 ·simp at h
 ·rename_i hs
  obtain ⟨i, d, hi, hd, hsz⟩ := szOf_some hs
  cases ha : aggOf P t with
  | true =>
   simp only [ha, if_true] at h
   split at h
   ·rename_i hl
    cases h
    refine ⟨.agg (vs.extract off (off + szOf P t)), by simp [part, run_isAgg' hd, ha, run_sizeOf' hi, hsz], ?_⟩
    refine .agg _ _ (by simp [hr.1]; omega) fun j c v hc hv => ?_
    rw [Array.getElem?_extract] at hc
    rw [List.getElem?_take, List.getElem?_drop] at hv
    split at hv
    ·rename_i hj
     rw [if_pos (by rw [hr.1]; omega)] at hc
     exact hr.2 _ _ _ hc hv
    ·simp at hv
   ·simp at h
  | false =>
   simp only [ha, Bool.false_eq_true, if_false] at h
   obtain ⟨c, hc, hrc⟩ := hr.at h
   exact ⟨c, by simp [part, run_isAgg' hd, ha, hc], hrc⟩
theorem run_equalIn_bool {P : Program} {t : TypeId} (h : P.underlying t = some .bool) (d : Nat) (a b : Bool) (w : World) :
  (Op.equalIn (d + 1) t (.bool a) (.bool b)).run P w = .ok (a == b) w := by
 simp [Op.equalIn, run_underlying h]
theorem run_equal_bool {P : Program} {t : TypeId} (h : P.underlying t = some .bool) (a b : Bool) (w : World) :
  (Op.equal t (.bool a) (.bool b)).run P w = .ok (a == b) w := run_equalIn_bool h 9999 a b w
theorem tyi_ptr {P : Program} {t : TypeId} {i : TyI} (h : tyi P t = some i) (hk : i.kind = 7) : ∃ e, P.underlying t = some (.pointer e) := by
 unfold tyi at h
 split at h
 case h_2 => simp at h
 rename_i inf d hi hd
 split at h
 case h_2 => simp at h
 cases h
 cases d <;> simp at hk
 exact ⟨_, hd⟩
theorem run_equalIn_nn {P : Program} {t e : TypeId} (h : P.underlying t = some (.pointer e)) (d : Nat) (w : World) : (Op.equalIn (d + 1) t (.pointer none) (.pointer none)).run P w = .ok true w := by
 simp [Op.equalIn, run_underlying h]
theorem run_equalIn_pn {P : Program} {t e : TypeId} (h : P.underlying t = some (.pointer e)) (d : Nat) (a : Addr) (w : World) : (Op.equalIn (d + 1) t (.pointer (some a)) (.pointer none)).run P w = .ok false w := by
 simp [Op.equalIn, run_underlying h]
theorem run_equal_nn {P : Program} {t e : TypeId} (h : P.underlying t = some (.pointer e)) (w : World) : (Op.equal t (.pointer none) (.pointer none)).run P w = .ok true w := run_equalIn_nn h 9999 w
theorem run_equal_pn {P : Program} {t e : TypeId} (h : P.underlying t = some (.pointer e)) (a : Addr) (w : World) : (Op.equal t (.pointer (some a)) (.pointer none)).run P w = .ok false w := run_equalIn_pn h 9999 a w
section
variable {P : Program} {g : G} {w : World} {ρc : Operand → Value} {ρ : Operand → V} (hρ : ∀ x, RV g w (ρc x) (ρ x))
include hρ
theorem s_pick {o : Oper} {c a b : Operand} {v : V} (ho : o.op = .pick c a b) (h : primV P ρ o.op = some v) : Runs P g w (execOp ρc o) v := by
 rw [ho] at h
 simp only [primV] at h
 have hc := hρ c
 split at h
 ·rename_i t ht
  rw [ht] at hc
  cases h
  cases hc' : ρc c <;> rw [hc'] at hc <;> cases hc
  refine ⟨if t then ρc a else ρc b, ?_, ?_⟩
  ·simp [execOp, ho, hc', asBool]
  ·cases t
   ·simpa using hρ b
   ·simpa using hρ a
 ·simp at h
theorem s_build {o : Oper} {t : TypeId} {parts : Array (Nat × Operand)} {v : V} (ho : o.op = .build t parts) (h : primV P ρ o.op = some v) :
    Runs P g w (execOp ρc o) v := by
  rw [ho] at h
  simp only [primV] at h
  split at h
  case h_2 => simp at h
  rename_i i hi
  have hparts : ∀ (j : Nat) (p : Nat × V) (q : Nat × Value), (parts.toList.map fun p => (p.1, ρ p.2))[j]? = some p →
      (parts.map fun p => (p.1, ρc p.2)).toList[j]? = some q → p.1 = q.1 ∧ RV g w q.2 p.2 := by
    intro j p q hp hq
    simp only [List.getElem?_map, Array.toList_map] at hp hq
    cases hh : parts.toList[j]? with
    | none => simp [hh] at hp
    | some x =>
      simp [hh] at hp hq
      subst hp; subst hq
      exact ⟨rfl, hρ _⟩
  obtain ⟨inf, d, z, h1, h2, h0, _, _, _, hz, hk3, _, hk5, _, _, _, _, _⟩ := tyi_inv hi
  split at h
  · rename_i hk
    obtain ⟨fs, rfl, h3, h4⟩ := hk3 hk.1
    cases hf : fillV (i.fields.map fun f => (f.1, f.2.1)) i.zero (parts.toList.map fun p => (p.1, ρ p.2)) with
    | none => simp [hf] at h
    | some out =>
      simp [hf] at h; subst h
      have hall : ∀ f ∈ fs.toList, szOf P f.type ≠ 0 := by
        have := hk.2; rw [h4, List.all_eq_true] at this
        intro f hf; simpa using this f hf
      obtain ⟨ws, hw1, hw2⟩ := rv_fill (g := g) (w := w) (i.fields.map fun f => (f.1, f.2.1)) ((fs.toList.map fun f => (f.offset, szOf P f.type))[·]?)
        (by intro j x hx; rw [← hx, h3]; simp [List.map_map, Function.comp_def])
        (parts.map fun p => (p.1, ρc p.2)).toList (parts.toList.map fun p => (p.1, ρ p.2)) z.cells i.zero out (by simp) hparts (by rw [hz]; exact rvl_toV1 g w _) hf
      refine ⟨.agg ws, ?_, .agg _ _ hw2.1 hw2.2⟩
      have := run_places' (P := P) w fs.toList hall
      simp [execOp, ho, Instr.build, zeroValue, typeInfo, h1, h0, run_underlying h2, Array.mapM_eq_mapM_toList, this]
      simp at hw1
      rw [hw1]
      simp
  · split at h
    · rename_i hk
      obtain ⟨n, e, rfl, h3, h4, _⟩ := hk5 hk.1
      cases hf : fillV ((List.range i.alen).map fun j => (j * i.esize, i.esize)) i.zero (parts.toList.map fun p => (p.1, ρ p.2)) with
      | none => simp [hf] at h
      | some out =>
        simp [hf] at h; subst h
        obtain ⟨ie, de, he1, he2, he3⟩ := szOf_some (P := P) (t := e) (by rw [← h4]; exact hk.2)
        obtain ⟨ws, hw1, hw2⟩ := rv_fill (g := g) (w := w) ((List.range i.alen).map fun j => (j * i.esize, i.esize)) (fun i => some (i * ie.size, ie.size))
          (by
            intro j x hx
            rw [List.getElem?_map] at hx
            cases hr : (List.range i.alen)[j]? with
            | none => simp [hr] at hx
            | some y =>
              have : y = j := by
                obtain ⟨h', e'⟩ := List.getElem?_eq_some_iff.1 hr
                simpa using e'.symm
              subst this
              simp [hr] at hx
              rw [← hx, h4, he3])
          (parts.map fun p => (p.1, ρc p.2)).toList (parts.toList.map fun p => (p.1, ρ p.2)) z.cells i.zero out (by simp) hparts (by rw [hz]; exact rvl_toV1 g w _) hf
        refine ⟨.agg ws, ?_, .agg _ _ hw2.1 hw2.2⟩
        simp [execOp, ho, Instr.build, zeroValue, typeInfo, h1, h0, run_underlying h2, run_sizeOf' he1]
        simp at hw1
        rw [hw1]
        simp
    · simp at h

theorem s_nilCheck {o : Oper} {x : Operand} {v : V} (ho : o.op = .nilCheck x) (h : primV P ρ o.op = some v) : Runs P g w (execOp ρc o) v := by
 rw [ho] at h
 simp only [primV] at h
 have hx := hρ x
 split at h
 ·rename_i id off hv
  cases h
  rw [hv] at hx
  cases hc : ρc x <;> rw [hc] at hx <;> cases hx
  exact ⟨_, by simp [execOp, ho, hc], .ptr _ _ (by assumption)⟩
 ·rename_i cs off hv
  cases h
  rw [hv] at hx
  have hx' := hx
  cases hc : ρc x <;> rw [hc] at hx <;> cases hx
  refine ⟨ρc x, by simp [execOp, ho, hc], hx'⟩
 ·simp at h
omit hρ in
theorem run_and {k : IntKind} {a b : Int} : Sem.run P (Op.intBits .and k a b) w = .ok (.int k (bandI k a b)) w := rfl
omit hρ in
theorem run_or {k : IntKind} {a b : Int} : Sem.run P (Op.intBits .or k a b) w = .ok (.int k (borI k a b)) w := rfl
theorem s_binOp {o : Oper} {op : BinOp} {t yt : TypeId} {x y : Operand} {v : V} (ho : o.op = .binOp op t x y yt) (h : primV P ρ o.op = some v) :
    Runs P g w (execOp ρc o) v := by
  rw [ho] at h
  simp only [primV] at h
  have hx := hρ x
  have hy := hρ y
  unfold binV at h
  split at h
  · rename_i k a k' b hva hvb
    rw [hva] at hx; rw [hvb] at hy
    cases hcx : ρc x <;> rw [hcx] at hx <;> cases hx
    cases hcy : ρc y <;> rw [hcy] at hy <;> cases hy
    split at h
    · rename_i hk; subst hk
      cases op <;> simp only [intBin] at h
      all_goals first
        | (cases h; exact ⟨_, by simp [execOp, ho, hcx, hcy, eqGuard, binOp, Op.intArith, run_and, run_or], .int _ _⟩)
        | (cases h; exact ⟨_, by simp [execOp, ho, hcx, hcy, eqGuard, binOp, Op.intCmp], .bool _⟩)
        | (split at h
           · simp at h
           · rename_i hb
             cases h
             exact ⟨_, by simp [execOp, ho, hcx, hcy, eqGuard, binOp, Op.intDiv, hb], .int _ _⟩)
        | (simp at h; done)
    · simp at h
  · rename_i a b hva hvb
    rw [hva] at hx; rw [hvb] at hy
    cases hcx : ρc x <;> rw [hcx] at hx <;> cases hx
    cases hcy : ρc y <;> rw [hcy] at hy <;> cases hy
    split at h
    · rename_i i hi
      split at h
      · rename_i hk
        obtain ⟨inf, d, z, h1, h2, h0, _, _, _, hz, _, _, _, hk1, _, _, _, _⟩ := tyi_inv hi
        have hd := hk1 hk; subst hd
        cases op <;> simp at h
        all_goals
          subst h
          refine ⟨_, ?_, .bool _⟩
          simp only [execOp, ho, hcx, hcy, eqGuard, binOp]
          simp [run_equal_bool h2]
          try (cases a <;> cases b <;> rfl)
      · simp at h
    · simp at h
  · rename_i a b hva hvb
    rw [hva] at hx; rw [hvb] at hy
    cases hcx : ρc x <;> rw [hcx] at hx <;> cases hx
    cases hcy : ρc y <;> rw [hcy] at hy <;> cases hy
    cases op <;> simp at h
    all_goals (subst h; exact ⟨_, by simp [execOp, ho, hcx, hcy, eqGuard, binOp, Op.stringOp], .bool _⟩)
  · rename_i hva hvb
    rw [hva] at hx; rw [hvb] at hy
    unfold nilEq at h
    split at h
    case h_2 => simp at h
    rename_i i hi
    split at h
    case isFalse => simp at h
    rename_i hk
    obtain ⟨e, h2⟩ := tyi_ptr hi hk
    generalize hcy : ρc y = cy at hy
    cases hy
    generalize hcx : ρc x = cx at hx
    cases hx
    cases op <;> simp at h
    all_goals
      subst h
      refine ⟨_, ?_, .bool _⟩
      simp only [execOp, ho, hcx, hcy, eqGuard, binOp]
      simp [run_equal_nn h2, run_equal_pn h2]
  · rename_i c1 c2 hva hvb
    rw [hva] at hx; rw [hvb] at hy
    unfold nilEq at h
    split at h
    case h_2 => simp at h
    rename_i i hi
    split at h
    case isFalse => simp at h
    rename_i hk
    obtain ⟨e, h2⟩ := tyi_ptr hi hk
    generalize hcy : ρc y = cy at hy
    cases hy
    generalize hcx : ρc x = cx at hx
    cases hx
    cases op <;> simp at h
    all_goals
      subst h
      refine ⟨_, ?_, .bool _⟩
      simp only [execOp, ho, hcx, hcy, eqGuard, binOp]
      simp [run_equal_nn h2, run_equal_pn h2]
  · rename_i c1 c2 hva hvb
    rw [hva] at hx; rw [hvb] at hy
    unfold nilEq at h
    split at h
    case h_2 => simp at h
    rename_i i hi
    split at h
    case isFalse => simp at h
    rename_i hk
    obtain ⟨e, h2⟩ := tyi_ptr hi hk
    generalize hcy : ρc y = cy at hy
    cases hy
    generalize hcx : ρc x = cx at hx
    cases hx
    cases op <;> simp at h
    all_goals
      subst h
      refine ⟨_, ?_, .bool _⟩
      simp only [execOp, ho, hcx, hcy, eqGuard, binOp]
      simp [run_equal_nn h2, run_equal_pn h2]
  · simp at h

theorem s_unOp {o : Oper} {op : UnOp} {t : TypeId} {x : Operand} {v : V} (ho : o.op = .unOp op t x) (h : primV P ρ o.op = some v) : Runs P g w (execOp ρc o) v := by
 rw [ho] at h
 simp only [primV] at h
 have hx := hρ x
 split at h
 ·rename_i b hv
  cases h
  rw [hv] at hx
  cases hc : ρc x <;> rw [hc] at hx <;> cases hx
  exact ⟨_, by simp [execOp, ho, hc, Op.unary], .bool _⟩
 ·rename_i k n hv
  cases h
  rw [hv] at hx
  cases hc : ρc x <;> rw [hc] at hx <;> cases hx
  exact ⟨_, by simp [execOp, ho, hc, Op.unary, Op.intArith], .int _ _⟩
 ·simp at h
theorem s_convert {o : Oper} {sT d : TypeId} {x : Operand} {v : V} (ho : o.op = .convert sT d x) (h : primV P ρ o.op = some v) : Runs P g w (execOp ρc o) v := by
 rw [ho] at h
 simp only [primV] at h
 have hx := hρ x
 split at h
 ·rename_i j i k n hj hi hv
  obtain ⟨_, d1, _, _, h1, _⟩ := tyi_inv hj
  obtain ⟨inf, d2, z, _, h2, _, _, _, _, _, _, _, _, _, hik, _, _, _⟩ := tyi_inv hi
  cases hk : i.ik with
  | none => simp [hk] at h
  | some k' =>
   simp [hk] at h; subst h
   have := hik k' hk; subst this
   rw [hv] at hx
   cases hc : ρc x <;> rw [hc] at hx <;> cases hx
   exact ⟨_, by simp [execOp, ho, hc, convert, run_underlying h1, run_underlying h2, Conv.intToInt], .int _ _⟩
 ·simp at h
theorem s_fieldAddr {o : Oper} {s : TypeId} {f : Nat} {x : Operand} {v : V} (ho : o.op = .fieldAddr s x f) (h : primV P ρ o.op = some v) : Runs P g w (execOp ρc o) v := by
 rw [ho] at h
 simp only [primV] at h
 split at h
 case h_2 => simp at h
 rename_i i hi
 obtain ⟨inf, d, z, _, h2, _, _, _, _, _, _, _, _, _, _, _, hf, _⟩ := tyi_inv hi
 split at h
 case h_2 => simp at h
 rename_i off size a hfx
 obtain ⟨fs, fd, rfl, hfd, he⟩ := hf f _ hfx
 simp only [Prod.mk.injEq] at he
 obtain ⟨rfl, rfl, rfl⟩ := he
 split at h
 ·simp at h
 ·rename_i hsz
  obtain ⟨j, dj, hj1, hj2, hj3⟩ := szOf_some hsz
  obtain ⟨b, o', hc, hr⟩ := rv_addOff (hρ x) h
  refine ⟨_, ?_, hr⟩
  simp [execOp, ho, Instr.fieldAt, run_underlying h2, hfd, hc, Instr.sureAddr, fieldPlace, run_sizeOf' hj1, hj3, hsz, add_off]
theorem s_field {o : Oper} {s : TypeId} {f : Nat} {x : Operand} {v : V} (ho : o.op = .field s x f) (h : primV P ρ o.op = some v) : Runs P g w (execOp ρc o) v := by
 rw [ho] at h
 simp only [primV] at h
 have hx := hρ x
 split at h
 case h_2 => simp at h
 rename_i i cs hi hv
 obtain ⟨inf, d, z, _, h2, _, _, _, _, _, _, _, _, _, _, _, hf, _⟩ := tyi_inv hi
 split at h
 case h_2 => simp at h
 rename_i off size a hfx
 obtain ⟨fs, fd, rfl, hfd, he⟩ := hf f _ hfx
 simp only [Prod.mk.injEq] at he
 obtain ⟨rfl, rfl, rfl⟩ := he
 rw [hv] at hx
 cases hc : ρc x <;> rw [hc] at hx <;> cases hx
 rename_i vs hl hr
 obtain ⟨c, hc1, hc2⟩ := run_part' (w := w) ⟨hl, hr⟩ h
 exact ⟨c, by simp [execOp, ho, Instr.field, run_underlying h2, hfd, hc, asAgg, hc1], hc2⟩
theorem s_indexAddr {o : Oper} {t : TypeId} {x ix : Operand} {v : V} (ho : o.op = .indexAddr t x ix) (h : primV P ρ o.op = some v) : Runs P g w (execOp ρc o) v := by
 rw [ho] at h
 simp only [primV] at h
 have hx := hρ x
 have hix := hρ ix
 split at h
 case h_2 => simp at h
 rename_i i k n hi hn
 rw [hn] at hix
 cases hcx : ρc ix <;> rw [hcx] at hix <;> cases hix
 obtain ⟨inf, d, z, h1, h2, h0, _, _, _, hz, _, hk4, hk5, _⟩ := tyi_inv hi
 split at h
 ·rename_i hk
  split at h
  case h_3 => simp at h
  case h_2 =>
   rename_i id m hv
   split at h
   case isFalse => simp at h
   rename_i hlen
   cases h
   obtain ⟨e, rfl, hes, _, _⟩ := hk4 hk
   obtain ⟨ie, de, he1, he2, he3⟩ := szOf_some (P := P) (t := e) (by rw [← hes]; exact hlen.2.2)
   rw [hv] at hx
   cases hc : ρc x <;> rw [hc] at hx <;> cases hx
   rename_i cap hd hcap
   refine ⟨.pointer (some ⟨g.loc id, n.toNat * ie.size, none⟩), ?_, ?_⟩
   ·have : ¬ (n < 0) := by omega
    simp [execOp, ho, Instr.indexAt, hcx, hc, asIntOf, run_underlying h2, run_sizeOf' he1, hlen.1, add_off]
    intro hge
    exact absurd ((Int.toNat_lt hlen.1).1 hlen.2.1) (Int.not_lt.2 hge)
   ·rw [hes, ← he3]; exact .ptr id _ hd
  rename_i c es hv
  split at h
  case isFalse => simp at h
  rename_i hn0
  obtain ⟨e, rfl, hes, _, _⟩ := hk4 hk
  split at h
  case h_2 => simp at h
  rename_i el hel
  split at h
  case isFalse => simp at h
  rename_i hlen
  cases h
  obtain ⟨ie, de, he1, he2, he3⟩ := szOf_some (P := P) (t := e) (by rw [← hes]; exact hlen.2)
  rw [hv] at hx
  cases hc : ρc x <;> rw [hc] at hx <;> cases hx
  rename_i a cap k' cell hk' hr hrun hcap hcc
  have hlt : n.toNat < es.length := by
   rcases Nat.lt_or_ge n.toNat es.length with h' | h'
   ·exact h'
   ·simp [List.getElem?_eq_none h'] at hel
  have hne : es ≠ [] := by intro e; subst e; simp at hlt
  obtain ⟨b, off, rfl, hlim, hcell⟩ := hrun hne
  have hmem : el ∈ es := List.mem_of_getElem? hel
  have hkk : k' = ie.size := by rw [← hk' _ hmem, hlen.1, hes, he3]
  subst hkk
  have hflat : ∀ j v, el[j]? = some v → es.flatten[n.toNat * ie.size + j]? = some v := fun j v hj => flat_at es ie.size n.toNat j el v hk' hel hj
  have hbound : (n.toNat + 1) * ie.size ≤ es.length * ie.size := Nat.mul_le_mul_right _ (by omega)
  rw [Nat.add_mul, Nat.one_mul] at hbound
  refine ⟨.pointer (some ⟨b, off + n.toNat * ie.size + 0, none⟩), ?_, ?_⟩
  ·have : ¬ (n < 0) := by omega
   simp [execOp, ho, Instr.indexAt, hcx, hc, asIntOf, run_underlying h2, run_sizeOf' he1, hn0, add_off]
   intro hge; omega
  ·refine .el b (off + n.toNat * ie.size) el 0 (fun j => cell (n.toNat * ie.size + j)) ?_ ?_ ?_
   ·rw [hk' _ hmem]; omega
   ·intro j hj
    rw [hk' _ hmem] at hj
    rw [Nat.add_assoc]; exact hcell _ (by omega)
   ·intro j v hj
    exact hr _ _ (hflat j v hj)
 ·split at h
  case isFalse => simp at h
  rename_i hk
  obtain ⟨m, e, rfl, ham, hes, _⟩ := hk5 hk.1
  obtain ⟨ie, de, he1, he2, he3⟩ := szOf_some (P := P) (t := e) (by rw [← hes]; exact hk.2.2.2)
  obtain ⟨b, o', hc, hr⟩ := rv_addOff hx h
  refine ⟨_, ?_, hr⟩
  have := hk.2.2.1
  rw [ham] at this
  simp [execOp, ho, Instr.indexAt, hcx, hc, asIntOf, run_underlying h2, run_sizeOf' he1, hk.2.1, add_off, Instr.sureAddr, this, hes, he3]
theorem s_index {o : Oper} {t : TypeId} {x ix : Operand} {v : V} (ho : o.op = .index t x ix) (h : primV P ρ o.op = some v) : Runs P g w (execOp ρc o) v := by
 rw [ho] at h
 simp only [primV] at h
 have hx := hρ x
 have hix := hρ ix
 split at h
 case h_2 => simp at h
 rename_i i cs k n hi hv hn
 rw [hn] at hix
 cases hcx : ρc ix <;> rw [hcx] at hix <;> cases hix
 rw [hv] at hx
 cases hc : ρc x <;> rw [hc] at hx <;> cases hx
 rename_i vs hl hr
 split at h
 case isFalse => simp at h
 rename_i hk
 obtain ⟨inf, d, z, h1, h2, h0, _, _, _, hz, _, _, hk5, _⟩ := tyi_inv hi
 obtain ⟨m, e, rfl, ham, hes, hag⟩ := hk5 hk.1
 rw [hag, hes] at h
 have hne : szOf P e ≠ 0 := by
  intro e0; rw [e0] at h; simp [partV] at h
 obtain ⟨ie, de, he1, he2, he3⟩ := szOf_some hne
 obtain ⟨c, hc1, hc2⟩ := run_part' (w := w) ⟨hl, hr⟩ h
 have := hk.2.2
 rw [ham] at this
 exact ⟨c, by simp [execOp, ho, Instr.index, hcx, hc, asIntOf, run_underlying h2, run_sizeOf' he1, he3, hk.2.1, this, hc1], hc2⟩
theorem s_extract {o : Oper} {x : Operand} {j : Nat} {v : V} (ho : o.op = .extract x j) (h : primV P ρ o.op = some v) : Runs P g w (execOp ρc o) v := by
 rw [ho] at h
 simp only [primV] at h
 have hx := hρ x
 split at h
 case h_2 => simp at h
 rename_i vs hv
 rw [hv] at hx
 cases hc : ρc x <;> rw [hc] at hx <;> cases hx
 rename_i cs hl hr
 obtain ⟨c, hc1, hc2⟩ := (show RVL g w cs vs from ⟨hl, hr⟩).at h
 exact ⟨c, by simp [execOp, ho, Instr.extract, hc, hc1], hc2⟩
theorem rvl_map (xs : Array Operand) : RVL g w (xs.map ρc) (xs.toList.map ρ) :=
  ⟨by simp, fun i c v hc hv => by
    simp only [List.getElem?_map, Array.getElem?_map] at hc hv
    cases hh : xs[i]? with
    | none => simp [hh] at hc
    | some y =>
      have : xs.toList[i]? = some y := by simpa using hh
      simp [hh] at hc
      simp [this] at hv
      subst hc; subst hv; exact hρ y⟩

theorem s_makeFunc {o : Oper} {f : Fn} {a b : Array Operand} {v : V} (ho : o.op = .makeFunc f a b) (h : primV P ρ o.op = some v) : Runs P g w (execOp ρc o) v := by
 rw [ho] at h
 simp only [primV] at h
 cases h
 have ha := rvl_map hρ a
 have hb := rvl_map hρ b
 exact ⟨_, by simp [execOp, ho, Instr.makeFunc], .fn _ _ _ _ _ ha.1 hb.1 ha.2 hb.2⟩
theorem s_typeAssert {o : Oper} {t t0 : TypeId} {x : Operand} {ok : Bool} {v : V} (ho : o.op = .typeAssert x t0 t ok) (h : primV P ρ o.op = some v) : Runs P g w (execOp ρc o) v := by
 rw [ho] at h
 simp only [primV] at h
 have hx := hρ x
 split at h
 case h_2 => simp at h
 rename_i i t' u hi hv
 rw [hv] at hx
 generalize hcx : ρc x = cx at hx
 cases hx with | iface _ c _ hr => ?_
 obtain ⟨inf, d, z, h1, h2, h0, _, _, _, hz, _, _, _, _, _, h8, _⟩ := tyi_inv hi
 split at h
 ·simp at h
 rename_i hk
 have hd := h8 hk
 split at h
 ·rename_i e; subst e
  cases ok with
  | true =>
   simp at h; subst h
   refine ⟨.tuple #[c, .bool true], ?_, .tup _ _ rfl (fun i a b h1 h2 => ?_)⟩
   ·simp [execOp, ho, hcx, Instr.typeAssert, run_underlying h2]
   ·match i with
    | 0 => simp at h1 h2; subst h1; subst h2; exact hr
    | 1 => simp at h1 h2; subst h1; subst h2; exact .bool _
    | i + 2 => simp at h2
  | false =>
   simp at h; subst h
   exact ⟨c, by simp [execOp, ho, hcx, Instr.typeAssert, run_underlying h2], hr⟩
 ·rename_i hne
  cases ok with
  | true =>
   simp at h; subst h
   refine ⟨.tuple #[z, .bool false], ?_, .tup _ _ rfl (fun i a b h1 h2 => ?_)⟩
   ·simp [execOp, ho, hcx, Instr.typeAssert, run_underlying h2, hne, zeroValue, typeInfo, h1, h0]
   ·match i with
    | 0 => simp at h1 h2; subst h1; subst h2; exact .undef _
    | 1 => simp at h1 h2; subst h1; subst h2; exact .bool _
    | i + 2 => simp at h2
  | false => simp at h
theorem s_makeInterface {o : Oper} {t : TypeId} {x : Operand} {v : V} (ho : o.op = .makeInterface t x) (h : primV P ρ o.op = some v) : Runs P g w (execOp ρc o) v := by
 rw [ho] at h
 simp only [primV] at h
 split at h
 case h_2 => simp at h
 rename_i i hi
 split at h
 ·simp at h
 ·rename_i hk
  cases h
  obtain ⟨inf, d, z, h1, h2, h0, _, _, _, hz, _, _, _, _, _, h8, _⟩ := tyi_inv hi
  refine ⟨_, ?_, .iface _ _ _ (hρ x)⟩
  have := h8 hk
  simp [execOp, ho, Instr.makeInterface, run_underlying h2]
omit hρ in
theorem rv_natOf {c : Value} {v : V} {n : Nat} (h : RV g w c v) (hn : natOf v = some n) : ∃ k, c = .int k n := by
 cases h with
 | int k m =>
  simp only [natOf] at hn
  split at hn
  ·rename_i h0
   cases hn
   exact ⟨k, by rw [Int.toNat_of_nonneg h0]⟩
  ·simp at hn
 | _ => simp [natOf] at hn
omit hρ in
theorem run_sliceBound {k : IntKind} {n y : Nat} {code : BoundsCode} (h : n ≤ y) : (Instr.sliceBound (.int k n) y code).run P w = .ok n w := by
 simp [Instr.sliceBound, asIntOf, h]
omit hρ in
theorem rv_sub {a : Option Addr} {cap k l h sz : Nat} {es : List (List V)} {cell : Nat → Value} {c' : Cap}
  (hk : ∀ e ∈ es, e.length = k) (hcap : es.length ≤ cap)
  (hrun : es ≠ [] → ∃ b off, a = some ⟨b, off, none⟩ ∧ off + es.length * k ≤ g.lim b ∧ ∀ i, i < es.length * k → w.cell? ⟨b, off + i, none⟩ = some (cell i))
  (hr : ∀ (i : Nat) (v : V), es.flatten[i]? = some v → RV g w (cell i) v) (hl : l ≤ h) (hh : h ≤ es.length) (m : Nat) (hm : h ≤ m)
  (hsz : l = 0 ∨ ∀ e ∈ es, e.length = sz)
  (hc : CapOk g (if m = l then a else a.map (·.add (l * sz))) (h - l) (m - l) k c') :
  RV g w (.slice (if m = l then a else a.map (·.add (l * sz))) (h - l) (m - l)) (.sl c' ((es.take h).drop l)) := by
 have hlen : ((es.take h).drop l).length = h - l := by simp; omega
 rw [show (h - l) = ((es.take h).drop l).length from hlen.symm] at hc ⊢
 have hmem : ∀ e ∈ (es.take h).drop l, e ∈ es := fun e he => List.mem_of_mem_take (List.mem_of_mem_drop he)
 have hkk : l * sz = l * k ∨ (es.take h).drop l = [] := by
  rcases hsz with hsz | hsz
  ·subst hsz; simp
  ·cases hes : es with
   | nil => right; simp
   | cons e es' =>
    left
    rw [← hk e (by simp [hes]), ← hsz e (by simp [hes])]
 refine .sl _ _ c' _ k (fun i => cell (l * k + i)) (fun e he => hk e (hmem e he)) (by rw [hlen]; omega) (fun hne => ?_) (fun i v hv => ?_) hc
 ·have hlt : l < h := by
   rcases Nat.lt_or_ge l h with h' | h'
   ·exact h'
   ·exfalso; apply hne; exact List.eq_nil_of_length_eq_zero (by omega)
  obtain ⟨b, off, rfl, hlim, hcell⟩ := hrun (by intro e; subst e; simp at hh; omega)
  have e1 : l * sz = l * k := hkk.resolve_right hne
  have hb : h * k ≤ es.length * k := Nat.mul_le_mul_right _ hh
  have hlk : (h - l) * k + l * k = h * k := by rw [← Nat.add_mul]; congr 1; omega
  refine ⟨b, off + l * k, ?_, ?_, ?_⟩
  ·rw [if_neg (by omega), e1]; simp [add_off]
  ·rw [hlen]; omega
  ·intro i hi
   rw [hlen] at hi
   rw [Nat.add_assoc]; exact hcell _ (by omega)
 ·apply hr
  have : ((es.take h).drop l).flatten = (es.flatten.take (h * k)).drop (l * k) := by
   rw [flat_take es k h hk, flat_drop (es.take h) k l (fun e he => hk e (List.mem_of_mem_take he))]
  rw [this, List.getElem?_drop, List.getElem?_take] at hv
  split at hv
  ·exact hv
  ·simp at hv
omit hρ in
theorem run_bounds {lo hi : Option Value} {len cap l h : Nat} (hl : (lo = none ∧ l = 0) ∨ ∃ k, lo = some (.int k l)) (hh : (hi = none ∧ h = len) ∨ ∃ k, hi = some (.int k h))
  (h1 : l ≤ h) (h2 : h ≤ cap) : (Instr.sliceBounds true len cap lo hi none).run P w = .ok (l, h, cap) w := by
 rcases hl with ⟨rfl, rfl⟩ | ⟨k, rfl⟩ <;> rcases hh with ⟨rfl, rfl⟩ | ⟨k', rfl⟩ <;>
  simp [Instr.sliceBounds, run_sliceBound h1, run_sliceBound h2]
omit hρ in
theorem run_bounds3 {lo : Option Value} {len cap l h m : Nat} {k1 k2 : IntKind} (hl : (lo = none ∧ l = 0) ∨ ∃ k, lo = some (.int k l))
  (h1 : l ≤ h) (h2 : h ≤ m) (h3 : m ≤ cap) : (Instr.sliceBounds true len cap lo (some (.int k1 h)) (some (.int k2 m))).run P w = .ok (l, h, m) w := by
 rcases hl with ⟨rfl, rfl⟩ | ⟨k, rfl⟩ <;>
  simp [Instr.sliceBounds, run_sliceBound h1, run_sliceBound h2, run_sliceBound h3]
theorem bound_at {x : Option Operand} {d n : Nat} (h : boundOf d (x.map ρ) = some n) : (x.map ρc = none ∧ n = d) ∨ ∃ k, x.map ρc = some (.int k n) := by
 cases x with
 | none => simp [boundOf] at h; exact .inl ⟨rfl, h.symm⟩
 | some z =>
  simp [boundOf] at h
  obtain ⟨k, e⟩ := rv_natOf (hρ z) h
  exact .inr ⟨k, by simp [e]⟩
theorem s_slice {o : Oper} {t : TypeId} {x : Operand} {lo hi mx : Option Operand} {v : V} (ho : o.op = .slice t x lo hi mx) (h : primV P ρ o.op = some v) :
  Runs P g w (execOp ρc o) v := by
 rw [ho] at h
 simp only [primV] at h
 have hx := hρ x
 split at h
 case h_2 => simp at h
 rename_i i c es hi' hv
 split at h
 case isFalse => simp at h
 rename_i hk
 obtain ⟨inf, d, z, h1, h2, h0, _, _, _, hz, _, hk4, _⟩ := tyi_inv hi'
 obtain ⟨e, rfl, hes, _, _⟩ := hk4 hk.1
 obtain ⟨ie, de, he1, he2, he3⟩ := szOf_some (P := P) (t := e) (by rw [← hes]; exact hk.2.1)
 rw [hv] at hx
 have hx0 := hx
 cases hc : ρc x <;> rw [hc] at hx <;> cases hx
 rename_i a cap k cell hkk hr hrun hcap hcc
 have hsz : ∀ l, boundOf 0 (lo.map ρ) = some l → l = 0 ∨ ∀ e ∈ es, e.length = ie.size := by
  intro l hl
  rcases hk.2.2 with h' | h'
  ·left
   cases lo with
   | none => simp [boundOf] at hl; exact hl.symm
   | some y => simp at h'
  ·right; intro e he
   rw [List.all_eq_true] at h'
   have := h' e he
   rw [he3, ← hes]; simpa using this
 unfold sliceV at h
 split at h
 ·rename_i m hm
  cases mx with
  | none => simp at hm
  | some mo =>
   simp at hm; subst hm
   split at h
   case h_2 => simp at h
   rename_i l hh m' hl' hhi hm'
   split at h
   case isFalse => simp at h
   rename_i hb
   cases h
   cases hi with
   | none => simp at hhi
   | some ho' =>
    simp at hhi
    obtain ⟨k1, e1⟩ := rv_natOf (hρ mo) hm'
    obtain ⟨k2, e2⟩ := rv_natOf (hρ ho') hhi
    refine ⟨_, ?_, rv_sub (l := l) (h := hh) (sz := ie.size) (m := m') hkk hcap hrun hr hb.1 (by omega) hb.2.1 (hsz l hl') ?_⟩
    ·have := run_bounds3 (P := P) (w := w) (len := es.length) (k1 := k2) (k2 := k1) (bound_at hρ hl') hb.1 hb.2.1 (show m' ≤ cap by omega)
     simp [execOp, ho, Instr.sliceAt, Instr.slice, run_underlying h2, hc, e1, e2, this, run_sizeOf' he1]
    ·show m' - l = hh - l
     omega
 ·rename_i hm
  cases mx with
  | some mo => simp at hm
  | none =>
   split at h
   case h_2 => simp at h
   rename_i l hh hl' hhi
   split at h
   case isFalse => simp at h
   rename_i hb
   cases h
   have := run_bounds (P := P) (w := w) (bound_at hρ hl') (bound_at hρ hhi) hb.1 (show hh ≤ cap by omega)
   refine ⟨.slice (if cap = l then a else a.map (·.add (l * ie.size))) (hh - l) (cap - l), ?_, ?_⟩
   ·simp [execOp, ho, Instr.sliceAt, Instr.slice, run_underlying h2, hc, this, run_sizeOf' he1]
   ·by_cases hz' : l = 0 ∧ hh = es.length
    ·obtain ⟨rfl, rfl⟩ := hz'
     simp only [and_self, if_true, List.take_length, List.drop_zero, Nat.zero_mul, Nat.sub_zero]
     rw [hc] at hx0
     cases a with
     | none => simpa using hx0
     | some a' =>
      have : a'.add 0 = a' := by simp [Addr.add]
      simpa [this] using hx0
    ·rw [if_neg hz']
     exact rv_sub (l := l) (h := hh) (sz := ie.size) (m := cap) hkk hcap hrun hr hb.1 hb.2 (by omega) (hsz l hl') trivial
theorem s_len {o : Oper} {c : Call} {v : V} (ho : o.op = .call c) (hcal : c.callee = .builtin .len) (h : primV P ρ o.op = some v) : Runs P g w (execOp ρc o) v := by
 obtain ⟨callee, args, ts⟩ := c
 simp only at hcal; subst hcal
 rw [ho] at h
 simp only [primV] at h
 split at h
 case h_2 => simp at h
 rename_i x t hargs hts
 split at h
 case h_2 => simp at h
 rename_i i n hi hn
 split at h
 case isFalse => simp at h
 rename_i hk
 cases h
 obtain ⟨inf, d, z, h1, h2, h0, _, _, _, hz, _, hk4, _⟩ := tyi_inv hi
 obtain ⟨e, rfl, _⟩ := hk4 hk
 have ha : args = #[x] := by cases args; simp_all
 have ht : ts = #[t] := by cases ts; simp_all
 subst ha; subst ht
 have hx := hρ x
 cases hv : ρ x with
 | sl c es =>
  rw [hv] at hx hn
  simp only [lenV, Option.some.injEq] at hn; subst hn
  cases hc : ρc x <;> rw [hc] at hx <;> cases hx
  refine ⟨_, ?_, .int _ _⟩
  simp [execOp, ho, resolve, invoke, builtin, Builtin.len_, run_underlying h2, hc, goInt]
 | slb id m =>
  rw [hv] at hx hn
  simp only [lenV, Option.some.injEq] at hn; subst hn
  cases hc : ρc x <;> rw [hc] at hx <;> cases hx
  refine ⟨_, ?_, .int _ _⟩
  simp [execOp, ho, resolve, invoke, builtin, Builtin.len_, run_underlying h2, hc, goInt]
 | slr id m cp =>
  rw [hv] at hx hn
  simp only [lenV, Option.some.injEq] at hn; subst hn
  cases hc : ρc x <;> rw [hc] at hx <;> cases hx
  refine ⟨_, ?_, .int _ _⟩
  simp [execOp, ho, resolve, invoke, builtin, Builtin.len_, run_underlying h2, hc, goInt]
 | str s => rw [hv] at hn; simp [lenV] at hn
 | _ => rw [hv] at hn; simp [lenV] at hn
theorem s_max {o : Oper} {c : Call} {v : V} (ho : o.op = .call c) (hcal : c.callee = .builtin .max) (h : primV P ρ o.op = some v) : Runs P g w (execOp ρc o) v := by
 obtain ⟨callee, args, ts⟩ := c
 simp only at hcal; subst hcal
 rw [ho] at h
 simp only [primV] at h
 split at h
 case h_2 => simp at h
 rename_i k a k' b hargs
 split at h
 case isFalse => simp at h
 rename_i hk; subst hk
 cases h
 have hl := congrArg List.length hargs
 simp at hl
 obtain ⟨x, y, rfl⟩ : ∃ x y, args = #[x, y] := by
  obtain ⟨l⟩ := args
  match l, hl with
  | [x, y], _ => exact ⟨x, y, rfl⟩
 simp at hargs
 have hx := hρ x
 have hy := hρ y
 rw [hargs.1] at hx
 rw [hargs.2] at hy
 cases hcx : ρc x <;> rw [hcx] at hx <;> cases hx
 cases hcy : ρc y <;> rw [hcy] at hy <;> cases hy
 refine ⟨_, ?_, .int _ _⟩
 simp [execOp, ho, resolve, invoke, builtin, Builtin.max_, hcx, hcy, Builtin.max2]
theorem s_min {o : Oper} {c : Call} {v : V} (ho : o.op = .call c) (hcal : c.callee = .builtin .min) (h : primV P ρ o.op = some v) : Runs P g w (execOp ρc o) v := by
 obtain ⟨callee, args, ts⟩ := c
 simp only at hcal; subst hcal
 rw [ho] at h
 simp only [primV] at h
 split at h
 case h_2 => simp at h
 rename_i k a k' b hargs
 split at h
 case isFalse => simp at h
 rename_i hk; subst hk
 cases h
 have hl := congrArg List.length hargs
 simp at hl
 obtain ⟨x, y, rfl⟩ : ∃ x y, args = #[x, y] := by
  obtain ⟨l⟩ := args
  match l, hl with
  | [x, y], _ => exact ⟨x, y, rfl⟩
 simp at hargs
 have hx := hρ x
 have hy := hρ y
 rw [hargs.1] at hx
 rw [hargs.2] at hy
 cases hcx : ρc x <;> rw [hcx] at hx <;> cases hx
 cases hcy : ρc y <;> rw [hcy] at hy <;> cases hy
 refine ⟨_, ?_, .int _ _⟩
 simp [execOp, ho, resolve, invoke, builtin, Builtin.min_, hcx, hcy, Builtin.min2]
theorem primV_sound {o : Oper} {v : V} (h : primV P ρ o.op = some v) : Runs P g w (execOp ρc o) v := by
 cases ho : o.op with
 | move x => rw [ho] at h; simp only [primV] at h; cases h; exact ⟨_, by simp [execOp, ho], hρ x⟩
 | assign x => rw [ho] at h; simp only [primV] at h; cases h; exact ⟨_, by simp [execOp, ho], hρ x⟩
 | pick c a b => exact s_pick hρ ho h
 | build t ps => exact s_build hρ ho h
 | nilCheck x => exact s_nilCheck hρ ho h
 | binOp op t x y yt => exact s_binOp hρ ho h
 | unOp op t x => exact s_unOp hρ ho h
 | convert a b x => exact s_convert hρ ho h
 | fieldAddr s x f => exact s_fieldAddr hρ ho h
 | field s x f => exact s_field hρ ho h
 | indexAddr t x i => exact s_indexAddr hρ ho h
 | index t x i => exact s_index hρ ho h
 | extract x i => exact s_extract hρ ho h
 | slice t x lo hi mx => exact s_slice hρ ho h
 | makeFunc f a b => exact s_makeFunc hρ ho h
 | typeAssert x t0 t ok => exact s_typeAssert hρ ho h
 | makeInterface t x => exact s_makeInterface hρ ho h
 | call c =>
  obtain ⟨callee, args, ts⟩ := c
  cases callee with
  | builtin b =>
   cases b with
   | len => exact s_len hρ ho rfl h
   | max => exact s_max hρ ho rfl h
   | min => exact s_min hρ ho rfl h
   | _ => rw [ho] at h; simp [primV] at h
  | _ => rw [ho] at h; simp [primV] at h
 | _ => rw [ho] at h; simp [primV] at h
end
structure Eff where
 v : V
 reads : List Id
 writes : List (Id × Obj)
def hset (h : H) (id : Id) (o : Obj) : H := fun j => if j = id then some o else h j
def happly (h : H) : List (Id × Obj) → H
 | [] => h
 | (id, o) :: l => happly (hset h id o) l
def oneV : V → Bool
 | .agg _ | .tup _ | .undef => false
 | _ => true
def setRows (k : Nat) (es : List (List V)) : List (Nat × V) → Option (List (List V))
 | [] => some es
 | (i, v) :: rest =>
  match cellsOf v with
  | some cs => if cs.length = k ∧ i < es.length then setRows k (es.set i cs) rest else none
  | none => none
def primH (P : Program) (ρ : Operand → V) (look : H) (nid : Id) : Op → Option Eff
  | .alloc t =>
    match tyi P t, look nid with
    | some i, none => some ⟨.ptr nid 0, [nid], [(nid, .box i.zero)]⟩
    | _, _ => none
  | .box t x =>
    if (tyi P t).any (·.frz) = true then (cellsOf (ρ x)).map fun cs => ⟨.el cs 0, [], []⟩ else
    match cellsOf (ρ x), look nid with
    | some cs, none => some ⟨.ptr nid 0, [nid], [(nid, .box cs)]⟩
    | _, _ => none
  | .buildSlice t len parts =>
    match tyi P t with
    | some i =>
      if i.kind = 4 ∧ i.esize ≠ 0 ∧ i.ezero.length = i.esize ∧ len * i.esize ≤ 16777216 then
        (setRows i.esize (List.replicate len i.ezero) (parts.toList.map fun p => (p.1, ρ p.2))).map fun es => ⟨.sl .full es, [], []⟩
      else none
    | none => none
  | .load t a =>
    match tyi P t, ρ a with
    | some i, .ptr id off => (match look id with | some (.box cs) => (partV i.agg i.size cs off).map fun v => ⟨v, [id], []⟩ | _ => none)
    | some i, .el cs off => (partV i.agg i.size cs off).map fun v => ⟨v, [], []⟩
    | _, _ => none
  | .store t a x =>
    match tyi P t, ρ a, cellsOf (ρ x) with
    | some i, .ptr id off, some xs =>
      (match look id with
      | some (.box cs) =>
        if xs.length = i.size ∧ off + xs.length ≤ cs.length ∧ xs.all oneV = true then some ⟨.undef, [id], [(id, .box (splice cs off xs))]⟩ else none
      | _ => none)
    | _, _, _ => none
  | .call { callee := .builtin .append, args := args, argTypes := ts } =>
    match args.toList.map ρ, ts.toList.map (tyi P) with
    | [.sl c es, .sl _ xs], [some i, some j] =>
      if i.kind = 4 ∧ j.kind = 4 ∧ i.esize ≠ 0 ∧ i.ezero.length = i.esize ∧ es.all (fun e => e.length == i.esize) = true ∧ xs.all (fun e => e.length == i.esize) = true ∧
          xs.flatten.all oneV = true ∧ (es.length + xs.length) * i.ebytes ≤ 140737488355328 ∧ es.length + xs.length ≤ 140737488355328 then
        (match c with
        | .own id => (match look id with | some (.tok n k) => if n = es.length ∧ k = i.esize then some ⟨.sl (.own id) (es ++ xs), [id], [(id, .tok (es.length + xs.length) i.esize)]⟩ else none | _ => none)
        | .full => (match look nid with | none => some ⟨.sl (.own nid) (es ++ xs), [nid], [(nid, .tok (es.length + xs.length) i.esize)]⟩ | some _ => none)
        | .any => none)
      else none
    | _, _ => none
  | _ => none

def Sim (P : Program) (env : Nat → Option (List V)) (g : G) (w : World) (h : H) (s : Sem Next) (eff : Eff) : Prop :=
 ∃ c w' g', (s.run P w = .ok (.value c) w' ∨ (s.run P w = .ok .skip w' ∧ c = undef)) ∧ Ext g w g' w' ∧ Rel env g' w' (happly h eff.writes) ∧ RV g' w' c eff.v
theorem Rel.lt {env : Nat → Option (List V)} {g : G} {w : World} {h : H} (r : Rel env g w h) {id : Id} {cs : List V} (hb : h id = some (.box cs)) :
  g.loc id < w.heap.size := by
 obtain ⟨vs, ⟨ty, hc⟩, _⟩ := r.box id cs hb
 exact (Array.getElem?_eq_some_iff.1 hc).1
theorem Rel.limlt {env : Nat → Option (List V)} {g : G} {w : World} {h : H} (r : Rel env g w h) {b : Nat} (hb : 0 < g.lim b) : b < w.heap.size := by
 rcases Nat.lt_or_ge b w.heap.size with h' | h'
 ·exact h'
 ·have := r.limnew b h'; omega
theorem Spare.lt {g : G} {w : World} {id : Id} (s : Spare g w id) : ∃ a, (g.buf id).a = some a ∧ a.block < w.heap.size := by
 obtain ⟨b, off, vs, h1, ⟨ty, h2⟩, _⟩ := s
 exact ⟨_, h1, (Array.getElem?_eq_some_iff.1 h2).1⟩
theorem new_box {env : Nat → Option (List V)} {g : G} {w : World} {h : H} (r : Rel env g w h) {nid : Id} (hn : h nid = none) {vs : Array Value} {cs : List V}
    (hv : RVL g w vs cs) (t : TypeId) :
    ∃ g', Ext g w g' (w.alloc (.cells vs t)) ∧ Rel env g' (w.alloc (.cells vs t)) (hset h nid (.box cs)) ∧ RV g' (w.alloc (.cells vs t)) (.pointer (some ⟨w.heap.size, 0, none⟩)) (.ptr nid 0) := by
  have hold : ∀ b, b < w.heap.size → (w.alloc (.cells vs t)).heap[b]? = w.heap[b]? := fun b hb => Go.RowKit.Below.heap_alloc w _ b hb
  have hnew : (w.alloc (.cells vs t)).heap[w.heap.size]? = some (.cells vs t (0, 0)) := by show (w.heap.push _)[w.heap.size]? = _; simp
  have hdn : g.dom nid = false := by
    cases hd : g.dom nid with
    | false => rfl
    | true => exact absurd hn ((r.dom nid).1 hd)
  let g' : G := { g with wr := fun b => if b = w.heap.size then true else g.wr b, loc := fun id => if id = nid then w.heap.size else g.loc id,
                         dom := fun id => if id = nid then true else g.dom id, top := max g.top (nid.gen + 1) }
  have hx : Ext g w g' (w.alloc (.cells vs t)) := by
    refine ⟨rfl, rfl, rfl, by simp, fun _ => Nat.le_refl _, ?_, ?_, ?_, Nat.le_max_left _ _⟩
    · intro b o ho
      have hb := r.limlt (b := b) (by omega)
      exact World.cell?_alloc_lt w _ _ hb
    · intro b hb hw
      exact ⟨hold b hb, by show (if b = w.heap.size then true else g.wr b) = false; rw [if_neg (by omega)]; exact hw⟩
    · intro id hid
      have hne : id ≠ nid := by intro e; rw [e, hdn] at hid; exact Bool.noConfusion hid
      exact ⟨by show (if id = nid then true else g.dom id) = true; rw [if_neg hne]; exact hid,
        by show (if id = nid then w.heap.size else g.loc id) = g.loc id; rw [if_neg hne], .inl rfl⟩
  refine ⟨g', hx, ?_, ?_⟩
  · have hbox : ∀ id cs', hset h nid (.box cs) id = some (.box cs') → (id = nid ∧ cs' = cs) ∨ (id ≠ nid ∧ h id = some (.box cs')) := by
      intro id cs' e
      by_cases hid : id = nid
      · subst hid; simp [hset] at e; exact .inl ⟨rfl, e.symm⟩
      · simp [hset, hid] at e; exact .inr ⟨hid, e⟩
    have htok : ∀ id n k, hset h nid (.box cs) id = some (.tok n k) → id ≠ nid ∧ h id = some (.tok n k) := by
      intro id n k e
      by_cases hid : id = nid
      · subst hid; simp [hset] at e
      · simp [hset, hid] at e; exact ⟨hid, e⟩
    have hloc : ∀ id, id ≠ nid → g'.loc id = g.loc id := fun id hid => by show (if id = nid then w.heap.size else g.loc id) = _; rw [if_neg hid]
    have hlocn : g'.loc nid = w.heap.size := by show (if nid = nid then w.heap.size else g.loc nid) = _; rw [if_pos rfl]
    refine ⟨?_, ?_, ?_, ?_, ?_, ?_, ?_, ?_, ?_⟩
    · intro id
      show (if id = nid then true else g.dom id) = true ↔ hset h nid (.box cs) id ≠ none
      by_cases hid : id = nid
      · simp [hset, hid]
      · simp only [hset, if_neg hid]; exact r.dom id
    · intro id hid
      show id.gen < max g.top (nid.gen + 1)
      by_cases e : id = nid
      · subst e; omega
      · simp only [hset, if_neg e] at hid
        have := r.top id hid; omega
    · intro id cs' e
      rcases hbox id cs' e with ⟨rfl, rfl⟩ | ⟨hid, e'⟩
      · refine ⟨vs, ⟨t, by rw [hlocn]; exact hnew⟩, Nat.le_of_eq hv.1.symm, (hv.mono hx).2, ?_, ?_⟩
        · rw [hlocn]; exact r.limnew _ (Nat.le_refl _)
        · rw [hlocn]; show (if w.heap.size = w.heap.size then true else _) = true; rw [if_pos rfl]
      · obtain ⟨vs', ⟨ty, h1⟩, h2, h3, h4, h5⟩ := r.box id cs' e'
        have hlt := r.lt e'
        refine ⟨vs', ⟨ty, by rw [hloc id hid, hold _ hlt]; exact h1⟩, h2, fun i c v a b => (h3 i c v a b).mono hx, by rw [hloc id hid]; exact h4, ?_⟩
        rw [hloc id hid]; show (if g.loc id = w.heap.size then true else g.wr (g.loc id)) = true; rw [if_neg (by omega)]; exact h5
    · intro id id' c1 c2 e1 e2 e
      rcases hbox id c1 e1 with ⟨rfl, rfl⟩ | ⟨hid, e1'⟩ <;> rcases hbox id' c2 e2 with ⟨rfl, rfl⟩ | ⟨hid', e2'⟩
      · rfl
      · rw [hlocn, hloc id' hid'] at e; have := r.lt e2'; omega
      · rw [hlocn, hloc id hid] at e; have := r.lt e1'; omega
      · rw [hloc id hid, hloc id' hid'] at e; exact r.inj id id' c1 c2 e1' e2' e
    · intro id n k e
      obtain ⟨hid, e'⟩ := htok id n k e
      obtain ⟨h1, h2, h3, hk⟩ := r.tok id n k e'
      refine ⟨h1, h2, fun hlt => ?_, hk⟩
      obtain ⟨b, off, vs', s1, ⟨ty, s2⟩, s3, s4, s5⟩ := h3 hlt
      have hb : b < w.heap.size := (Array.getElem?_eq_some_iff.1 s2).1
      exact ⟨b, off, vs', s1, ⟨ty, by rw [hold b hb]; exact s2⟩, s3, s4, by show (if b = w.heap.size then true else g.wr b) = true; rw [if_neg (by omega)]; exact s5⟩
    · intro id id' n k c e hlt e2 a ha
      obtain ⟨hid, e'⟩ := htok id n k e
      rcases hbox id' c e2 with ⟨rfl, rfl⟩ | ⟨hid', e2'⟩
      · rw [hlocn]
        obtain ⟨_, _, h3, _⟩ := r.tok id n k e'
        obtain ⟨a', ha', hlt'⟩ := (h3 hlt).lt
        have : a = a' := by
          have h9 : (g.buf id).a = some a := ha
          rw [h9] at ha'; exact Option.some.inj ha'
        subst this; omega
      · rw [hloc id' hid']; exact r.apart id id' n k c e' hlt e2' a ha
    · intro id id' n n' k k' e hlt e2 hlt2 a a' ha ha' hab
      exact r.apart2 id id' n n' k k' (htok id n k e).2 hlt (htok id' n' k' e2).2 hlt2 a a' ha ha' hab
    · intro b hb
      simp only [World.size_alloc] at hb
      exact r.limnew b (by omega)
    · intro k cs' e; exact (r.glob k cs' e).mono hx
  · have : RV g' (w.alloc (.cells vs t)) (.pointer (some ⟨g'.loc nid, 0, none⟩)) (.ptr nid 0) :=
      .ptr nid 0 (by show (if nid = nid then true else g.dom nid) = true; rw [if_pos rfl])
    have e : g'.loc nid = w.heap.size := by show (if nid = nid then w.heap.size else g.loc nid) = _; rw [if_pos rfl]
    rw [e] at this; exact this

theorem new_row {env : Nat → Option (List V)} {g : G} {w : World} {h : H} (r : Rel env g w h) (vs : Array Value) (t : TypeId) :
    ∃ g', Ext g w g' (w.alloc (.cells vs t)) ∧ Rel env g' (w.alloc (.cells vs t)) h ∧ g'.lim w.heap.size = vs.size := by
  have hold : ∀ b, b < w.heap.size → (w.alloc (.cells vs t)).heap[b]? = w.heap[b]? := fun b hb => Go.RowKit.Below.heap_alloc w _ b hb
  let g' : G := { g with lim := fun b => if b = w.heap.size then vs.size else g.lim b }
  have hlim : ∀ b, b ≠ w.heap.size → g'.lim b = g.lim b := fun b hb => by show (if b = w.heap.size then vs.size else g.lim b) = _; rw [if_neg hb]
  have hx : Ext g w g' (w.alloc (.cells vs t)) := by
    refine ⟨rfl, rfl, rfl, by simp, ?_, ?_, ?_, ?_, Nat.le_refl _⟩
    · intro b
      by_cases hb : b = w.heap.size
      · have := r.limnew b (by omega); omega
      · rw [hlim b hb]; exact Nat.le_refl _
    · intro b o ho
      have hb := r.limlt (b := b) (by omega)
      exact World.cell?_alloc_lt w _ _ hb
    · intro b hb hw; exact ⟨hold b hb, hw⟩
    · intro id hid; exact ⟨hid, rfl, .inl rfl⟩
  refine ⟨g', hx, ?_, by show (if w.heap.size = w.heap.size then vs.size else _) = _; rw [if_pos rfl]⟩
  refine ⟨r.dom, r.top, ?_, r.inj, ?_, r.apart, r.apart2, ?_, fun k cs' e => (r.glob k cs' e).mono hx⟩
  · intro id cs' e'
    obtain ⟨vs', ⟨ty, h1⟩, h2, h3, h4, h5⟩ := r.box id cs' e'
    have hlt := r.lt e'
    exact ⟨vs', ⟨ty, by show _ = _; rw [hold _ hlt]; exact h1⟩, h2, fun i c v a b => (h3 i c v a b).mono hx,
      by show g'.lim (g.loc id) = 0; rw [hlim _ (by omega)]; exact h4, h5⟩
  · intro id n k e'
    obtain ⟨h1, h2, h3, hk⟩ := r.tok id n k e'
    refine ⟨h1, h2, fun hlt => ?_, hk⟩
    obtain ⟨b, off, vs', s1, ⟨ty, s2⟩, s3, s4, s5⟩ := h3 hlt
    have hb : b < w.heap.size := (Array.getElem?_eq_some_iff.1 s2).1
    exact ⟨b, off, vs', s1, ⟨ty, by rw [hold b hb]; exact s2⟩, s3, by rw [hlim b (by omega)]; exact s4, s5⟩
  · intro b hb
    simp only [World.size_alloc] at hb
    rw [hlim b (by omega)]; exact r.limnew b (by omega)

theorem hset_same {h : H} {id : Id} {o : Obj} : hset h id o id = some o := by simp [hset]
theorem hset_other {h : H} {id id' : Id} {o : Obj} (hne : id' ≠ id) : hset h id o id' = h id' := by simp [hset, hne]
def RVLp (g : G) (w : World) (vs : Array Value) (cs : List V) : Prop := cs.length ≤ vs.size ∧ ∀ (i : Nat) (c : Value) (v : V), vs[i]? = some c → cs[i]? = some v → RV g w c v
theorem RVLp.at {g : G} {w : World} {vs : Array Value} {cs : List V} (h : RVLp g w vs cs) {i : Nat} {v : V} (hv : cs[i]? = some v) : ∃ c, vs[i]? = some c ∧ RV g w c v := by
 have hi : i < cs.length := (List.getElem?_eq_some_iff.1 hv).1
 have hi' : i < vs.size := Nat.lt_of_lt_of_le hi h.1
 exact ⟨vs[i], Array.getElem?_eq_getElem hi', h.2 i _ v (Array.getElem?_eq_getElem hi') hv⟩
theorem set_boxP {env : Nat → Option (List V)} {g : G} {w : World} {h : H} (r : Rel env g w h) {id : Id} {cs0 : List V} (h0 : h id = some (.box cs0))
  {vs : Array Value} {cs : List V} (hv : cs.length ≤ vs.size ∧ ∀ (i : Nat) (c : Value) (v : V), vs[i]? = some c → cs[i]? = some v → RV g w c v) :
  Ext g w g (w.setRow (g.loc id) vs) ∧ Rel env g (w.setRow (g.loc id) vs) (hset h id (.box cs)) := by
 obtain ⟨vs0, ⟨ty, hb1⟩, hb2, hb3, hb4, hb5⟩ := r.box id cs0 h0
 have hold : ∀ b, b ≠ g.loc id → (w.setRow (g.loc id) vs).heap[b]? = w.heap[b]? := fun b hb => setRow_other w _ _ vs hb
 have hnew := setRow_heap w (g.loc id) vs0 vs ty (0, 0) hb1
 have hx : Ext g w g (w.setRow (g.loc id) vs) := by
  refine ⟨rfl, rfl, rfl, by simp, fun _ => Nat.le_refl _, ?_, ?_, fun id h => ⟨h, rfl, .inl rfl⟩, Nat.le_refl _⟩
  ·intro b o ho
   exact cell_setRow_other w _ vs _ (by intro e; simp only at e; rw [e, hb4] at ho; omega)
  ·intro b _ hw
   exact ⟨hold b (by intro e; rw [e, hb5] at hw; exact Bool.noConfusion hw), hw⟩
 have hbox : ∀ id' cs', hset h id (.box cs) id' = some (.box cs') → (id' = id ∧ cs' = cs) ∨ (id' ≠ id ∧ h id' = some (.box cs')) := by
  intro id' cs' e
  by_cases hid : id' = id
  ·subst hid; simp [hset] at e; exact .inl ⟨rfl, e.symm⟩
  ·simp [hset, hid] at e; exact .inr ⟨hid, e⟩
 have hbox2 : ∀ id' cs', hset h id (.box cs) id' = some (.box cs') → ∃ cs2, h id' = some (.box cs2) := by
  intro id' cs' e
  rcases hbox id' cs' e with ⟨rfl, rfl⟩ | ⟨_, e'⟩
  ·exact ⟨_, h0⟩
  ·exact ⟨_, e'⟩
 have htok : ∀ id' n k, hset h id (.box cs) id' = some (.tok n k) → id' ≠ id ∧ h id' = some (.tok n k) := by
  intro id' n k e
  by_cases hid : id' = id
  ·subst hid; simp [hset] at e
  ·simp [hset, hid] at e; exact ⟨hid, e⟩
 refine ⟨hx, ?_, ?_, ?_, ?_, ?_, ?_, ?_, ?_, fun k cs' e => (r.glob k cs' e).mono hx⟩
 ·intro id'
  by_cases hid : id' = id
  ·subst hid; simp only [hset, if_true]; rw [r.dom, h0]; simp
  ·simp only [hset, if_neg hid]; exact r.dom id'
 ·intro id' hid'
  by_cases hid : id' = id
  ·subst hid; exact r.top id' (by rw [h0]; simp)
  ·simp only [hset, if_neg hid] at hid'; exact r.top id' hid'
 ·intro id' cs' e
  rcases hbox id' cs' e with ⟨rfl, rfl⟩ | ⟨hid, e'⟩
  ·exact ⟨vs, ⟨ty, hnew⟩, hv.1, fun i c v a b => (hv.2 i c v a b).mono hx, hb4, hb5⟩
  ·obtain ⟨vs', ⟨ty', h1⟩, h2, h3, h4, h5⟩ := r.box id' cs' e'
   have hne : g.loc id' ≠ g.loc id := fun e => hid (r.inj id' id cs' cs0 e' h0 e)
   exact ⟨vs', ⟨ty', by rw [hold _ hne]; exact h1⟩, h2, fun i c v a b => (h3 i c v a b).mono hx, h4, h5⟩
 ·intro i1 i2 c1 c2 e1 e2 e
  obtain ⟨x1, y1⟩ := hbox2 i1 c1 e1
  obtain ⟨x2, y2⟩ := hbox2 i2 c2 e2
  exact r.inj i1 i2 x1 x2 y1 y2 e
 ·intro id' n k e
  obtain ⟨hid, e'⟩ := htok id' n k e
  obtain ⟨h1, h2, h3, hk⟩ := r.tok id' n k e'
  refine ⟨h1, h2, fun hlt => ?_, hk⟩
  obtain ⟨b, off, vs', s1, ⟨ty', s2⟩, s3, s4, s5⟩ := h3 hlt
  have := r.apart id' id n k cs0 e' (by rw [← h1] at hlt ⊢; exact hlt) h0 _ s1
  exact ⟨b, off, vs', s1, ⟨ty', by rw [hold b this]; exact s2⟩, s3, s4, s5⟩
 ·intro i1 i2 n k c e hlt e2
  obtain ⟨x2, y2⟩ := hbox2 i2 c e2
  exact r.apart i1 i2 n k x2 (htok i1 n k e).2 hlt y2
 ·intro i1 i2 n n' k k' e hlt e2 hlt2
  exact r.apart2 i1 i2 n n' k k' (htok i1 n k e).2 hlt (htok i2 n' k' e2).2 hlt2
 ·intro b hb
  simp only [size_setRow] at hb
  exact r.limnew b hb
theorem Sim.of_runs {P : Program} {env : Nat → Option (List V)} {g : G} {w : World} {h : H} {s : Sem Next} {v : V} {rs : List Id} (r : Rel env g w h) (x : Runs P g w s v) :
  Sim P env g w h s ⟨v, rs, []⟩ := by
 obtain ⟨c, h1, h2⟩ := x
 exact ⟨c, w, g, .inl h1, Ext.refl g w, r, h2⟩
theorem oneCell_of {g : G} {w : World} {c : Value} {v : V} (h : RV g w c v) (ho : oneV v = true) : c.oneCell' = true := by
 cases h <;> first | rfl | simp [oneV] at ho
section
variable {P : Program} {env : Nat → Option (List V)} {g : G} {w : World} {h : H} {ρc : Operand → Value} {ρ : Operand → V} (r : Rel env g w h) (hρ : ∀ x, RV g w (ρc x) (ρ x))
include r hρ
omit hρ in
theorem h_alloc {o : Oper} {t : TypeId} {nid : Id} {eff : Eff} (ho : o.op = .alloc t) (he : primH P ρ h nid o.op = some eff) : Sim P env g w h (execOp ρc o) eff := by
 rw [ho] at he
 simp only [primH] at he
 split at he
 case h_2 => simp at he
 rename_i i hi hn
 cases he
 obtain ⟨inf, d, z, h1, h2, h0, _, _, _, hz, _⟩ := tyi_inv hi
 obtain ⟨g', hx, hr, hv⟩ := new_box r hn (rvl_toV1 g w z.cells) t
 rw [← hz] at hr
 refine ⟨_, _, g', .inl ?_, hx, hr, hv⟩
 simp [execOp, ho, Instr.alloc, zeroValue, typeInfo, h1, h0, newVar, newRow]
theorem h_box {o : Oper} {t : TypeId} {x : Operand} {nid : Id} {eff : Eff} (ho : o.op = .box t x) (he : primH P ρ h nid o.op = some eff) : Sim P env g w h (execOp ρc o) eff := by
 rw [ho] at he
 simp only [primH] at he
 split at he
 ·cases hc : cellsOf (ρ x) with
  | none => rw [hc] at he; cases he
  | some cs =>
   rw [hc] at he
   simp only [Option.map_some, Option.some.injEq] at he
   subst he
   have hcv := rv_cells (hρ x) hc
   obtain ⟨g', hx, hr, hl⟩ := new_row r (ρc x).cells t
   refine ⟨.pointer (some ⟨w.heap.size, 0 + 0, none⟩), _, g', .inl ?_, hx, hr, ?_⟩
   ·simp [execOp, ho, Instr.box, newVar, newRow]
   ·refine .el w.heap.size 0 cs 0 (fun i => (ρc x).cells[i]?.getD undef) (by rw [hl, hcv.1]; omega) (fun i hi => ?_) (fun i v hv => ?_)
    ·rw [Nat.zero_add, World.cell?_alloc_new, Array.getElem?_eq_getElem (by rw [hcv.1]; exact hi)]; simp
    ·obtain ⟨c, hc1, hc2⟩ := (RVL.mono hx hcv).at hv
     simp only [hc1, Option.getD_some]; exact hc2
 split at he
 case h_2 => simp at he
 rename_i cs hc hn
 cases he
 obtain ⟨g', hx, hr, hv⟩ := new_box r hn (rv_cells (hρ x) hc) t
 refine ⟨_, _, g', .inl ?_, hx, hr, hv⟩
 simp [execOp, ho, Instr.box, newVar, newRow]
omit r hρ in
theorem rv_partV {i : TyI} {t : TypeId} (hi : tyi P t = some i) {b off : Nat} {cs : List V} {v : V} (hp : partV i.agg i.size cs off = some v)
  {base : Nat} {cell : Nat → Value} (hcell : ∀ j, j < cs.length → w.cell? ⟨b, base + j, none⟩ = some (cell j))
  (hr : ∀ (j : Nat) (v : V), cs[j]? = some v → RV g w (cell j) v) :
  ∃ c, (loadVar t ⟨b, base + off, none⟩).run P w = .ok c w ∧ RV g w c v := by
 obtain ⟨inf, d, z, h1, h2, h0, hs, _, ha, _⟩ := tyi_inv hi
 unfold partV at hp
 split at hp
 ·simp at hp
 ·rw [ha] at hp
  cases hag : aggOf P t with
  | true =>
   simp only [hag, if_true] at hp
   split at hp
   ·rename_i hl
    cases hp
    have hload : (loadCells ⟨b, base + off, none⟩ inf.size).run P w = .ok ((List.range inf.size).map fun j => cell (off + j)).toArray w := by
     apply run_loadCells
     intro j hj
     rw [add_off, Nat.add_assoc]
     exact hcell (off + j) (by rw [hs] at hl; omega)
    refine ⟨.agg ((List.range inf.size).map fun j => cell (off + j)).toArray, by simp [loadVar, run_isAgg' h2, hag, run_sizeOf' h1, hload], ?_⟩
    refine .agg _ _ (by simp; rw [hs] at hl ⊢; omega) fun j c v hc hv => ?_
    rw [List.getElem?_take, List.getElem?_drop] at hv
    split at hv
    ·rename_i hj
     simp only [List.getElem?_toArray, List.getElem?_map] at hc
     rw [List.getElem?_range (by rw [← hs]; exact hj)] at hc
     simp at hc
     subst hc
     exact hr _ _ hv
    ·simp at hv
   ·simp at hp
  | false =>
   simp only [hag, Bool.false_eq_true, if_false] at hp
   have hlt : off < cs.length := by
    rcases Nat.lt_or_ge off cs.length with h' | h'
    ·exact h'
    ·simp [List.getElem?_eq_none h'] at hp
   exact ⟨cell off, by simp [loadVar, run_isAgg' h2, hag, hcell off hlt], hr _ _ hp⟩
theorem h_load {o : Oper} {t : TypeId} {x : Operand} {nid : Id} {eff : Eff} (ho : o.op = .load t x) (he : primH P ρ h nid o.op = some eff) : Sim P env g w h (execOp ρc o) eff := by
  rw [ho] at he
  simp only [primH] at he
  have hx := hρ x
  split at he
  · rename_i i id off hi hv
    split at he
    case h_2 => simp at he
    rename_i cs hb
    cases hp : partV i.agg i.size cs off with
    | none => simp [hp] at he
    | some v =>
      simp [hp] at he; subst he
      rw [hv] at hx
      cases hc : ρc x <;> rw [hc] at hx <;> cases hx
      obtain ⟨vs, ⟨ty, hb1⟩, hb2, hb3, _, _⟩ := r.box id cs hb
      obtain ⟨c, h1, h2⟩ := rv_partV (P := P) (g := g) (w := w) hi hp (b := g.loc id) (base := 0) (cell := fun j => vs[j]?.getD undef)
        (by intro j hj; simp [World.cell?, hb1, show j < vs.size by omega])
        (by
          intro j v hv
          obtain ⟨c, hc1, hc2⟩ := (show RVLp g w vs cs from ⟨hb2, hb3⟩).at hv
          simp only [hc1, Option.getD_some]; exact hc2)
      rw [Nat.zero_add] at h1
      exact Sim.of_runs r ⟨c, by simp [execOp, ho, Instr.loadAt, Instr.sureAddr, hc, h1], h2⟩
  · rename_i i cs off hi hv
    cases hp : partV i.agg i.size cs off with
    | none => simp [hp] at he
    | some v =>
      simp [hp] at he; subst he
      rw [hv] at hx
      cases hc : ρc x <;> rw [hc] at hx <;> cases hx
      rename_i b base cell hl hrun hrr
      obtain ⟨c, h1, h2⟩ := rv_partV (P := P) (g := g) (w := w) hi hp (b := b) (base := base) (cell := cell) hrun hrr
      exact Sim.of_runs r ⟨c, by simp [execOp, ho, Instr.loadAt, Instr.sureAddr, hc, h1], h2⟩
  · simp at he

omit r hρ in
theorem rvl_spliceP {vs : Array Value} {cs : List V} {nw : Array Value} {new : List V} {off : Nat} (h1 : RVLp g w vs cs) (h2 : RVL g w nw new) (hl : off + new.length ≤ cs.length) :
  RVLp g w (vs.toList.take off ++ nw.toList ++ vs.toList.drop (off + nw.toList.length)).toArray (splice cs off new) := by
 have hs : ∀ (new : List V) (off : Nat) (cs : List V), off + new.length ≤ cs.length → splice cs off new = cs.take off ++ new ++ cs.drop (off + new.length) := by
  intro new
  induction new with
  | nil => intro off cs _; simp [splice]
  | cons v new ih =>
   intro off cs hl
   simp only [List.length_cons] at hl
   rw [splice, ih (off + 1) (cs.set off v) (by simp; omega)]
   have e : cs.set off v = cs.take off ++ v :: cs.drop (off + 1) := by rw [List.set_eq_take_append_cons_drop, if_pos (by omega)]
   have el : (cs.take off).length = off := by simp; omega
   have t1 : (cs.take off ++ v :: cs.drop (off + 1)).take (off + 1) = cs.take off ++ [v] := by
    have := List.take_length_add_append (l₁ := cs.take off) (l₂ := v :: cs.drop (off + 1)) 1
    rw [el] at this; rw [this]; simp
   have t2 : (cs.take off ++ v :: cs.drop (off + 1)).drop (off + 1 + new.length) = cs.drop (off + (new.length + 1)) := by
    have := List.drop_length_add_append (l₁ := cs.take off) (l₂ := v :: cs.drop (off + 1)) (1 + new.length)
    rw [el] at this
    rw [show off + 1 + new.length = off + (1 + new.length) by omega, this, show 1 + new.length = new.length + 1 by omega]
    simp [Nat.add_assoc, Nat.add_comm 1]
   rw [e, t1, t2]
   simp
 rw [hs new off cs hl]
 have e2 := h2.1
 have h11 := h1.1
 refine ⟨by simp; omega, fun i c v hc hv => ?_⟩
 have hl2 : nw.toList.length = new.length := by simpa using e2
 rw [hl2] at hc
 simp only [List.getElem?_toArray] at hc
 rw [List.append_assoc] at hc hv
 by_cases c1 : i < off
 ·rw [List.getElem?_append_left (by simp; omega), List.getElem?_take, if_pos c1] at hc
  rw [List.getElem?_append_left (by simp; omega), List.getElem?_take, if_pos c1] at hv
  exact h1.2 i c v (by simpa using hc) hv
 ·rw [List.getElem?_append_right (by simp; omega)] at hc hv
  have ea : (vs.toList.take off).length = off := by simp; omega
  have eb : (cs.take off).length = off := by simp; omega
  rw [ea] at hc; rw [eb] at hv
  by_cases c2 : i - off < new.length
  ·rw [List.getElem?_append_left (by omega)] at hc hv
   exact h2.2 _ c v (by simpa using hc) hv
  ·rw [List.getElem?_append_right (by omega), List.getElem?_drop] at hc hv
   rw [hl2] at hc
   exact h1.2 _ c v (by simpa using hc) hv
theorem h_store {o : Oper} {t : TypeId} {x y : Operand} {nid : Id} {eff : Eff} (ho : o.op = .store t x y) (he : primH P ρ h nid o.op = some eff) : Sim P env g w h (execOp ρc o) eff := by
 rw [ho] at he
 simp only [primH] at he
 have hx := hρ x
 split at he
 case h_2 => simp at he
 rename_i i id off xs hi hv hcx
 split at he
 case h_2 => simp at he
 rename_i cs hb
 split at he
 case isFalse => simp at he
 rename_i hk
 cases he
 obtain ⟨inf, d, z, h1, h2, h0, hs, _, ha, _⟩ := tyi_inv hi
 rw [hv] at hx
 cases hc : ρc x <;> rw [hc] at hx <;> cases hx
 obtain ⟨vs, ⟨ty, hb1⟩, hb2, hb3, _, _⟩ := r.box id cs hb
 have hy := rv_cells (hρ y) hcx
 have hone : ∀ v ∈ (ρc y).cells.toList, v.oneCell' = true := by
  intro v hv
  obtain ⟨j, hj, e⟩ := List.mem_iff_getElem.1 hv
  have hj' : j < xs.length := by rw [← hy.1]; simpa using hj
  have hxs : xs[j]? = some xs[j] := by simp [hj']
  have hcs : (ρc y).cells[j]? = some v := by
   have : (ρc y).cells.toList[j]? = some v := by rw [List.getElem?_eq_getElem hj, e]
   simpa using this
  have hrv := hy.2 j v xs[j] hcs hxs
  have := hk.2.2
  rw [List.all_eq_true] at this
  exact oneCell_of hrv (this _ (List.getElem_mem hj'))
 have hst := run_storeCells_at (P := P) (g.loc id) off ty (ρc y).cells.toList 0 vs w hb1 (by have := hy.1; simp; omega) hone
 have hnew := rvl_spliceP (off := off) ⟨hb2, hb3⟩ hy hk.2.1
 obtain ⟨hx', hr'⟩ := set_boxP r hb hnew
 refine ⟨undef, _, g, .inr ⟨?_, rfl⟩, hx', hr', .undef _⟩
 simp only [Nat.add_zero] at hst
 have e1 : (ρc y).cells.size = inf.size := by rw [hy.1, hk.1, hs]
 simp [execOp, ho, Instr.storeAt, Instr.sureAddr, hc, storeVar, run_sizeOf' h1, e1]
 simp at hst
 rw [e1] at hst
 rw [hst]
 simp
end
theorem hset_id {h : H} {id : Id} {o : Obj} (e : h id = some o) : hset h id o = h := by
 funext j; unfold hset; split
 ·rename_i hj; rw [hj, e]
 ·rfl
theorem grow {env : Nat → Option (List V)} {g : G} {w : World} {h : H} (r : Rel env g w h) {id : Id} {nn cap k : Nat}
    (hid : h id = none ∨ ∃ n0 k0, h id = some (.tok n0 k0) ∧ n0 < nn) {arr : Array Value} (elem : TypeId) (harr : arr.size = cap * k) (hle : nn ≤ cap) :
    ∃ g', Ext g w g' (w.drew.alloc (.cells arr elem)) ∧ Rel env g' (w.drew.alloc (.cells arr elem)) (hset h id (.tok nn k)) ∧ g'.dom id = true ∧
      g'.buf id = ⟨some ⟨w.heap.size, 0, none⟩, nn, cap, k⟩ ∧ g'.lim w.heap.size = nn * k := by
  have hold : ∀ b, b < w.heap.size → (w.drew.alloc (.cells arr elem)).heap[b]? = w.heap[b]? := fun b hb => Go.RowKit.Below.heap_alloc w.drew _ b hb
  have hnew : (w.drew.alloc (.cells arr elem)).heap[w.heap.size]? = some (.cells arr elem (0, 0)) := by show (w.heap.push _)[w.heap.size]? = _; simp
  let g' : G := { g with lim := fun b => if b = w.heap.size then nn * k else g.lim b, wr := fun b => if b = w.heap.size then true else g.wr b,
                         buf := fun i => if i = id then ⟨some ⟨w.heap.size, 0, none⟩, nn, cap, k⟩ else g.buf i,
                         dom := fun i => if i = id then true else g.dom i, top := max g.top (id.gen + 1) }
  have hlim : ∀ b, b ≠ w.heap.size → g'.lim b = g.lim b := fun b hb => by show (if b = w.heap.size then _ else g.lim b) = _; rw [if_neg hb]
  have hwr : ∀ b, b ≠ w.heap.size → g'.wr b = g.wr b := fun b hb => by show (if b = w.heap.size then _ else g.wr b) = _; rw [if_neg hb]
  have hbuf : ∀ i, i ≠ id → g'.buf i = g.buf i := fun i hi => by show (if i = id then _ else g.buf i) = _; rw [if_neg hi]
  have hbufid : g'.buf id = ⟨some ⟨w.heap.size, 0, none⟩, nn, cap, k⟩ := by show (if id = id then _ else g.buf id) = _; rw [if_pos rfl]
  have hx : Ext g w g' (w.drew.alloc (.cells arr elem)) := by
    refine ⟨rfl, rfl, rfl, by simp, ?_, ?_, ?_, ?_, Nat.le_max_left _ _⟩
    · intro b
      by_cases hb : b = w.heap.size
      · have := r.limnew b (by omega); omega
      · rw [hlim b hb]; exact Nat.le_refl _
    · intro b o ho
      have hb := r.limlt (b := b) (by omega)
      exact World.cell?_alloc_lt w.drew _ _ hb
    · intro b hb hw
      exact ⟨hold b hb, by rw [hwr b (by omega)]; exact hw⟩
    · intro i hi
      by_cases e : i = id
      · subst e
        have hne := (r.dom i).1 hi
        rcases hid with hid | ⟨n0, k0, hid, hlt⟩
        · exact absurd hid hne
        · refine ⟨by show (if i = i then true else _) = true; rw [if_pos rfl], rfl, .inr ?_⟩
          rw [hbufid, (r.tok i n0 k0 hid).1]; exact hlt
      · exact ⟨by show (if i = id then true else g.dom i) = true; rw [if_neg e]; exact hi, rfl, .inl (hbuf i e)⟩
  have hbox : ∀ i cs, hset h id (.tok nn k) i = some (.box cs) → i ≠ id ∧ h i = some (.box cs) := by
    intro i cs e
    by_cases hi : i = id
    · subst hi; simp [hset] at e
    · simp [hset, hi] at e; exact ⟨hi, e⟩
  have htok : ∀ i n k', hset h id (.tok nn k) i = some (.tok n k') → (i = id ∧ n = nn ∧ k' = k) ∨ (i ≠ id ∧ h i = some (.tok n k')) := by
    intro i n k' e
    by_cases hi : i = id
    · subst hi; simp [hset] at e; exact .inl ⟨rfl, e.1.symm, e.2.symm⟩
    · simp [hset, hi] at e; exact .inr ⟨hi, e⟩
  refine ⟨g', hx, ?_, by show (if id = id then true else _) = true; rw [if_pos rfl], hbufid, by show (if w.heap.size = w.heap.size then _ else _) = _; rw [if_pos rfl]⟩
  refine ⟨?_, ?_, ?_, ?_, ?_, ?_, ?_, ?_, fun k cs' e => (r.glob k cs' e).mono hx⟩
  · intro i
    show (if i = id then true else g.dom i) = true ↔ hset h id (.tok nn k) i ≠ none
    by_cases hi : i = id
    · simp [hset, hi]
    · simp only [hset, if_neg hi]; exact r.dom i
  · intro i hi
    show i.gen < max g.top (id.gen + 1)
    by_cases e : i = id
    · subst e; omega
    · simp only [hset, if_neg e] at hi
      have := r.top i hi; omega
  · intro i cs e
    obtain ⟨hi, e'⟩ := hbox i cs e
    obtain ⟨vs', ⟨ty, h1⟩, h2, h3, h4, h5⟩ := r.box i cs e'
    have hlt := r.lt e'
    exact ⟨vs', ⟨ty, by show _ = _; rw [hold _ hlt]; exact h1⟩, h2, fun i c v a b => (h3 i c v a b).mono hx,
      by rw [hlim _ (show g.loc i ≠ _ by omega)]; exact h4, by rw [hwr _ (show g.loc i ≠ _ by omega)]; exact h5⟩
  · intro i1 i2 c1 c2 e1 e2 e
    exact r.inj i1 i2 c1 c2 (hbox i1 c1 e1).2 (hbox i2 c2 e2).2 e
  · intro i n k' e
    rcases htok i n k' e with ⟨rfl, rfl, rfl⟩ | ⟨hi, e'⟩
    · rw [hbufid]
      refine ⟨rfl, hle, fun _ => ⟨w.heap.size, 0, arr, by rw [hbufid], ⟨elem, hnew⟩, by rw [hbufid]; simp; omega, by rw [hbufid]; simp; show (if w.heap.size = w.heap.size then _ else _) = _; rw [if_pos rfl], by show (if w.heap.size = w.heap.size then true else _) = true; rw [if_pos rfl]⟩, rfl⟩
    · obtain ⟨h1, h2, h3, hk⟩ := r.tok i n k' e'
      rw [hbuf i hi]
      refine ⟨h1, h2, fun hlt => ?_, hk⟩
      obtain ⟨b, off, vs', s1, ⟨ty, s2⟩, s3, s4, s5⟩ := h3 hlt
      have hb : b < w.heap.size := (Array.getElem?_eq_some_iff.1 s2).1
      exact ⟨b, off, vs', by rw [hbuf i hi]; exact s1, ⟨ty, by rw [hold b hb]; exact s2⟩, by rw [hbuf i hi]; exact s3, by rw [hbuf i hi, hlim b (by omega)]; exact s4, by rw [hwr b (by omega)]; exact s5⟩
  · intro i i' n k' c e hlt e2 a ha
    obtain ⟨hi', e2'⟩ := hbox i' c e2
    have hl := r.lt e2'
    rcases htok i n k' e with ⟨rfl, rfl, rfl⟩ | ⟨hi, e'⟩
    · rw [hbufid] at ha; cases ha; show w.heap.size ≠ g.loc i'; omega
    · rw [hbuf i hi] at ha hlt; exact r.apart i i' n k' c e' hlt e2' a ha
  · intro i i' n n' k1 k2 e hlt e2 hlt2 a a' ha ha' hab
    rcases htok i n k1 e with ⟨rfl, rfl, rfl⟩ | ⟨hi, e'⟩ <;> rcases htok i' n' k2 e2 with ⟨rfl, rfl, rfl⟩ | ⟨hi', e2'⟩
    · rfl
    · rw [hbufid] at ha; cases ha
      rw [hbuf i' hi'] at ha' hlt2
      obtain ⟨_, _, h3, _⟩ := r.tok i' n' k2 e2'
      obtain ⟨x, hx1, hx2⟩ := (h3 hlt2).lt
      rw [ha'] at hx1; cases hx1
      simp only at hab; omega
    · rw [hbufid] at ha'; cases ha'
      rw [hbuf i hi] at ha hlt
      obtain ⟨_, _, h3, _⟩ := r.tok i n k1 e'
      obtain ⟨x, hx1, hx2⟩ := (h3 hlt).lt
      rw [ha] at hx1; cases hx1
      simp only at hab; omega
    · rw [hbuf i hi] at ha hlt; rw [hbuf i' hi'] at ha' hlt2
      exact r.apart2 i i' n n' k1 k2 e' hlt e2' hlt2 a a' ha ha' hab
  · intro b hb
    simp only [World.size_alloc, World.size_drew] at hb
    rw [hlim b (by omega)]; exact r.limnew b (by omega)

theorem adopt {env : Nat → Option (List V)} {g : G} {w : World} {h : H} (r : Rel env g w h) {id : Id} (hid : h id = none) (a : Option Addr) (nn k : Nat) :
  ∃ g', Ext g w g' w ∧ Rel env g' w (hset h id (.tok nn k)) ∧ g'.dom id = true ∧ g'.buf id = ⟨a, nn, nn, k⟩ ∧ g'.lim = g.lim := by
 have hdn : g.dom id = false := by
  cases hd : g.dom id with
  | false => rfl
  | true => exact absurd hid ((r.dom id).1 hd)
 let g' : G := { g with buf := fun i => if i = id then ⟨a, nn, nn, k⟩ else g.buf i, dom := fun i => if i = id then true else g.dom i, top := max g.top (id.gen + 1) }
 have hbuf : ∀ i, i ≠ id → g'.buf i = g.buf i := fun i hi => by show (if i = id then _ else g.buf i) = _; rw [if_neg hi]
 have hbufid : g'.buf id = ⟨a, nn, nn, k⟩ := by show (if id = id then _ else g.buf id) = _; rw [if_pos rfl]
 have hx : Ext g w g' w := by
  refine ⟨rfl, rfl, rfl, Nat.le_refl _, fun _ => Nat.le_refl _, fun _ _ _ => rfl, fun _ _ h => ⟨rfl, h⟩, ?_, Nat.le_max_left _ _⟩
  intro i hi
  have e : i ≠ id := by intro e; rw [e, hdn] at hi; exact Bool.noConfusion hi
  exact ⟨by show (if i = id then true else g.dom i) = true; rw [if_neg e]; exact hi, rfl, .inl (hbuf i e)⟩
 have hbox : ∀ i cs, hset h id (.tok nn k) i = some (.box cs) → i ≠ id ∧ h i = some (.box cs) := by
  intro i cs e
  by_cases hi : i = id
  ·subst hi; simp [hset] at e
  ·simp [hset, hi] at e; exact ⟨hi, e⟩
 have htok : ∀ i n k', hset h id (.tok nn k) i = some (.tok n k') → (i = id ∧ n = nn ∧ k' = k) ∨ (i ≠ id ∧ h i = some (.tok n k')) := by
  intro i n k' e
  by_cases hi : i = id
  ·subst hi; simp [hset] at e; exact .inl ⟨rfl, e.1.symm, e.2.symm⟩
  ·simp [hset, hi] at e; exact .inr ⟨hi, e⟩
 refine ⟨g', hx, ?_, by show (if id = id then true else _) = true; rw [if_pos rfl], hbufid, rfl⟩
 refine ⟨?_, ?_, ?_, ?_, ?_, ?_, ?_, r.limnew, fun k cs' e => (r.glob k cs' e).mono hx⟩
 ·intro i
  show (if i = id then true else g.dom i) = true ↔ hset h id (.tok nn k) i ≠ none
  by_cases hi : i = id
  ·simp [hset, hi]
  ·simp only [hset, if_neg hi]; exact r.dom i
 ·intro i hi
  show i.gen < max g.top (id.gen + 1)
  by_cases e : i = id
  ·subst e; omega
  ·simp only [hset, if_neg e] at hi
   have := r.top i hi; omega
 ·intro i cs e
  obtain ⟨hi, e'⟩ := hbox i cs e
  obtain ⟨vs', h1, h2, h3, h4, h5⟩ := r.box i cs e'
  exact ⟨vs', h1, h2, fun i c v a b => (h3 i c v a b).mono hx, h4, h5⟩
 ·intro i1 i2 c1 c2 e1 e2 e
  exact r.inj i1 i2 c1 c2 (hbox i1 c1 e1).2 (hbox i2 c2 e2).2 e
 ·intro i n k' e
  rcases htok i n k' e with ⟨rfl, rfl, rfl⟩ | ⟨hi, e'⟩
  ·rw [hbufid]
   exact ⟨rfl, Nat.le_refl _, fun hlt => absurd hlt (Nat.lt_irrefl _), rfl⟩
  ·obtain ⟨h1, h2, h3, hk⟩ := r.tok i n k' e'
   rw [hbuf i hi]
   refine ⟨h1, h2, fun hlt => ?_, hk⟩
   obtain ⟨b, off, vs', s1, s2, s3, s4, s5⟩ := h3 hlt
   exact ⟨b, off, vs', by rw [hbuf i hi]; exact s1, s2, by rw [hbuf i hi]; exact s3, by rw [hbuf i hi]; exact s4, s5⟩
 ·intro i i' n k' c e hlt e2 a' ha
  obtain ⟨hi', e2'⟩ := hbox i' c e2
  rcases htok i n k' e with ⟨rfl, rfl, rfl⟩ | ⟨hi, e'⟩
  ·rw [hbufid] at hlt; exact absurd hlt (Nat.lt_irrefl _)
  ·rw [hbuf i hi] at ha hlt; exact r.apart i i' n k' c e' hlt e2' a' ha
 ·intro i i' n n' k1 k2 e hlt e2 hlt2 a1 a2 ha ha' hab
  rcases htok i n k1 e with ⟨rfl, rfl, rfl⟩ | ⟨hi, e'⟩ <;> rcases htok i' n' k2 e2 with ⟨rfl, rfl, rfl⟩ | ⟨hi', e2'⟩
  ·rfl
  ·rw [hbufid] at hlt; exact absurd hlt (Nat.lt_irrefl _)
  ·rw [hbufid] at hlt2; exact absurd hlt2 (Nat.lt_irrefl _)
  ·rw [hbuf i hi] at ha hlt; rw [hbuf i' hi'] at ha' hlt2
   exact r.apart2 i i' n n' k1 k2 e' hlt e2' hlt2 a1 a2 ha ha' hab
theorem advance {env : Nat → Option (List V)} {g : G} {w : World} {h : H} (r : Rel env g w h) {id : Id} {n m k : Nat} (hid : h id = some (.tok n k)) (hm : 0 < m)
    {b off cap : Nat} (hbufold : g.buf id = ⟨some ⟨b, off, none⟩, n, cap, k⟩) (hfit : n + m ≤ cap) {vs : Array Value} (hvs : CellsAt w b vs) (hsize : off + cap * k ≤ vs.size)
    (hl : g.lim b = off + n * k) (hw : g.wr b = true) {new : Array Value} (hsz : new.size = vs.size) (hsame : ∀ i, i < off + n * k → new[i]? = vs[i]?) :
    ∃ g', Ext g w g' (w.setRow b new) ∧ Rel env g' (w.setRow b new) (hset h id (.tok (n + m) k)) ∧ g'.dom id = true ∧
      g'.buf id = ⟨some ⟨b, off, none⟩, n + m, cap, k⟩ ∧ g'.lim b = off + (n + m) * k := by
  obtain ⟨ty, hb1⟩ := hvs
  have hold : ∀ b', b' ≠ b → (w.setRow b new).heap[b']? = w.heap[b']? := fun b' hb => setRow_other w _ _ new hb
  have hnew := setRow_heap w b vs new ty (0, 0) hb1
  have hblt : b < w.heap.size := (Array.getElem?_eq_some_iff.1 hb1).1
  have hdom : g.dom id = true := (r.dom id).2 (by rw [hid]; simp)
  let g' : G := { g with lim := fun b' => if b' = b then off + (n + m) * k else g.lim b',
                         buf := fun i => if i = id then ⟨some ⟨b, off, none⟩, n + m, cap, k⟩ else g.buf i }
  have hlim : ∀ b', b' ≠ b → g'.lim b' = g.lim b' := fun b' hb => by show (if b' = b then _ else g.lim b') = _; rw [if_neg hb]
  have hlimb : g'.lim b = off + (n + m) * k := by show (if b = b then _ else g.lim b) = _; rw [if_pos rfl]
  have hbuf : ∀ i, i ≠ id → g'.buf i = g.buf i := fun i hi => by show (if i = id then _ else g.buf i) = _; rw [if_neg hi]
  have hbufid : g'.buf id = ⟨some ⟨b, off, none⟩, n + m, cap, k⟩ := by show (if id = id then _ else g.buf id) = _; rw [if_pos rfl]
  have hmul : (n + m) * k = n * k + m * k := Nat.add_mul _ _ _
  have hx : Ext g w g' (w.setRow b new) := by
    refine ⟨rfl, rfl, rfl, by simp, ?_, ?_, ?_, ?_, Nat.le_refl _⟩
    · intro b'
      by_cases hb : b' = b
      · subst hb; rw [hlimb, hl]; omega
      · rw [hlim b' hb]; exact Nat.le_refl _
    · intro b' o ho
      by_cases hb : b' = b
      · subst hb
        rw [cell_setRow_same w b' o vs new ty (0, 0) hb1, hsame o (by omega)]
        simp [World.cell?, hb1]
      · exact cell_setRow_other w _ new _ hb
    · intro b' _ hw'
      exact ⟨hold b' (by intro e; rw [e, hw] at hw'; exact Bool.noConfusion hw'), hw'⟩
    · intro i hi
      refine ⟨hi, rfl, ?_⟩
      by_cases e : i = id
      · subst e; right; rw [hbufid, hbufold]; show n < n + m; omega
      · exact .inl (hbuf i e)
  have hbox : ∀ i cs, hset h id (.tok (n + m) k) i = some (.box cs) → i ≠ id ∧ h i = some (.box cs) := by
    intro i cs e
    by_cases hi : i = id
    · subst hi; simp [hset] at e
    · simp [hset, hi] at e; exact ⟨hi, e⟩
  have htok : ∀ i n' k', hset h id (.tok (n + m) k) i = some (.tok n' k') → (i = id ∧ n' = n + m ∧ k' = k) ∨ (i ≠ id ∧ h i = some (.tok n' k')) := by
    intro i n' k' e
    by_cases hi : i = id
    · subst hi; simp [hset] at e; exact .inl ⟨rfl, e.1.symm, e.2.symm⟩
    · simp [hset, hi] at e; exact .inr ⟨hi, e⟩
  have hltn : n < (g.buf id).cap := by rw [hbufold]; show n < cap; omega
  have hne : ∀ i cs, h i = some (.box cs) → g.loc i ≠ b := fun i cs e e2 => r.apart id i n k cs hid hltn e ⟨b, off, none⟩ (by rw [hbufold]) e2.symm
  refine ⟨g', hx, ?_, hdom, hbufid, hlimb⟩
  refine ⟨?_, ?_, ?_, ?_, ?_, ?_, ?_, ?_, fun k cs' e => (r.glob k cs' e).mono hx⟩
  · intro i
    by_cases hi : i = id
    · subst hi; simp [hset]; exact hdom
    · simp only [hset, if_neg hi]; exact r.dom i
  · intro i hi
    by_cases e : i = id
    · subst e; exact r.top i (by rw [hid]; simp)
    · simp only [hset, if_neg e] at hi; exact r.top i hi
  · intro i cs e
    obtain ⟨hi, e'⟩ := hbox i cs e
    obtain ⟨vs', ⟨ty', h1⟩, h2, h3, h4, h5⟩ := r.box i cs e'
    have := hne i cs e'
    exact ⟨vs', ⟨ty', by show _ = _; rw [hold _ this]; exact h1⟩, h2, fun i c v a b => (h3 i c v a b).mono hx, by rw [hlim _ this]; exact h4, h5⟩
  · intro i1 i2 c1 c2 e1 e2 e
    exact r.inj i1 i2 c1 c2 (hbox i1 c1 e1).2 (hbox i2 c2 e2).2 e
  · intro i n' k' e
    rcases htok i n' k' e with ⟨rfl, rfl, rfl⟩ | ⟨hi, e'⟩
    · rw [hbufid]
      exact ⟨rfl, hfit, fun _ => ⟨b, off, new, by rw [hbufid], ⟨ty, hnew⟩, by rw [hbufid, hsz]; exact hsize, by rw [hbufid, hlimb], hw⟩, rfl⟩
    · obtain ⟨h1, h2, h3, hk⟩ := r.tok i n' k' e'
      rw [hbuf i hi]
      refine ⟨h1, h2, fun hlt => ?_, hk⟩
      obtain ⟨b', off', vs', s1, ⟨ty', s2⟩, s3, s4, s5⟩ := h3 hlt
      have hb' : b' ≠ b := fun e2 => hi (r.apart2 i id n' n k' k e' hlt hid hltn _ _ s1 (by rw [hbufold]) e2)
      exact ⟨b', off', vs', by rw [hbuf i hi]; exact s1, ⟨ty', by rw [hold b' hb']; exact s2⟩, by rw [hbuf i hi]; exact s3, by rw [hbuf i hi, hlim b' hb']; exact s4, s5⟩
  · intro i i' n' k' c e hlt e2 a ha
    obtain ⟨hi', e2'⟩ := hbox i' c e2
    rcases htok i n' k' e with ⟨rfl, rfl, rfl⟩ | ⟨hi, e'⟩
    · rw [hbufid] at ha; cases ha; exact fun e => hne i' c e2' e.symm
    · rw [hbuf i hi] at ha hlt; exact r.apart i i' n' k' c e' hlt e2' a ha
  · intro i i' n1 n2 k1 k2 e hlt e2 hlt2 a a' ha ha' hab
    rcases htok i n1 k1 e with ⟨rfl, rfl, rfl⟩ | ⟨hi, e'⟩ <;> rcases htok i' n2 k2 e2 with ⟨rfl, rfl, rfl⟩ | ⟨hi', e2'⟩
    · rfl
    · rw [hbufid] at ha; cases ha
      rw [hbuf i' hi'] at ha' hlt2
      exact r.apart2 i i' n n2 _ k2 hid hltn e2' hlt2 _ a' (by rw [hbufold]) ha' hab
    · rw [hbufid] at ha'; cases ha'
      rw [hbuf i hi] at ha hlt
      exact r.apart2 i i' n1 n k1 _ e' hlt hid hltn a _ ha (by rw [hbufold]) hab
    · rw [hbuf i hi] at ha hlt; rw [hbuf i' hi'] at ha' hlt2
      exact r.apart2 i i' n1 n2 k1 k2 e' hlt e2' hlt2 a a' ha ha' hab
  · intro b' hb
    simp only [size_setRow] at hb
    rw [hlim b' (by omega)]; exact r.limnew b' hb


theorem growBy_le (n : Nat) : ∀ (rounds c : Nat), c ≤ n + (n + 768) / 4 → Builtin.growBy n rounds c ≤ n + (n + 768) / 4
 | 0, c, h => by simpa [Builtin.growBy] using h
 | rounds + 1, c, h => by
  unfold Builtin.growBy
  split
  ·exact h
  ·exact growBy_le n rounds _ (by omega)
theorem nextcap_le (n c : Nat) (h : c < n) : Builtin.nextslicecap n c ≤ 2 * n := by
 unfold Builtin.nextslicecap
 split
 ·omega
 ·split
  ·omega
  ·have := growBy_le n 4 c (by omega); omega
theorem run_first {P : Program} {g : G} {w : World} {a : Option Addr} {cap k : Nat} {es : List (List V)} {cell : Nat → Value}
  (hrun : es ≠ [] → ∃ b off, a = some ⟨b, off, none⟩ ∧ off + es.length * k ≤ g.lim b ∧ ∀ i, i < es.length * k → w.cell? ⟨b, off + i, none⟩ = some (cell i))
  (w0 : World) (hw : ∀ x, w0.cell? x = w.cell? x) :
  (Builtin.firstCells k es.length (.slice a es.length cap)).run P w0 = .ok ((List.range (es.length * k)).map cell).toArray w0 := by
 cases hes : es with
 | nil =>
  cases a with
  | none => simp [Builtin.firstCells]
  | some a => simp [Builtin.firstCells, loadCells, loadCellsFrom]
 | cons e0 es0 =>
  obtain ⟨b, off, rfl, hl, hc⟩ := hrun (by rw [hes]; simp)
  rw [← hes]
  simp only [Builtin.firstCells]
  apply run_loadCells
  intro j hj
  rw [add_off, hw]; exact hc j hj
theorem flat_len : ∀ (es : List (List V)) (k : Nat), (∀ e ∈ es, e.length = k) → es.flatten.length = es.length * k
 | [], k, _ => by simp
 | e :: es, k, hk => by
  rw [List.flatten_cons, List.length_append, flat_len es k (fun x hx => hk x (by simp [hx])), hk e (by simp), List.length_cons, Nat.add_mul]; omega
def putNew (a : Option Addr) (k : Nat) (vs : List Value) : Sem Unit :=
 match a with
 | some a => storeCells (a.add k) vs
 | none => pure ()
theorem zero_size (z : Array Value) (n : Nat) : (Builtin.zeroCells z n).size = n * z.size := by simp [Builtin.zeroCells]
section
variable {P : Program} {env : Nat → Option (List V)} {g : G} {w : World} {h : H} {ρc : Operand → Value} {ρ : Operand → V} (r : Rel env g w h) (hρ : ∀ x, RV g w (ρc x) (ρ x))
theorem rv_joined {g' : G} {w' : World} {es xs : List (List V)} {k cap b off : Nat} {cs cx : Nat → Value} {id : Id}
  (hk1 : ∀ e ∈ es, e.length = k) (hk2 : ∀ e ∈ xs, e.length = k) (hcap : es.length + xs.length ≤ cap)
  (hl : off + (es.length + xs.length) * k ≤ g'.lim b)
  (h1 : ∀ i, i < es.length * k → w'.cell? ⟨b, off + i, none⟩ = some (cs i))
  (h2 : ∀ i, i < xs.length * k → w'.cell? ⟨b, off + (es.length * k + i), none⟩ = some (cx i))
  (r1 : ∀ (i : Nat) (v : V), es.flatten[i]? = some v → RV g' w' (cs i) v) (r2 : ∀ (i : Nat) (v : V), xs.flatten[i]? = some v → RV g' w' (cx i) v)
  (hd : g'.dom id = true) (hb : g'.buf id = ⟨some ⟨b, off, none⟩, es.length + xs.length, cap, k⟩) :
  RV g' w' (.slice (some ⟨b, off, none⟩) (es.length + xs.length) cap) (.sl (.own id) (es ++ xs)) := by
 have hlen : (es ++ xs).length = es.length + xs.length := List.length_append
 have hfl := flat_len es k hk1
 rw [← hlen] at hl hcap hb ⊢
 refine .sl _ cap _ (es ++ xs) k (fun i => if i < es.length * k then cs i else cx (i - es.length * k)) ?_ hcap (fun _ => ⟨b, off, rfl, hl, ?_⟩) ?_ ⟨hd, by rw [hb]; exact Nat.le_refl _, fun _ => hb⟩
 ·intro e he
  rcases List.mem_append.1 he with h | h
  ·exact hk1 e h
  ·exact hk2 e h
 ·intro i hi
  rw [hlen, Nat.add_mul] at hi
  by_cases c : i < es.length * k
  ·simp only [c, if_true]; exact h1 i c
  ·simp only [c, if_false]
   have := h2 (i - es.length * k) (by omega)
   rw [show es.length * k + (i - es.length * k) = i by omega] at this
   exact this
 ·intro i v hv
  rw [List.flatten_append] at hv
  by_cases c : i < es.length * k
  ·rw [List.getElem?_append_left (by omega)] at hv
   simp only [c, if_true]; exact r1 i v hv
  ·rw [List.getElem?_append_right (by omega), hfl] at hv
   simp only [c, if_false]; exact r2 _ v hv
include r hρ in
theorem h_append {o : Oper} {c : Call} {nid : Id} {eff : Eff} (ho : o.op = .call c) (hcal : c.callee = .builtin .append) (he : primH P ρ h nid o.op = some eff) :
    Sim P env g w h (execOp ρc o) eff := by
  obtain ⟨callee, args, ts⟩ := c
  simp only at hcal; subst hcal
  rw [ho] at he
  simp only [primH] at he
  split at he
  case h_2 => simp at he
  rename_i c es c2 xs i j hargs hts
  split at he
  case isFalse => simp at he
  rename_i hk
  obtain ⟨hk1, hk2, hk3, hk4, hk5, hk6, hk7, hk8, hk9⟩ := hk
  have hl := congrArg List.length hargs
  have hl2 := congrArg List.length hts
  simp at hl hl2
  obtain ⟨x, y, rfl⟩ : ∃ x y, args = #[x, y] := by
    obtain ⟨l⟩ := args
    match l, hl with
    | [x, y], _ => exact ⟨x, y, rfl⟩
  obtain ⟨t, t2, rfl⟩ : ∃ x y, ts = #[x, y] := by
    obtain ⟨l⟩ := ts
    match l, hl2 with
    | [x, y], _ => exact ⟨x, y, rfl⟩
  simp at hargs hts
  obtain ⟨inf, d, z, i1, i2, i0, is, ib, ia, iz, _, ik4, _, _, _, _, _, iez⟩ := tyi_inv hts.1
  obtain ⟨e, rfl, hes, heb, _⟩ := ik4 hk1
  obtain ⟨inf2, d2, z2, j1, j2, j0, _, _, _, _, _, jk4, _⟩ := tyi_inv hts.2
  obtain ⟨e2, rfl, _⟩ := jk4 hk2
  obtain ⟨ie, de, he1, he2, he3⟩ := szOf_some (P := P) (t := e) (by rw [← hes]; exact hk3)
  have hez := (iez e (.inl rfl)).2 ie he1
  have hsz : ie.size = i.esize := by rw [he3, hes]
  obtain ⟨ze, hze, hzel⟩ : ∃ ze, ie.zero = some ze ∧ ze.cells.size = i.esize := by
    cases hz0 : ie.zero with
    | none => rw [hz0] at hez; rw [hez] at hk4; simp at hk4; exact absurd hk4.symm hk3
    | some ze => rw [hz0] at hez; rw [hez] at hk4; exact ⟨ze, rfl, by simpa using hk4⟩
  have hbytes : ie.bytes = i.ebytes := by rw [heb]; simp [bytesOf, he1]
  have hx := hρ x
  have hy := hρ y
  rw [hargs.1] at hx; rw [hargs.2] at hy
  cases hcx : ρc x <;> rw [hcx] at hx <;> cases hx
  rename_i a cap k cs hke hrs hruns hcaps hccs
  cases hcy : ρc y <;> rw [hcy] at hy <;> cases hy
  rename_i a2 cap2 k2 cx hkx hrx hrunx hcapx hccx
  have hes' : ∀ e ∈ es, e.length = i.esize := by
    rw [List.all_eq_true] at hk5; intro e he; simpa using hk5 e he
  have hxs' : ∀ e ∈ xs, e.length = i.esize := by
    rw [List.all_eq_true] at hk6; intro e he; simpa using hk6 e he
  have hruns' : es ≠ [] → ∃ b off, a = some ⟨b, off, none⟩ ∧ off + es.length * i.esize ≤ g.lim b ∧ ∀ j, j < es.length * i.esize → w.cell? ⟨b, off + j, none⟩ = some (cs j) := by
    intro hne
    have : k = i.esize := by
      cases es with
      | nil => exact absurd rfl hne
      | cons e0 _ => rw [← hke e0 (by simp), hes' e0 (by simp)]
    rw [← this]; exact hruns hne
  have hrunx' : xs ≠ [] → ∃ b off, a2 = some ⟨b, off, none⟩ ∧ off + xs.length * i.esize ≤ g.lim b ∧ ∀ j, j < xs.length * i.esize → w.cell? ⟨b, off + j, none⟩ = some (cx j) := by
    intro hne
    have : k2 = i.esize := by
      cases xs with
      | nil => exact absurd rfl hne
      | cons e0 _ => rw [← hkx e0 (by simp), hxs' e0 (by simp)]
    rw [← this]; exact hrunx hne
  have hfx := flat_len xs i.esize hxs'
  have hone : ∀ v ∈ (((List.range (xs.length * i.esize)).map cx).toArray).toList, v.oneCell' = true := by
    intro v hv
    simp only [List.mem_map, List.mem_range] at hv
    obtain ⟨q, hq, rfl⟩ := hv
    have hq' : q < xs.flatten.length := by omega
    rw [List.all_eq_true] at hk7
    exact oneCell_of (hrx q _ (List.getElem?_eq_getElem hq')) (hk7 _ (List.getElem_mem hq'))
  have hF1 := fun w0 hw => run_first (P := P) (cap := cap) hruns' w0 hw
  have hF2 := fun w0 hw => run_first (P := P) (cap := cap2) hrunx' w0 hw
  have hF1' := fun (w0 : World) hw => by
    have := hF1 w0 hw; rw [← hsz] at this; exact this
  have hF2' := fun (w0 : World) hw => by
    have := hF2 w0 hw; rw [← hsz] at this; exact this
  have hmul : (es.length + xs.length) * i.esize = es.length * i.esize + xs.length * i.esize := Nat.add_mul _ _ _
  have hgrow : ∀ id, (h id = none ∨ ∃ n0 k0, h id = some (.tok n0 k0) ∧ n0 < es.length + xs.length) → cap < es.length + xs.length →
      Sim P env g w h (execOp ρc o) ⟨.sl (.own id) (es ++ xs), [id], [(id, .tok (es.length + xs.length) i.esize)]⟩ := by
    intro id hid hlt
    have hnc := nextcap_le (es.length + xs.length) cap hlt
    have hcut : es.length + xs.length ≤ es.length + xs.length + w.tape w.drawn (.appendCap (es.length + xs.length) cap e) % (9223372036854775808 - (es.length + xs.length)) := Nat.le_add_right _ _
    generalize hq : w.tape w.drawn (.appendCap (es.length + xs.length) cap e) % (9223372036854775808 - (es.length + xs.length)) = q at hcut
    let arr : Array Value := ((List.range (es.length * ie.size)).map cs).toArray ++ ((List.range (xs.length * ie.size)).map cx).toArray ++ Builtin.zeroCells ze.cells q
    have harr : arr.size = (es.length + xs.length + q) * i.esize := by
      simp only [arr, Array.size_append, zero_size, hzel, hsz]
      simp
      rw [Nat.add_mul, hmul]
    obtain ⟨g', hx', hr', hd', hb', hl'⟩ := grow r hid e harr hcut
    have hrun : (execOp ρc o).run P w = .ok (.value (.slice (some ⟨w.heap.size, 0, none⟩) (es.length + xs.length) (es.length + xs.length + q))) (w.drew.alloc (.cells arr e)) := by
      have b1 : ¬ ((9223372036854775807 : Int) < (es.length : Int) + (xs.length : Int) ∧ ie.bytes = 0) := by omega
      have b2 : ¬ (281474976710656 < Builtin.nextslicecap (es.length + xs.length) cap * ie.bytes) := by
        rw [hbytes]
        have : Builtin.nextslicecap (es.length + xs.length) cap * i.ebytes ≤ 2 * (es.length + xs.length) * i.ebytes := Nat.mul_le_mul_right _ hnc
        rw [Nat.mul_assoc] at this; omega
      have b3 : ¬ (es.length + xs.length ≤ cap) := by omega
      have f1 := hF1' w.drew (fun _ => rfl)
      have f2 := hF2' w.drew (fun _ => rfl)
      simp [execOp, ho, resolve, invoke, builtin, Builtin.append_, run_underlying i2, run_underlying j2, run_sizeOf' he1, hcx, hcy, Builtin.lenOf, typeInfo, he1, b3, Question.forced, Question.cut]
      rw [if_neg b1, if_neg b2, f1]
      simp only [Result.andThen_ok]
      rw [f2]
      simp [zeroValue, typeInfo, he1, hze, newRow, hq, arr]
    refine ⟨_, _, g', .inl hrun, hx', hr', ?_⟩
    refine rv_joined (cs := cs) (cx := cx) hes' hxs' hcut (by rw [hl']; omega) ?_ ?_ (fun i v hv => (hrs i v hv).mono hx') (fun i v hv => (hrx i v hv).mono hx') hd' hb'
    · intro q hq
      show (w.drew.alloc _).cell? ⟨w.drew.heap.size, 0 + _, none⟩ = _
      rw [Nat.zero_add, World.cell?_alloc_new]
      simp only [arr, hsz]
      rw [Array.getElem?_append_left (by simp; omega), Array.getElem?_append_left (by simp; omega)]
      simp [hq]
    · intro q hq
      show (w.drew.alloc _).cell? ⟨w.drew.heap.size, 0 + _, none⟩ = _
      rw [Nat.zero_add, World.cell?_alloc_new]
      simp only [arr, hsz]
      rw [Array.getElem?_append_left (by simp; omega), Array.getElem?_append_right (by simp)]
      simp [hq]
  have hin : es.length + xs.length ≤ cap → ∀ w', (putNew a (es.length * ie.size) ((List.range (xs.length * ie.size)).map cx)).run P w = .ok () w' →
      (execOp ρc o).run P w = .ok (.value (.slice a (es.length + xs.length) cap)) w' := by
    intro hle w' hst
    have f2 := hF2' w (fun _ => rfl)
    simp [execOp, ho, resolve, invoke, builtin, Builtin.append_, run_underlying i2, run_underlying j2, run_sizeOf' he1, hcx, hcy, Builtin.lenOf, hle]
    rw [f2]
    cases a with
    | none => simp [putNew] at hst; simp [hst]
    | some a => simp only [putNew] at hst; simp [hst]
  have hnil : xs = [] → (putNew a (es.length * ie.size) ((List.range (xs.length * ie.size)).map cx)).run P w = .ok () w := by
    intro e; subst e
    cases a <;> simp [putNew, storeCells]
  have hsl := RV.sl (g := g) (w := w) a cap c es k cs hke hcaps hruns hrs hccs
  cases c with
  | any => simp at he
  | full =>
    simp only at he
    split at he
    case h_2 => simp at he
    rename_i hn
    cases he
    by_cases hx0 : xs = []
    · have hh := hin (by rw [hx0]; simpa using hcaps) w (hnil hx0)
      subst hx0
      have hc' : cap = es.length := hccs
      obtain ⟨g', hx', hr', hd', hb', hl'⟩ := adopt r hn a es.length i.esize
      refine ⟨_, _, g', .inl hh, hx', by simpa [happly] using hr', ?_⟩
      simp only [List.append_nil, List.length_nil, Nat.add_zero]
      exact .sl a cap _ es i.esize cs hes' hcaps (fun hne => by obtain ⟨b, off, h1, h2, h3⟩ := hruns' hne; exact ⟨b, off, h1, by rw [hl']; exact h2, h3⟩)
        (fun i v hv => (hrs i v hv).mono hx') ⟨hd', by rw [hb']; exact Nat.le_refl _, fun _ => by rw [hb', hc']⟩
    · have hc' : cap = es.length := hccs
      have : 0 < xs.length := List.length_pos_iff.2 hx0
      exact hgrow nid (.inl hn) (by omega)
  | own id =>
    simp only at he
    split at he
    case h_2 => simp at he
    rename_i n hn
    split at he
    case isFalse => simp at he
    rename_i hne
    cases he
    obtain ⟨hne, hke2⟩ := hne
    subst hne; subst hke2
    obtain ⟨t1, t2', t3, t4⟩ := r.tok id _ _ hn
    obtain ⟨c1, c2', c3⟩ := hccs
    have hbuf := c3 t1.symm
    rw [hbuf] at t4
    simp only at t4
    by_cases hx0 : xs = []
    · have hh := hin (by rw [hx0]; simpa using hcaps) w (hnil hx0)
      subst hx0
      refine ⟨_, _, g, .inl hh, Ext.refl g w, ?_, ?_⟩
      · simp only [happly, List.length_nil, Nat.add_zero]; rw [hset_id hn]; exact r
      · simpa using hsl
    · have hpos : 0 < xs.length := List.length_pos_iff.2 hx0
      by_cases hle : es.length + xs.length ≤ cap
      · have hcap2 : (g.buf id).cap = cap := by rw [hbuf]
        obtain ⟨b, off, vs, s1, s2, s3, s4, s5⟩ := t3 (by omega)
        rw [hbuf] at s1 s3 s4
        simp only at s1 s3 s4
        subst s1
        subst t4
        obtain ⟨ty, s2'⟩ := s2
        have hst := run_storeCells_at (P := P) b (off + es.length * i.esize) ty ((List.range (xs.length * i.esize)).map cx) 0 vs w s2'
          (by
            have : (es.length + xs.length) * i.esize ≤ cap * i.esize := Nat.mul_le_mul_right _ hle
            rw [hmul] at this; simp; omega) (by simpa using hone)
        simp only [Nat.add_zero, List.length_map, List.length_range] at hst
        generalize hnv : (vs.toList.take (off + es.length * i.esize) ++ (List.range (xs.length * i.esize)).map cx ++ vs.toList.drop (off + es.length * i.esize + xs.length * i.esize)).toArray = new at hst
        have hfit : off + es.length * i.esize + xs.length * i.esize ≤ vs.size := by
          have : (es.length + xs.length) * i.esize ≤ cap * i.esize := Nat.mul_le_mul_right _ hle
          rw [hmul] at this; omega
        have hnsz : new.size = vs.size := by rw [← hnv]; simp; omega
        have hsame : ∀ q, q < off + es.length * i.esize → new[q]? = vs[q]? := by
          intro q hq
          rw [← hnv, List.append_assoc]
          simp only [List.getElem?_toArray]
          rw [List.getElem?_append_left (by simp; omega), List.getElem?_take, if_pos hq]
          simp
        have hput : ∀ q, q < xs.length * i.esize → new[off + (es.length * i.esize + q)]? = some (cx q) := by
          intro q hq
          have el : (vs.toList.take (off + es.length * i.esize)).length = off + es.length * i.esize := by simp; omega
          rw [← hnv, List.append_assoc]
          simp only [List.getElem?_toArray]
          rw [List.getElem?_append_right (by omega), el, List.getElem?_append_left (by simp; omega)]
          rw [show off + (es.length * i.esize + q) - (off + es.length * i.esize) = q by omega]
          simp [hq]
        obtain ⟨g', hx', hr', hd', hb', hl'⟩ := advance r hn hpos hbuf hle ⟨ty, s2'⟩ s3 s4 s5 hnsz hsame
        refine ⟨_, _, g', .inl (hin hle _ ?_), hx', hr', ?_⟩
        · simp only [putNew, add_off, hsz]
          simpa using hst
        · refine rv_joined (cs := cs) (cx := cx) hes' hxs' hle (by rw [hl']; exact Nat.le_refl _) ?_ ?_ (fun i v hv => (hrs i v hv).mono hx') (fun i v hv => (hrx i v hv).mono hx') hd' hb'
          · intro q hq
            rw [cell_setRow_same w b _ vs new ty (0, 0) s2', hsame _ (by omega)]
            have hne : es ≠ [] := by intro e; subst e; simp at hq
            obtain ⟨b2, off2, e1, _, e3⟩ := hruns' hne
            cases e1
            have := e3 q hq
            simpa [World.cell?, s2'] using this
          · intro q hq
            rw [cell_setRow_same w b _ vs new ty (0, 0) s2']
            exact hput q hq
      · exact hgrow id (.inr ⟨_, _, hn, by omega⟩) (by omega)
end
theorem splice_eq : ∀ (new : List V) (off : Nat) (cs : List V), off + new.length ≤ cs.length → splice cs off new = cs.take off ++ new ++ cs.drop (off + new.length) := by
 intro new
 induction new with
 | nil => intro off cs _; simp [splice]
 | cons v new ih =>
  intro off cs hl
  simp only [List.length_cons] at hl
  rw [splice, ih (off + 1) (cs.set off v) (by simp; omega)]
  have e : cs.set off v = cs.take off ++ v :: cs.drop (off + 1) := by rw [List.set_eq_take_append_cons_drop, if_pos (by omega)]
  have el : (cs.take off).length = off := by simp; omega
  have t1 : (cs.take off ++ v :: cs.drop (off + 1)).take (off + 1) = cs.take off ++ [v] := by
   have := List.take_length_add_append (l₁ := cs.take off) (l₂ := v :: cs.drop (off + 1)) 1
   rw [el] at this; rw [this]; simp
  have t2 : (cs.take off ++ v :: cs.drop (off + 1)).drop (off + 1 + new.length) = cs.drop (off + (new.length + 1)) := by
   have := List.drop_length_add_append (l₁ := cs.take off) (l₂ := v :: cs.drop (off + 1)) (1 + new.length)
   rw [el] at this
   rw [show off + 1 + new.length = off + (1 + new.length) by omega, this, show 1 + new.length = new.length + 1 by omega]
   simp [Nat.add_assoc, Nat.add_comm 1]
  rw [e, t1, t2]
  simp
theorem flat_set {es : List (List V)} {k i : Nat} {cs : List V} (hk : ∀ e ∈ es, e.length = k) (hi : i < es.length) (hc : cs.length = k) :
    splice es.flatten (i * k) cs = (es.set i cs).flatten := by
  have hb : (i + 1) * k ≤ es.length * k := Nat.mul_le_mul_right _ (by omega)
  rw [Nat.add_mul, Nat.one_mul] at hb
  rw [splice_eq _ _ _ (by rw [flat_len es k hk, hc]; omega), List.set_eq_take_append_cons_drop, if_pos hi, List.flatten_append, List.flatten_cons,
    flat_take es k i hk, flat_drop es k (i + 1) hk, hc, Nat.add_mul, Nat.one_mul]
  simp

theorem rv_fillRows {g : G} {w : World} {k : Nat} : ∀ (cparts : List (Nat × Value)) (parts : List (Nat × V)) (vs : Array Value) (es out : List (List V)),
    parts.length = cparts.length → (∀ (i : Nat) (p : Nat × V) (q : Nat × Value), parts[i]? = some p → cparts[i]? = some q → p.1 = q.1 ∧ RV g w q.2 p.2) →
    (∀ e ∈ es, e.length = k) → RVL g w vs es.flatten → setRows k es parts = some out →
    ∃ ws, Instr.fill (fun i => some (i * k, k)) vs cparts = some ws ∧ RVL g w ws out.flatten ∧ (∀ e ∈ out, e.length = k) ∧ out.length = es.length := by
  intro cparts
  induction cparts with
  | nil =>
    intro parts vs es out hl _ hk h1 h2
    have : parts = [] := by simpa using hl
    subst this
    simp [setRows] at h2; subst h2
    exact ⟨vs, rfl, h1, hk, rfl⟩
  | cons q cparts ih =>
    intro parts vs es out hl hr hk h1 h2
    cases parts with
    | nil => simp at hl
    | cons p parts =>
      obtain ⟨i, v⟩ := p
      obtain ⟨i', c⟩ := q
      obtain ⟨e, hv⟩ := hr 0 _ _ rfl rfl
      simp at e hv; subst e
      simp only [setRows] at h2
      split at h2
      case h_2 => simp at h2
      rename_i cs hc
      split at h2
      case isFalse => simp at h2
      rename_i hlen
      have hcc := rv_cells hv hc
      have hsp := rvl_splice cs c.cells.toList (i * k) vs es.flatten h1 (by simpa using hcc)
      rw [flat_set hk hlen.2 hlen.1] at hsp
      have := ih parts _ _ out (by simpa using hl) (fun j p q hp hq => hr (j + 1) p q (by simpa using hp) (by simpa using hq))
        (by
          intro e he
          rcases List.mem_or_eq_of_mem_set he with h | h
          · exact hk e h
          · rw [h]; exact hlen.1) hsp h2
      obtain ⟨ws, hw, hws, hk', hl'⟩ := this
      refine ⟨ws, ?_, hws, hk', by simpa using hl'⟩
      have hfl := flat_len es k hk
      have hb : (i + 1) * k ≤ es.length * k := Nat.mul_le_mul_right _ (by omega)
      rw [Nat.add_mul, Nat.one_mul] at hb
      simp only [Instr.fill]
      rw [if_neg (by simp [hcc.1, h1.1, hlen.1]; have := hfl; simp at this; omega)]
      rw [← Array.foldl_toList, Array.toList_zipIdx]
      exact hw

section
variable {P : Program} {env : Nat → Option (List V)} {g : G} {w : World} {h : H} {ρc : Operand → Value} {ρ : Operand → V} (r : Rel env g w h) (hρ : ∀ x, RV g w (ρc x) (ρ x))
include r hρ
theorem h_buildSlice {o : Oper} {t : TypeId} {len : Nat} {parts : Array (Nat × Operand)} {nid : Id} {eff : Eff} (ho : o.op = .buildSlice t len parts)
  (he : primH P ρ h nid o.op = some eff) : Sim P env g w h (execOp ρc o) eff := by
 rw [ho] at he
 simp only [primH] at he
 split at he
 case h_2 => simp at he
 rename_i i hi
 split at he
 case isFalse => simp at he
 rename_i hk
 obtain ⟨hk1, hk3, hk4, hk5⟩ := hk
 cases hf : setRows i.esize (List.replicate len i.ezero) (parts.toList.map fun p => (p.1, ρ p.2)) with
 | none => simp [hf] at he
 | some out =>
  simp [hf] at he; subst he
  obtain ⟨inf, d, z, i1, i2, i0, is, ib, ia, iz, _, ik4, _, _, _, _, _, iez⟩ := tyi_inv hi
  obtain ⟨e, rfl, hes, heb, _⟩ := ik4 hk1
  obtain ⟨ie, de, he1, he2, he3⟩ := szOf_some (P := P) (t := e) (by rw [← hes]; exact hk3)
  have hez := (iez e (.inl rfl)).2 ie he1
  have hsz : ie.size = i.esize := by rw [he3, hes]
  obtain ⟨ze, hze, hez2, hzel⟩ : ∃ ze, ie.zero = some ze ∧ i.ezero = ze.cells.toList.map toV1 ∧ ze.cells.size = i.esize := by
   cases hz0 : ie.zero with
   | none => rw [hz0] at hez; rw [hez] at hk4; simp at hk4; exact absurd hk4.symm hk3
   | some ze => rw [hz0] at hez; exact ⟨ze, rfl, hez, by rw [hez] at hk4; simpa using hk4⟩
  have hrep : ∀ e ∈ List.replicate len i.ezero, e.length = i.esize := by
   intro e he; rw [List.mem_replicate] at he; rw [he.2]; exact hk4
  have hparts : ∀ (j : Nat) (p : Nat × V) (q : Nat × Value), (parts.toList.map fun p => (p.1, ρ p.2))[j]? = some p →
    (parts.map fun p => (p.1, ρc p.2)).toList[j]? = some q → p.1 = q.1 ∧ RV g w q.2 p.2 := by
   intro j p q hp hq
   simp only [List.getElem?_map, Array.toList_map] at hp hq
   cases hh : parts.toList[j]? with
   | none => simp [hh] at hp
   | some x =>
    simp [hh] at hp hq
    subst hp; subst hq
    exact ⟨rfl, hρ _⟩
  have hzero : ∀ zz : Array Value, (len * i.esize = 0 ∨ zz = ze.cells) → RVL g w ((Array.range (len * i.esize)).map (zz[· % zz.size]!)) (List.replicate len i.ezero).flatten := by
   intro zz hzz
   have hfl := flat_len (List.replicate len i.ezero) i.esize hrep
   simp only [List.length_replicate] at hfl
   refine RVL.mk (by rw [hfl]; simp) fun q v hv => ?_
   have hq : q < len * i.esize := by
    rw [← hfl]
    exact (List.getElem?_eq_some_iff.1 hv).1
   rcases hzz with h0 | rfl
   ·omega
   ·have hmod : q % i.esize < i.esize := Nat.mod_lt _ (Nat.pos_of_ne_zero hk3)
    refine ⟨ze.cells[q % i.esize]'(by rw [hzel]; exact hmod), ?_, ?_⟩
    ·simp [hq, hzel, hmod]
    ·have hdiv : q / i.esize < len := Nat.div_lt_of_lt_mul (by rw [Nat.mul_comm]; exact hq)
     have := flat_at (List.replicate len i.ezero) i.esize (q / i.esize) (q % i.esize) i.ezero (i.ezero[q % i.esize]'(by rw [hk4]; exact hmod)) hrep (by simp [hdiv]) (by simp [hk4, hmod])
     rw [Nat.mul_comm, Nat.div_add_mod] at this
     rw [this] at hv
     cases hv
     simp only [hez2, List.getElem_map, Array.getElem_toList]
     exact rv_toV1 g w _
  have main : ∀ zz : Array Value, (len * i.esize = 0 ∨ zz = ze.cells) → ∃ ws, Instr.fill (fun j => some (j * i.esize, i.esize)) ((Array.range (len * i.esize)).map (zz[· % zz.size]!)) (parts.map fun p => (p.1, ρc p.2)).toList = some ws ∧
    RVL g w ws out.flatten ∧ (∀ e ∈ out, e.length = i.esize) ∧ out.length = len := by
   intro zz hzz
   have := rv_fillRows (g := g) (w := w) (k := i.esize) (parts.map fun p => (p.1, ρc p.2)).toList (parts.toList.map fun p => (p.1, ρ p.2)) _ _ out (by simp) hparts hrep (hzero zz hzz) hf
   simpa using this
  obtain ⟨ws, hw1, hw2, hw3, hw4⟩ := main (if len * i.esize = 0 then #[] else ze.cells) (by split <;> simp_all)
  obtain ⟨g', hx', hr', hl'⟩ := new_row r ws e
  refine ⟨.slice (some ⟨w.heap.size, 0, none⟩) len len, w.alloc (.cells ws e), g', .inl ?_, hx', hr', ?_⟩
  ·have hb : ¬ (16777216 < len * i.esize) := by omega
   by_cases h0 : len * i.esize = 0
   ·rw [if_pos h0] at hw1
    simp [execOp, ho, Instr.buildSlice, run_underlying i2, run_sizeOf' he1, hsz, h0]
    simp [h0] at hw1
    rw [hw1]
    simp [newRow]
   ·rw [if_neg h0] at hw1
    simp at hw1
    simp [execOp, ho, Instr.buildSlice, run_underlying i2, run_sizeOf' he1, hsz, hb, zeroValue, typeInfo, he1, hze]
    rw [if_neg h0, hw1]
    simp [newRow]
  ·rw [← hw4]
   have hsz' := hw2.1
   rw [flat_len out i.esize hw3] at hsz'
   refine .sl _ _ .full out i.esize (fun q => ws[q]?.getD undef) hw3 (Nat.le_refl _) (fun _ => ⟨w.heap.size, 0, rfl, by rw [hl', hsz']; omega, fun q hq => ?_⟩) (fun q v hv => ?_) rfl
   ·rw [Nat.zero_add, World.cell?_alloc_new]
    rw [Array.getElem?_eq_getElem (by omega)]; simp
   ·obtain ⟨c, hc1, hc2⟩ := (hw2.mono hx').at hv
    simp only [hc1, Option.getD_some]; exact hc2
end
theorem primH_sound {P : Program} {env : Nat → Option (List V)} {g : G} {w : World} {h : H} {ρc : Operand → Value} {ρ : Operand → V} (r : Rel env g w h)
  (hρ : ∀ x, RV g w (ρc x) (ρ x)) {o : Oper} {nid : Id} {eff : Eff} (he : primH P ρ h nid o.op = some eff) : Sim P env g w h (execOp ρc o) eff := by
 cases ho : o.op with
 | alloc t => exact h_alloc r ho he
 | box t x => exact h_box r hρ ho he
 | buildSlice t n ps => exact h_buildSlice r hρ ho he
 | load t x => exact h_load r hρ ho he
 | store t x y => exact h_store r hρ ho he
 | call c =>
  obtain ⟨callee, args, ts⟩ := c
  cases callee with
  | builtin b =>
   cases b with
   | append => exact h_append r hρ ho rfl he
   | _ => rw [ho] at he; simp [primH] at he
  | _ => rw [ho] at he; simp [primH] at he
 | _ => rw [ho] at he; simp [primH] at he
def prim (P : Program) (ρ : Operand → V) (h : H) (nid : Id) (op : Op) : Option Eff :=
 match primV P ρ op with
 | some v => some ⟨v, [], []⟩
 | none => primH P ρ h nid op
theorem prim_sound {P : Program} {env : Nat → Option (List V)} {g : G} {w : World} {h : H} {ρc : Operand → Value} {ρ : Operand → V} (r : Rel env g w h)
  (hρ : ∀ x, RV g w (ρc x) (ρ x)) {o : Oper} {nid : Id} {eff : Eff} (he : prim P ρ h nid o.op = some eff) : Sim P env g w h (execOp ρc o) eff := by
 unfold prim at he
 split at he
 ·rename_i v hv
  cases he
  exact Sim.of_runs r (primV_sound hρ hv)
 ·exact primH_sound r hρ he
mutual
def weak : V → V
 | .undef => .undef
 | .bool b => .bool b
 | .int k n => .int k n
 | .str s => .str s
 | .agg cs => .agg (weakL cs)
 | .tup vs => .tup (weakL vs)
 | .sl _ es => .sl .any (weakLL es)
 | .ptr id off => .ptr id off
 | .slb id n => .slb id n
 | .slr id n _ => .slb id n
 | .el cs off => .el (weakL cs) off
 | .nilp => .nilp
 | .fn f a b => .fn f (weakL a) (weakL b)
 | .nilf => .nilf
 | .iface t v => .iface t (weak v)
 | .nili => .nili
def weakL : List V → List V
 | [] => []
 | v :: vs => weak v :: weakL vs
def weakLL : List (List V) → List (List V)
 | [] => []
 | v :: vs => weakL v :: weakLL vs
end
theorem weakL_eq : ∀ l : List V, weakL l = l.map weak
 | [] => by simp [weakL]
 | v :: vs => by simp [weakL, weakL_eq vs]
theorem weakLL_eq : ∀ l : List (List V), weakLL l = l.map weakL
 | [] => by simp [weakLL]
 | v :: vs => by simp [weakLL, weakLL_eq vs]
theorem weakL_length (l : List V) : (weakL l).length = l.length := by rw [weakL_eq]; simp
theorem weakL_get {l : List V} {i : Nat} {v : V} (h : (weakL l)[i]? = some v) : ∃ u, l[i]? = some u ∧ v = weak u := by
 rw [weakL_eq, List.getElem?_map] at h
 cases hh : l[i]? with
 | none => simp [hh] at h
 | some u => simp [hh] at h; exact ⟨u, rfl, h.symm⟩
theorem flat_weakLL (es : List (List V)) : (weakLL es).flatten = weakL es.flatten := by
 rw [weakLL_eq, weakL_eq, List.map_flatten]
 congr 1
 apply List.map_congr_left
 intro l _; rw [weakL_eq]
theorem RV.weak {g : G} {w : World} {c : Value} {v : V} (h : RV g w c v) : RV g w c (weak v) := by
 induction h with
 | undef c => exact .undef c
 | bool b => exact .bool b
 | int k n => exact .int k n
 | str s => exact .str s
 | agg vs cs h _ ih =>
  rw [GoAbs.weak]
  refine .agg vs _ (by rw [weakL_length]; exact h) fun i c v hc hv => ?_
  obtain ⟨u, hu, rfl⟩ := weakL_get hv
  exact ih i c u hc hu
 | tup vs cs h _ ih =>
  rw [GoAbs.weak]
  refine .tup vs _ (by rw [weakL_length]; exact h) fun i c v hc hv => ?_
  obtain ⟨u, hu, rfl⟩ := weakL_get hv
  exact ih i c u hc hu
 | sl a cap c es k cell hk hcap hrun _ hc ih =>
  rw [GoAbs.weak]
  have hl : (weakLL es).length = es.length := by rw [weakLL_eq]; simp
  rw [← hl]
  refine .sl a cap .any _ k cell ?_ (by rw [hl]; exact hcap) ?_ ?_ trivial
  ·intro e he
   rw [weakLL_eq] at he
   obtain ⟨e0, h0, rfl⟩ := List.mem_map.1 he
   rw [weakL_length]; exact hk e0 h0
  ·intro hne
   rw [hl]
   exact hrun (by intro e; subst e; exact hne rfl)
  ·intro i v hv
   rw [flat_weakLL] at hv
   obtain ⟨u, hu, rfl⟩ := weakL_get hv
   exact ih i u hu
 | ptr id off h => exact .ptr id off h
 | slb id n cap h h2 => exact .slb id n cap h h2
 | slr id n cap h h2 => exact .slb id n cap h h2
 | el b off cs o cell hl hrun _ ih =>
  rw [GoAbs.weak]
  refine .el b off _ o cell (by rw [weakL_length]; exact hl) (by rw [weakL_length]; exact hrun) fun i v hv => ?_
  obtain ⟨u, hu, rfl⟩ := weakL_get hv
  exact ih i u hu
 | nilp => exact .nilp
 | fn f fs cs fs' cs' h1 h2 _ _ ih1 ih2 =>
  rw [GoAbs.weak]
  refine .fn f fs cs _ _ (by rw [weakL_length]; exact h1) (by rw [weakL_length]; exact h2) (fun i c v hc hv => ?_) (fun i c v hc hv => ?_)
  ·obtain ⟨u, hu, rfl⟩ := weakL_get hv; exact ih1 i c u hc hu
  ·obtain ⟨u, hu, rfl⟩ := weakL_get hv; exact ih2 i c u hc hu
 | nilf => exact .nilf
 | iface t c v _ ih => exact .iface t c _ ih
 | nili => exact .nili
theorem RVL.weak {g : G} {w : World} {vs : Array Value} {cs : List V} (h : RVL g w vs cs) : RVL g w vs (weakL cs) :=
  ⟨by rw [weakL_length]; exact h.1, fun i c v hc hv => by
    obtain ⟨u, hu, rfl⟩ := weakL_get hv
    exact (h.2 i c u hc hu).weak⟩

def Callable (P : Program) (f : FuncId) : Prop := ∃ fn, P.funcs[f]? = some fn ∧ fn.body.isSome = true ∧ (fn.name == "runtime.NumGoroutine") = false
def Ret (P : Program) (env : Nat → Option (List V)) (f : FuncId) (args : List V) (h : H) (v : V) (h' : H) : Prop :=
 Callable P f ∧ ∀ g w (vs : Array Value), Rel env g w h → RVL g w vs args →
  Calls P f vs w fun e w' => ∃ c g', e = .returned c ∧ Ext g w g' w' ∧ Rel env g' w' h' ∧ RV g' w' c v
def Pure (P : Program) (env : Nat → Option (List V)) (f : FuncId) (args : List V) (v : V) : Prop := ∀ h, Ret P env f args h v h
def av (env : Nat → Option (List V)) (tm : Nat → V) : Operand → V
 | .tmp t => tm t
 | .const c => toV c
 | .global k => match env k with | some cs => .el cs 0 | none => .undef
 | .func f => .fn (.func f) [] []
def upd (tm : Nat → V) (d : Option Nat) (v : V) : Nat → V :=
 match d with
 | some d => fun t => if t = d then v else tm t
 | none => tm
def meth (P : Program) (t : TypeId) (name : String) : Option FuncId :=
  match P.info? t, P.underlying t with
  | some i, some d =>
    (match d with
    | .pointer _ => none
    | _ => (match i.methods.find? (·.name == name) with
      | some m => if m.path.size = 0 then (match m.func with | some (f, false) => some f | _ => none) else none
      | none => none))
  | _, _ => none

def Leads (P : Program) (ρ : Operand → V) (c : Call) (k : FuncId) (args : List V) : Prop :=
 (∃ x first captured, c.callee = .value x ∧ ρ x = .fn (.func k) first captured ∧ args = first ++ c.args.toList.map ρ ++ captured) ∨
 (∃ x name t v, c.callee = .invoke x name ∧ ρ x = .iface t v ∧ meth P t name = some k ∧ args = v :: c.args.toList.map ρ)
def CallEff (P : Program) (env : Nat → Option (List V)) (ρ : Operand → V) (h : H) (c : Call) (eff : Eff) : Prop :=
 ∃ k args, Leads P ρ c k args ∧ (∀ p ∈ eff.writes, p.1 ∈ eff.reads) ∧
  ∀ h2 : H, (∀ id ∈ eff.reads, h2 id = h id) → Ret P env k (weakL args) h2 eff.v (happly h2 eff.writes)
def Stp (P : Program) (env : Nat → Option (List V)) (ρ : Operand → V) (h : H) (nid : Id) (op : Op) (eff : Eff) : Prop :=
 prim P ρ h nid op = some eff ∨ ∃ c, op = .call c ∧ CallEff P env ρ h c eff
structure St where
 tm : Nat → V
 h : H
def St.put (σ : St) (d : Option Nat) (e : Eff) : St := ⟨upd σ.tm d e.v, happly σ.h e.writes⟩
structure RelSt (env : Nat → Option (List V)) (n : Nat) (g : G) (w : World) (a : Act) (σ : St) : Prop where
 rel : Rel env g w σ.h
 tm : ∀ t, RV g w (a.tmps.getD t undef) (σ.tm t)
 size : n ≤ a.tmps.size
 defers : a.defers = []
theorem rv_av {env : Nat → Option (List V)} {n : Nat} {g : G} {w : World} {a : Act} {σ : St} (r : RelSt env n g w a σ) (x : Operand) : RV g w (a.eval x) (av env σ.tm x) := by
 cases x with
 | tmp t => exact r.tm t
 | const c => exact rv_toV g w c
 | global k =>
  simp only [av]
  split
  ·rename_i cs h; exact r.rel.glob k cs h
  ·exact .undef _
 | func f => exact .fn _ _ _ _ _ rfl rfl (by simp) (by simp)
theorem RelSt.put {env : Nat → Option (List V)} {n : Nat} {g : G} {w : World} {a : Act} {σ : St} (r : RelSt env n g w a σ) {g' : G} {w' : World} (x : Ext g w g' w')
  {d : Option Nat} (hd : ∀ t, d = some t → t < n) {c : Value} {v : V} {h' : H} (hr : Rel env g' w' h') (hv : RV g' w' c v) : RelSt env n g' w' (a.put d c) ⟨upd σ.tm d v, h'⟩ := by
 cases d with
 | none => exact ⟨hr, fun t => (r.tm t).mono x, r.size, r.defers⟩
 | some d =>
  have hlt := hd d rfl
  have hs := r.size
  refine ⟨hr, fun t => ?_, by simpa [Act.put] using r.size, r.defers⟩
  simp only [Act.put, upd]
  by_cases e : t = d
  ·subst e
   simp only [if_true]
   have : (a.tmps.setIfInBounds t c).getD t undef = c := by
    simp [Array.getElem?_setIfInBounds]
    rw [if_pos (by omega)]; simp
   rw [this]; exact hv
  ·rw [if_neg e]
   have : (a.tmps.setIfInBounds d c).getD t undef = a.tmps.getD t undef := by
    simp [Array.getElem?_setIfInBounds_ne (Ne.symm e)]
   rw [this]; exact (r.tm t).mono x
theorem callEff_run {P : Program} {env : Nat → Option (List V)} {g : G} {w : World} {h : H} {ρc : Operand → Value} {ρ : Operand → V} (r : Rel env g w h) (hρ : ∀ x, RV g w (ρc x) (ρ x))
    {o : Oper} {c : Call} {eff : Eff} (hc : o.op = .call c) (hs : CallEff P env ρ h c eff) :
    ∃ k vs, (execOp ρc o).run P w = .ok (.enter k vs) w ∧ Calls P k vs w fun e w' => ∃ cv g', e = .returned cv ∧ Ext g w g' w' ∧ Rel env g' w' (happly h eff.writes) ∧ RV g' w' cv eff.v := by
  obtain ⟨k, args, hl, hsub, hret⟩ := hs
  obtain ⟨⟨fn, f1, f2, f3⟩, hret⟩ := hret h (fun _ _ => rfl)
  have f3' : ¬ (fn.name = "runtime.NumGoroutine") := by simpa using f3
  have f2' : fn.body ≠ none := by intro e; simp [e] at f2
  have app : ∀ {x1 x2 : Array Value} {y1 y2 : List V}, RVL g w x1 y1 → RVL g w x2 y2 → RVL g w (x1 ++ x2) (y1 ++ y2) := by
    intro x1 x2 y1 y2 h1 h2
    refine ⟨by simp [h1.1, h2.1], fun i c v hc hv => ?_⟩
    by_cases hi : i < y1.length
    · rw [Array.getElem?_append_left (by rw [h1.1]; exact hi)] at hc
      rw [List.getElem?_append_left hi] at hv
      exact h1.2 i c v hc hv
    · rw [Array.getElem?_append_right (by rw [h1.1]; omega), h1.1] at hc
      rw [List.getElem?_append_right (by omega)] at hv
      exact h2.2 _ c v hc hv
  have hB : RVL g w (c.args.map ρc) (c.args.toList.map ρ) := rvl_map (fun x => hρ x) c.args
  rcases hl with ⟨x, first, captured, hx, hf, rfl⟩ | ⟨x, name, t, v, hx, hf, hm, rfl⟩
  · have hfx := hρ x
    rw [hf] at hfx
    cases hcx : ρc x <;> rw [hcx] at hfx <;> cases hfx
    rename_i fs cs l1 r1 l2 r2
    have hA : RVL g w fs first := ⟨l1, by assumption⟩
    have hC : RVL g w cs captured := ⟨by assumption, by assumption⟩
    refine ⟨k, fs ++ c.args.map ρc ++ cs, ?_, hret g w _ r (app (app hA hB) hC).weak⟩
    simp [execOp, hc, resolve, hx, hcx, Deferred.ofValue, invoke, callFunc, f1, f3', f2']
  · have hfx := hρ x
    rw [hf] at hfx
    generalize hcx : ρc x = cx at hfx
    cases hfx with | iface _ u _ hr => ?_
    have hA : RVL g w #[u] [v] := ⟨rfl, fun i a b h1 h2 => by
      match i with
      | 0 => simp at h1 h2; subst h1; subst h2; exact hr
      | i + 1 => simp at h2⟩
    refine ⟨k, #[u] ++ c.args.map ρc, ?_, hret g w _ r (app hA hB).weak⟩
    unfold meth at hm
    split at hm
    case h_2 => cases hm
    rename_i inf d hi hd
    have hfind : ∃ m, inf.methods.find? (·.name == name) = some m ∧ m.path.size = 0 ∧ m.func = some (k, false) ∧ ∀ e, d ≠ .pointer e := by
      split at hm
      · cases hm
      · rename_i hnp
        split at hm
        case h_2 => cases hm
        rename_i m hmf
        split at hm
        case isFalse => cases hm
        rename_i hp
        split at hm
        case h_2 => cases hm
        rename_i f hfm
        cases hm
        exact ⟨m, hmf, hp, hfm, fun e he => hnp e he⟩
    obtain ⟨m, h1, h2, h3, h4⟩ := hfind
    have hpath : m.path.toList = [] := by
      have : m.path.toList.length = 0 := by simpa using h2
      exact List.length_eq_zero_iff.1 this
    have hrecv : ∀ wr : Option String, (receiverAt t (.val u) false wr).run P w = .ok u w := by
      intro wr
      unfold receiverAt
      simp only [Sem.run_bind, run_underlying hd, Result.andThen_ok]
      cases d <;> first | (exact absurd rfl (h4 _)) | simp [Place.get]
    have hmeth : ∀ fuel, (method (fuel + 1) t u name).run P w = .ok (k, u) w := by
      intro fuel
      simp [method, typeInfo, hi, h1, hpath, follow, h3, hrecv]
    have hfuel : ∃ q, P.types.size + Made.depth = q + 1 := ⟨P.types.size + (Made.depth - 1), by simp [Made.depth]⟩
    obtain ⟨q, hq⟩ := hfuel
    have e0 : (#[Value.iface t u] ++ Array.map ρc c.args)[0]? = some (Value.iface t u) := by rw [Array.getElem?_append_left (by simp)]; rfl
    have e1 : (Array.map ρc c.args).extract 0 c.args.size = Array.map ρc c.args := by
      have := Array.extract_size (xs := Array.map ρc c.args)
      simp
    simp [execOp, hc, resolve, hx, hcx, invoke, callMethod, e0, hq, hmeth, callFunc, f1, f3', f2', e1]

theorem stp_wp {P : Program} {env : Nat → Option (List V)} {n : Nat} {g : G} {w : World} {a : Act} {σ : St} {nid : Id} {o : Oper} {eff : Eff}
  (hs : Stp P env (av env σ.tm) σ.h nid o.op eff) (r : RelSt env n g w a σ) (hd : ∀ t, o.dst = some t → t < n) {next : Act → World → Prop} {Q : Exit → Act → World → Prop}
  (hn : ∀ g' a' w', Ext g w g' w' → RelSt env n g' w' a' (σ.put o.dst eff) → next a' w') : o.wp P a w next Q := by
 rcases hs with hs | ⟨c, hc, hs⟩
 ·obtain ⟨cv, w', g', hrun, hx, hr, hv⟩ := prim_sound r.rel (fun x => rv_av r x) hs
  have := hn g' (a.put o.dst cv) w' hx (r.put hx hd hr hv)
  rcases hrun with hrun | ⟨hrun, rfl⟩
  ·simpa only [Oper.wp, hrun, Oper.upon_value] using this
  ·simpa only [Oper.wp, hrun, Oper.upon_skip] using this
 ·obtain ⟨k, vs, hrun, hcall⟩ := callEff_run r.rel (fun x => rv_av r x) hc hs
  simp only [Oper.wp, hrun, Oper.upon_enter]
  refine hcall.mono ?_
  rintro e w' ⟨cv, g', rfl, hx', hr', hv'⟩
  exact hn g' _ w' hx' (r.put hx' hd hr' hv')
theorem map_pairs {ρ ρ' : Operand → V} (ps : Array (Nat × Operand)) (h : ∀ x ∈ ((ps.toList.map (·.2)).toArray), ρ x = ρ' x) :
  (ps.toList.map fun p => (p.1, ρ p.2)) = (ps.toList.map fun p => (p.1, ρ' p.2)) :=
 List.map_congr_left fun p hp => by rw [h p.2 (by simp; exact ⟨p.1, by simpa using hp⟩)]
theorem primV_congr {P : Program} {ρ ρ' : Operand → V} {op : Op} (h : ∀ x ∈ op.operands, ρ x = ρ' x) : primV P ρ op = primV P ρ' op := by
  cases op <;> simp only [primV] <;> simp only [Op.operands] at h
  case move x => rw [h x (by simp)]
  case assign x => rw [h x (by simp)]
  case pick c a b => rw [h a (by simp), h b (by simp), h c (by simp)]
  case build t ps => rw [map_pairs ps h]
  case nilCheck x => rw [h x (by simp)]
  case binOp op t x y yt => rw [h x (by simp), h y (by simp)]
  case unOp op t x => rw [h x (by simp)]
  case convert a b x => rw [h x (by simp)]
  case fieldAddr s x f => rw [h x (by simp)]
  case field s x f => rw [h x (by simp)]
  case indexAddr t x i => rw [h x (by simp), h i (by simp)]
  case index t x i => rw [h x (by simp), h i (by simp)]
  case extract x i => rw [h x (by simp)]
  case slice t x lo hi mx =>
    rw [h x (by simp)]
    have e1 : lo.map ρ = lo.map ρ' := by cases lo with | none => rfl | some z => simp [h z (by simp)]
    have e2 : hi.map ρ = hi.map ρ' := by cases hi with | none => rfl | some z => simp [h z (by simp)]
    have e3 : mx.map ρ = mx.map ρ' := by cases mx with | none => rfl | some z => simp [h z (by simp)]
    rw [e1, e2, e3]
  case makeFunc f a b =>
    have e1 : a.toList.map ρ = a.toList.map ρ' := List.map_congr_left fun x hx => h x (by simp at hx; simp [hx])
    have e2 : b.toList.map ρ = b.toList.map ρ' := List.map_congr_left fun x hx => h x (by simp at hx; simp [hx])
    rw [e1, e2]
  case makeInterface t x => rw [h x (by simp)]
  case typeAssert x t0 t ok => rw [h x (by simp)]
  case call c =>
    obtain ⟨callee, args, ts⟩ := c
    have e : args.toList.map ρ = args.toList.map ρ' := List.map_congr_left fun x hx => h x (by simp at hx; simp [Call.operands, hx])
    cases callee with
    | builtin b =>
      cases b <;> simp only [primV]
      case len =>
        split
        · rename_i x t ha ht
          rw [h x (by have : x ∈ args.toList := by rw [ha]; simp
                      simp at this; simp [Call.operands, this])]
        · rfl
      all_goals (first | rfl | rw [e])
    | _ => simp only [primV]

theorem primH_congr {P : Program} {ρ ρ' : Operand → V} {op : Op} {h h' : H} {nid : Id} {eff : Eff} (ho : ∀ x ∈ op.operands, ρ x = ρ' x)
  (he : primH P ρ h nid op = some eff) (hh : ∀ id ∈ eff.reads, h' id = h id) : primH P ρ' h' nid op = some eff := by
 cases op <;> simp only [primH] at he ⊢ <;> simp only [Op.operands] at ho
 case alloc t =>
  split at he
  case h_2 => simp at he
  rename_i i hi hn
  cases he
  have := hh nid (by simp)
  rw [hn] at this
  simp [hi, this]
 case box t x =>
  rw [ho x (by simp)] at he
  split at he
  ·rename_i hz; rw [if_pos hz]; exact he
  rename_i hz
  rw [if_neg hz]
  split at he
  case h_2 => simp at he
  rename_i cs hc hn
  cases he
  have := hh nid (by simp)
  rw [hn] at this
  simp [hc, this]
 case buildSlice t n ps => rw [map_pairs ps ho] at he; exact he
 case load t x =>
  rw [ho x (by simp)] at he
  split at he
  ·rename_i i id off hi hv
   split at he
   case h_2 => simp at he
   rename_i cs hb
   cases hp : partV i.agg i.size cs off with
   | none => simp [hp] at he
   | some v =>
    simp [hp] at he; subst he
    have := hh id (by simp)
    rw [hb] at this
    simp [hi, hv, this, hp]
  ·exact he
  ·simp at he
 case store t x y =>
  rw [ho x (by simp), ho y (by simp)] at he
  split at he
  case h_2 => simp at he
  rename_i i id off xs hi hv hcx
  split at he
  case h_2 => simp at he
  rename_i cs hb
  split at he
  case isFalse => simp at he
  rename_i hk
  cases he
  have := hh id (by simp)
  rw [hb] at this
  simp only [hi, hv, hcx, this]
  rw [if_pos hk]
 case call c =>
  obtain ⟨callee, args, ts⟩ := c
  have e : args.toList.map ρ = args.toList.map ρ' := List.map_congr_left fun x hx => ho x (by simp at hx; simp [Call.operands, hx])
  cases callee with
  | builtin b =>
   cases b <;> simp only [primH] at he ⊢
   case append =>
    rw [e] at he
    split at he
    case h_2 => simp at he
    rename_i c es c2 xs i j hargs hts
    split at he
    case isFalse => simp at he
    rename_i hk
    rw [if_pos hk]
    cases c with
    | any => simp at he
    | full =>
     simp only at he ⊢
     split at he
     case h_2 => simp at he
     rename_i hn
     cases he
     have := hh nid (by simp)
     rw [hn] at this
     simp [this]
    | own id =>
     simp only at he ⊢
     split at he
     case h_2 => simp at he
     rename_i n k hn
     split at he
     case isFalse => simp at he
     rename_i hne
     cases he
     have := hh id (by simp)
     rw [hn] at this
     simp [this, hne]
   all_goals cases he
  | _ => cases he
 all_goals cases he
theorem stp_congr {P : Program} {env : Nat → Option (List V)} {ρ ρ' : Operand → V} {op : Op} {h h' : H} {nid : Id} {eff : Eff} (ho : ∀ x ∈ op.operands, ρ x = ρ' x)
  (he : Stp P env ρ h nid op eff) (hh : ∀ id ∈ eff.reads, h' id = h id) : Stp P env ρ' h' nid op eff := by
 rcases he with he | ⟨c, rfl, k, args, hl, h3, h4⟩
 ·left
  unfold prim at he ⊢
  rw [← primV_congr ho]
  split at he
  ·exact he
  ·exact primH_congr ho he hh
 ·right
  have e : c.args.toList.map ρ = c.args.toList.map ρ' := List.map_congr_left fun x hx => ho x (by simp at hx; simp [Op.operands, Call.operands, hx])
  refine ⟨c, rfl, k, args, ?_, h3, fun h2' hh2 => h4 h2' fun id hid => (hh2 id hid).trans (hh id hid)⟩
  rcases hl with ⟨x, first, captured, h1, h2, h5⟩ | ⟨x, name, t, v, h1, h2, h5, h6⟩
  ·exact .inl ⟨x, first, captured, h1, by rw [← ho x (by simp [Op.operands, Call.operands, h1])]; exact h2, by rw [← e]; exact h5⟩
  ·exact .inr ⟨x, name, t, v, h1, by rw [← ho x (by simp [Op.operands, Call.operands, h1])]; exact h2, h5, by rw [← e]; exact h6⟩
theorem stp_writes {P : Program} {env : Nat → Option (List V)} {ρ : Operand → V} {op : Op} {h : H} {nid : Id} {eff : Eff} (he : Stp P env ρ h nid op eff) :
  ∀ p ∈ eff.writes, p.1 ∈ eff.reads := by
 rcases he with he | ⟨c, rfl, k, args, hl, h3, h4⟩
 ·unfold prim at he
  cases hp : primV P ρ op with
  | some v => rw [hp] at he; cases he; simp
  | none =>
   rw [hp] at he
   simp only at he
   clear hp
   cases op <;> simp only [primH] at he
   case call c =>
    obtain ⟨callee, args, ts⟩ := c
    cases callee with
    | builtin b =>
     cases b <;> simp only [primH] at he
     case append =>
      split at he
      case h_2 => simp at he
      split at he
      case isFalse => simp at he
      split at he
      ·split at he
       ·split at he
        ·cases he; simp
        ·simp at he
       ·simp at he
      ·split at he
       ·cases he; simp
       ·simp at he
      ·simp at he
     all_goals cases he
    | _ => cases he
   case buildSlice =>
    split at he
    ·split at he
     ·rename_i i _ _
      simp only [Option.map_eq_some_iff] at he
      obtain ⟨es, _, rfl⟩ := he
      simp
     ·simp at he
    ·simp at he
   case box =>
    split at he
    ·simp only [Option.map_eq_some_iff] at he
     obtain ⟨es, _, rfl⟩ := he
     simp
    ·split at he
     ·cases he; simp
     ·simp at he
   case load =>
    split at he
    ·split at he
     ·simp only [Option.map_eq_some_iff] at he
      obtain ⟨es, _, rfl⟩ := he
      simp
     ·simp at he
    ·simp only [Option.map_eq_some_iff] at he
     obtain ⟨es, _, rfl⟩ := he
     simp
    ·simp at he
   case store =>
    split at he
    ·split at he
     ·split at he
      ·cases he; simp
      ·simp at he
     ·simp at he
    ·simp at he
   all_goals (first | (cases he; done) | (split at he <;> first | (cases he; simp; done) | (simp at he; done)))
 ·exact h3
def gwant (ops : Array Oper) (o : Oper) (tm : Nat → V) : Option Bool :=
 match o.guard with
 | none => some true
 | some (j, want) =>
  match (ops[j]?).bind (·.dst) with
  | some t => (match tm t with | .bool b => some (b == want) | .tup [] => some false | _ => none)
  | none => none
theorem gwant_sound {env : Nat → Option (List V)} {n : Nat} {g : G} {w : World} {a : Act} {σ : St} (r : RelSt env n g w a σ) {ops : Array Oper} {o : Oper} {b : Bool}
  (h : gwant ops o σ.tm = some b) : Region.wanted o (yielded ops a.tmps) = b := by
 unfold gwant at h
 unfold Region.wanted
 cases hg : o.guard with
 | none => rw [hg] at h; simpa using h
 | some x =>
  obtain ⟨j, want⟩ := x
  rw [hg] at h
  simp only at h ⊢
  unfold yielded
  cases ht : (ops[j]?).bind (·.dst) with
  | none => rw [ht] at h; simp at h
  | some t =>
   rw [ht] at h
   simp only at h
   split at h
   ·rename_i b' hb
    have hr := r.tm t
    rw [hb] at hr
    have hget : a.tmps[t]? = some (.bool b') := by
     cases hh : a.tmps[t]? with
     | none =>
      have : a.tmps.getD t undef = undef := by simp [hh]
      rw [this] at hr; cases hr
     | some c =>
      have : a.tmps.getD t undef = c := by simp [hh]
      rw [this] at hr; cases hr; rfl
    simp only [Option.bind_some, hget]
    cases h
    cases b' <;> cases want <;> rfl
   ·rename_i hb
    have hr := r.tm t
    rw [hb] at hr
    cases h
    generalize hcc : a.tmps.getD t undef = cc at hr
    cases hr
    rename_i cs hs _
    cases hh : a.tmps[t]? with
    | none => simp [hh]
    | some c =>
     have : a.tmps.getD t undef = c := by simp [hh]
     rw [hcc] at this
     subst this
     simp [hh]
   ·simp at h
def CStep (P : Program) (env : Nat → Option (List V)) (ops : Array Oper) (gen reg : Nat) (x : Nat × Option Eff) (σ σ' : St) : Prop :=
 ∃ o, ops[x.1]? = some o ∧
  match x.2 with
  | some e => gwant ops o σ.tm = some true ∧ Stp P env (av env σ.tm) σ.h ⟨gen, reg, x.1⟩ o.op e ∧ σ' = σ.put o.dst e
  | none => gwant ops o σ.tm = some false ∧ σ' = ⟨upd σ.tm o.dst (.tup []), σ.h⟩
inductive Chain (P : Program) (env : Nat → Option (List V)) (ops : Array Oper) (gen reg : Nat) : List (Nat × Option Eff) → St → St → Prop where
 | nil (σ : St) : Chain P env ops gen reg [] σ σ
 | cons (x : Nat × Option Eff) (l : List (Nat × Option Eff)) (σ σ1 σ2 : St) (h : CStep P env ops gen reg x σ σ1) (t : Chain P env ops gen reg l σ1 σ2) : Chain P env ops gen reg (x :: l) σ σ2
def indepE : Option Eff → Option Eff → Prop
 | some a, some b => (∀ p ∈ a.writes, p.1 ∉ b.reads) ∧ (∀ p ∈ b.writes, p.1 ∉ a.reads)
 | _, _ => True
theorem happly_other : ∀ (ws : List (Id × Obj)) (h : H) (id : Id), (∀ p ∈ ws, p.1 ≠ id) → happly h ws id = h id
 | [], h, id, _ => rfl
 | (i, o) :: ws, h, id, hn => by
  rw [happly, happly_other ws _ id fun p hp => hn p (by simp [hp])]
  exact hset_other (fun e => hn (i, o) (by simp) e.symm)
theorem hset_comm {h : H} {i j : Id} {a b : Obj} (hn : i ≠ j) : hset (hset h i a) j b = hset (hset h j b) i a := by
 funext k
 simp only [hset]
 by_cases h1 : k = j
 ·subst h1; simp [Ne.symm hn]
 ·simp [h1]
theorem happly_hset : ∀ (ws : List (Id × Obj)) (h : H) (i : Id) (o : Obj), (∀ p ∈ ws, p.1 ≠ i) → happly (hset h i o) ws = hset (happly h ws) i o
 | [], h, i, o, _ => rfl
 | (j, x) :: ws, h, i, o, hn => by
  rw [happly, happly, hset_comm (Ne.symm (hn (j, x) (by simp))), happly_hset ws _ i o fun p hp => hn p (by simp [hp])]
theorem happly_comm : ∀ (a b : List (Id × Obj)) (h : H), (∀ p ∈ a, ∀ q ∈ b, p.1 ≠ q.1) → happly (happly h a) b = happly (happly h b) a
 | [], b, h, _ => rfl
 | (i, o) :: a, b, h, hn => by
  rw [happly, happly_comm a b _ (fun p hp q hq => hn p (by simp [hp]) q hq), happly_hset b h i o (fun q hq => Ne.symm (hn (i, o) (by simp) q hq)), happly]
theorem upd_comm {tm : Nat → V} {d e : Option Nat} {u v : V} (h : ∀ t, d = some t → e ≠ some t) : upd (upd tm d u) e v = upd (upd tm e v) d u := by
 cases d with
 | none => rfl
 | some d =>
  cases e with
  | none => rfl
  | some e =>
   have hne : d ≠ e := fun x => h d rfl (by rw [x])
   funext t
   simp only [upd]
   by_cases h1 : t = e
   ·subst h1; simp [Ne.symm hne]
   ·simp [h1]
theorem av_upd {env : Nat → Option (List V)} {tm : Nat → V} {d : Option Nat} {v : V} {x : Operand} (h : ∀ t, d = some t → x ≠ .tmp t) : av env (upd tm d v) x = av env tm x := by
 cases d with
 | none => rfl
 | some d =>
  cases x with
  | tmp t =>
   have : t ≠ d := fun e => h d rfl (by rw [e])
   simp [av, upd, this]
  | _ => rfl
theorem gwant_upd {ops : Array Oper} {o : Oper} {tm : Nat → V} {d : Option Nat} {v : V} (h : ∀ t, d = some t → t ∉ o.looksAt ops) : gwant ops o (upd tm d v) = gwant ops o tm := by
 unfold gwant
 cases hg : o.guard with
 | none => rfl
 | some x =>
  obtain ⟨j, want⟩ := x
  simp only
  cases ht : (ops[j]?).bind (·.dst) with
  | none => rfl
  | some t =>
   cases d with
   | none => rfl
   | some d =>
    have : t ≠ d := fun e => h d rfl (by subst e; simp [Oper.looksAt, hg, ht])
    simp [upd, this]
theorem looks_op {ops : Array Oper} {o : Oper} {t : Nat} (h : t ∉ o.looksAt ops) : ∀ x ∈ o.op.operands, x ≠ .tmp t := by
 intro x hx e
 subst e
 exact h (List.mem_append_left _ (List.mem_filterMap.2 ⟨.tmp t, by simpa using hx, rfl⟩))
section
variable {P : Program} {env : Nat → Option (List V)} {ops : Array Oper} {gen reg : Nat}
theorem swap {x y : Nat × Option Eff} {l : List (Nat × Option Eff)} {σ σe : St} {ox oy : Oper} (hox : ops[x.1]? = some ox) (hoy : ops[y.1]? = some oy)
  (hap : oy.apart ops ox = true) (hin : indepE y.2 x.2) (h : Chain P env ops gen reg (y :: x :: l) σ σe) : Chain P env ops gen reg (x :: y :: l) σ σe := by
 obtain ⟨a1, a2, a3⟩ := Oper.apart_spec hap
 cases h with
 | cons _ _ _ σ1 _ hy t =>
  cases t with
  | cons _ _ _ σ2 _ hx t =>
   obtain ⟨iy, ey⟩ := y
   obtain ⟨ix, ex⟩ := x
   obtain ⟨oy', hoy', hy⟩ := hy
   obtain ⟨ox', hox', hx⟩ := hx
   simp only at hox hoy hoy' hox' hy hx hin
   rw [hoy] at hoy'; cases hoy'
   rw [hox] at hox'; cases hox'
   cases ey with
   | none =>
    obtain ⟨gy, rfl⟩ := hy
    cases ex with
    | none =>
     obtain ⟨gx, rfl⟩ := hx
     refine .cons _ _ _ ⟨upd σ.tm ox.dst (.tup []), σ.h⟩ _ ⟨ox, hox, ?_, rfl⟩ (.cons _ _ _ _ _ ⟨oy, hoy, ?_, rfl⟩ ?_)
     ·rw [← gx]; exact (gwant_upd a1).symm
     ·rw [← gy]; exact gwant_upd a3
     ·simp only at t ⊢; rw [upd_comm (fun t h1 h2 => a2 t h2 h1)]; exact t
    | some ex =>
     obtain ⟨gx, sx, rfl⟩ := hx
     refine .cons _ _ _ (σ.put ox.dst ex) _ ⟨ox, hox, ?_, ?_, rfl⟩ (.cons _ _ _ _ _ ⟨oy, hoy, ?_, rfl⟩ ?_)
     ·rw [← gx]; exact (gwant_upd a1).symm
     ·exact stp_congr (fun x hx => av_upd (fun t ht => looks_op (a1 t ht) x hx)) sx (fun _ _ => rfl)
     ·rw [← gy]; exact gwant_upd a3
     ·simp only [St.put] at t ⊢; rw [upd_comm (fun t h1 h2 => a2 t h2 h1)]; exact t
   | some ey =>
    obtain ⟨gy, sy, rfl⟩ := hy
    cases ex with
    | none =>
     obtain ⟨gx, rfl⟩ := hx
     refine .cons _ _ _ ⟨upd σ.tm ox.dst (.tup []), σ.h⟩ _ ⟨ox, hox, ?_, rfl⟩ (.cons _ _ _ _ _ ⟨oy, hoy, ?_, ?_, rfl⟩ ?_)
     ·rw [← gx]; exact (gwant_upd a1).symm
     ·rw [← gy]; exact gwant_upd a3
     ·exact stp_congr (fun x hx => (av_upd (fun t ht => looks_op (a3 t ht) x hx)).symm) sy (fun _ _ => rfl)
     ·simp only [St.put] at t ⊢; rw [upd_comm (fun t h1 h2 => a2 t h2 h1)]; exact t
    | some ex =>
     obtain ⟨gx, sx, rfl⟩ := hx
     obtain ⟨i1, i2⟩ := hin
     have wx := stp_writes sx
     have wy := stp_writes sy
     refine .cons _ _ _ (σ.put ox.dst ex) _ ⟨ox, hox, ?_, ?_, rfl⟩ (.cons _ _ _ _ _ ⟨oy, hoy, ?_, ?_, rfl⟩ ?_)
     ·rw [← gx]; exact (gwant_upd a1).symm
     ·refine stp_congr (fun x hx => av_upd (fun t ht => looks_op (a1 t ht) x hx)) sx (fun id hid => ?_)
      exact (happly_other _ _ _ fun p hp e => i1 p hp (by rw [e]; exact hid)).symm
     ·rw [← gy]; exact gwant_upd a3
     ·refine stp_congr (fun x hx => (av_upd (fun t ht => looks_op (a3 t ht) x hx)).symm) sy (fun id hid => ?_)
      exact happly_other _ _ _ fun p hp e => i2 p hp (by rw [e]; exact hid)
     ·simp only [St.put] at t ⊢
      rw [upd_comm (fun t h1 h2 => a2 t h2 h1), happly_comm _ _ _ (fun p hp q hq e => i2 p hp (by rw [e]; exact wy q hq))]
      exact t
theorem pull {x : Nat × Option Eff} {ox : Oper} (hox : ops[x.1]? = some ox) : ∀ (pre post : List (Nat × Option Eff)) (σ σe : St),
  (∀ y ∈ pre, ∃ oy, ops[y.1]? = some oy ∧ oy.apart ops ox = true ∧ indepE y.2 x.2) →
  Chain P env ops gen reg (pre ++ x :: post) σ σe → Chain P env ops gen reg (x :: (pre ++ post)) σ σe
 | [], post, σ, σe, _, h => h
 | y :: pre, post, σ, σe, hy, h => by
  obtain ⟨oy, h1, h2, h3⟩ := hy y (by simp)
  cases h with
  | cons _ _ _ σ1 _ hs t =>
   have := pull hox pre post σ1 σe (fun z hz => hy z (by simp [hz])) t
   exact swap hox h1 h2 h3 (.cons _ _ _ _ _ hs this)
end
def befs (ops : List Oper) : List Nat :=
 ops.foldl (fun acc o => acc ++ [o.after.toList.foldl (fun s e => if Region.binds .any e then s ||| (1 <<< e.on) ||| acc.getD e.on 0 else s) 0]) []
def tabOk (ops : Array Oper) (tab : List Nat) : Bool :=
  (List.range ops.size).all fun j => (List.range ops.size).all fun i => !(tab.getD j 0).testBit i ||
    (match ops[j]? with
    | some o => o.after.any fun e => Region.binds .any e && decide (e.on < j) && (e.on == i || (tab.getD e.on 0).testBit i)
    | none => false)

def ordB (ops : Array Oper) (i j : Nat) : Bool := ((befs ops.toList).getD j 0).testBit i
def drawOk (ops : Array Oper) : Bool :=
  let tab := befs ops.toList
  tabOk ops tab &&
  ((List.range ops.size).all fun j => match ops[j]? with
    | some o => (o.after.all fun e => !Region.binds .any e || decide (e.on < j)) &&
      ((List.range j).all fun i => (tab.getD j 0).testBit i || (match ops[i]? with | some p => p.apart ops o | none => false))
    | none => false)


def dstOk (n : Nat) (ops : Array Oper) : Bool := ops.all fun o => match o.dst with | some t => decide (t < n) | none => true
theorem dstOk_at {n : Nat} {ops : Array Oper} (h : dstOk n ops = true) {i : Nat} {o : Oper} (ho : ops[i]? = some o) : ∀ t, o.dst = some t → t < n := by
 intro t ht
 obtain ⟨hi, e⟩ := Array.getElem?_eq_some_iff.1 ho
 unfold dstOk at h
 rw [Array.all_eq_true] at h
 have := h i hi
 rw [e, ht] at this
 simpa using this
section
variable {P : Program} {env : Nat → Option (List V)} {ops : Array Oper} {gen reg n : Nat} (hn : dstOk n ops = true)
include hn
theorem cstep_wp {x : Nat × Option Eff} {σ σ' : St} (h : CStep P env ops gen reg x σ σ') {g : G} {w : World} {a : Act} (r : RelSt env n g w a σ)
  {K : Act → World → Prop} {Q : Exit → Act → World → Prop} (hk : ∀ g' a' w', Ext g w g' w' → RelSt env n g' w' a' σ' → K a' w') : wpOp P ops Q x.1 K a w := by
 obtain ⟨o, ho, h⟩ := h
 unfold wpOp
 rw [ho]
 simp only
 cases hx : x.2 with
 | some e =>
  rw [hx] at h
  obtain ⟨hg, hs, rfl⟩ := h
  rw [gwant_sound r hg]
  simp only [if_true]
  exact .inl (stp_wp hs r (dstOk_at hn ho) hk)
 | none =>
  rw [hx] at h
  obtain ⟨hg, rfl⟩ := h
  rw [gwant_sound r hg]
  simp only [Bool.false_eq_true, if_false]
  exact hk g _ w (Ext.refl g w) (r.put (Ext.refl g w) (dstOk_at hn ho) r.rel (.tup _ _ rfl (by simp)))
theorem chain_ops : ∀ (l : List (Nat × Option Eff)) {σ σe : St} (h : Chain P env ops gen reg l σ σe) {g : G} {w : World} {a : Act} (r : RelSt env n g w a σ)
  {Q : Exit → Act → World → Prop} (hk : ∀ g' a' w', Ext g w g' w' → RelSt env n g' w' a' σe → Q .normal a' w'), wpOps P ops Q (l.map (·.1)) a w
 | [], _, _, .nil _, g, w, a, r, Q, hk => hk g a w (Ext.refl g w) r
 | x :: l, _, _, .cons _ _ _ σ1 _ hs t, g, w, a, r, Q, hk => by
  rw [List.map_cons, wpOps_cons]
  exact cstep_wp hn hs r fun g' a' w' hx r' => chain_ops l t r' fun g2 a2 w2 hx2 r2 => hk g2 a2 w2 (hx.trans hx2) r2
end
theorem ord_listed {ops : Array Oper} {tab : List Nat} (ht : tabOk ops tab = true) {listed : Array Bool}
  (hc : ∀ j o, ops[j]? = some o → listed.getD j false = true → ∀ e ∈ o.after, Region.binds .any e = true → listed.getD e.on false = true) :
  ∀ (j : Nat) (o : Oper), ops[j]? = some o → (∀ e ∈ o.after, Region.binds .any e = true → listed.getD e.on false = true) →
   ∀ i, i < ops.size → (tab.getD j 0).testBit i = true → listed.getD i false = true := by
 intro j
 induction j using Nat.strongRecOn with
 | _ j ih =>
  intro o ho hd i hi hb
  have hj : j < ops.size := (Array.getElem?_eq_some_iff.1 ho).1
  unfold tabOk at ht
  rw [List.all_eq_true] at ht
  have h1 := ht j (by simpa using hj)
  rw [List.all_eq_true] at h1
  have h2 := h1 i (by simpa using hi)
  rw [hb, ho] at h2
  simp only [Bool.not_true, Bool.false_or] at h2
  rw [Array.any_eq_true] at h2
  obtain ⟨q, hq, h3⟩ := h2
  simp only [Bool.and_eq_true, Bool.or_eq_true, decide_eq_true_eq, beq_iff_eq] at h3
  obtain ⟨⟨h4, h5⟩, h6⟩ := h3
  have hm : o.after[q] ∈ o.after := Array.getElem_mem hq
  have hl := hd _ hm h4
  rcases h6 with h6 | h6
  ·rw [← h6]; exact hl
  ·have hlt : (o.after[q]).on < ops.size := by omega
   exact ih _ h5 ops[(o.after[q]).on] (Array.getElem?_eq_getElem hlt) (hc _ _ (Array.getElem?_eq_getElem hlt) hl) i hi h6
theorem drawOk_spec {ops : Array Oper} (h : drawOk ops = true) :
  tabOk ops (befs ops.toList) = true ∧ ∀ j o, ops[j]? = some o → (∀ e ∈ o.after, Region.binds .any e = true → e.on < j) ∧
   ∀ i p, i < j → ops[i]? = some p → ordB ops i j = true ∨ p.apart ops o = true := by
 unfold drawOk at h
 simp only [Bool.and_eq_true] at h
 obtain ⟨h1, h2⟩ := h
 refine ⟨h1, fun j o ho => ?_⟩
 have hj : j < ops.size := (Array.getElem?_eq_some_iff.1 ho).1
 rw [List.all_eq_true] at h2
 have h3 := h2 j (by simpa using hj)
 rw [ho] at h3
 simp only [Bool.and_eq_true] at h3
 obtain ⟨h4, h5⟩ := h3
 refine ⟨fun e he hb => ?_, fun i p hi hp => ?_⟩
 ·rw [Array.all_eq_true_iff_forall_mem] at h4
  have := h4 e he
  rw [hb] at this
  simpa using this
 ·rw [List.all_eq_true] at h5
  have := h5 i (by simpa using hi)
  rw [hp] at this
  simpa [ordB] using this
def PairOk (ops : Array Oper) (x y : Nat × Option Eff) : Prop := ordB ops x.1 y.1 = true ∨ indepE x.2 y.2
section
variable {P : Program} {env : Nat → Option (List V)} {ops : Array Oper} {gen reg n : Nat} (hn : dstOk n ops = true) (hok : drawOk ops = true)
include hn hok
theorem chain_any {Q : Exit → Act → World → Prop} {σe : St} {g0 : G} {w0 : World} (hk : ∀ g' a' w', Ext g0 w0 g' w' → RelSt env n g' w' a' σe → Q .normal a' w') :
    ∀ (fuel : Nat) (l : List (Nat × Option Eff)) (listed : Array Bool) (σ : St) (g : G) (w : World) (a : Act), l.length ≤ fuel → listed.size = ops.size →
      (∀ i, (∃ x ∈ l, x.1 = i) ↔ (i < ops.size ∧ listed.getD i true = false)) → l.Pairwise (fun x y => x.1 < y.1) → l.Pairwise (PairOk ops) →
      (∀ j o, ops[j]? = some o → listed.getD j false = true → ∀ e ∈ o.after, Region.binds .any e = true → listed.getD e.on false = true) →
      Chain P env ops gen reg l σ σe → Ext g0 w0 g w → RelSt env n g w a σ → wpAny P .any ops Q fuel listed a w := by
  obtain ⟨ht, hsp⟩ := drawOk_spec hok
  have hready : ∀ (l : List (Nat × Option Eff)) (listed : Array Bool), listed.size = ops.size → (∀ i, (∃ x ∈ l, x.1 = i) ↔ (i < ops.size ∧ listed.getD i true = false)) →
      l.Pairwise (fun x y => x.1 < y.1) → l ≠ [] → Region.ready .any ops listed ≠ [] := by
    intro l listed hsz hm hp hne
    cases l with
    | nil => exact absurd rfl hne
    | cons x l =>
      have hx := (hm x.1).1 ⟨x, by simp, rfl⟩
      have : x.1 ∈ Region.ready .any ops listed := by
        rw [mem_ready]
        refine ⟨hx.2, ops[x.1]'hx.1, Array.getElem?_eq_getElem hx.1, fun e he hb => ?_⟩
        have hlt := (hsp x.1 _ (Array.getElem?_eq_getElem hx.1)).1 e he hb
        cases hq : listed.getD e.on false with
        | true => rfl
        | false =>
          have hsz' : e.on < listed.size := by omega
          have : listed.getD e.on true = false := by
            simp [hsz'] at hq ⊢; exact hq
          obtain ⟨y, hy, e1⟩ := (hm e.on).2 ⟨by omega, this⟩
          rcases List.mem_cons.1 hy with rfl | hy
          · omega
          · have := (List.pairwise_cons.1 hp).1 y hy; omega
      intro e; rw [e] at this; simp at this
  intro fuel
  induction fuel with
  | zero =>
    intro l listed σ g w a hl hsz hm hp hpo hc hch hx r
    have : l = [] := List.eq_nil_of_length_eq_zero (by omega)
    subst this
    cases hch
    refine ⟨?_, hk g a w hx r⟩
    apply List.eq_nil_iff_forall_not_mem.2
    intro i hi
    rw [mem_ready] at hi
    obtain ⟨h1, o, ho, _⟩ := hi
    obtain ⟨x, hx', _⟩ := (hm i).2 ⟨(Array.getElem?_eq_some_iff.1 ho).1, h1⟩
    simp at hx'
  | succ fuel ih =>
    intro l listed σ g w a hl hsz hm hp hpo hc hch hx r
    refine ⟨fun hr => ?_, fun i hi => ?_⟩
    · by_cases hne : l = []
      · subst hne; cases hch; exact hk g a w hx r
      · exact absurd hr (hready l listed hsz hm hp hne)
    · have hi' := mem_ready.1 hi
      obtain ⟨h1, o, ho, hd⟩ := hi'
      have hisz : i < ops.size := (Array.getElem?_eq_some_iff.1 ho).1
      obtain ⟨x, hxl, rfl⟩ := (hm i).2 ⟨hisz, h1⟩
      obtain ⟨pre, post, rfl⟩ := List.append_of_mem hxl
      have hpull := pull (P := P) (env := env) (gen := gen) (reg := reg) ho pre post σ σe (fun y hy => by
        have hy' := (hm y.1).1 ⟨y, by simp [hy], rfl⟩
        have hlt : y.1 < x.1 := (List.pairwise_append.1 hp).2.2 y hy x (by simp)
        have hpk : PairOk ops y x := (List.pairwise_append.1 hpo).2.2 y hy x (by simp)
        have hnord : ordB ops y.1 x.1 ≠ true := by
          intro hb
          have := ord_listed ht hc x.1 o ho hd y.1 hy'.1 hb
          have h2 := hy'.2
          have hsz' : y.1 < listed.size := by rw [hsz]; exact hy'.1
          simp [hsz'] at this h2
          rw [this] at h2; exact Bool.noConfusion h2
        refine ⟨ops[y.1]'hy'.1, Array.getElem?_eq_getElem hy'.1, ?_, ?_⟩
        · exact ((hsp x.1 o ho).2 y.1 _ hlt (Array.getElem?_eq_getElem hy'.1)).resolve_left hnord
        · exact hpk.resolve_left hnord) hch
      cases hpull with
      | cons _ _ _ σ1 _ hs t =>
        refine cstep_wp hn hs r fun g' a' w' hx' r' => ?_
        have hsub : (pre ++ post).Sublist (pre ++ x :: post) := List.Sublist.append_left (List.sublist_cons_self x post) pre
        refine ih (pre ++ post) (listed.setIfInBounds x.1 true) σ1 g' w' a' (by simp at hl ⊢; omega) (by simpa using hsz) ?_ (hp.sublist hsub) (hpo.sublist hsub) ?_ t (hx.trans hx') r'
        · intro i
          constructor
          · rintro ⟨y, hy, rfl⟩
            have hy2 := (hm y.1).1 ⟨y, hsub.subset hy, rfl⟩
            have hne : x.1 ≠ y.1 := by
              rcases List.mem_append.1 hy with hy | hy
              · have := (List.pairwise_append.1 hp).2.2 y hy x (by simp); omega
              · have := (List.pairwise_cons.1 (List.pairwise_append.1 hp).2.1).1 y hy; omega
            exact ⟨hy2.1, by rw [getD_set_ne true hne]; exact hy2.2⟩
          · rintro ⟨hi1, hi2⟩
            have hne : x.1 ≠ i := by
              intro e; subst e
              have : x.1 < listed.size := by rw [hsz]; exact hisz
              simp [this] at hi2
            rw [getD_set_ne true hne] at hi2
            obtain ⟨y, hy, rfl⟩ := (hm i).2 ⟨hi1, hi2⟩
            rcases List.mem_append.1 hy with hy | hy
            · exact ⟨y, by simp [hy], rfl⟩
            · rcases List.mem_cons.1 hy with rfl | hy
              · exact absurd rfl hne
              · exact ⟨y, by simp [hy], rfl⟩
        · intro j o' ho' hj e he hb
          by_cases hjx : x.1 = j
          · subst hjx
            rw [ho] at ho'; cases ho'
            exact getD_set_true (hd e he hb)
          · rw [getD_set_ne false hjx] at hj
            exact getD_set_true (hc j o' ho' hj e he hb)

theorem chain_region_draw {l : List (Nat × Option Eff)} {σ σe : St} (hm : P.follows .mixedOrders = true) (hl : l.map (·.1) = List.range ops.size) (hpo : l.Pairwise (PairOk ops))
  (hch : Chain P env ops gen reg l σ σe) {g : G} {w : World} {a : Act} (r : RelSt env n g w a σ) {Q : Exit → Act → World → Prop}
  (hk : ∀ g' a' w', Ext g w g' w' → RelSt env n g' w' a' σe → Q .normal a' w') {id : Nat} : (Code.region id ops true).wp P Q a w := by
 have hx : Ext g w g { w with drawn := w.drawn + 1 } :=
  ⟨rfl, rfl, rfl, Nat.le_refl _, fun _ => Nat.le_refl _, fun _ _ _ => rfl, fun _ _ h => ⟨rfl, h⟩, fun _ h => ⟨h, rfl, .inl rfl⟩, Nat.le_refl _⟩
 have hrel : Rel env g { w with drawn := w.drawn + 1 } σ.h := by
  have q := r.rel
  refine ⟨q.dom, q.top, fun id cs e => ?_, q.inj, fun id n k e => ?_, q.apart, q.apart2, q.limnew, fun k cs e => (q.glob k cs e).mono hx⟩
  ·obtain ⟨vs, h1, h2, h3, h4, h5⟩ := q.box id cs e
   exact ⟨vs, h1, h2, fun i c v x y => (h3 i c v x y).mono hx, h4, h5⟩
  ·obtain ⟨h1, h2, h3, h4⟩ := q.tok id n k e
   exact ⟨h1, h2, h3, h4⟩
 refine wp_region_any hm (chain_any hn hok (g0 := g) (w0 := w) hk ops.size l _ σ g _ a ?_ (by simp) ?_ ?_ hpo ?_ hch hx ⟨hrel, fun t => (r.tm t).mono hx, r.size, r.defers⟩)
 ·have := congrArg List.length hl; simp at this; omega
 ·intro i
  have : (∃ x ∈ l, x.1 = i) ↔ i ∈ l.map (·.1) := by simp
  rw [this, hl, List.mem_range]
  constructor
  ·intro h; exact ⟨h, by simp [h]⟩
  ·exact fun h => h.1
 ·have : (l.map (·.1)).Pairwise (· < ·) := by rw [hl]; exact List.pairwise_lt_range
  rw [List.pairwise_map] at this
  exact this
 ·intro j o ho hj
  have hjl : j < ops.size := (Array.getElem?_eq_some_iff.1 ho).1
  simp [hjl] at hj
end
end GoAbs
