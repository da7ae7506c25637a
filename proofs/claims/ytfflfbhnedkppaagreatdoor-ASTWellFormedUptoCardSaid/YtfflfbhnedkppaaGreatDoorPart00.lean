/- Part 0 of a proof that the law holds of every input of the given bulk. -/
import Derived.Control
import Derived.Below
import Derived.Laws.AppendOwn
import Derived.Calls
import Derived.Laws.Tables
import Derived.Great.BuildSlice
import Derived.Laws.AppendOwnNone
import Derived.WalkArith
import Derived.Laws.Strings
import Derived.Laws.Concat
import Derived.Laws.StructEq
import Derived.Maps.AppendAt
import Derived.MapKept
import Derived.OrdersIn
import Derived.RangeFuncRecord
import Derived.Orders
import Derived.Deep.LoopGhost
set_option autoImplicit false
set_option linter.unusedSimpArgs false
set_option linter.unusedVariables false
set_option linter.unusedSectionVars false
namespace Go.Proofs.Am
/-- Data of one cell. -/
inductive C where
  | int (k : IntKind) (n : Int)
  | bool (b : Bool)
  | str (s : List UInt8)
  | sl (sz : Nat) (rows : List (List C))
  | fn (f : FuncId)
  | nilp
  | nilm
  | map (k : IntKind) (es : List (List UInt8 × Int))
  | dead
  | val (v : Value)
  | clo (f : FuncId) (caps : List C)
/-- The state of an object: what it says of the world, where it may read (the first argument) and which blocks are its own (the last). -/
abbrev OP : Type := (Nat → Prop) → World → (Nat → Prop) → Prop
/-- A cell of a variable: data, or a slice that the call itself has made and may still append to. -/
inductive Cell where
  | c (x : C)
  | own (k j : Nat) (e : TypeId) (sz : Nat) (rows : List (List C))
  | omap (k : Nat) (kd : IntKind) (es : List (List UInt8 × Int))
  | objst (p : OP)
/-- What goes into a call and comes out of it. -/
inductive A where
  | c (x : C)
  | agg (cs : List C)
  | ref (cs : List C)
/-- What a slot of the frame holds. -/
inductive V where
  | cell (x : Cell)
  | agg (cs : List Cell)
  | tup (vs : List A)
  | ptr (site off : Nat)
  | ref (cs : List C)
  | clo (f : FuncId) (caps : List (Nat × Nat))
  | undef
  | skp
  | at (k b : Nat)
inductive Z where
  | int (k : IntKind)
  | bool
  | str
  | sl (e : TypeId) (sz : Nat)
  | nilp
  | nilm
  | nilf
inductive TK where
  | int (k : IntKind)
  | bool
  | str
  | slice (e : TypeId)
  | map (k e : TypeId)
  | struct (offs : List (Nat × Nat))
  | array (n : Nat) (e : TypeId)
  | ptr (e : TypeId)
  | other
structure Ty where
  k : TK
  size : Nat
  bytes : Nat
  zero : List Z
structure Ctx where
  ty : TypeId → Option Ty
  glob : Nat → Option (List C)
  nglob : Nat
  marks : Bool := false
  /-- Struct types that may be compared, cell by cell. -/
  flat : TypeId → Bool := fun _ => false
structure S where
  env : List (Nat × V)
  box : List (Nat × List Cell)
def amLook {α : Type} (k : Nat) : List (Nat × α) → Option α
  | [] => none
  | (j, x) :: r => if k = j then some x else amLook k r
def S.get (s : S) (t : Nat) : V := (amLook t s.env).getD .undef
def S.set (s : S) (t : Nat) (v : V) : S := { s with env := (t, v) :: s.env }
def S.put (s : S) (d : Option Nat) (v : V) : S := match d with | some t => s.set t v | none => s
def Cell.site? : Cell → Nat → Bool
  | .c _, _ => false
  | .own t _ _ _ _, k => t == k
  | .omap t _ _, k => t == k
  | .objst _, k => 1000000 == k
def Cell.tag? : Cell → Nat → Nat → Bool
  | .c _, _, _ => false
  | .own t i _ _ _, k, j => t == k && i == j
  | .omap t _ _, k, j => t == k && 0 == j
  | .objst _, k, _ => 1000000 == k
def V.site? : V → Nat → Bool
  | .cell x, k => x.site? k
  | .agg cs, k => cs.any (·.site? k)
  | .ptr s _, k => s == k
  | .clo _ caps, k => caps.any (·.1 == k)
  | .at s _, k => s == k
  | _, _ => false
def V.tag? : V → Nat → Nat → Bool
  | .cell x, k, j => x.tag? k j
  | .agg cs, k, j => cs.any (·.tag? k j)
  | _, _, _ => false
def S.fresh (s : S) (k : Nat) : Bool := s.env.all (fun p => !p.2.site? k) && s.box.all (fun p => !(p.1 == k) && p.2.all (fun x => !x.site? k))
def V.kill (k j : Nat) (v : V) : V := if v.tag? k j then .undef else v
def S.kill (s : S) (k j : Nat) : S := { env := s.env.map fun p => (p.1, p.2.kill k j), box := s.box.map fun p => (p.1, p.2.map fun x => if x.tag? k j then .c .dead else x) }
def Cell.freeze (k : Nat) : Cell → Cell
  | .c x => .c x
  | .own t j e z r => if t = k then .c (.sl z r) else .own t j e z r
  | .omap t kd es => if t = k then .c (.map kd es) else .omap t kd es
  | .objst p => if 1000000 = k then .c .dead else .objst p
def V.freeze (k : Nat) : V → V
  | .cell x => .cell (x.freeze k)
  | .agg cs => .agg (cs.map (·.freeze k))
  | v => v
def S.freeze (s : S) (k : Nat) : S := { env := s.env.map fun p => (p.1, p.2.freeze k), box := s.box.map fun p => (p.1, p.2.map (·.freeze k)) }
/-- A cell's data (an own slice's too: for reading alone). -/
def Cell.data : Cell → C
  | .c x => x
  | .own _ _ _ z r => .sl z r
  | .omap _ kd es => .map kd es
  | .objst _ => .dead
def Cell.pure? : Cell → Bool
  | .c _ => true
  | .own .. => false
  | .omap .. => false
  | .objst _ => false
def V.pure? : V → Bool
  | .cell x => x.pure?
  | .agg cs => cs.all (·.pure?)
  | _ => true
def V.arg : V → Option A
  | .cell x => some (.c x.data)
  | .agg cs => some (.agg (cs.map (·.data)))
  | .ref cs => some (.ref cs)
  | _ => none
def A.val : A → V
  | .c x => .cell (.c x)
  | .agg cs => .agg (cs.map .c)
  | .ref cs => .ref cs
def Z.cell (site j : Nat) : Z → Cell
  | .int k => .c (.int k 0)
  | .bool => .c (.bool false)
  | .str => .c (.str [])
  | .sl e z => .own site (j + 1) e z []
  | .nilp => .c .nilp
  | .nilm => .c .nilm
  | .nilf => .c (.val .nilFunc)
def zeros (site : Nat) : Nat → List Z → List Cell
  | _, [] => []
  | j, z :: r => z.cell site j :: zeros site (j + 1) r
def constV (_G : Ctx) : Value → V
  | .int k n => .cell (.c (.int k n))
  | .bool b => .cell (.c (.bool b))
  | .string s => if s.data.size ≤ 65536 then .cell (.c (.str s.data.toList)) else .undef
  | .slice none 0 0 => .cell (.c (.sl 0 []))
  | .pointer none => .cell (.c .nilp)
  | .map none => .cell (.c .nilm)
  | .nilFunc => .cell (.c (.val .nilFunc))
  | _ => .undef
def evalO (G : Ctx) (s : S) : Operand → V
  | .tmp k => s.get k
  | .const v => constV G v
  | .global g => match G.glob g with
    | some cs => .ref cs
    | none => .undef
  | .func f => .cell (.c (.fn f))
def V.cells : V → Option (List Cell)
  | .cell x => some [x]
  | .agg cs => some cs
  | _ => none
inductive Act' where
  | val (v : V)
  | new (v : V) (site : Nat) (cells : List Cell)
  | store (site off : Nat) (cells : List Cell)
  | app (k j : Nat) (v : V)
  | mput (k : Nat) (kd : IntKind) (es : List (List UInt8 × Int))
  | frz (ks : List Nat) (v : V)
  | nil (v : V)
structure Eff where
  obl : Prop
  fact : Prop
  key : Option Nat
  act : Act'
def Eff.ok (v : V) : Option Eff := some ⟨True, True, none, .val v⟩
def Eff.c (x : C) : Option Eff := Eff.ok (.cell (.c x))
def splice (cs : List Cell) (off : Nat) (nw : List Cell) : List Cell := cs.take off ++ nw ++ cs.drop (off + nw.length)
def pickV (t : Bool) (a b : V) : V :=
  match a, b with
  | .cell (.c (.bool x)), .cell (.c (.bool y)) => .cell (.c (.bool (cond t x y)))
  | _, _ => match t with
    | true => a
    | false => b
def intArith (k : IntKind) (z : Int) : Option Eff := match k with
  | .i64 => some ⟨-9223372036854775808 ≤ z ∧ z ≤ 9223372036854775807, True, none, .val (.cell (.c (.int .i64 z)))⟩
  | k => Eff.c (.int k (k.wrap z))
def intBin (op : BinOp) (k : IntKind) (a b : Int) : Option Eff :=
  match op with
  | .add => intArith k (a + b)
  | .sub => intArith k (a - b)
  | .mul => intArith k (a * b)
  | .quo => some ⟨b ≠ 0, True, none, .val (.cell (.c (.int k (k.wrap (a.tdiv b)))))⟩
  | .rem => some ⟨b ≠ 0, True, none, .val (.cell (.c (.int k (a.tmod b))))⟩
  | .eql => Eff.c (.bool (a == b))
  | .neq => Eff.c (.bool (a != b))
  | .lss => Eff.c (.bool (decide (a < b)))
  | .leq => Eff.c (.bool (decide (a ≤ b)))
  | .gtr => Eff.c (.bool (decide (a > b)))
  | .geq => Eff.c (.bool (decide (a ≥ b)))
  | _ => none
def strBin (op : BinOp) (a b : List UInt8) : Option Eff :=
  match op with
  | .add => some ⟨a.length + b.length ≤ 9223372036854775807, True, none, .val (.cell (.c (.str (a ++ b))))⟩
  | .eql => Eff.c (.bool (a == b))
  | .neq => Eff.c (.bool (!(a == b)))
  | _ => none
def boolBin (op : BinOp) (a b : Bool) : Option Eff :=
  match op with
  | .eql => Eff.c (.bool (a == b))
  | .neq => Eff.c (.bool (!(a == b)))
  | _ => none
def rowsOf : V → Option (List (List C))
  | .cell (.c (.sl _ r)) => some r
  | .cell (.own _ _ _ _ r) => some r
  | _ => none
def fillCells (offs : List (Nat × Nat)) (cs : List Cell) : List (Nat × Option (List Cell)) → Option (List Cell)
  | [] => some cs
  | (i, some x) :: r => match offs[i]? with
    | some p => if x.length = p.2 ∧ p.1 + x.length ≤ cs.length then fillCells offs (splice cs p.1 x) r else none
    | none => none
  | (_, none) :: _ => none
/-- The rows of a slice literal: the parts in their order, each a whole row of data. -/
def litRows (sz : Nat) : Nat → List (Nat × Option (List Cell)) → Option (List (List C))
  | _, [] => some []
  | n, (i, some x) :: r => if i = n ∧ x.length = sz then (litRows sz (n + 1) r).map (x.map (·.data) :: ·) else none
  | _, (_, none) :: _ => none
/-- The sites of the slices that lie in the cells. -/
def cellSites : List Cell → List Nat
  | [] => []
  | .c _ :: r => cellSites r
  | .own k _ _ _ _ :: r => k :: cellSites r
  | .omap k _ _ :: r => k :: cellSites r
  | .objst _ :: r => 1000000 :: cellSites r
def partSites : List (Nat × Option (List Cell)) → List Nat
  | [] => []
  | (_, some x) :: r => cellSites x ++ partSites r
  | (_, none) :: r => partSites r
def S.frz : List Nat → S → S
  | [], s => s
  | k :: r, s => S.frz r (s.freeze k)
def frzA : List Nat → V → Act'
  | [], v => .val v
  | k :: r, v => .frz (k :: r) v
def moveE : V → Option Eff
  | .undef => none
  | .at _ _ => none
  | v => Eff.ok v
def pickE (c a b : V) : Option Eff := match c with
  | .cell (.c (.bool t)) => Eff.ok (pickV t a b)
  | _ => none
def allocE (ty : Option Ty) (d : Nat) : Option Eff := match ty with
  | some t => some ⟨True, True, some d, .new (.ptr d 0) d (zeros d 0 t.zero)⟩
  | none => none
def boxE (v : V) (d : Nat) : Option Eff := match v.cells with
  | some cs => some ⟨True, True, some d, .new (.ptr d 0) d cs⟩
  | none => none
def buildE (ty : Option Ty) (d : Nat) (parts : List (Nat × Option (List Cell))) : Option Eff := match ty with
  | some ⟨.struct offs, _, _, z⟩ => match fillCells offs (zeros d 0 z) parts with
    | some cs => some ⟨True, True, some d, .val (.agg cs)⟩
    | none => none
  | _ => none
def nilE (e : TypeId) (ty : Option Ty) (d : Nat) : Option Eff := match ty with
  | some t => some ⟨True, True, some d, .nil (.cell (.own d 0 e t.size []))⟩
  | none => none
def buildSliceE (e : TypeId) (ty : Option Ty) (d len : Nat) (parts : List (Nat × Option (List Cell))) : Option Eff := match ty with
  | some ty => match litRows ty.size 0 parts with
    | some rows => some ⟨rows.length = len ∧ len * ty.size ≤ 16777216, True, some d, frzA (partSites parts) (.cell (.own d 0 e ty.size rows))⟩
    | none => none
  | none => none
def loadE (ty : Option Ty) (a : V) (bx : Nat → Option (List Cell)) : Option Eff := match ty, a with
  | some ⟨.struct _, n, _, _⟩, .ptr k off => match bx k with
    | some cs => some ⟨off + n ≤ cs.length, True, none, .val (.agg ((cs.drop off).take n))⟩
    | none => none
  | some ⟨.struct _, n, _, _⟩, .ref cs => some ⟨n ≤ cs.length, True, none, .val (.agg ((cs.take n).map .c))⟩
  | some ⟨.array _ _, _, _, _⟩, _ => none
  | some _, .ptr k off => match bx k with
    | some cs => match cs[off]? with
      | some x => Eff.ok (.cell x)
      | none => none
    | none => none
  | some _, .ref (x :: _) => Eff.ok (.cell (.c x))
  | _, _ => none
def storeE (ty : Option Ty) (a : V) (x : Option (List Cell)) (bx : Nat → Option (List Cell)) : Option Eff := match ty, a, x with
  | some ty, .ptr k off, some nw => match bx k with
    | some cs => some ⟨nw.length = ty.size ∧ off + nw.length ≤ cs.length, True, none, .store k off nw⟩
    | none => none
  | _, _, _ => none
def nilCheckE : V → Option Eff
  | .ptr k off => Eff.ok (.ptr k off)
  | .ref cs => Eff.ok (.ref cs)
  | _ => none
def C.exact : C → Value
  | .int k n => .int k n
  | .bool b => .bool b
  | .str s => .string ⟨s.toArray⟩
  | _ => .int .i64 0
def Cell.exact : Cell → Value
  | .c x => x.exact
  | _ => .int .i64 0
def C.fit : Z → C → Bool
  | .int k, .int k' _ => decide (k = k')
  | .bool, .bool _ => true
  | .str, .str _ => true
  | _, _ => false
def fits : List Z → List Cell → Bool
  | [], [] => true
  | z :: zs, .c x :: cs => C.fit z x && fits zs cs
  | _, _ => false
def C.same : C → C → Bool
  | .int _ a, .int _ b => a == b
  | .bool a, .bool b => a == b
  | .str a, .str b => a == b
  | _, _ => false
def sameL : List Cell → List Cell → Bool
  | .c x :: r, .c y :: s => C.same x y && sameL r s
  | _, _ => true
def aggE (fl : Bool) (ty : Option Ty) (op : BinOp) (xs ys : List Cell) : Option Eff := match fl, ty, op with
  | true, some d, .eql => some ⟨fits d.zero xs = true ∧ fits d.zero ys = true, True, none, .val (.cell (.c (.bool (sameL xs ys))))⟩
  | true, some d, .neq => some ⟨fits d.zero xs = true ∧ fits d.zero ys = true, True, none, .val (.cell (.c (.bool (!sameL xs ys))))⟩
  | _, _, _ => none
def binE (fl : Bool) (ty : Option Ty) (op : BinOp) (x y : V) : Option Eff := match x, y with
  | .cell (.c (.int k a)), .cell (.c (.int k' b)) => if k = k' then intBin op k a b else none
  | .cell (.c (.str a)), .cell (.c (.str b)) => strBin op a b
  | .cell (.c (.bool a)), .cell (.c (.bool b)) => match ty with
    | some ⟨.bool, _, _, _⟩ => boolBin op a b
    | _ => none
  | .agg xs, .agg ys => aggE fl ty op xs ys
  | _, _ => none
def unE (op : UnOp) (x : V) : Option Eff := match op, x with
  | .not, .cell (.c (.bool a)) => Eff.c (.bool (!a))
  | .neg, .cell (.c (.int k a)) => Eff.c (.int k (k.wrap (0 - a)))
  | _, _ => none
def convE (src dst : Option Ty) (x : V) : Option Eff := match src, dst, x with
  | some ⟨.int _, _, _, _⟩, some ⟨.int k, _, _, _⟩, .cell (.c (.int _ a)) => Eff.c (.int k (k.wrap a))
  | _, _, _ => none
def fieldE (ty : Option Ty) (x : V) (i : Nat) : Option Eff := match ty, x with
  | some ⟨.struct offs, _, _, _⟩, .ptr k off => match offs[i]? with
    | some f => Eff.ok (.ptr k (off + f.1))
    | none => none
  | some ⟨.struct offs, _, _, _⟩, .ref cs => match offs[i]? with
    | some f => Eff.ok (.ref (cs.drop f.1))
    | none => none
  | _, _ => none
def indexE (G : Ctx) (ty : Option Ty) (x i : V) : Option Eff := match ty, x, i with
  | some ⟨.slice e, _, _, _⟩, .cell (.c (.sl sz rows)), .cell (.c (.int .i64 n)) => match G.ty e with
    | some t => some ⟨sz = t.size ∧ 0 ≤ n ∧ n < rows.length, True, none, .val (.ref (rows.getD n.toNat []))⟩
    | none => none
  | some ⟨.array len e, _, _, _⟩, .ref cs, .cell (.c (.int .i64 n)) => match G.ty e with
    | some t => some ⟨0 ≤ n ∧ n < len, True, none, .val (.ref (cs.drop (n.toNat * t.size)))⟩
    | none => none
  | _, _, _ => none
def sindexE (ty : Option Ty) (x i : V) : Option Eff := match ty, x, i with
  | some ⟨.str, _, _, _⟩, .cell (.c (.str a)), .cell (.c (.int .i64 n)) => some ⟨0 ≤ n ∧ n < a.length, True, none, .val (.cell (.c (.int .u8 (a.getD n.toNat 0).toNat)))⟩
  | _, _, _ => none
def ssliceE (ty : Option Ty) (x lo hi : V) : Option Eff := match ty, x, lo, hi with
  | some ⟨.str, _, _, _⟩, .cell (.c (.str a)), .cell (.c (.int .i64 l)), .cell (.c (.int .i64 h)) => some ⟨0 ≤ l ∧ l ≤ h ∧ h ≤ a.length, True, none, .val (.cell (.c (.str ((a.drop l.toNat).take (h.toNat - l.toNat)))))⟩
  | _, _, _, _ => none
def extractE (x : V) (i : Nat) : Option Eff := match x with
  | .tup vs => match vs[i]? with
    | some v => Eff.ok v.val
    | none => none
  | _ => none
def lenE (ty : Option Ty) (x : V) : Option Eff := match ty, x with
  | some ⟨.str, _, _, _⟩, .cell (.c (.str a)) => some ⟨True, (a.length : Int) ≤ 9223372036854775807, none, .val (.cell (.c (.int .i64 a.length)))⟩
  | some ⟨.slice _, _, _, _⟩, v => match rowsOf v with
    | some r => some ⟨True, (r.length : Int) ≤ 9223372036854775807, none, .val (.cell (.c (.int .i64 r.length)))⟩
    | none => none
  | _, _ => none
def maxE : List V → Option Eff
  | [.cell (.c (.int k a)), .cell (.c (.int k' b))] => if k = k' then Eff.c (.int k (if b > a then b else a)) else none
  | [.cell (.c (.int k a)), .cell (.c (.int k' b)), .cell (.c (.int k'' c))] => if k = k' ∧ k = k'' then Eff.c (.int k (if c > (if b > a then b else a) then c else (if b > a then b else a))) else none
  | _ => none
def minE : List V → Option Eff
  | [.cell (.c (.int k a)), .cell (.c (.int k' b))] => if k = k' then Eff.c (.int k (if b < a then b else a)) else none
  | _ => none
def appendE (e : TypeId) (ty : Option Ty) (d : Nat) (x y : V) : Option Eff := match ty, x with
  | some ty, .cell (.own k j e' sz rows) => match rowsOf y with
    | some news => some ⟨e = e' ∧ sz = ty.size ∧ y.tag? k j = false ∧ (∀ r ∈ news, r.length = sz) ∧ (rows.length + news.length) * ty.bytes ≤ 140737488355328, True, some d, .app k j (.cell (.own d 0 e sz (rows ++ news)))⟩
    | none => none
  | some _, .cell (.c (.sl z [])) => match rowsOf y with
    | some [] => Eff.ok (.cell (.c (.sl z [])))
    | _ => none
  | _, _ => none
/-- The value at a key. -/
def amFind (q : List UInt8) : List (List UInt8 × Int) → Option Int
  | [] => none
  | p :: r => if p.1 = q then some p.2 else amFind q r
def Cell.mput (t : Nat) (kd : IntKind) (es : List (List UInt8 × Int)) : Cell → Cell
  | .omap t' kd' es' => if t' = t then .omap t kd es else .omap t' kd' es'
  | x => x
def V.mput (t : Nat) (kd : IntKind) (es : List (List UInt8 × Int)) : V → V
  | .cell x => .cell (x.mput t kd es)
  | .agg cs => .agg (cs.map (·.mput t kd es))
  | v => v
def S.mput (s : S) (t : Nat) (kd : IntKind) (es : List (List UInt8 × Int)) : S := { env := s.env.map fun p => (p.1, p.2.mput t kd es), box := s.box.map fun p => (p.1, p.2.map (·.mput t kd es)) }
def capsOf : List V → Option (List (Nat × Nat))
  | [] => some []
  | .ptr k off :: r => (capsOf r).map ((k, off) :: ·)
  | _ => none
def makeFuncE (fn : Fn) (first captured : List V) : Option Eff := match fn, first, captured with
  | .func f, [], [] => Eff.c (.fn f)
  | .func f, [], l => match capsOf l with
    | some caps => Eff.ok (.clo f caps)
    | none => none
  | _, _, _ => none
/-- Maps from strings to integers alone. -/
def mapKd (G : Ctx) (ty : Option Ty) : Option IntKind := match ty with
  | some ⟨.map k e, _, _, _⟩ => match G.ty k, G.ty e with
    | some ⟨.str, _, _, _⟩, some ⟨.int kd, _, _, _⟩ => some kd
    | _, _ => none
  | _ => none
def makeMapE (kd : Option IntKind) (d : Nat) : Option Eff := match kd with
  | some kd => some ⟨True, True, some d, .val (.cell (.omap d kd []))⟩
  | none => none
def foundV (kd : IntKind) (r : Option Int) : Bool → V
  | true => .tup [.c (.int kd (r.getD 0)), .c (.bool r.isSome)]
  | false => .cell (.c (.int kd (r.getD 0)))
def entsOf : V → Option (IntKind × List (List UInt8 × Int))
  | .cell (.c (.map kd es)) => some (kd, es)
  | .cell (.omap _ kd es) => some (kd, es)
  | _ => none
def lookE (kd : Option IntKind) (x : Option (IntKind × List (List UInt8 × Int))) (ix : V) (ok : Bool) : Option Eff := match kd, x, ix with
  | some kd, some (kd', es), .cell (.c (.str q)) => if kd = kd' then Eff.ok (foundV kd (amFind q es) ok) else none
  | _, _, _ => none
def lookupE (kd : Option IntKind) (x ix : V) (ok : Bool) : Option Eff := lookE kd (entsOf x) ix ok
def mapPutE (kd : Option IntKind) (m x v : V) : Option Eff := match kd, m, x, v with
  | some kd, .cell (.omap t kd' es), .cell (.c (.str q)), .cell (.c (.int kd'' n)) => some ⟨kd' = kd ∧ kd'' = kd ∧ amFind q es = none, True, none, .mput t kd (es ++ [(q, n)])⟩
  | _, _, _, _ => none
def sliceElem (G : Ctx) (t : TypeId) : Option TypeId := match G.ty t with
  | some ⟨.slice e, _, _, _⟩ => some e
  | _ => none
def biE (G : Ctx) (b : Builtin) (args : List Operand) (ts : List TypeId) (d : Nat) (ρ : Operand → V) : Option Eff := match b, args, ts with
  | .len, [x], [t] => lenE (G.ty t) (ρ x)
  | .max, l, _ => maxE (l.map ρ)
  | .min, l, _ => minE (l.map ρ)
  | .append, [x, y], [t, t'] => if t = t' then match sliceElem G t with
    | some e => appendE e (G.ty e) d (ρ x) (ρ y)
    | none => none
    else none
  | _, _, _ => none
def callE (G : Ctx) (c : Call) (d : Nat) (ρ : Operand → V) : Option Eff := match c.callee with
  | .builtin b => biE G b c.args.toList c.argTypes.toList d ρ
  | _ => none
def effF (G : Ctx) (o : Oper) (ρ : Operand → V) (bx : Nat → Option (List Cell)) : Option Eff :=
  match o.op with
  | .move (.const (.slice none 0 0)) | .assign (.const (.slice none 0 0)) => match sliceElem G o.type with
    | some e => nilE e (G.ty e) (o.dst.getD 0)
    | none => none
  | .move x | .assign x => moveE (ρ x)
  | .pick c a b => pickE (ρ c) (ρ a) (ρ b)
  | .alloc e => allocE (G.ty e) (o.dst.getD 0)
  | .box _ x => boxE (ρ x) (o.dst.getD 0)
  | .build t parts => buildE (G.ty t) (o.dst.getD 0) (parts.toList.map fun p => (p.1, (ρ p.2).cells))
  | .buildSlice t len parts => match sliceElem G t with
    | some e => buildSliceE e (G.ty e) (o.dst.getD 0) len (parts.toList.map fun p => (p.1, (ρ p.2).cells))
    | none => none
  | .load t a => loadE (G.ty t) (ρ a) bx
  | .store t a x => match o.dst with
    | none => storeE (G.ty t) (ρ a) (ρ x).cells bx
    | some _ => none
  | .nilCheck x => nilCheckE (ρ x)
  | .binOp op t x y _ => binE (G.flat t) (G.ty t) op (ρ x) (ρ y)
  | .unOp op _ x => unE op (ρ x)
  | .convert src dst x => convE (G.ty src) (G.ty dst) (ρ x)
  | .fieldAddr t x i => fieldE (G.ty t) (ρ x) i
  | .indexAddr t x i => indexE G (G.ty t) (ρ x) (ρ i)
  | .extract x i => extractE (ρ x) i
  | .index t x i => sindexE (G.ty t) (ρ x) (ρ i)
  | .slice t x (some lo) (some hi) none => ssliceE (G.ty t) (ρ x) (ρ lo) (ρ hi)
  | .makeFunc fn first captured => makeFuncE fn (first.toList.map ρ) (captured.toList.map ρ)
  | .makeMap t none => makeMapE (mapKd G (G.ty t)) (o.dst.getD 0)
  | .lookup t x i ok => lookupE (mapKd G (G.ty t)) (ρ x) (ρ i) ok
  | .mapUpdate t m k x => match o.dst with
    | none => mapPutE (mapKd G (G.ty t)) (ρ m) (ρ k) (ρ x)
    | some _ => none
  | .call c => callE G c (o.dst.getD 0) ρ
  | _ => none
def Act'.run (a : Act') (dst : Option Nat) (s : S) : S :=
  match a with
  | Act'.val v => s.put dst v
  | Act'.new v k cs => S.put { env := s.env, box := (k, cs) :: s.box } dst v
  | .store k off nw => { s with box := s.box.map fun p => if p.1 = k then (p.1, splice p.2 off nw) else p }
  | .app k j v => (s.kill k j).put dst v
  | .mput t kd es => s.mput t kd es
  | .frz ks v => (S.frz ks s).put dst v
  | .nil v => s.put dst v
def delL (k : Nat) : List (Nat × V) → List (Nat × V)
  | [] => []
  | p :: r => if p.1 = k then delL k r else p :: delL k r
def S.del (s : S) (k : Nat) : S := { s with env := delL k s.env }
def freshOk (e : Eff) (s : S) : Bool := match e.key with
  | none => true
  | some k => match e.act with
    | .app t j _ => (s.kill t j).fresh k
    | .nil _ => (s.del k).fresh k
    | _ => s.fresh k
end Go.Proofs.Am
namespace Go.Proofs.Am
open Go.RowKit
theorem aadd (a : Addr) (m n : Nat) : (a.add m).add n = a.add (m + n) := by
  unfold Addr.add
  by_cases hm : m = 0
  · subst hm; simp
  · by_cases hn : n = 0
    · subst hn; simp [hm]
    · have h3 : m + n ≠ 0 := by omega
      rw [if_neg hm, if_neg hn, if_neg h3]
      simp [Nat.add_assoc]
theorem ablock (a : Addr) (n : Nat) : (a.add n).block = a.block := by unfold Addr.add; split <;> rfl
theorem aplain (g o j : Nat) : (⟨g, o, none⟩ : Addr).add j = ⟨g, o + j, none⟩ := by unfold Addr.add; split <;> simp_all
theorem azero (a : Addr) : a.add 0 = a := rfl
/-- A map's entries. -/
def Ents (kd : IntKind) (es : List (List UInt8 × Int)) (vs : Array MapEntry) : Prop := vs.toList.map (fun e => (e.key, e.val)) = es.map fun p => (Value.string ⟨p.1.toArray⟩, Value.int kd p.2)
mutual
/-- The value v of the world w is the datum; all that is read lies in blocks that 'ok' lets in. -/
def RepC (w : World) (ok : Nat → Prop) : C → Value → Prop
  | .int k n, v => v = .int k n
  | .bool b, v => v = .bool b
  | .str s, v => v = .string ⟨s.toArray⟩ ∧ s.length ≤ maxLen
  | .fn f, v => v = .func (.func f) #[] #[]
  | .nilp, v => v = .pointer none
  | .nilm, v => v = .map none
  | .map kd es, v => ∃ r vs clock, v = .map (some r) ∧ ok r ∧ r < w.heap.size ∧ w.heap[r]? = some (.map vs clock) ∧ Ents kd es vs
  | .dead, v => v.oneCell' = true ∧ v.cells = #[v]
  | .val x, v => v = x ∧ v.oneCell' = true ∧ v.cells = #[v]
  | .clo f caps, v => ∃ ads : List Addr, v = .func (.func f) #[] (ads.map fun a => Value.pointer (some a)).toArray ∧ RepCaps w ok caps ads
  | .sl sz rows, v => ∃ A n cap, v = .slice A n cap ∧ n = rows.length ∧ (n ≤ cap ∧ cap ≤ maxLen) ∧ (rows = [] ∨ ∃ ad, A = some ad ∧ ok ad.block ∧ ad.block < w.heap.size ∧ RepRows w ok sz ad 0 rows)
/-- Rows of cells, one behind the other. -/
def RepRows (w : World) (ok : Nat → Prop) (sz : Nat) (ad : Addr) : Nat → List (List C) → Prop
  | _, [] => True
  | o, r :: rest => r.length = sz ∧ RepCells w ok ad o r ∧ RepRows w ok sz ad (o + sz) rest
def RepCells (w : World) (ok : Nat → Prop) (ad : Addr) : Nat → List C → Prop
  | _, [] => True
  | o, c :: r => (∃ v, w.cell? (ad.add o) = some v ∧ RepC w ok c v) ∧ RepCells w ok ad (o + 1) r
/-- Captured variables of one cell each. -/
def RepCaps (w : World) (ok : Nat → Prop) : List C → List Addr → Prop
  | [], ads => ads = []
  | c :: r, ads => ∃ ad rest, ads = ad :: rest ∧ (ok ad.block ∧ ad.block < w.heap.size ∧ ∃ v, w.cell? ad = some v ∧ RepC w ok c v) ∧ RepCaps w ok r rest
end
/-- What lies in 'ok' is there still. -/
structure Keeps (w w' : World) (ok ok' : Nat → Prop) : Prop where
  same : ∀ b, ok b → b < w.heap.size → w'.heap[b]? = w.heap[b]?
  ok : ∀ b, ok b → b < w.heap.size → ok' b
theorem Keeps.lt {w w' : World} {ok ok' : Nat → Prop} (hk : Keeps w w' ok ok') {b : Nat} (h : ok b) (hl : b < w.heap.size) : b < w'.heap.size := by
  have h1 := hk.same b h hl
  rw [Array.getElem?_eq_getElem hl] at h1
  exact (Array.getElem?_eq_some_iff.1 h1).1
/-- .. but for blocks of deferred calls. -/
structure KeepsW (w w' : World) (F F' : Nat → Prop) : Prop where
  same : ∀ b, F b → b < w.heap.size → (∀ ds, w.heap[b]? ≠ some (.deferred ds)) → w'.heap[b]? = w.heap[b]?
  ok : ∀ b, F b → b < w.heap.size → F' b
  lt : ∀ b, F b → b < w.heap.size → b < w'.heap.size
theorem Keeps.W {w w' : World} {ok ok' : Nat → Prop} (hk : Keeps w w' ok ok') : KeepsW w w' ok ok' := ⟨fun b h hl _ => hk.same b h hl, hk.ok, fun b h hl => hk.lt h hl⟩
instance keepsCoe {w w' : World} {ok ok' : Nat → Prop} : CoeOut (Keeps w w' ok ok') (KeepsW w w' ok ok') := ⟨Keeps.W⟩
theorem not_deferred {w : World} {a : Addr} {v : Value} (h : w.cell? a = some v) (ds : Option (List Deferred)) : w.heap[a.block]? ≠ some (.deferred ds) := by
  intro e
  unfold World.cell? at h
  rw [e] at h
  cases h
theorem KeepsW.cell {w w' : World} {ok ok' : Nat → Prop} (hk : KeepsW w w' ok ok') {a : Addr} {v : Value} (ho : ok a.block) (hl : a.block < w.heap.size) (h : w.cell? a = some v) : w'.cell? a = some v :=
  (World.cell?_of_block (hk.same a.block ho hl (not_deferred h))).trans h
theorem lt_of_cell {w : World} {a : Addr} {v : Value} (h : w.cell? a = some v) : a.block < w.heap.size := World.block_lt_of_cell? w a h
variable {w w' : World} {ok ok' : Nat → Prop}
mutual
theorem RepC.keeps (hk : KeepsW w w' ok ok') : ∀ (c : C) (v : Value), RepC w ok c v → RepC w' ok' c v
  | .int k n, v, h => h
  | .bool b, v, h => h
  | .str s, v, h => h
  | .fn f, v, h => h
  | .nilp, v, h => h
  | .nilm, v, h => h
  | .map kd es, v, h => by
    obtain ⟨r, vs, clock, hv, hok, hlt, hh, he⟩ := h
    exact ⟨r, vs, clock, hv, hk.ok _ hok hlt, hk.lt _ hok hlt, (hk.same r hok hlt (fun ds e => by rw [hh] at e; cases e)).trans hh, he⟩
  | .dead, v, h => h
  | .val x, v, h => h
  | .clo f caps, v, h => by
    obtain ⟨ads, hv, hr⟩ := h
    exact ⟨ads, hv, RepCaps.keeps hk caps ads hr⟩
  | .sl sz rows, v, h => by
    obtain ⟨A, n, cap, hv, hn, hm, hr⟩ := h
    refine ⟨A, n, cap, hv, hn, hm, ?_⟩
    rcases hr with hr | ⟨ad, hA, hok, hlt, hrows⟩
    · exact .inl hr
    · exact .inr ⟨ad, hA, hk.ok _ hok hlt, hk.lt _ hok hlt, RepRows.keeps hk sz ad hlt hok 0 rows hrows⟩
theorem RepRows.keeps (hk : KeepsW w w' ok ok') (sz : Nat) (ad : Addr) (hlt : ad.block < w.heap.size) (hok : ok ad.block) : ∀ (o : Nat) (rows : List (List C)), RepRows w ok sz ad o rows → RepRows w' ok' sz ad o rows
  | o, [], h => trivial
  | o, r :: rest, h => ⟨h.1, RepCells.keeps hk ad hlt hok o r h.2.1, RepRows.keeps hk sz ad hlt hok (o + sz) rest h.2.2⟩
theorem RepCells.keeps (hk : KeepsW w w' ok ok') (ad : Addr) (hlt : ad.block < w.heap.size) (hok : ok ad.block) : ∀ (o : Nat) (cs : List C), RepCells w ok ad o cs → RepCells w' ok' ad o cs
  | o, [], h => trivial
  | o, c :: r, h => by
    obtain ⟨⟨v, hv, hc⟩, hr⟩ := h
    refine ⟨⟨v, ?_, RepC.keeps hk c v hc⟩, RepCells.keeps hk ad hlt hok (o + 1) r hr⟩
    exact hk.cell (by rw [ablock]; exact hok) (by rw [ablock]; exact hlt) hv
theorem RepCaps.keeps (hk : KeepsW w w' ok ok') : ∀ (cs : List C) (ads : List Addr), RepCaps w ok cs ads → RepCaps w' ok' cs ads
  | [], _, h => h
  | c :: r, ads, h => by
    obtain ⟨ad, rest, h1, ⟨h2, h3, v, h4, h5⟩, h6⟩ := h
    exact ⟨ad, rest, h1, ⟨hk.ok _ h2 h3, hk.lt _ h2 h3, v, hk.cell h2 h3 h4, RepC.keeps hk c v h5⟩, RepCaps.keeps hk r rest h6⟩
end
theorem RepC.one {c : C} {v : Value} (h : RepC w ok c v) : v.oneCell' = true ∧ v.cells = #[v] := by
  cases c <;> simp only [RepC] at h
  case sl sz rows => obtain ⟨A, n, cap, rfl, _⟩ := h; exact ⟨rfl, rfl⟩
  case str s => obtain ⟨rfl, _⟩ := h; exact ⟨rfl, rfl⟩
  case map kd es => obtain ⟨r, vs, clock, rfl, _⟩ := h; exact ⟨rfl, rfl⟩
  case dead => exact h
  case val x => exact h.2
  case clo f caps => obtain ⟨ads, rfl, _⟩ := h; exact ⟨rfl, rfl⟩
  all_goals (subst h; exact ⟨rfl, rfl⟩)
/-- A list of cells' values. -/
inductive RepL (w : World) (ok : Nat → Prop) : List C → List Value → Prop
  | nil : RepL w ok [] []
  | cons {c : C} {v : Value} {cs : List C} {vs : List Value} (h : RepC w ok c v) (r : RepL w ok cs vs) : RepL w ok (c :: cs) (v :: vs)
theorem RepL.length {cs : List C} {vs : List Value} (h : RepL w ok cs vs) : cs.length = vs.length := by
  induction h with
  | nil => rfl
  | cons _ _ ih => simp [ih]
theorem RepL.keeps (hk : KeepsW w w' ok ok') {cs : List C} {vs : List Value} (h : RepL w ok cs vs) : RepL w' ok' cs vs := by
  induction h with
  | nil => exact .nil
  | cons h _ ih => exact .cons (RepC.keeps hk _ _ h) ih
theorem RepL.one {cs : List C} {vs : List Value} (h : RepL w ok cs vs) : ∀ u ∈ vs, u.oneCell' = true := by
  induction h with
  | nil => simp
  | cons h _ ih => simp [h.one.1]; exact ih
theorem RepL.append {cs ds : List C} {vs us : List Value} (h : RepL w ok cs vs) (k : RepL w ok ds us) : RepL w ok (cs ++ ds) (vs ++ us) := by
  induction h with
  | nil => exact k
  | cons h _ ih => exact .cons h ih
theorem RepL.split {cs ds : List C} : ∀ {vs : List Value}, RepL w ok (cs ++ ds) vs → RepL w ok cs (vs.take cs.length) ∧ RepL w ok ds (vs.drop cs.length) := by
  induction cs with
  | nil => intro vs h; exact ⟨.nil, h⟩
  | cons c cs ih =>
    intro vs h
    cases h with
    | cons h r => exact ⟨.cons h (ih r).1, (ih r).2⟩
/-- Cells that lie one behind the other hold the list's values. -/
theorem RepCells.load {ad : Addr} : ∀ {cs : List C} {o : Nat}, RepCells w ok ad o cs → ∃ vs : List Value, RepL w ok cs vs ∧ ∀ j u, vs[j]? = some u → w.cell? (ad.add (o + j)) = some u := by
  intro cs
  induction cs with
  | nil => intro o _; exact ⟨[], .nil, by simp⟩
  | cons c cs ih =>
    intro o h
    obtain ⟨⟨v, hv, hc⟩, hr⟩ := h
    obtain ⟨vs, hl, hcell⟩ := ih hr
    refine ⟨v :: vs, .cons hc hl, fun j u hu => ?_⟩
    cases j with
    | zero => simp at hu; subst hu; exact hv
    | succ j => simp at hu; have := hcell j u hu; rw [show o + (j + 1) = o + 1 + j by omega]; exact this
theorem RepCells.of {ad : Addr} : ∀ {cs : List C} {vs : List Value} {o : Nat}, RepL w ok cs vs → (∀ j u, vs[j]? = some u → w.cell? (ad.add (o + j)) = some u) → RepCells w ok ad o cs := by
  intro cs vs o h
  induction h generalizing o with
  | nil => intro _; trivial
  | cons h _ ih =>
    intro hc
    refine ⟨⟨_, hc 0 _ rfl, h⟩, ih fun j u hu => ?_⟩
    have := hc (j + 1) u hu
    rw [show o + 1 + j = o + (j + 1) by omega]; exact this
theorem RepCells.shift {ad : Addr} {cs : List C} {o p : Nat} : RepCells w ok (ad.add p) o cs ↔ RepCells w ok ad (p + o) cs := by
  induction cs generalizing o with
  | nil => exact Iff.rfl
  | cons c cs ih =>
    simp only [RepCells, aadd]
    rw [ih (o := o + 1)]
    exact Iff.rfl
theorem RepCells.drop {ad : Addr} {cs : List C} {o : Nat} (n : Nat) (h : RepCells w ok ad o cs) : RepCells w ok ad (o + n) (cs.drop n) := by
  induction n generalizing cs o with
  | zero => exact h
  | succ n ih =>
    cases cs with
    | nil => trivial
    | cons c cs => have := ih (o := o + 1) h.2; rw [show o + (n + 1) = o + 1 + n by omega]; exact this
theorem RepRows.at {ad : Addr} {sz : Nat} : ∀ {rows : List (List C)} {o i : Nat}, RepRows w ok sz ad o rows → i < rows.length → (rows.getD i []).length = sz ∧ RepCells w ok ad (o + i * sz) (rows.getD i []) := by
  intro rows
  induction rows with
  | nil => intro o i _ h; simp at h
  | cons r rows ih =>
    intro o i h hi
    cases i with
    | zero => simpa using ⟨h.1, h.2.1⟩
    | succ i =>
      have := ih (i := i) h.2.2 (by simpa using hi)
      rw [Nat.succ_mul, Nat.add_comm (i * sz) sz, ← Nat.add_assoc]
      simpa using this
theorem RepRows.flat {ad : Addr} {sz : Nat} : ∀ {rows : List (List C)} {o : Nat}, RepRows w ok sz ad o rows → (∀ r ∈ rows, r.length = sz) ∧ RepCells w ok ad o rows.flatten := by
  intro rows
  induction rows with
  | nil => intro o _; exact ⟨by simp, trivial⟩
  | cons r rows ih =>
    intro o h
    obtain ⟨h1, h2⟩ := ih h.2.2
    refine ⟨fun q hq => ?_, ?_⟩
    · rcases List.mem_cons.1 hq with rfl | hq
      · exact h.1
      · exact h1 q hq
    · rw [List.flatten_cons]
      obtain ⟨vs, hl, hc⟩ := RepCells.load h.2.1
      obtain ⟨us, hl2, hc2⟩ := RepCells.load h2
      refine RepCells.of (hl.append hl2) fun j u hu => ?_
      rw [List.getElem?_append] at hu
      split at hu
      · exact hc j u hu
      · rename_i hge
        have hlen : vs.length = sz := hl.length.symm.trans h.1
        have := hc2 (j - vs.length) u hu
        rw [show o + j = o + sz + (j - vs.length) by omega]
        exact this
theorem RepRows.of {ad : Addr} {sz : Nat} : ∀ {rows : List (List C)} {o : Nat}, (∀ r ∈ rows, r.length = sz) → RepCells w ok ad o rows.flatten → RepRows w ok sz ad o rows := by
  intro rows
  induction rows with
  | nil => intro o _ _; trivial
  | cons r rows ih =>
    intro o h1 h
    rw [List.flatten_cons] at h
    obtain ⟨vs, hl, hc⟩ := RepCells.load h
    have hr : r.length = sz := h1 r (by simp)
    obtain ⟨ha, hb⟩ := hl.split
    refine ⟨hr, RepCells.of ha fun j u hu => ?_, ih (fun q hq => h1 q (by simp [hq])) (RepCells.of hb fun j u hu => ?_)⟩
    · rw [List.getElem?_take] at hu
      split at hu
      · exact hc j u hu
      · cases hu
    · rw [List.getElem?_drop] at hu
      have := hc _ u hu
      rw [hr] at this
      rw [show o + sz + j = o + (sz + j) by omega]; exact this
theorem length_flatten {rows : List (List C)} {sz : Nat} (h : ∀ r ∈ rows, r.length = sz) : rows.flatten.length = rows.length * sz := by
  induction rows with
  | nil => simp
  | cons r rows ih => rw [List.flatten_cons, List.length_append, ih (fun q hq => h q (by simp [hq])), h r (by simp), List.length_cons, Nat.succ_mul, Nat.add_comm]
end Go.Proofs.Am
namespace Go.Proofs.Am
open Go.RowKit
inductive ZOk (G : Ctx) : List Z → List Value → Prop
  | nil : ZOk G [] []
  | int {zs : List Z} {vs : List Value} (k : IntKind) (h : ZOk G zs vs) : ZOk G (.int k :: zs) (.int k 0 :: vs)
  | bool {zs : List Z} {vs : List Value} (h : ZOk G zs vs) : ZOk G (.bool :: zs) (.bool false :: vs)
  | str {zs : List Z} {vs : List Value} (h : ZOk G zs vs) : ZOk G (.str :: zs) (.string ⟨#[]⟩ :: vs)
  | sl {zs : List Z} {vs : List Value} (e : TypeId) (z : Nat) (h : ZOk G zs vs) : ZOk G (.sl e z :: zs) (.slice none 0 0 :: vs)
  | nilp {zs : List Z} {vs : List Value} (h : ZOk G zs vs) : ZOk G (.nilp :: zs) (.pointer none :: vs)
  | nilm {zs : List Z} {vs : List Value} (h : ZOk G zs vs) : ZOk G (.nilm :: zs) (.map none :: vs)
  | nilf {zs : List Z} {vs : List Value} (h : ZOk G zs vs) : ZOk G (.nilf :: zs) (.nilFunc :: vs)
/-- The block that a slice or a map alone may turn. -/
def oblk : Value → Option Nat
  | .slice (some a) _ _ => some a.block
  | .map r => r
  | _ => none
theorem oblk_of {v : Value} {b : Nat} (h : v.ownBlock = some b) : oblk v = some b := by
  cases v <;> try (cases h)
  rename_i A _ _
  cases A
  · cases h
  · exact h
def UndOk (P : Program) (t : TypeId) (d : Ty) : Prop := match d.k with
  | .int k => P.underlying t = some (.int k) ∧ d.size = 1
  | .bool => P.underlying t = some .bool ∧ d.size = 1
  | .str => P.underlying t = some .string ∧ d.size = 1
  | .slice e => P.underlying t = some (.slice e) ∧ d.size = 1
  | .map k e => P.underlying t = some (.map k e) ∧ d.size = 1
  | .ptr e => P.underlying t = some (.pointer e) ∧ d.size = 1
  | .struct offs => ∃ fs, P.underlying t = some (.struct fs) ∧ fs.toList.mapM (fun f => (P.info? f.type).map fun i => (f.offset, i.size)) = some offs ∧ (∀ p ∈ offs, p.2 ≠ 0)
  | .array n e => P.underlying t = some (.array n e)
  | .other => (∃ x, P.underlying t = some x ∧ (match x with | .struct _ | .array _ _ => False | _ => True)) ∧ d.size = 1
/-- The struct is compared cell by cell. -/
def FlatOk (P : Program) (t : TypeId) (zs : List Z) : Prop :=
  P.eqGuardType P.depth t = false ∧ ∀ (w : World) (xs ys : List Cell), fits zs xs = true → fits zs ys = true → (Op.equalIn 10000 t (.agg (xs.map Cell.exact).toArray) (.agg (ys.map Cell.exact).toArray)).run P w = .ok (sameL xs ys) w
structure TyOk (P : Program) (G : Ctx) : Prop where
  info : ∀ t d, G.ty t = some d → ∃ i z, P.info? t = some i ∧ i.size = d.size ∧ i.bytes = d.bytes ∧ i.zero = some z ∧ ZOk G d.zero z.cells.toList ∧ z.cells.size = d.size ∧ 0 < d.size ∧ 0 < d.bytes
  und : ∀ t d, G.ty t = some d → UndOk P t d
  zint : ∀ t d k, G.ty t = some d → d.k = .int k → ∃ i, P.info? t = some i ∧ i.zero = some (.int k 0)
  flat : ∀ t d, G.ty t = some d → G.flat t = true → FlatOk P t d.zero
def RepA (w : World) (ok : Nat → Prop) : A → Value → Prop
  | .c x, v => RepC w ok x v
  | .agg cs, v => ∃ vs : List Value, v = .agg vs.toArray ∧ RepL w ok cs vs
  | .ref cs, v => ∃ ad, v = .pointer (some ad) ∧ ok ad.block ∧ ad.block < w.heap.size ∧ RepCells w ok ad 0 cs
inductive RepAs (w : World) (ok : Nat → Prop) : List A → List Value → Prop
  | nil : RepAs w ok [] []
  | cons {a : A} {v : Value} {l : List A} {vs : List Value} (h : RepA w ok a v) (r : RepAs w ok l vs) : RepAs w ok (a :: l) (v :: vs)
def GlobOk (G : Ctx) (w : World) : Prop := ∀ g cs, G.glob g = some cs → g < G.nglob ∧ g < w.heap.size ∧ ∃ vs ty fz, w.heap[g]? = some (.cells vs ty fz) ∧ RepL w (fun _ => False) cs vs.toList
section
variable {w w' : World} {ok ok' : Nat → Prop}
theorem RepA.keeps (hk : KeepsW w w' ok ok') {a : A} {v : Value} (h : RepA w ok a v) : RepA w' ok' a v := by
  cases a with
  | c x => exact RepC.keeps hk x v h
  | agg cs => obtain ⟨vs, hv, hl⟩ := h; exact ⟨vs, hv, hl.keeps hk⟩
  | ref cs =>
    obtain ⟨ad, hv, ho, hlt, hc⟩ := h
    exact ⟨ad, hv, hk.ok _ ho hlt, hk.lt _ ho hlt, RepCells.keeps hk ad hlt ho 0 cs hc⟩
theorem RepAs.keeps (hk : KeepsW w w' ok ok') {l : List A} {vs : List Value} (h : RepAs w ok l vs) : RepAs w' ok' l vs := by
  induction h with
  | nil => exact .nil
  | cons h _ ih => exact .cons (h.keeps hk) ih
theorem Keeps.none {w w' : World} : KeepsW w w' (fun _ => False) ok' := ⟨fun _ h => h.elim, fun _ h => h.elim, fun _ h => h.elim⟩
theorem Keeps.grow (w : World) (h : ∀ b, ok b → ok' b) : Keeps w w ok ok' := ⟨fun _ _ _ => rfl, fun b h1 _ => h b h1⟩
theorem Keeps.growW (w : World) (h : ∀ b, ok b → ok' b) : KeepsW w w ok ok' := (Keeps.grow w h).W
end
/-- What a call may read of what was there (ok), and what of it may turn while it runs (X). -/
structure Fr where
  ok : Nat → Prop
  X : Nat → Prop
/-- What was there is there still, but for the blocks of X. -/
structure BelowX (X : Nat → Prop) (B : Nat) (w w' : World) : Prop where
  os : w'.os = w.os
  tape : w'.tape = w.tape
  output : w'.output = w.output
  size : w.heap.size ≤ w'.heap.size
  block : ∀ k, k < B → ¬ X k → w'.heap[k]? = w.heap[k]?
theorem BelowX.of {X : Nat → Prop} {B : Nat} {w w' : World} (h : Below B w w') : BelowX X B w w' := ⟨h.os, h.tape, h.output, h.size, fun k hk _ => h.block k hk⟩
theorem BelowX.trans {X : Nat → Prop} {B : Nat} {a b c : World} (h : BelowX X B a b) (k : BelowX X B b c) : BelowX X B a c := ⟨k.os.trans h.os, k.tape.trans h.tape, k.output.trans h.output, Nat.le_trans h.size k.size, fun i hi hx => (k.block i hi hx).trans (h.block i hi hx)⟩
theorem BelowX.below {X : Nat → Prop} {B : Nat} {w w' : World} (h : BelowX X B w w') (hX : ∀ b, ¬ X b) : Below B w w' := ⟨h.os, h.tape, h.output, h.size, fun k hk => h.block k hk (hX k)⟩
/-- Blocks that the call may still write. -/
def Mut (β : Nat → Option Nat) (Ω : Nat → Nat → Option Value) (b : Nat) : Prop := (∃ k, β k = some b) ∨ ∃ k j v, Ω k j = some v ∧ oblk v = some b
def okF (G : Ctx) (ok : Fr) (B : Nat) (β : Nat → Option Nat) (Ω : Nat → Nat → Option Value) (b : Nat) : Prop := (b < B ∧ (ok.ok b ∨ b < G.nglob)) ∨ ((B ≤ b ∨ ok.X b) ∧ ¬ Mut β Ω b)
def RepCell (w : World) (F : Nat → Prop) (B : Nat) (Ω : Nat → Nat → Option Value) : Cell → Value → Prop
  | .c x, v => RepC w F x v
  | .own k j e sz rows, v => Ω k j = some v ∧ (∀ r ∈ rows, r.length = sz) ∧ rows.length ≤ maxLen ∧ ∃ xs, w.ownsRow 0 e sz v rows.length xs ∧ RepL w F rows.flatten xs
  | .omap k kd es, v => Ω k 0 = some v ∧ ∃ r vs clock, v = .map (some r) ∧ w.heap[r]? = some (.map vs clock) ∧ Ents kd es vs
  | .objst _, _ => False
inductive RepCellL (w : World) (F : Nat → Prop) (B : Nat) (Ω : Nat → Nat → Option Value) : List Cell → List Value → Prop
  | nil : RepCellL w F B Ω [] []
  | cons {x : Cell} {v : Value} {l : List Cell} {vs : List Value} (h : RepCell w F B Ω x v) (r : RepCellL w F B Ω l vs) : RepCellL w F B Ω (x :: l) (v :: vs)
def RepV (w : World) (F : Nat → Prop) (B : Nat) (β : Nat → Option Nat) (Ω : Nat → Nat → Option Value) : V → Value → Prop
  | .cell x, v => RepCell w F B Ω x v
  | .agg cs, v => ∃ vs : List Value, v = .agg vs.toArray ∧ RepCellL w F B Ω cs vs
  | .tup l, v => ∃ vs : List Value, v = .tuple vs.toArray ∧ RepAs w F l vs
  | .ptr k off, v => ∃ b, β k = some b ∧ v = .pointer (some ⟨b, off, none⟩)
  | .ref cs, v => RepA w F (.ref cs) v
  | .clo f caps, v => ∃ vs : List Value, v = .func (.func f) #[] vs.toArray ∧ vs.length = caps.length ∧ ∀ (j : Nat) k off, caps[j]? = some (k, off) → ∃ b, β k = some b ∧ vs[j]? = some (.pointer (some ⟨b, off, none⟩))
  | .undef, _ => True
  | .skp, v => v = Go.undef
  | .at k b, _ => β k = some b
def mark (b : Nat) : Value := .slice (some ⟨b, 0, none⟩) 0 0
/-- An object's state: what it says of the world looks at its own blocks alone. -/
def Stab (p : OP) : Prop := ∀ F F' w w' fp, p F w fp → KeepsW w w' F F' → (∀ b, fp b → w'.heap[b]? = w.heap[b]?) → p F' w' fp
def ObjRep (w : World) (F : Nat → Prop) (Ω : Nat → Nat → Option Value) (p : OP) : Prop :=
  Stab p ∧ ∃ fp, p F w fp ∧ ∀ b, fp b → b < w.heap.size ∧ Ω 1000000 b = some (mark b)
def ObjBox (w : World) (F : Nat → Prop) (Ω : Nat → Nat → Option Value) : List Cell → Prop
  | [.objst p] => ObjRep w F Ω p
  | _ => True
theorem ObjBox.two {w : World} {F : Nat → Prop} {Ω : Nat → Nat → Option Value} {x y : Cell} {l : List Cell} : ObjBox w F Ω (x :: y :: l) := by cases x <;> trivial
def RBox (w : World) (F : Nat → Prop) (B : Nat) (β : Nat → Option Nat) (Ω : Nat → Nat → Option Value) (k : Nat) (cs : List Cell) : Prop :=
  (∃ b vs ty, β k = some b ∧ w.heap[b]? = some (.cells vs ty (0, 0)) ∧ RepCellL w F B Ω cs vs.toList) ∨ (k = 1000000 ∧ β k = none ∧ ObjBox w F Ω cs)
/-- Marks of loops over functions among the deferred calls: their blocks hold no call. -/
inductive MarksOk (w : World) (F : Nat → Prop) : List Deferred → Prop
  | nil : MarksOk w F []
  | cons {D : Nat} {ds : List Deferred} (h : w.heap[D]? = some (.deferred (some []))) (hF : F D) (hn : ∀ d ∈ ds, d ≠ { target := .collected D, args := #[] }) (r : MarksOk w F ds) : MarksOk w F ({ target := .collected D, args := #[] } :: ds)
def defF (B : Nat) (F : Nat → Prop) (b : Nat) : Prop := B ≤ b ∧ F b
theorem Keeps.def {w w' : World} {B : Nat} {F F' : Nat → Prop} (hk : Keeps w w' F F') : Keeps w w' (defF B F) (defF B F') := ⟨fun b hb hl => hk.same b hb.2 hl, fun b hb hl => ⟨hb.1, hk.ok b hb.2 hl⟩⟩
def DefersOk (G : Ctx) (w : World) (F : Nat → Prop) (ds : List Deferred) : Prop := match G.marks with
  | true => MarksOk w F ds
  | false => ds = []
theorem MarksOk.keeps {w w' : World} {F F' : Nat → Prop} (hk : Keeps w w' F F') {ds : List Deferred} (h : MarksOk w F ds) : MarksOk w' F' ds := by
  induction h with
  | nil => exact .nil
  | cons h hF hn _ ih =>
    have hl := (Array.getElem?_eq_some_iff.1 h).1
    exact .cons ((hk.same _ hF hl).trans h) (hk.ok _ hF hl) hn ih
theorem DefersOk.keeps {G : Ctx} {w w' : World} {F F' : Nat → Prop} (hk : Keeps w w' F F') {ds : List Deferred} (h : DefersOk G w F ds) : DefersOk G w' F' ds := by
  unfold DefersOk at h ⊢
  cases hm : G.marks with
  | true => rw [hm] at h; exact MarksOk.keeps hk h
  | false => rw [hm] at h; exact h
theorem DefersOk.none {G : Ctx} {w : World} {F : Nat → Prop} : DefersOk G w F [] := by unfold DefersOk; split; exact .nil; rfl
/-- The frame and the world hold what the abstract state says. -/
structure Rel (G : Ctx) (ok : Fr) (w0 : World) (N : Nat) (β : Nat → Option Nat) (Ω : Nat → Nat → Option Value) (s : S) (a : Act) (w : World) : Prop where
  below : BelowX ok.X w0.heap.size w0 w
  xok : ∀ b, ok.X b → G.nglob ≤ b ∧ ¬ ok.ok b
  glob : GlobOk G w0
  defers : DefersOk G w (defF w0.heap.size (okF G ok w0.heap.size β Ω)) a.defers
  size : a.tmps.size = N
  env : ∀ t v, amLook t s.env = some v → RepV w (okF G ok w0.heap.size β Ω) w0.heap.size β Ω v (a.tmps.getD t undef)
  box : ∀ k cs, amLook k s.box = some cs → RBox w (okF G ok w0.heap.size β Ω) w0.heap.size β Ω k cs
  bInj : ∀ k k' b, β k = some b → β k' = some b → k = k'
  oInj : ∀ k j k' j' v v' b, Ω k j = some v → oblk v = some b → Ω k' j' = some v' → oblk v' = some b → k = k' ∧ j = j'
  bo : ∀ k b k' j v, β k = some b → Ω k' j = some v → oblk v ≠ some b
  bB : ∀ k b, β k = some b → (w0.heap.size ≤ b ∨ ok.X b) ∧ b < w.heap.size
  oB : ∀ k j v b, Ω k j = some v → oblk v = some b → (w0.heap.size ≤ b ∨ ok.X b) ∧ b < w.heap.size
section
variable {w w' : World} {F F' : Nat → Prop} {B : Nat} {Ω Ω' : Nat → Nat → Option Value} {β β' : Nat → Option Nat}
theorem RepCell.one {x : Cell} {v : Value} (h : RepCell w F B Ω x v) : v.oneCell' = true ∧ v.cells = #[v] := by
  cases x with
  | c x => exact RepC.one h
  | own k j e sz rows =>
    obtain ⟨_, _, _, xs, ho, _⟩ := h
    rcases ho.2 with ⟨rfl, _⟩ | ⟨g, cap, cur, rfl, _⟩ <;> exact ⟨rfl, rfl⟩
  | omap k kd es => obtain ⟨_, r, vs, clock, rfl, _⟩ := h; exact ⟨rfl, rfl⟩
  | objst p => exact h.elim
theorem RepCellL.one {l : List Cell} {vs : List Value} (h : RepCellL w F B Ω l vs) : ∀ u ∈ vs, u.oneCell' = true := by
  induction h with
  | nil => simp
  | cons h _ ih => simp [h.one.1]; exact ih
theorem RepCellL.length {l : List Cell} {vs : List Value} (h : RepCellL w F B Ω l vs) : l.length = vs.length := by
  induction h with
  | nil => rfl
  | cons _ _ ih => simp [ih]
theorem RepCellL.append {l m : List Cell} {vs us : List Value} (h : RepCellL w F B Ω l vs) (k : RepCellL w F B Ω m us) : RepCellL w F B Ω (l ++ m) (vs ++ us) := by
  induction h with
  | nil => exact k
  | cons h _ ih => exact .cons h ih
theorem RepCellL.drop {l : List Cell} {vs : List Value} (n : Nat) (h : RepCellL w F B Ω l vs) : RepCellL w F B Ω (l.drop n) (vs.drop n) := by
  induction n generalizing l vs with
  | zero => exact h
  | succ n ih => cases h with
    | nil => exact .nil
    | cons _ r => exact ih r
theorem RepCellL.take {l : List Cell} {vs : List Value} (n : Nat) (h : RepCellL w F B Ω l vs) : RepCellL w F B Ω (l.take n) (vs.take n) := by
  induction n generalizing l vs with
  | zero => exact .nil
  | succ n ih => cases h with
    | nil => exact .nil
    | cons h r => exact .cons h (ih r)
theorem RepCellL.get {l : List Cell} {vs : List Value} (h : RepCellL w F B Ω l vs) : ∀ {j : Nat} {x : Cell}, l[j]? = some x → ∃ v, vs[j]? = some v ∧ RepCell w F B Ω x v := by
  induction h with
  | nil => intro j x hx; simp at hx
  | cons h _ ih =>
    intro j x hx
    cases j with
    | zero => simp at hx; subst hx; exact ⟨_, rfl, h⟩
    | succ j => simp at hx; exact ih hx
theorem RepCellL.of {l : List C} {vs : List Value} (h : RepL w F l vs) : RepCellL w F B Ω (l.map .c) vs := by
  induction h with
  | nil => exact .nil
  | cons h _ ih => exact .cons h ih
/-- What one step of the world leaves of the own slices. -/
structure OwnKeeps (w w' : World) (Ω Ω' : Nat → Nat → Option Value) (L : Nat → Nat → Prop) : Prop where
  tag : ∀ k j v, L k j → Ω k j = some v → Ω' k j = some v
  row : ∀ k j v b, L k j → Ω k j = some v → oblk v = some b → b < w.heap.size → w'.heap[b]? = w.heap[b]?
def Cell.live (L : Nat → Nat → Prop) : Cell → Prop
  | .c _ => True
  | .own k j _ _ _ => L k j
  | .omap k _ _ => L k 0
  | .objst _ => ∀ j, L 1000000 j
def V.live (L : Nat → Nat → Prop) (T : Nat → Prop) : V → Prop
  | .cell x => x.live L
  | .agg cs => ∀ x ∈ cs, x.live L
  | .ptr k _ => T k
  | .clo _ caps => ∀ p ∈ caps, T p.1
  | .at k _ => T k
  | _ => True
theorem oblk_row {w : World} {base : Nat} {e : TypeId} {size : Nat} {v : Value} {n : Nat} {xs : List Value} (h : w.ownsRow base e size v n xs) : oblk v = v.ownBlock := by
  rcases h.2 with ⟨rfl, _⟩ | ⟨g, cap, cur, rfl, _⟩ <;> rfl
theorem ownsRow_same {w w' : World} {base : Nat} {e : TypeId} {size : Nat} {v : Value} {n : Nat} {xs : List Value} (h : w.ownsRow base e size v n xs) (hs : ∀ b, v.ownBlock = some b → w'.heap[b]? = w.heap[b]?) : w'.ownsRow base e size v n xs := by
  refine ⟨h.1, ?_⟩
  rcases h.2 with h2 | ⟨g, cap, cur, rfl, hg, hh, r⟩
  · exact .inl h2
  · exact .inr ⟨g, cap, cur, rfl, hg, (hs g rfl).trans hh, r⟩
theorem RepCell.keeps {L : Nat → Nat → Prop} (hk : KeepsW w w' F F') (ho : OwnKeeps w w' Ω Ω' L) {x : Cell} {v : Value} (hl : x.live L) (h : RepCell w F B Ω x v) : RepCell w' F' B Ω' x v := by
  cases x with
  | c x => exact RepC.keeps hk x v h
  | own k j e sz rows =>
    obtain ⟨ht, hr, hm, xs, hown, hL⟩ := h
    exact ⟨ho.tag k j v hl ht, hr, hm, xs, ownsRow_same hown (fun b hb => ho.row k j v b hl ht (oblk_of hb) (hown.lt b hb).2), hL.keeps hk⟩
  | omap k kd es =>
    obtain ⟨ht, r, vs, clock, rfl, hh, he⟩ := h
    exact ⟨ho.tag k 0 _ hl ht, r, vs, clock, rfl, (ho.row k 0 _ r hl ht rfl (Array.getElem?_eq_some_iff.1 hh).1).trans hh, he⟩
  | objst p => exact h.elim
theorem RepCellL.keeps {L : Nat → Nat → Prop} (hk : KeepsW w w' F F') (ho : OwnKeeps w w' Ω Ω' L) {l : List Cell} {vs : List Value} (hl : ∀ x ∈ l, x.live L) (h : RepCellL w F B Ω l vs) : RepCellL w' F' B Ω' l vs := by
  induction h with
  | nil => exact .nil
  | cons h _ ih => exact .cons (RepCell.keeps hk ho (hl _ (by simp)) h) (ih (fun x hx => hl x (by simp [hx])))
theorem RepV.keeps {L : Nat → Nat → Prop} {T : Nat → Prop} (hk : KeepsW w w' F F') (ho : OwnKeeps w w' Ω Ω' L) (hb : ∀ k b, T k → β k = some b → β' k = some b) {x : V} {v : Value} (hl : x.live L T) (h : RepV w F B β Ω x v) : RepV w' F' B β' Ω' x v := by
  cases x with
  | cell x => exact RepCell.keeps (B := B) hk ho hl h
  | agg cs => obtain ⟨vs, hv, h⟩ := h; exact ⟨vs, hv, RepCellL.keeps hk ho hl h⟩
  | tup l => obtain ⟨vs, hv, h⟩ := h; exact ⟨vs, hv, h.keeps hk⟩
  | ptr k off => obtain ⟨b, h1, h2⟩ := h; exact ⟨b, hb k b hl h1, h2⟩
  | ref cs => exact RepA.keeps (a := .ref cs) hk h
  | clo f caps =>
    obtain ⟨vs, h1, h2, h3⟩ := h
    exact ⟨vs, h1, h2, fun j k off hj => by obtain ⟨b, h4, h5⟩ := h3 j k off hj; exact ⟨b, hb k b (hl _ (List.mem_of_getElem? hj)) h4, h5⟩⟩
  | undef => trivial
  | skp => exact h
  | «at» k b => exact hb k b hl h
theorem ObjRep.keeps {L : Nat → Nat → Prop} (hk : KeepsW w w' F F') (ho : OwnKeeps w w' Ω Ω' L) {p : OP} (hl : ∀ j, L 1000000 j) (h : ObjRep w F Ω p) : ObjRep w' F' Ω' p := by
  obtain ⟨h1, fp, h2, h3⟩ := h
  have hs : ∀ b, fp b → w'.heap[b]? = w.heap[b]? := fun b hb => ho.row 1000000 b _ b (hl b) (h3 b hb).2 rfl (h3 b hb).1
  refine ⟨h1, fp, h1 F F' w w' fp h2 hk hs, fun b hb => ⟨?_, ho.tag 1000000 b _ (hl b) (h3 b hb).2⟩⟩
  have h4 := hs b hb
  rw [Array.getElem?_eq_getElem (h3 b hb).1] at h4
  exact (Array.getElem?_eq_some_iff.1 h4).1
theorem ObjBox.keeps {L : Nat → Nat → Prop} (hk : KeepsW w w' F F') (ho : OwnKeeps w w' Ω Ω' L) {cs : List Cell} (hl : ∀ x ∈ cs, x.live L) (h : ObjBox w F Ω cs) : ObjBox w' F' Ω' cs := by
  unfold ObjBox at h ⊢
  split
  · rename_i p; exact ObjRep.keeps hk ho (show ∀ j, L 1000000 j from hl (.objst p) (by simp)) h
  · trivial
end
end Go.Proofs.Am
namespace Go.Proofs.Am
open Go.RowKit
section
variable {G : Ctx} {ok : Fr} {w0 : World} {N : Nat} {β β' : Nat → Option Nat} {Ω Ω' : Nat → Nat → Option Value} {s s' : S} {a : Act} {w w' : World}
theorem look_cons {α : Type} (k j : Nat) (x : α) (l : List (Nat × α)) : amLook k ((j, x) :: l) = if k = j then some x else amLook k l := rfl
theorem look_mem {α : Type} {k : Nat} {x : α} : ∀ {l : List (Nat × α)}, amLook k l = some x → (k, x) ∈ l := by
  intro l
  induction l with
  | nil => intro h; simp [amLook] at h
  | cons p r ih =>
    intro h
    obtain ⟨j, y⟩ := p
    rw [look_cons] at h
    split at h
    · rename_i e; subst e; injection h with h; subst h; simp
    · exact List.mem_cons_of_mem _ (ih h)
theorem look_map {α β : Type} (f : α → β) (k : Nat) (l : List (Nat × α)) : amLook k (l.map fun p => (p.1, f p.2)) = (amLook k l).map f := by
  induction l with
  | nil => rfl
  | cons p r ih =>
    obtain ⟨j, y⟩ := p
    rw [List.map_cons, look_cons, look_cons]
    split
    · rfl
    · exact ih
theorem getD_put (a : Act) (d t : Nat) (x : Value) (hd : d < a.tmps.size) : (a.put (some d) x).tmps.getD t undef = if t = d then x else a.tmps.getD t undef := by
  simp only [Act.put, Array.getD_eq_getD_getElem?, Array.getElem?_setIfInBounds]
  by_cases h : d = t
  · subst h; simp [hd]
  · rw [if_neg h, if_neg (fun e => h e.symm)]
/-- A slot is written. -/
theorem Rel.put (h : Rel G ok w0 N β Ω s a w) {dst : Option Nat} {v : V} {x : Value} (hd : ∀ d, dst = some d → d < N) (hv : RepV w (okF G ok w0.heap.size β Ω) w0.heap.size β Ω v x) : Rel G ok w0 N β Ω (s.put dst v) (a.put dst x) w := by
  cases dst with
  | none => exact h
  | some d =>
    have hdN := hd d rfl
    refine { h with size := ?_, env := fun t u hu => ?_ }
    · simp [Act.put, h.size]
    · rw [getD_put a d t x (by rw [h.size]; exact hdN)]
      have hu' : (if t = d then some v else amLook t s.env) = some u := hu
      split at hu'
      · rename_i e; subst e; injection hu' with hu'; subst hu'; rw [if_pos rfl]; exact hv
      · rename_i e; rw [if_neg e]; exact h.env t u hu'
/-- The state is carried over a step of the world. -/
theorem Rel.move (h : Rel G ok w0 N β Ω s a w) (L : Nat → Nat → Prop) (T : Nat → Prop) (hb : BelowX ok.X w0.heap.size w w')
    (hk : Keeps w w' (okF G ok w0.heap.size β Ω) (okF G ok w0.heap.size β' Ω')) (ho : OwnKeeps w w' Ω Ω' L) (hT : ∀ k b, T k → β k = some b → β' k = some b)
    (henv : ∀ t v, amLook t s'.env = some v → v = .undef ∨ (amLook t s.env = some v ∧ v.live L T))
    (hbox : ∀ k cs, amLook k s'.box = some cs → (amLook k s.box = some cs ∧ T k ∧ (∀ x ∈ cs, x.live L) ∧ ∀ b, β k = some b → w'.heap[b]? = w.heap[b]?) ∨
      RBox w' (okF G ok w0.heap.size β' Ω') w0.heap.size β' Ω' k cs) (hbN : ∀ k, T k → β k = none → β' k = none)
    (bInj : ∀ k k' b, β' k = some b → β' k' = some b → k = k')
    (oInj : ∀ k j k' j' v v' b, Ω' k j = some v → oblk v = some b → Ω' k' j' = some v' → oblk v' = some b → k = k' ∧ j = j')
    (bo : ∀ k b k' j v, β' k = some b → Ω' k' j = some v → oblk v ≠ some b)
    (bB : ∀ k b, β' k = some b → (w0.heap.size ≤ b ∨ ok.X b) ∧ b < w'.heap.size)
    (oB : ∀ k j v b, Ω' k j = some v → oblk v = some b → (w0.heap.size ≤ b ∨ ok.X b) ∧ b < w'.heap.size) : Rel G ok w0 N β' Ω' s' a w' where
  below := h.below.trans hb
  xok := h.xok
  glob := h.glob
  defers := h.defers.keeps hk.def
  size := h.size
  env := fun t v hv => by
    rcases henv t v hv with rfl | ⟨h1, h2⟩
    · trivial
    · exact RepV.keeps hk ho hT h2 (h.env t v h1)
  box := fun k cs hc => by
    rcases hbox k cs hc with ⟨h1, h2, h3, h4⟩ | h1
    · rcases h.box k cs h1 with ⟨b, vs, ty, hb1, hb2, hb3⟩ | ⟨hk0, hb1, hb2⟩
      · exact .inl ⟨b, vs, ty, hT k b h2 hb1, (h4 b hb1).trans hb2, RepCellL.keeps hk ho h3 hb3⟩
      · exact .inr ⟨hk0, hbN k h2 hb1, hb2.keeps hk ho h3⟩
    · exact h1
  bInj := bInj
  oInj := oInj
  bo := bo
  bB := bB
  oB := oB
theorem Rel.lt (h : Rel G ok w0 N β Ω s a w) {b : Nat} (hm : Mut β Ω b) : (w0.heap.size ≤ b ∨ ok.X b) ∧ b < w.heap.size := by
  rcases hm with ⟨k, hk⟩ | ⟨k, j, v, h1, h2⟩
  · exact h.bB k b hk
  · exact h.oB k j v b h1 h2
theorem Rel.boxB (h : Rel G ok w0 N β Ω s a w) {k b : Nat} {cs : List Cell} (hb : β k = some b) (hc : amLook k s.box = some cs) : ∃ vs ty, w.heap[b]? = some (.cells vs ty (0, 0)) ∧ RepCellL w (okF G ok w0.heap.size β Ω) w0.heap.size Ω cs vs.toList := by
  rcases h.box k cs hc with ⟨b', vs, ty, hb', h1, h2⟩ | ⟨_, h1, _⟩
  · rw [hb] at hb'; injection hb' with hb'; subst hb'; exact ⟨vs, ty, h1, h2⟩
  · rw [hb] at h1; cases h1
theorem Cell.live_true (x : Cell) : x.live (fun _ _ => True) := by cases x <;> first | trivial | exact fun _ => trivial
theorem V.live_true (v : V) : v.live (fun _ _ => True) (fun _ => True) := by
  cases v with
  | cell x => exact Cell.live_true x
  | agg cs => exact fun x _ => Cell.live_true x
  | clo f caps => exact fun _ _ => trivial
  | _ => trivial
/-- New blocks, nothing else. -/
theorem Rel.world (h : Rel G ok w0 N β Ω s a w) (hb : Below w.heap.size w w') : Rel G ok w0 N β Ω s a w' := by
  have hle : w0.heap.size ≤ w.heap.size := h.below.size
  refine h.move (fun _ _ => True) (fun _ => True) (.of (hb.mono hle)) ⟨fun b _ hl => hb.block b hl, fun b h1 _ => h1⟩ ⟨fun _ _ _ _ h => h, fun k j v b _ _ _ hl => hb.block b hl⟩ (fun _ _ _ h => h)
    (fun t v hv => .inr ⟨hv, V.live_true v⟩)
    (fun k cs hc => .inl ⟨hc, trivial, fun x _ => Cell.live_true x, fun b hb1 => hb.block b (h.bB k b hb1).2⟩) (fun _ _ h => h) h.bInj h.oInj h.bo
    (fun k b h1 => ⟨(h.bB k b h1).1, Nat.lt_of_lt_of_le (h.bB k b h1).2 hb.size⟩) (fun k j v b h1 h2 => ⟨(h.oB k j v b h1 h2).1, Nat.lt_of_lt_of_le (h.oB k j v b h1 h2).2 hb.size⟩)
theorem Cell.live_of {k : Nat} {x : Cell} (h : x.site? k = false) : x.live (fun k' _ => k' ≠ k) := by
  cases x with
  | c x => trivial
  | own t j e sz rows => simp [Cell.site?] at h; exact h
  | omap t kd es => simp [Cell.site?] at h; exact h
  | objst p => simp [Cell.site?] at h; exact fun _ => h
theorem V.live_of {k : Nat} {v : V} (h : v.site? k = false) : v.live (fun k' _ => k' ≠ k) (fun k' => k' ≠ k) := by
  cases v with
  | cell x => exact Cell.live_of h
  | agg cs => intro x hx; simp [V.site?] at h; exact Cell.live_of (h x hx)
  | tup l => trivial
  | ptr t off => simp [V.site?] at h; exact h
  | ref cs => trivial
  | clo f caps => intro p hp; simp [V.site?] at h; exact h p.1 p.2 hp
  | undef => trivial
  | skp => trivial
  | «at» k' b => simp [V.site?] at h; exact h
/-- Nothing that can be seen speaks of site k. -/
def FreshP (s : S) (k : Nat) : Prop := (∀ t v, amLook t s.env = some v → v.site? k = false) ∧ ∀ t cs, amLook t s.box = some cs → t ≠ k ∧ ∀ x ∈ cs, x.site? k = false
theorem S.fresh_env0 {s : S} {k t : Nat} {v : V} (h : s.fresh k = true) (hv : amLook t s.env = some v) : v.site? k = false := by
  simp only [S.fresh, Bool.and_eq_true, List.all_eq_true] at h
  have := h.1 (t, v) (look_mem hv)
  simpa using this
theorem S.fresh_box0 {s : S} {k t : Nat} {cs : List Cell} (h : s.fresh k = true) (hv : amLook t s.box = some cs) : t ≠ k ∧ ∀ x ∈ cs, x.site? k = false := by
  simp only [S.fresh, Bool.and_eq_true, List.all_eq_true] at h
  have := h.2 (t, cs) (look_mem hv)
  simp at this
  exact this
theorem S.freshP {s : S} {k : Nat} (h : s.fresh k = true) : FreshP s k := ⟨fun _ _ hv => S.fresh_env0 h hv, fun _ _ hv => S.fresh_box0 h hv⟩
theorem S.fresh_env {s : S} {k t : Nat} {v : V} (h : FreshP s k) (hv : amLook t s.env = some v) : v.site? k = false := h.1 t v hv
theorem S.fresh_box {s : S} {k t : Nat} {cs : List Cell} (h : FreshP s k) (hv : amLook t s.box = some cs) : t ≠ k ∧ ∀ x ∈ cs, x.site? k = false := h.2 t cs hv
def FreshOk (e : Eff) (s : S) : Prop := match e.key with
  | none => True
  | some k => match e.act with
    | .app t j _ => FreshP (s.kill t j) k
    | .nil _ => FreshP (s.del k) k
    | _ => FreshP s k
theorem look_del {k t : Nat} : ∀ {l : List (Nat × V)}, amLook t (delL k l) = if t = k then none else amLook t l := by
  intro l
  induction l with
  | nil => simp [delL, amLook]
  | cons p r ih =>
    obtain ⟨j, x⟩ := p
    simp only [delL]
    split
    · rename_i e
      rw [ih, look_cons]
      split
      · rfl
      · rename_i hne; rw [if_neg (fun e2 => hne (e2.trans e))]
    · rename_i e
      rw [look_cons, look_cons, ih]
      by_cases h : t = k
      · subst h; rw [if_neg (fun e2 => e e2.symm), if_pos rfl]; simp
      · simp [h]
theorem freshOkP {e : Eff} {s : S} (h : freshOk e s = true) : FreshOk e s := by
  obtain ⟨obl, fact, key, act⟩ := e
  cases key with
  | none => trivial
  | some k => cases act <;> exact S.freshP h
/-- New own slices (nil ones, or at new blocks) and, it may be, a new box, all at site k, of which nothing speaks yet. -/
theorem Rel.create (h : Rel G ok w0 N β Ω s a w) {k : Nat} (hf : FreshP s k) (hb : Below w.heap.size w w') (f : Nat → Option Value) (c : Option Nat)
    (hfB : ∀ j v b, f j = some v → oblk v = some b → w.heap.size ≤ b ∧ b < w'.heap.size)
    (hfI : ∀ j j' v v' b, f j = some v → oblk v = some b → f j' = some v' → oblk v' = some b → j = j')
    (hcB : ∀ b, c = some b → w.heap.size ≤ b ∧ b < w'.heap.size) (hcf : ∀ b j v, c = some b → f j = some v → oblk v ≠ some b) :
    Rel G ok w0 N (fun i => if i = k then c else β i) (fun i j => if i = k then f j else Ω i j) s a w' := by
  have hle : w0.heap.size ≤ w.heap.size := h.below.size
  have hmut : ∀ b, b < w.heap.size → Mut (fun i => if i = k then c else β i) (fun i j => if i = k then f j else Ω i j) b → Mut β Ω b := by
    intro b hlt hm
    rcases hm with ⟨i, hi⟩ | ⟨i, j, v, h1, h2⟩
    · by_cases e : i = k
      · simp [e] at hi; have := (hcB b hi).1; omega
      · simp [e] at hi; exact .inl ⟨i, hi⟩
    · by_cases e : i = k
      · simp [e] at h1; have := (hfB j v b h1 h2).1; omega
      · simp [e] at h1; exact .inr ⟨i, j, v, h1, h2⟩
  refine h.move (fun k' _ => k' ≠ k) (fun k' => k' ≠ k) (.of (hb.mono hle)) ⟨fun b _ hl => hb.block b hl, fun b h1 hl => ?_⟩ ⟨fun i j v hi h1 => by simp [hi]; exact h1, fun i j v b _ _ _ hl => hb.block b hl⟩
    (fun i b hi h1 => by simp [hi]; exact h1) (fun t v hv => .inr ⟨hv, V.live_of (S.fresh_env hf hv)⟩) (fun i cs hc => ?_) (fun i hi h1 => by simp [hi]; exact h1) ?_ ?_ ?_ ?_ ?_
  · rcases h1 with h1 | ⟨h1, h2⟩
    · exact .inl h1
    · exact .inr ⟨h1, fun hm => h2 (hmut b hl hm)⟩
  · obtain ⟨h1, h2⟩ := S.fresh_box hf hc
    exact .inl ⟨hc, h1, fun x hx => Cell.live_of (h2 x hx), fun b hb1 => hb.block b (h.bB i b hb1).2⟩
  · intro i i' b h1 h2
    by_cases e : i = k <;> by_cases e' : i' = k <;> simp only [e, e', if_true, if_false] at h1 h2
    · rw [e, e']
    · have := (hcB b h1).1; have := (h.bB i' b h2).2; omega
    · have := (hcB b h2).1; have := (h.bB i b h1).2; omega
    · exact h.bInj i i' b h1 h2
  · intro i j i' j' v v' b h1 h2 h3 h4
    by_cases e : i = k <;> by_cases e' : i' = k <;> simp only [e, e', if_true, if_false] at h1 h3
    · exact ⟨by rw [e, e'], hfI j j' v v' b h1 h2 h3 h4⟩
    · have := (hfB j v b h1 h2).1; have := (h.oB i' j' v' b h3 h4).2; omega
    · have := (hfB j' v' b h3 h4).1; have := (h.oB i j v b h1 h2).2; omega
    · exact h.oInj i j i' j' v v' b h1 h2 h3 h4
  · intro i b i' j v h1 h2 h3
    by_cases e : i = k <;> by_cases e' : i' = k <;> simp only [e, e', if_true, if_false] at h1 h2
    · exact hcf b j v h1 h2 h3
    · have := (hcB b h1).1; have := (h.oB i' j v b h2 h3).2; omega
    · have := (hfB j v b h2 h3).1; have := (h.bB i b h1).2; omega
    · exact h.bo i b i' j v h1 h2 h3
  · intro i b h1
    by_cases e : i = k <;> simp only [e, if_true, if_false] at h1
    · have := hcB b h1; exact ⟨.inl (by omega), this.2⟩
    · have h2 := h.bB i b h1; have := hb.size; exact ⟨h2.1, by omega⟩
  · intro i j v b h1 h2
    by_cases e : i = k <;> simp only [e, if_true, if_false] at h1
    · have h3 := hfB j v b h1 h2; exact ⟨.inl (by omega), h3.2⟩
    · have h3 := h.oB i j v b h1 h2; have := hb.size; exact ⟨h3.1, by omega⟩
end
end Go.Proofs.Am
namespace Go.Proofs.Am
open Go.RowKit
section
variable {P : Program} {G : Ctx} {ok : Fr} {w0 : World} {N : Nat} {β : Nat → Option Nat} {Ω : Nat → Nat → Option Value} {s : S} {a : Act} {w w' : World}
theorem own_data {F F' : Nat → Prop} {e : TypeId} {sz : Nat} {v : Value} {rows : List (List C)} {xs : List Value} (hr : ∀ r ∈ rows, r.length = sz) (hm : rows.length ≤ maxLen)
    (ho : w.ownsRow 0 e sz v rows.length xs) (hl : RepL w F rows.flatten xs) (hF : ∀ b, F b → F' b) (hb : ∀ b, v.ownBlock = some b → F' b) : RepC w F' (.sl sz rows) v := by
  rcases ho.2 with ⟨rfl, hn⟩ | ⟨g, cap, cur, rfl, hg, hh, hc, hcm, hsz, htk⟩
  · exact ⟨none, 0, 0, rfl, hn.symm, by simp [maxLen], .inl (List.length_eq_zero_iff.1 hn)⟩
  · refine ⟨some ⟨g, 0, none⟩, rows.length, cap, rfl, rfl, ⟨hc, hcm⟩, .inr ⟨_, rfl, hb g rfl, (Array.getElem?_eq_some_iff.1 hh).1, ?_⟩⟩
    refine RepRows.of hr (RepCells.of (hl.keeps (Keeps.grow w hF)) fun j u hu => ?_)
    rw [Nat.zero_add]
    exact ho.cells rfl j u hu
theorem RepCell.data {F F' : Nat → Prop} {B : Nat} {x : Cell} {v : Value} (h : RepCell w F B Ω x v) (hF : ∀ b, F b → F' b) (hb : ∀ k j b u, Ω k j = some u → oblk u = some b → F' b) : RepC w F' x.data v := by
  cases x with
  | c x => exact RepC.keeps (Keeps.grow w hF) x v h
  | own k j e sz rows =>
    obtain ⟨h1, h2, h3, xs, h4, h5⟩ := h
    exact own_data h2 h3 h4 h5 hF (fun b hb1 => hb k j b v h1 (oblk_of hb1))
  | omap k kd es =>
    obtain ⟨h1, r, vs, clock, rfl, hh, he⟩ := h
    exact ⟨r, vs, clock, rfl, hb k 0 r _ h1 rfl, (Array.getElem?_eq_some_iff.1 hh).1, hh, he⟩
  | objst p => exact h.elim
theorem RepCellL.datas {F F' : Nat → Prop} {B : Nat} {l : List Cell} {vs : List Value} (h : RepCellL w F B Ω l vs) (hF : ∀ b, F b → F' b) (hb : ∀ k j b u, Ω k j = some u → oblk u = some b → F' b) : RepL w F' (l.map (·.data)) vs := by
  induction h with
  | nil => exact .nil
  | cons h _ ih => exact .cons (RepCell.data h hF hb) ih
theorem okF_mono {β' : Nat → Option Nat} {Ω' : Nat → Nat → Option Value} {B : Nat} (h : ∀ b, Mut β' Ω' b → Mut β Ω b) (b : Nat) (hb : okF G ok B β Ω b) : okF G ok B β' Ω' b := by
  rcases hb with hb | ⟨h1, h2⟩
  · exact .inl hb
  · exact .inr ⟨h1, fun hm => h2 (h b hm)⟩
/-- The slices that the call made at site k are written no more. -/
theorem Rel.freeze (h : Rel G ok w0 N β Ω s a w) (k : Nat) : Rel G ok w0 N β (fun i j => if i = k then none else Ω i j) (s.freeze k) a w := by
  have hmut : ∀ b, Mut β (fun i j => if i = k then none else Ω i j) b → Mut β Ω b := by
    intro b hm
    rcases hm with hm | ⟨i, j, v, h1, h2⟩
    · exact .inl hm
    · dsimp only at h1; split at h1
      · cases h1
      · exact .inr ⟨i, j, v, h1, h2⟩
  have hF := okF_mono (G := G) (ok := ok) (B := w0.heap.size) hmut
  have hfree : ∀ j b u, Ω k j = some u → oblk u = some b → okF G ok w0.heap.size β (fun i j => if i = k then none else Ω i j) b := by
    intro j b u h1 h2
    refine .inr ⟨(h.oB k j u b h1 h2).1, fun hm => ?_⟩
    rcases hm with ⟨i, hi⟩ | ⟨i, j', v, h3, h4⟩
    · exact h.bo i b k j u hi h1 h2
    · dsimp only at h3; split at h3
      · cases h3
      · rename_i hne; exact hne (h.oInj i j' k j v u b h3 h4 h1 h2).1
  have hcell : ∀ x v, RepCell w (okF G ok w0.heap.size β Ω) w0.heap.size Ω x v → RepCell w (okF G ok w0.heap.size β (fun i j => if i = k then none else Ω i j)) w0.heap.size (fun i j => if i = k then none else Ω i j) (x.freeze k) v := by
    intro x v hx
    cases x with
    | c x => exact RepC.keeps (Keeps.grow w hF) x v hx
    | own t j e sz rows =>
      obtain ⟨h1, h2, h3, xs, h4, h5⟩ := hx
      show RepCell _ _ _ _ (if t = k then _ else _) _
      split
      · rename_i e; subst e; exact own_data h2 h3 h4 h5 hF (fun b hb => hfree j b v h1 (oblk_of hb))
      · rename_i hne; exact ⟨by simp [hne]; exact h1, h2, h3, xs, h4, h5.keeps (Keeps.grow w hF)⟩
    | omap t kd es =>
      obtain ⟨h1, r, vs, clock, rfl, hh, he⟩ := hx
      show RepCell _ _ _ _ (if t = k then _ else _) _
      split
      · rename_i e; subst e; exact ⟨r, vs, clock, rfl, hfree 0 r _ h1 rfl, (Array.getElem?_eq_some_iff.1 hh).1, hh, he⟩
      · rename_i hne; exact ⟨by simp [hne]; exact h1, r, vs, clock, rfl, hh, he⟩
    | objst p => exact hx.elim
  have hcells : ∀ l vs, RepCellL w (okF G ok w0.heap.size β Ω) w0.heap.size Ω l vs → RepCellL w (okF G ok w0.heap.size β (fun i j => if i = k then none else Ω i j)) w0.heap.size (fun i j => if i = k then none else Ω i j) (l.map (·.freeze k)) vs := by
    intro l vs hl
    induction hl with
    | nil => exact .nil
    | cons h _ ih => exact .cons (hcell _ _ h) ih
  refine ⟨h.below, h.xok, h.glob, h.defers.keeps (Keeps.grow w hF).def, h.size, fun t v hv => ?_, fun t cs hc => ?_, h.bInj, ?_, ?_, h.bB, ?_⟩
  · have hv' : amLook t (s.env.map fun p => (p.1, p.2.freeze k)) = some v := hv
    rw [look_map (V.freeze k)] at hv'
    cases hl : amLook t s.env with
    | none => rw [hl] at hv'; cases hv'
    | some u =>
      rw [hl] at hv'
      simp only [Option.map_some, Option.some.injEq] at hv'
      subst hv'
      have hu := h.env t u hl
      cases u with
      | cell x => exact hcell _ _ hu
      | agg cs => obtain ⟨vs, h1, h2⟩ := hu; exact ⟨vs, h1, hcells _ _ h2⟩
      | tup l => obtain ⟨vs, h1, h2⟩ := hu; exact ⟨vs, h1, h2.keeps (Keeps.grow w hF)⟩
      | ptr t off => exact hu
      | ref cs => exact RepA.keeps (a := .ref cs) (Keeps.grow w hF) hu
      | undef => trivial
      | skp => exact hu
      | «at» k b => exact hu
      | clo f caps => exact hu
  · have hc' : amLook t (s.box.map fun p => (p.1, p.2.map (·.freeze k))) = some cs := hc
    rw [look_map (fun l : List Cell => l.map (·.freeze k))] at hc'
    cases hl : amLook t s.box with
    | none => rw [hl] at hc'; cases hc'
    | some u =>
      rw [hl] at hc'
      simp only [Option.map_some, Option.some.injEq] at hc'
      subst hc'
      rcases h.box t u hl with ⟨b, vs, ty, h1, h2, h3⟩ | ⟨h1, h2, h3⟩
      · exact .inl ⟨b, vs, ty, h1, h2, hcells _ _ h3⟩
      · refine .inr ⟨h1, h2, ?_⟩
        match u, h3 with
        | [.objst p], h3 =>
          show ObjBox w _ _ [if 1000000 = k then .c .dead else .objst p]
          split
          · trivial
          · rename_i hne
            obtain ⟨a1, fp, a2, a3⟩ := h3
            exact ⟨a1, fp, a1 _ _ w w fp a2 (Keeps.grow w hF) (fun _ _ => rfl), fun b hb => ⟨(a3 b hb).1, by simp [hne]; exact (a3 b hb).2⟩⟩
        | [], _ => trivial
        | [.c x], _ => trivial
        | [.own t j e z r], _ => show ObjBox w _ _ [if t = k then _ else _]; split <;> trivial
        | [.omap t kd es], _ => show ObjBox w _ _ [if t = k then _ else _]; split <;> trivial
        | _ :: _ :: _, _ => exact ObjBox.two
  · intro i j i' j' v v' b h1 h2 h3 h4
    split at h1
    · cases h1
    · split at h3
      · cases h3
      · exact h.oInj i j i' j' v v' b h1 h2 h3 h4
  · intro i b i' j v h1 h2
    split at h2
    · cases h2
    · exact h.bo i b i' j v h1 h2
  · intro i j v b h1 h2
    split at h1
    · cases h1
    · exact h.oB i j v b h1 h2
theorem Rel.frz (ks : List Nat) : ∀ {Ω : Nat → Nat → Option Value} {s : S}, Rel G ok w0 N β Ω s a w → ∃ Ω', Rel G ok w0 N β Ω' (S.frz ks s) a w := by
  induction ks with
  | nil => intro Ω s h; exact ⟨Ω, h⟩
  | cons k r ih => intro Ω s h; exact ih (h.freeze k)
theorem Cell.freeze_data (k : Nat) (x : Cell) : (x.freeze k).data = x.data := by
  cases x with
  | c x => rfl
  | own => simp only [Cell.freeze]; split <;> rfl
  | omap => simp only [Cell.freeze]; split <;> rfl
  | objst => simp only [Cell.freeze]; split <;> rfl
theorem Cell.freeze_site {k j : Nat} {x : Cell} (h : x.site? j = false) : (x.freeze k).site? j = false := by
  cases x with
  | c x => rfl
  | own => simp only [Cell.freeze]; split; rfl; exact h
  | omap => simp only [Cell.freeze]; split; rfl; exact h
  | objst => simp only [Cell.freeze]; split; rfl; exact h
theorem FreshP.freeze {j : Nat} (h : FreshP s j) (k : Nat) : FreshP (s.freeze k) j := by
  refine ⟨fun t v hv => ?_, fun t cs hc => ?_⟩
  · have hv' : amLook t (s.env.map fun p => (p.1, p.2.freeze k)) = some v := hv
    rw [look_map (V.freeze k), Option.map_eq_some_iff] at hv'
    obtain ⟨u, hu, rfl⟩ := hv'
    have := h.1 t u hu
    cases u with
    | cell x => exact Cell.freeze_site this
    | agg cs => simp [V.site?, V.freeze] at this ⊢; exact fun x hx => Cell.freeze_site (this x hx)
    | _ => exact this
  · have hc' : amLook t (s.box.map fun p => (p.1, p.2.map (·.freeze k))) = some cs := hc
    rw [look_map (fun l : List Cell => l.map (·.freeze k)), Option.map_eq_some_iff] at hc'
    obtain ⟨u, hu, rfl⟩ := hc'
    obtain ⟨h1, h2⟩ := h.2 t u hu
    refine ⟨h1, fun x hx => ?_⟩
    obtain ⟨y, hy, rfl⟩ := List.mem_map.1 hx
    exact Cell.freeze_site (h2 y hy)
theorem FreshP.frz {j : Nat} (ks : List Nat) : ∀ {s : S}, FreshP s j → FreshP (S.frz ks s) j := by
  induction ks with
  | nil => intro s h; exact h
  | cons k r ih => intro s h; exact ih (h.freeze k)
theorem constV_freeze (k : Nat) (v : Value) : (constV G v).freeze k = constV G v := by
  unfold constV
  split <;> try rfl
  split <;> rfl
theorem evalO_freeze (k : Nat) (s : S) (x : Operand) : evalO G (s.freeze k) x = (evalO G s x).freeze k := by
  cases x with
  | tmp t =>
    show S.get (s.freeze k) t = (S.get s t).freeze k
    unfold S.get S.freeze
    simp only
    rw [look_map (V.freeze k)]
    cases amLook t s.env <;> rfl
  | const v => exact (constV_freeze (G := G) k v).symm
  | global g =>
    show (match G.glob g with | some cs => V.ref cs | none => .undef) = V.freeze k (match G.glob g with | some cs => V.ref cs | none => .undef)
    cases G.glob g <;> rfl
  | func f => rfl
theorem cells_freeze (k : Nat) (v : V) : (v.freeze k).cells = v.cells.map (·.map (·.freeze k)) := by cases v <;> rfl
theorem litRows_congr {α : Type} {sz : Nat} {f g : α → Nat × Option (List Cell)} (h : ∀ x, (g x).1 = (f x).1 ∧ ((f x).2 = none ∧ (g x).2 = none ∨ ∃ c d, (f x).2 = some c ∧ (g x).2 = some d ∧ c.length = d.length ∧ c.map (·.data) = d.map (·.data))) : ∀ (l : List α) (n : Nat), litRows sz n (l.map f) = litRows sz n (l.map g) := by
  intro l
  induction l with
  | nil => intro n; rfl
  | cons x r ih =>
    intro n
    obtain ⟨h1, h2⟩ := h x
    simp only [List.map_cons]
    generalize f x = p at h1 h2
    generalize g x = q at h1 h2
    obtain ⟨i, u⟩ := p
    obtain ⟨j, v⟩ := q
    simp only at h1 h2
    subst h1
    rcases h2 with ⟨rfl, rfl⟩ | ⟨c, d, rfl, rfl, hl, hd⟩
    · rfl
    · simp only [litRows, hl, hd, ih]
theorem litRows_frz {sz n : Nat} (parts : List (Nat × Operand)) (ks : List Nat) : ∀ (s : S), litRows sz n (parts.map fun p => (p.1, (evalO G (S.frz ks s) p.2).cells)) = litRows sz n (parts.map fun p => (p.1, (evalO G s p.2).cells)) := by
  induction ks with
  | nil => intro s; rfl
  | cons k r ih =>
    intro s
    show litRows sz n (parts.map fun p => (p.1, (evalO G (S.frz r (s.freeze k)) p.2).cells)) = _
    rw [ih]
    refine litRows_congr (f := fun p : Nat × Operand => (p.1, (evalO G (s.freeze k) p.2).cells)) (g := fun p : Nat × Operand => (p.1, (evalO G s p.2).cells)) (fun p => ⟨rfl, ?_⟩) parts n
    simp only [evalO_freeze, cells_freeze]
    cases h : (evalO G s p.2).cells with
    | none => exact .inl ⟨rfl, rfl⟩
    | some c => exact .inr ⟨_, _, rfl, rfl, by simp, by simp [Function.comp_def, Cell.freeze_data]⟩
theorem pure_of_none {cs : List Cell} (h3 : ∀ k ∈ cellSites cs, k ∈ ([] : List Nat)) : cs.all (·.pure?) = true := by
  induction cs with
  | nil => rfl
  | cons c r ih => cases c with
    | c y => rw [List.all_cons, ih (fun k hk => h3 k hk)]; rfl
    | own k => exact absurd (h3 k (by simp [cellSites])) (by simp)
    | omap k => exact absurd (h3 k (by simp [cellSites])) (by simp)
    | objst p => exact absurd (h3 1000000 (by simp [cellSites])) (by simp)
/-- Every own site of the cells is among the frozen ones. -/
theorem frz_pure {x : Operand} (ks : List Nat) : ∀ (s : S) (cs ds : List Cell), (evalO G s x).cells = some cs → (evalO G (S.frz ks s) x).cells = some ds → (∀ k ∈ cellSites cs, k ∈ ks) → ds.all (·.pure?) = true := by
  induction ks with
  | nil =>
    intro s cs ds h1 h2 h3
    have h2 : (evalO G s x).cells = some ds := h2
    rw [h1] at h2
    injection h2 with h2
    subst h2
    exact pure_of_none h3
  | cons k r ih =>
    intro s cs ds h1 h2 h3
    refine ih (s.freeze k) (cs.map (·.freeze k)) ds (by rw [evalO_freeze, cells_freeze, h1]; rfl) h2 ?_
    clear h1 h2
    induction cs with
    | nil => intro j hj; simp [cellSites] at hj
    | cons c l ihl => cases c with
      | c y => exact ihl (fun j hj => h3 j hj)
      | own t j e z rows =>
        intro i hi
        simp only [List.map_cons, Cell.freeze] at hi
        split at hi
        · exact ihl (fun j hj => h3 j (by simp [cellSites, hj])) i hi
        · rename_i hne
          simp only [cellSites, List.mem_cons] at hi
          rcases hi with rfl | hi
          · have := h3 i (by simp [cellSites])
            simp only [List.mem_cons] at this
            exact this.resolve_left hne
          · exact ihl (fun j hj => h3 j (by simp [cellSites, hj])) i hi
      | omap t kd es =>
        intro i hi
        simp only [List.map_cons, Cell.freeze] at hi
        split at hi
        · exact ihl (fun j hj => h3 j (by simp [cellSites, hj])) i hi
        · rename_i hne
          simp only [cellSites, List.mem_cons] at hi
          rcases hi with rfl | hi
          · have := h3 i (by simp [cellSites])
            simp only [List.mem_cons] at this
            exact this.resolve_left hne
          · exact ihl (fun j hj => h3 j (by simp [cellSites, hj])) i hi
      | objst p =>
        intro i hi
        have hi : i ∈ cellSites ((if 1000000 = k then Cell.c .dead else .objst p) :: l.map (·.freeze k)) := hi
        by_cases hk : 1000000 = k
        · rw [if_pos hk] at hi
          exact ihl (fun j hj => h3 j (by simp [cellSites, hj])) i hi
        · rw [if_neg hk] at hi
          simp only [cellSites, List.mem_cons] at hi
          rcases hi with rfl | hi
          · have := h3 1000000 (by simp [cellSites])
            simp only [List.mem_cons] at this
            exact this.resolve_left hk
          · exact ihl (fun j hj => h3 j (by simp [cellSites, hj])) i hi
theorem partSites_mem {l : List (Nat × Option (List Cell))} {i : Nat} {cs : List Cell} (h : (i, some cs) ∈ l) : ∀ k ∈ cellSites cs, k ∈ partSites l := by
  induction l with
  | nil => cases h
  | cons p r ih =>
    intro k hk
    obtain ⟨j, u⟩ := p
    rcases List.mem_cons.1 h with h0 | h0
    · cases h0; exact List.mem_append_left _ hk
    · cases u with
      | none => exact ih h0 k hk
      | some x => exact List.mem_append_right _ (ih h0 k hk)
end
end Go.Proofs.Am
namespace Go.Proofs.Am
open Go.RowKit
section
variable {P : Program} {G : Ctx} {ok : Fr} {w0 : World} {N : Nat} {β : Nat → Option Nat} {Ω : Nat → Nat → Option Value} {s : S} {a : Act} {w : World}
abbrev RV (G : Ctx) (ok : Fr) (w0 : World) (β : Nat → Option Nat) (Ω : Nat → Nat → Option Value) (w : World) (v : V) (x : Value) : Prop := RepV w (okF G ok w0.heap.size β Ω) w0.heap.size β Ω v x
theorem rv_int (k : IntKind) (n : Int) : RV G ok w0 β Ω w (.cell (.c (.int k n))) (.int k n) := rfl
theorem rv_bool (b : Bool) : RV G ok w0 β Ω w (.cell (.c (.bool b))) (.bool b) := rfl
/-- An operand. -/
theorem eval_sound (h : Rel G ok w0 N β Ω s a w) (x : Operand) : RV G ok w0 β Ω w (evalO G s x) (a.eval x) := by
  cases x with
  | tmp t =>
    show RepV _ _ _ _ _ (S.get s t) (a.tmps.getD t undef)
    unfold S.get
    cases hl : amLook t s.env with
    | none => trivial
    | some v => exact h.env t v hl
  | const v =>
    show RepV _ _ _ _ _ (constV G v) v
    unfold constV
    split
    · rfl
    · rfl
    · rename_i s'
      split
      · rename_i hs
        exact ⟨rfl, by show s'.data.toList.length ≤ maxLen; rw [Array.length_toList]; simp only [maxLen]; omega⟩
      · trivial
    · exact ⟨none, 0, 0, rfl, rfl, by simp [maxLen], .inl rfl⟩
    · rfl
    · rfl
    · exact ⟨rfl, rfl, rfl⟩
    · trivial
  | global g =>
    show RepV _ _ _ _ _ (match G.glob g with | some cs => V.ref cs | none => .undef) _
    cases hg : G.glob g with
    | none => trivial
    | some cs =>
      obtain ⟨h1, h2, vs, ty, fz, h3, hl⟩ := h.glob g cs hg
      have hle := h.below.size
      have hk : Keeps w0 w (fun _ => False) (okF G ok w0.heap.size β Ω) := ⟨fun b hb => hb.elim, fun b hb => hb.elim⟩
      refine ⟨⟨g, 0, none⟩, rfl, .inl ⟨h2, .inr h1⟩, by simp; omega, ?_⟩
      refine RepCells.of (hl.keeps hk) fun j u hu => (World.cell?_of_block (w := w0) (a := (⟨g, 0, none⟩ : Addr).add (0 + j)) (by rw [ablock]; exact h.below.block g h2 (fun hx => by have := (h.xok g hx).1; omega))).trans ?_
      rw [Nat.zero_add, aplain]
      simp [World.cell?, h3]
      simpa using hu
  | func f => rfl
theorem cells_sound {F : Nat → Prop} {B : Nat} {v : V} {x : Value} {cs : List Cell} (h : RepV w F B β Ω v x) (hc : v.cells = some cs) : RepCellL w F B Ω cs x.cells.toList := by
  cases v with
  | cell y => simp [V.cells] at hc; subst hc; have h1 := (RepCell.one (B := B) h).2; rw [h1]; exact .cons h .nil
  | agg l => simp [V.cells] at hc; subst hc; obtain ⟨vs, rfl, h⟩ := h; exact h
  | tup l => simp [V.cells] at hc
  | ptr k off => simp [V.cells] at hc
  | ref l => simp [V.cells] at hc
  | undef => simp [V.cells] at hc
  | skp => simp [V.cells] at hc
  | «at» k b => simp [V.cells] at hc
  | clo f caps => simp [V.cells] at hc
/-- What an operation does: its effect on the state is one on the world. -/
def Sound (P : Program) (G : Ctx) (ok : Fr) (w0 : World) (N : Nat) (s : S) (a : Act) (w : World) (o : Oper) (e : Eff) : Prop :=
  e.fact ∧ ∃ v w' β' Ω', ((execOp a.eval o).run P w = .ok (.value v) w' ∨ ((execOp a.eval o).run P w = .ok .skip w' ∧ v = undef)) ∧ Rel G ok w0 N β' Ω' (e.act.run o.dst s) (a.put o.dst v) w'
theorem sound_val (h : Rel G ok w0 N β Ω s a w) {o : Oper} (hd : ∀ d, o.dst = some d → d < N) {v : V} {x : Value} {obl fact : Prop} {key : Option Nat} (hfact : fact)
    (hr : (execOp a.eval o).run P w = .ok (.value x) w) (hv : RV G ok w0 β Ω w v x) : Sound P G ok w0 N s a w o ⟨obl, fact, key, .val v⟩ :=
  ⟨hfact, x, w, β, Ω, .inl hr, h.put hd hv⟩
theorem sound_ok (h : Rel G ok w0 N β Ω s a w) {o : Oper} (hd : ∀ d, o.dst = some d → d < N) {v : V} {x : Value} {e : Eff} (he : Eff.ok v = some e)
    (hr : (execOp a.eval o).run P w = .ok (.value x) w) (hv : RV G ok w0 β Ω w v x) : Sound P G ok w0 N s a w o e := by
  simp only [Eff.ok, Option.some.injEq] at he
  subst he
  exact sound_val h hd trivial hr hv
theorem sound_move (h : Rel G ok w0 N β Ω s a w) {o : Oper} (hd : ∀ d, o.dst = some d → d < N) {x : Operand} (ho : o.op = .move x ∨ o.op = .assign x) {e : Eff} (he : moveE (evalO G s x) = some e) : Sound P G ok w0 N s a w o e := by
  have hv := eval_sound h x
  have hr : (execOp a.eval o).run P w = .ok (.value (a.eval x)) w := by rcases ho with ho | ho <;> simp [execOp, ho]
  generalize evalO G s x = v at he hv
  cases v <;> simp only [moveE] at he
  case undef => cases he
  case «at» => cases he
  all_goals exact sound_ok h hd he hr hv
theorem sound_pick (h : Rel G ok w0 N β Ω s a w) {o : Oper} (hd : ∀ d, o.dst = some d → d < N) {c x y : Operand} (ho : o.op = .pick c x y) {e : Eff} (he : pickE (evalO G s c) (evalO G s x) (evalO G s y) = some e) : Sound P G ok w0 N s a w o e := by
  have hc := eval_sound h c
  have hx := eval_sound h x
  have hy := eval_sound h y
  generalize evalO G s c = vc at he hc
  generalize evalO G s x = vx at he hx
  generalize evalO G s y = vy at he hy
  unfold pickE at he
  split at he
  · rename_i t
    have hc' : a.eval c = .bool t := hc
    have hr : (execOp a.eval o).run P w = .ok (.value (if t then a.eval x else a.eval y)) w := by
      cases t <;> simp [execOp, ho, hc', asBool]
    refine sound_ok h hd he hr ?_
    unfold pickV
    split
    · have h1 : a.eval x = _ := hx
      have h2 : a.eval y = _ := hy
      cases t
      · exact h2
      · exact h1
    · cases t
      · simpa using hy
      · simpa using hx
  · cases he
theorem sound_nil (hT : TyOk P G) (h : Rel G ok w0 N β Ω s a w) {o : Oper} (hd : ∀ d, o.dst = some d → d < N) (ho : o.op = .move (.const (.slice none 0 0)) ∨ o.op = .assign (.const (.slice none 0 0)))
    {t : TypeId} {ty : Option Ty} {e : Eff} (he : nilE t ty (o.dst.getD 0) = some e) (hf : FreshOk e s) : Sound P G ok w0 N s a w o e := by
  unfold nilE at he
  cases ty with
  | none => cases he
  | some ty =>
    simp only [Option.some.injEq] at he
    subst he
    have hr : (execOp a.eval o).run P w = .ok (.value (.slice none 0 0)) w := by rcases ho with ho | ho <;> simp [execOp, ho, Act.eval]
    cases hdst : o.dst with
    | none => exact ⟨trivial, _, w, β, Ω, .inl hr, by rw [hdst] at *; exact h⟩
    | some d =>
      have hf' : FreshP (s.del d) d := by
        have : FreshP (s.del (o.dst.getD 0)) (o.dst.getD 0) := hf
        rw [hdst] at this
        exact this
      have hsub : Rel G ok w0 N β Ω (s.del d) a w := by
        refine { h with env := fun i v hv => ?_ }
        have hv' : amLook i (delL d s.env) = some v := hv
        rw [look_del] at hv'
        split at hv'
        · cases hv'
        · exact h.env i v hv'
      have hc := hsub.create (k := d) hf' (Below.refl _ w) (fun j => if j = 0 then some (.slice none 0 0) else none) none
        (by intro j v b h1 h2; split at h1 <;> simp at h1; subst h1; simp [oblk] at h2) (by intro j j' v v' b h1 h2; split at h1 <;> simp at h1; subst h1; simp [oblk] at h2) (by simp) (by simp)
      have hp := hc.put (dst := some d) (v := .cell (.own d 0 t ty.size [])) (x := .slice none 0 0) (fun d' hd' => hd d' (hdst.trans hd')) ⟨by simp, by simp, by simp, [], World.ownsRow_nil _ _ _ _, .nil⟩
      refine ⟨trivial, _, w, (fun i => if i = d then none else β i), (fun i j => if i = d then (if j = 0 then some (.slice none 0 0) else none) else Ω i j), .inl hr, ?_⟩
      rw [hdst]
      refine { hp with env := fun i v hv => ?_ }
      have hv' : (if i = d then some (.cell (.own d 0 t ty.size [])) else amLook i s.env) = some v := hv
      refine hp.env i v ?_
      show (if i = d then some (V.cell (.own d 0 t ty.size [])) else amLook i (delL d s.env)) = some v
      rw [look_del]
      split at hv'
      · rename_i e; rw [if_pos e]; exact hv'
      · rename_i e; rw [if_neg e, if_neg e]; exact hv'
theorem Rel.addBox_aux {w : World} (h : Rel G ok w0 N β Ω s a w) {k b : Nat} {cs : List Cell} {vs : Array Value} {ty : TypeId} (hb : β k = some b) (hh : w.heap[b]? = some (.cells vs ty (0, 0)))
    (hc : RepCellL w (okF G ok w0.heap.size β Ω) w0.heap.size Ω cs vs.toList) : ∀ i ds, amLook i ((k, cs) :: s.box) = some ds → RBox w (okF G ok w0.heap.size β Ω) w0.heap.size β Ω i ds := by
  intro i ds hi
  rw [look_cons] at hi
  split at hi
  · rename_i e; subst e; injection hi with hi; subst hi; exact .inl ⟨b, vs, ty, hb, hh, hc⟩
  · exact h.box i ds hi
/-- A new box. -/
theorem Rel.addBox {w : World} (h : Rel G ok w0 N β Ω s a w) {k b : Nat} {cs : List Cell} {vs : Array Value} {ty : TypeId} (hb : β k = some b) (hh : w.heap[b]? = some (.cells vs ty (0, 0)))
    (hc : RepCellL w (okF G ok w0.heap.size β Ω) w0.heap.size Ω cs vs.toList) : Rel G ok w0 N β Ω { env := s.env, box := (k, cs) :: s.box } a w :=
  { h with box := h.addBox_aux hb hh hc }
theorem sound_box (h : Rel G ok w0 N β Ω s a w) {o : Oper} (hd : ∀ d, o.dst = some d → d < N) {t : TypeId} {x : Operand} (ho : o.op = .box t x) {e : Eff} (he : boxE (evalO G s x) (o.dst.getD 0) = some e) (hf : FreshOk e s) : Sound P G ok w0 N s a w o e := by
  unfold boxE at he
  split at he
  · rename_i cs hcs
    simp only [Option.some.injEq] at he
    subst he
    have hr : (execOp a.eval o).run P w = .ok (.value (.pointer (some ⟨w.heap.size, 0, none⟩))) (w.alloc (.cells (a.eval x).cells t)) := by
      simp [execOp, ho, Instr.box, newVar, newRow]
    have hbw : Below w.heap.size w (w.alloc (.cells (a.eval x).cells t)) := (Below.refl _ w).alloc (Nat.le_refl _) _
    have hc := h.create (k := o.dst.getD 0) hf hbw (fun _ => none) (some w.heap.size) (by simp) (by simp) (by simp) (by simp)
    have hx := cells_sound (eval_sound hc x) hcs
    have h2 := hc.addBox (k := o.dst.getD 0) (b := w.heap.size) (cs := cs) (vs := (a.eval x).cells) (ty := t) (by simp) (heap_alloc_new w _) hx
    exact ⟨trivial, _, _, _, _, .inl hr, h2.put (v := .ptr (o.dst.getD 0) 0) hd ⟨w.heap.size, by simp, rfl⟩⟩
  · cases he
def zeroF (zs : List Z) (j : Nat) : Option Value := match j with
  | 0 => none
  | j + 1 => match zs[j]? with
    | some (.sl _ _) => some (.slice none 0 0)
    | _ => none
theorem zeros_sound {F : Nat → Prop} {B d : Nat} {Ω : Nat → Nat → Option Value} {zs : List Z} {vs : List Value} (hz : ZOk G zs vs) : ∀ (i : Nat), (∀ j, zs.length > j → Ω d (i + j + 1) = zeroF zs (j + 1)) → RepCellL w F B Ω (zeros d i zs) vs := by
  have step : ∀ {z : Z} {zs : List Z} {i : Nat}, (∀ j, (z :: zs).length > j → Ω d (i + j + 1) = zeroF (z :: zs) (j + 1)) → (∀ j, zs.length > j → Ω d (i + 1 + j + 1) = zeroF zs (j + 1)) := by
    intro z zs i h j hj
    have := h (j + 1) (by simp; omega)
    rw [show i + 1 + j + 1 = i + (j + 1) + 1 by omega, this]
    rfl
  induction hz with
  | nil => intro i _; exact .nil
  | int k _ ih => intro i h; exact .cons (show RepC w F (.int k 0) (.int k 0) from rfl) (ih (i + 1) (step h))
  | bool _ ih => intro i h; exact .cons (show RepC w F (.bool false) (.bool false) from rfl) (ih (i + 1) (step h))
  | str _ ih => intro i h; exact .cons (show RepC w F (.str []) (.string ⟨#[]⟩) from ⟨rfl, by simp⟩) (ih (i + 1) (step h))
  | sl e z _ ih =>
    intro i h
    refine .cons ?_ (ih (i + 1) (step h))
    have h0 := h 0 (by simp)
    exact ⟨h0, by simp, by simp, [], World.ownsRow_nil _ _ _ _, .nil⟩
  | nilp _ ih => intro i h; exact .cons (show RepC w F .nilp (.pointer none) from rfl) (ih (i + 1) (step h))
  | nilm _ ih => intro i h; exact .cons (show RepC w F .nilm (.map none) from rfl) (ih (i + 1) (step h))
  | nilf _ ih => intro i h; exact .cons (show RepC w F (.val .nilFunc) .nilFunc from ⟨rfl, rfl, rfl⟩) (ih (i + 1) (step h))
theorem Rel.zeros (h : Rel G ok w0 N β Ω s a w) {w' : World} {k : Nat} (hf : FreshP s k) (hb : Below w.heap.size w w') (zs : List Z) (c : Option Nat) (hcB : ∀ b, c = some b → w.heap.size ≤ b ∧ b < w'.heap.size) :
    Rel G ok w0 N (fun i => if i = k then c else β i) (fun i j => if i = k then zeroF zs j else Ω i j) s a w' := by
  have hz : ∀ j v b, zeroF zs j = some v → oblk v = some b → False := by
    intro j v b h1 h2
    unfold zeroF at h1
    split at h1
    · cases h1
    · split at h1
      · injection h1 with h1; subst h1; simp [oblk] at h2
      · cases h1
  exact h.create hf hb (zeroF zs) c (fun j v b h1 h2 => (hz j v b h1 h2).elim) (fun j j' v v' b h1 h2 => (hz j v b h1 h2).elim) hcB (fun b j v _ h1 h2 => hz j v b h1 h2)
theorem sound_alloc (hT : TyOk P G) (h : Rel G ok w0 N β Ω s a w) {o : Oper} (hd : ∀ d, o.dst = some d → d < N) {t : TypeId} (ho : o.op = .alloc t) {e : Eff} (he : allocE (G.ty t) (o.dst.getD 0) = some e) (hf : FreshOk e s) : Sound P G ok w0 N s a w o e := by
  unfold allocE at he
  split at he
  · rename_i ty hty
    simp only [Option.some.injEq] at he
    subst he
    obtain ⟨i, z, hi, hsz, hby, hz, hzo, hzs, hpos, hbp⟩ := hT.info t ty hty
    have hr : (execOp a.eval o).run P w = .ok (.value (.pointer (some ⟨w.heap.size, 0, none⟩))) (w.alloc (.cells z.cells t)) := by
      simp [execOp, ho, Instr.alloc, zeroValue, typeInfo, hi, hz, newVar, newRow]
    have hbw : Below w.heap.size w (w.alloc (.cells z.cells t)) := (Below.refl _ w).alloc (Nat.le_refl _) _
    have hc := h.zeros (k := o.dst.getD 0) hf hbw ty.zero (some w.heap.size) (by simp)
    have h2 := hc.addBox (k := o.dst.getD 0) (b := w.heap.size) (cs := Am.zeros (o.dst.getD 0) 0 ty.zero) (vs := z.cells) (ty := t) (by simp) (heap_alloc_new w _) (zeros_sound hzo 0 (fun j _ => by simp))
    exact ⟨trivial, _, _, _, _, .inl hr, h2.put (v := .ptr (o.dst.getD 0) 0) hd ⟨w.heap.size, by simp, rfl⟩⟩
  · cases he
end
end Go.Proofs.Am
namespace Go.Proofs.Am
open Go.RowKit
section
variable {P : Program} {G : Ctx} {ok : Fr} {w0 : World} {N : Nat} {β : Nat → Option Nat} {Ω : Nat → Nat → Option Value} {s : S} {a : Act} {w : World}
def TK.isAgg : TK → Bool
  | .struct _ | .array _ _ => true
  | _ => false
theorem run_isAgg (hT : TyOk P G) {t : TypeId} {d : Ty} (ht : G.ty t = some d) (w : World) : (Go.isAgg t).run P w = .ok d.k.isAgg w := by
  have h := hT.und t d ht
  unfold UndOk at h
  cases hk : d.k <;> simp only [hk] at h
  case int k => simp [Go.isAgg, run_underlying h.1, TK.isAgg]
  case bool => simp [Go.isAgg, run_underlying h.1, TK.isAgg]
  case str => simp [Go.isAgg, run_underlying h.1, TK.isAgg]
  case slice e => simp [Go.isAgg, run_underlying h.1, TK.isAgg]
  case map k e => simp [Go.isAgg, run_underlying h.1, TK.isAgg]
  case ptr e => simp [Go.isAgg, run_underlying h.1, TK.isAgg]
  case struct offs => obtain ⟨fs, h1, _⟩ := h; simp [Go.isAgg, run_underlying h1, TK.isAgg]
  case array n e => simp [Go.isAgg, run_underlying h, TK.isAgg]
  case other =>
    obtain ⟨⟨x, h1, h2⟩, _⟩ := h
    cases x <;> first | (exact h2.elim) | simp [Go.isAgg, run_underlying h1, TK.isAgg]
theorem run_size (hT : TyOk P G) {t : TypeId} {d : Ty} (ht : G.ty t = some d) (w : World) : (sizeOf t).run P w = .ok d.size w := by
  obtain ⟨i, z, hi, hs, _⟩ := hT.info t d ht
  simp [sizeOf, typeInfo, hi, hs]
theorem run_load_agg (hT : TyOk P G) {t : TypeId} {d : Ty} (ht : G.ty t = some d) (hk : d.k.isAgg = true) (ad : Addr) (vs : List Value) (hl : vs.length = d.size) (hc : ∀ j v, vs[j]? = some v → w.cell? (ad.add j) = some v) :
    (loadVar t ad).run P w = .ok (.agg vs.toArray) w := by
  have h1 := run_loadCells_list (P := P) w ad vs hc
  rw [hl] at h1
  simp only [loadVar, Sem.run_bind, run_isAgg hT ht, hk, Result.andThen_ok, if_true, run_size hT ht, h1, Sem.run_pure]
theorem run_load_one (hT : TyOk P G) {t : TypeId} {d : Ty} (ht : G.ty t = some d) (hk : d.k.isAgg = false) (ad : Addr) {v : Value} (hc : w.cell? ad = some v) :
    (loadVar t ad).run P w = .ok v w := by
  simp [loadVar, Sem.run_bind, run_isAgg hT ht, hk, run_load, hc]
theorem cell_at {w : World} {b : Nat} {vs : Array Value} {ty : TypeId} (hh : w.heap[b]? = some (.cells vs ty (0, 0))) (o : Nat) : w.cell? ⟨b, o, none⟩ = vs[o]? := by
  simp [World.cell?, hh]
theorem sound_load (hT : TyOk P G) (h : Rel G ok w0 N β Ω s a w) {o : Oper} (hd : ∀ d, o.dst = some d → d < N) {t : TypeId} {x : Operand} (ho : o.op = .load t x) {e : Eff} (he : loadE (G.ty t) (evalO G s x) (fun k => amLook k s.box) = some e) (hob : e.obl) : Sound P G ok w0 N s a w o e := by
  have hx := eval_sound h x
  generalize evalO G s x = v at he hx
  have run_of : ∀ {ad : Addr} {u : Value}, a.eval x = .pointer (some ad) → (loadVar t ad).run P w = .ok u w → (execOp a.eval o).run P w = .ok (.value u) w := by
    intro ad u h1 h2
    simp [execOp, ho, Instr.loadAt, Instr.sureAddr, h1, h2]
  cases hty : G.ty t with
  | none => rw [hty] at he; simp [loadE] at he
  | some d =>
    rw [hty] at he
    obtain ⟨kk, n, by_, z⟩ := d
    cases v with
    | ptr k off =>
      obtain ⟨b, hb, hv⟩ := hx
      cases hbx : amLook k s.box with
      | none => cases kk <;> simp [loadE, hbx] at he
      | some cs =>
        obtain ⟨vs, ty, hh, hl⟩ := h.boxB hb hbx
        have one : kk.isAgg = false → (∀ y, cs[off]? = some y → Eff.ok (.cell y) = some e → Sound P G ok w0 N s a w o e) := by
          intro hk y hy hee
          obtain ⟨u, hu, hr⟩ := hl.get hy
          refine sound_ok h hd hee (run_of hv (run_load_one hT hty hk _ ?_)) hr
          rw [cell_at hh]
          simpa using hu
        cases kk
        case struct offs =>
          simp only [loadE, hbx, Option.some.injEq] at he
          subst he
          have hob' : off + n ≤ cs.length := hob
          have hlen := hl.length
          refine sound_val h hd trivial (x := .agg ((vs.toList.drop off).take n).toArray) (run_of hv (run_load_agg hT hty rfl _ _ ?_ ?_)) ⟨_, rfl, (hl.drop off).take n⟩
          · simp only [List.length_take, List.length_drop]; omega
          · intro j u hj
            rw [aplain, cell_at hh]
            rw [List.getElem?_take] at hj
            split at hj
            · simpa using hj
            · cases hj
        case array m el => simp [loadE] at he
        all_goals
          simp only [loadE, hbx] at he
          cases hy : cs[off]? with
          | none => rw [hy] at he; cases he
          | some y => rw [hy] at he; exact one rfl y hy he
    | ref cs =>
      obtain ⟨ad, hv, hok, hlt, hc⟩ := hx
      cases kk
      case struct offs =>
        simp only [loadE, Option.some.injEq] at he
        subst he
        have hob' : n ≤ cs.length := hob
        obtain ⟨vs, hl, hcell⟩ := RepCells.load hc
        have hlen := hl.length
        have hl2 : RepL w (okF G ok w0.heap.size β Ω) (cs.take n) (vs.take n) := by
          have := (show RepL w _ (cs.take n ++ cs.drop n) vs by rw [List.take_append_drop]; exact hl).split.1
          rwa [List.length_take, Nat.min_eq_left hob'] at this
        refine sound_val h hd trivial (x := .agg (vs.take n).toArray) (run_of hv (run_load_agg hT hty rfl _ _ ?_ ?_)) ⟨_, rfl, RepCellL.of hl2⟩
        · simp only [List.length_take]; omega
        · intro j u hj
          rw [List.getElem?_take] at hj
          split at hj
          · have := hcell j u hj; simpa using this
          · cases hj
      case array m el => simp [loadE] at he
      all_goals
        cases cs with
        | nil => simp [loadE] at he
        | cons y r =>
          simp only [loadE] at he
          obtain ⟨⟨u, hu, hr⟩, _⟩ := hc
          exact sound_ok h hd he (run_of hv (run_load_one hT hty rfl _ (by simpa [azero] using hu))) hr
    | _ => cases kk <;> simp [loadE] at he
theorem sound_nilCheck (h : Rel G ok w0 N β Ω s a w) {o : Oper} (hd : ∀ d, o.dst = some d → d < N) {x : Operand} (ho : o.op = .nilCheck x) {e : Eff} (he : nilCheckE (evalO G s x) = some e) : Sound P G ok w0 N s a w o e := by
  have hx := eval_sound h x
  generalize evalO G s x = v at he hx
  cases v <;> simp only [nilCheckE] at he <;> try cases he
  case ptr k off =>
    obtain ⟨b, hb, hv⟩ := hx
    exact sound_ok h hd rfl (by simp [execOp, ho, hv]) ⟨b, hb, hv⟩
  case ref cs =>
    obtain ⟨ad, hv, hr⟩ := hx
    exact sound_ok h hd rfl (x := a.eval x) (by simp [execOp, ho, hv]) ⟨ad, hv, hr⟩
theorem fields_get {fs : Array Field} {offs : List (Nat × Nat)} (h : fs.toList.mapM (fun f => (P.info? f.type).map fun i => (f.offset, i.size)) = some offs) {i : Nat} {p : Nat × Nat} (hp : offs[i]? = some p) :
    ∃ f ti, fs[i]? = some f ∧ f.offset = p.1 ∧ P.info? f.type = some ti ∧ ti.size = p.2 := by
  have key : ∀ (l : List Field) (offs : List (Nat × Nat)), l.mapM (fun f => (P.info? f.type).map fun i => (f.offset, i.size)) = some offs → ∀ {i : Nat} {p : Nat × Nat}, offs[i]? = some p → ∃ f ti, l[i]? = some f ∧ f.offset = p.1 ∧ P.info? f.type = some ti ∧ ti.size = p.2 := by
    intro l
    induction l with
    | nil => intro offs h i p hp; simp at h; subst h; simp at hp
    | cons f r ih =>
      intro offs h i p hp
      simp only [List.mapM_cons, Option.bind_eq_bind, Option.pure_def] at h
      cases hi : P.info? f.type with
      | none => simp [hi] at h
      | some ti =>
        cases hr : r.mapM (fun f => (P.info? f.type).map fun i => (f.offset, i.size)) with
        | none => simp [hi, hr] at h
        | some rest =>
          simp [hi, hr] at h
          subst h
          cases i with
          | zero => simp at hp; subst hp; exact ⟨f, ti, rfl, rfl, hi, rfl⟩
          | succ i => simp at hp; obtain ⟨f', ti', h1, h2⟩ := ih rest hr hp; exact ⟨f', ti', by simpa using h1, h2⟩
  obtain ⟨f, ti, h1, h2⟩ := key fs.toList offs h hp
  exact ⟨f, ti, by simpa using h1, h2⟩
theorem run_field (hT : TyOk P G) {t : TypeId} {offs : List (Nat × Nat)} {n by_ : Nat} {z : List Z} (ht : G.ty t = some ⟨.struct offs, n, by_, z⟩) {i : Nat} {p : Nat × Nat} (hp : offs[i]? = some p) (ad : Addr) :
    (Instr.fieldAt t (.pointer (some ad)) i).run P w = .ok (.pointer (some (ad.add p.1))) w := by
  obtain ⟨fs, h1, h2, h3⟩ := hT.und t _ ht
  obtain ⟨f, ti, hf, ho, hi, hs⟩ := fields_get h2 hp
  have hne : ti.size ≠ 0 := by rw [hs]; exact h3 p (List.mem_of_getElem? hp)
  simp [Instr.fieldAt, run_underlying h1, hf, Instr.sureAddr, fieldPlace, sizeOf, typeInfo, hi, hne, ho]
theorem sound_field (hT : TyOk P G) (h : Rel G ok w0 N β Ω s a w) {o : Oper} (hd : ∀ d, o.dst = some d → d < N) {t : TypeId} {x : Operand} {i : Nat} (ho : o.op = .fieldAddr t x i) {e : Eff} (he : fieldE (G.ty t) (evalO G s x) i = some e) : Sound P G ok w0 N s a w o e := by
  have hx := eval_sound h x
  generalize evalO G s x = v at he hx
  unfold fieldE at he
  split at he
  · rename_i _ _ offs n by_ z k off hty
    split at he
    · rename_i f hf
      obtain ⟨b, hb, hv'⟩ := hx
      refine sound_ok h hd he (x := .pointer (some ((⟨b, off, none⟩ : Addr).add f.1))) ?_ ⟨b, hb, by rw [aplain]⟩
      simp [execOp, ho, hv', run_field hT hty hf]
    · cases he
  · rename_i _ _ offs n by_ z cs hty
    split at he
    · rename_i f hf
      obtain ⟨ad, hv', hok, hlt, hc⟩ := hx
      refine sound_ok h hd he (x := .pointer (some (ad.add f.1))) ?_ ⟨ad.add f.1, rfl, by rw [ablock]; exact hok, by rw [ablock]; exact hlt, ?_⟩
      · simp [execOp, ho, hv', run_field hT hty hf]
      · rw [RepCells.shift]
        have := RepCells.drop f.1 hc
        simpa using this
    · cases he
  · cases he
theorem sound_extract (h : Rel G ok w0 N β Ω s a w) {o : Oper} (hd : ∀ d, o.dst = some d → d < N) {x : Operand} {i : Nat} (ho : o.op = .extract x i) {e : Eff} (he : extractE (evalO G s x) i = some e) : Sound P G ok w0 N s a w o e := by
  have hx := eval_sound h x
  generalize evalO G s x = v at he hx
  cases v <;> simp only [extractE] at he <;> try cases he
  rename_i l
  obtain ⟨vs, hv, hr⟩ := hx
  have key : ∀ {l : List A} {vs : List Value} {F : Nat → Prop}, RepAs w F l vs → ∀ {i : Nat} {y : A}, l[i]? = some y → ∃ u, vs[i]? = some u ∧ RepA w F y u := by
    intro l vs F hr
    induction hr with
    | nil => intro i y hy; simp at hy
    | cons h _ ih =>
      intro i y hy
      cases i with
      | zero => simp at hy; subst hy; exact ⟨_, rfl, h⟩
      | succ i => simp at hy; exact ih hy
  cases hy : l[i]? with
  | none => rw [hy] at he; cases he
  | some y =>
    rw [hy] at he
    obtain ⟨u, hu, hru⟩ := key hr hy
    refine sound_ok h hd he (x := u) (by simp [execOp, ho, hv, Instr.extract, hu]) ?_
    cases y with
    | c x => exact hru
    | agg cs => obtain ⟨us, h1, h2⟩ := hru; exact ⟨us, h1, RepCellL.of h2⟩
    | ref cs => exact hru
theorem sound_un (h : Rel G ok w0 N β Ω s a w) {o : Oper} (hd : ∀ d, o.dst = some d → d < N) {op : UnOp} {t : TypeId} {x : Operand} (ho : o.op = .unOp op t x) {e : Eff} (he : unE op (evalO G s x) = some e) : Sound P G ok w0 N s a w o e := by
  have hx := eval_sound h x
  generalize evalO G s x = v at he hx
  unfold unE at he
  split at he
  · have hv : a.eval x = _ := hx
    exact sound_ok h hd he (by simp [execOp, ho, hv, Op.unary]) rfl
  · have hv : a.eval x = _ := hx
    exact sound_ok h hd he (by simp [execOp, ho, hv, Op.unary, Op.intArith]) (rv_int _ _)
  · cases he
theorem sound_conv (hT : TyOk P G) (h : Rel G ok w0 N β Ω s a w) {o : Oper} (hd : ∀ d, o.dst = some d → d < N) {t u : TypeId} {x : Operand} (ho : o.op = .convert t u x) {e : Eff} (he : convE (G.ty t) (G.ty u) (evalO G s x) = some e) : Sound P G ok w0 N s a w o e := by
  have hx := eval_sound h x
  generalize evalO G s x = v at he hx
  unfold convE at he
  split at he
  · rename_i k1 n1 b1 z1 k2 n2 b2 z2 kk n ht hu
    have hv : a.eval x = _ := hx
    have h1 := (hT.und t _ ht).1
    have h2 := (hT.und u _ hu).1
    exact sound_ok h hd he (x := .int k2 (k2.wrap n)) (by simp [execOp, ho, hv, convert, run_underlying h1, run_underlying h2, Conv.intToInt]) rfl
  · cases he
end
end Go.Proofs.Am
namespace Go.Proofs.Am
open Go.RowKit
section
variable {P : Program} {G : Ctx} {ok : Fr} {w0 : World} {N : Nat} {β : Nat → Option Nat} {Ω : Nat → Nat → Option Value} {s : S} {a : Act} {w : World}
theorem wrap_id (z : Int) (h1 : -9223372036854775808 ≤ z) (h2 : z ≤ 9223372036854775807) : IntKind.i64.wrap z = z := by
  rw [IntKind.wrap_i64]
  omega
theorem bytes_toList (l : List UInt8) : (⟨l.toArray⟩ : ByteArray).toList = l := ByteArray.toList_mk l
theorem bytes_append (p q : List UInt8) : (⟨p.toArray⟩ : ByteArray) ++ ⟨q.toArray⟩ = ⟨(p ++ q).toArray⟩ := ByteArray.mk_append_mk p q
theorem run_equal_bool (t : TypeId) (m n : Bool) (h : P.underlying t = some .bool) : (Op.equal t (.bool m) (.bool n)).run P w = .ok (m == n) w := run_equalIn_bool' w 9999 t m n h
theorem rv_str {p : List UInt8} {v : Value} (h : RV G ok w0 β Ω w (.cell (.c (.str p))) v) : v = .string ⟨p.toArray⟩ ∧ p.length ≤ maxLen := h
theorem fits_exact {F : Nat → Prop} {B : Nat} {zs : List Z} {cs : List Cell} {vs : List Value} (h : RepCellL w F B Ω cs vs) (hf : fits zs cs = true) : vs = cs.map Cell.exact := by
  induction h generalizing zs with
  | nil => rfl
  | cons hx hr ih =>
    rename_i x v l vs
    cases zs with
    | nil => cases x <;> cases hf
    | cons z zs =>
      cases x with
      | c y =>
        simp only [fits, Bool.and_eq_true] at hf
        have hv : v = y.exact := by
          cases y with
          | int k n => exact hx
          | bool b => exact hx
          | str q => exact hx.1
          | _ => cases z <;> cases hf.1
        rw [hv, ih hf.2]; rfl
      | _ => cases hf
theorem sound_bin (hT : TyOk P G) (h : Rel G ok w0 N β Ω s a w) {o : Oper} (hd : ∀ d, o.dst = some d → d < N) {op : BinOp} {t t' : TypeId} {x y : Operand} (ho : o.op = .binOp op t x y t') {e : Eff} (he : binE (G.flat t) (G.ty t) op (evalO G s x) (evalO G s y) = some e) (hob : e.obl) : Sound P G ok w0 N s a w o e := by
  have hx := eval_sound h x
  have hy := eval_sound h y
  generalize evalO G s x = v at he hx
  generalize evalO G s y = u at he hy
  unfold binE at he
  split at he
  · rename_i k m k' n
    have hv : a.eval x = .int k m := hx
    have hu : a.eval y = .int k' n := hy
    split at he
    · rename_i hk
      subst hk
      have run : ∀ {z : Value}, (Go.binOp op t (.int k m) (.int k n)).run P w = .ok z w → (execOp a.eval o).run P w = .ok (.value z) w := by
        intro z hz
        simp [execOp, ho, hv, hu, eqGuard, hz]
      have arith : ∀ z : Int, (Go.binOp op t (.int k m) (.int k n)).run P w = .ok (.int k (k.wrap z)) w → intArith k z = some e → Sound P G ok w0 N s a w o e := by
        intro z hz hee
        unfold intArith at hee
        split at hee
        · simp only [Option.some.injEq] at hee
          subst hee
          have hb : -9223372036854775808 ≤ z ∧ z ≤ 9223372036854775807 := hob
          exact sound_val h hd trivial (run (by rw [hz, wrap_id z hb.1 hb.2])) (rv_int _ _)
        · exact sound_ok h hd hee (run hz) (rv_int _ _)
      unfold intBin at he
      split at he
      · exact arith (m + n) (by simp [Go.binOp, Op.intArith]) he
      · exact arith (m - n) (by simp [Go.binOp, Op.intArith]) he
      · exact arith (m * n) (by simp [Go.binOp, Op.intArith]) he
      · simp only [Option.some.injEq] at he
        subst he
        have hb : n ≠ 0 := hob
        exact sound_val h hd trivial (run (by simp [Go.binOp, Op.intDiv, hb])) (rv_int _ _)
      · simp only [Option.some.injEq] at he
        subst he
        have hb : n ≠ 0 := hob
        exact sound_val h hd trivial (run (by simp [Go.binOp, Op.intDiv, hb])) (rv_int _ _)
      · exact sound_ok h hd he (run (by simp [Go.binOp, Op.intCmp])) (rv_bool _)
      · exact sound_ok h hd he (run (by simp [Go.binOp, Op.intCmp])) (rv_bool _)
      · exact sound_ok h hd he (run (by simp [Go.binOp, Op.intCmp])) (rv_bool _)
      · exact sound_ok h hd he (run (by simp [Go.binOp, Op.intCmp])) (rv_bool _)
      · exact sound_ok h hd he (run (by simp [Go.binOp, Op.intCmp])) (rv_bool _)
      · exact sound_ok h hd he (run (by simp [Go.binOp, Op.intCmp])) (rv_bool _)
      · cases he
    · cases he
  · rename_i p q
    obtain ⟨hv, hlp⟩ := rv_str hx
    obtain ⟨hu, hlq⟩ := rv_str hy
    have run : ∀ {z : Value}, (Go.binOp op t (.string ⟨p.toArray⟩) (.string ⟨q.toArray⟩)).run P w = .ok z w → (execOp a.eval o).run P w = .ok (.value z) w := by
      intro z hz
      simp [execOp, ho, hv, hu, eqGuard, hz]
    unfold strBin at he
    split at he
    · simp only [Option.some.injEq] at he
      subst he
      have hb : p.length + q.length ≤ 9223372036854775807 := hob
      refine sound_val h hd trivial (x := .string ⟨(p ++ q).toArray⟩) (run ?_) ⟨rfl, by rw [List.length_append]; simp only [maxLen]; omega⟩
      have h2 := run_string_add_sum (P := P) (w := w) ⟨p.toArray⟩ ⟨q.toArray⟩ (by show p.toArray.size + q.toArray.size ≤ _; simp only [List.size_toArray]; exact hb)
      rw [← bytes_append]
      simpa [Go.binOp] using h2
    · exact sound_ok h hd he (x := .bool (p == q)) (run (by simp [Go.binOp, Op.stringOp, bytes_toList])) (rv_bool _)
    · exact sound_ok h hd he (x := .bool (!(p == q))) (run (by simp [Go.binOp, Op.stringOp, bytes_toList])) (rv_bool _)
    · cases he
  · rename_i m n
    have hv : a.eval x = .bool m := hx
    have hu : a.eval y = .bool n := hy
    split at he
    · rename_i hty
      have hund := (hT.und t _ hty).1
      have run : ∀ {z : Value}, (Go.binOp op t (.bool m) (.bool n)).run P w = .ok z w → (execOp a.eval o).run P w = .ok (.value z) w := by
        intro z hz
        simp [execOp, ho, hv, hu, eqGuard, hz]
      unfold boolBin at he
      split at he
      · exact sound_ok h hd he (x := .bool (m == n)) (run (by simp [Go.binOp, run_equal_bool t m n hund])) (rv_bool _)
      · exact sound_ok h hd he (x := .bool (!(m == n))) (run (by simp [Go.binOp, run_equal_bool t m n hund])) (rv_bool _)
      · cases he
    · cases he
  · rename_i xs ys
    obtain ⟨vs, hv, hl⟩ := hx
    obtain ⟨us, hu, hm⟩ := hy
    have hv : a.eval x = .agg vs.toArray := hv
    have hu : a.eval y = .agg us.toArray := hu
    have go : ∀ d, G.flat t = true → G.ty t = some d → (fits d.zero xs = true ∧ fits d.zero ys = true) → P.eqGuardType P.depth t = false ∧ (Op.equalIn 10000 t (.agg vs.toArray) (.agg us.toArray)).run P w = .ok (sameL xs ys) w := by
      intro d hfl hty hf
      obtain ⟨h1, h2⟩ := hT.flat t d hty hfl
      rw [fits_exact hl hf.1, fits_exact hm hf.2]
      exact ⟨h1, h2 w xs ys hf.1 hf.2⟩
    unfold aggE at he
    split at he
    · rename_i d hfl hty
      simp only [Option.some.injEq] at he
      subst he
      obtain ⟨h1, h2⟩ := go d hfl hty hob
      refine sound_val h hd trivial (x := .bool (sameL xs ys)) ?_ (rv_bool _)
      simp [execOp, ho, hv, hu, run_eqGuard_agg w _ _ _ _ _ _ h1, run_eql_struct, h2]
    · rename_i d hfl hty
      simp only [Option.some.injEq] at he
      subst he
      obtain ⟨h1, h2⟩ := go d hfl hty hob
      refine sound_val h hd trivial (x := .bool (!sameL xs ys)) ?_ (rv_bool _)
      simp [execOp, ho, hv, hu, run_eqGuard_agg w _ _ _ _ _ _ h1, run_neq_struct, h2]
    · cases he
  · cases he
end
end Go.Proofs.Am
namespace Go.Proofs.Am
open Go.RowKit
section
variable {P : Program} {G : Ctx} {ok : Fr} {w0 : World} {N : Nat} {β : Nat → Option Nat} {Ω : Nat → Nat → Option Value} {s : S} {a : Act} {w : World}
theorem run_und_slice (hT : TyOk P G) {t e : TypeId} {n b : Nat} {z : List Z} (ht : G.ty t = some ⟨.slice e, n, b, z⟩) (w : World) : (underlying t).run P w = .ok (.slice e) w := run_underlying (hT.und t _ ht).1 w
theorem rv_slice {v : V} {x : Value} {rows : List (List C)} (hr : rowsOf v = some rows) (h : RV G ok w0 β Ω w v x) : ∃ A n cap, x = .slice A n cap ∧ n = rows.length ∧ n ≤ maxLen := by
  unfold rowsOf at hr
  split at hr
  · injection hr with hr; subst hr
    obtain ⟨A, n, cap, hv, hn, hm, _⟩ := h
    exact ⟨A, n, cap, hv, hn, Nat.le_trans hm.1 hm.2⟩
  · injection hr with hr; subst hr
    obtain ⟨_, _, hm, xs, ho, _⟩ := h
    rcases ho.2 with ⟨rfl, h0⟩ | ⟨g, cap, cur, rfl, _⟩
    · exact ⟨none, 0, 0, rfl, h0.symm, by omega⟩
    · exact ⟨some ⟨g, 0, none⟩, _, cap, rfl, rfl, hm⟩
  · cases hr
theorem sound_index (hT : TyOk P G) (h : Rel G ok w0 N β Ω s a w) {o : Oper} (hd : ∀ d, o.dst = some d → d < N) {t : TypeId} {x i : Operand} (ho : o.op = .indexAddr t x i) {e : Eff} (he : indexE G (G.ty t) (evalO G s x) (evalO G s i) = some e) (hob : e.obl) : Sound P G ok w0 N s a w o e := by
  have hx := eval_sound h x
  have hi := eval_sound h i
  generalize evalO G s x = v at he hx
  generalize evalO G s i = u at he hi
  unfold indexE at he
  split at he
  · rename_i _ _ _ el n1 b1 z1 sz rows n hty
    have hi' : a.eval i = .int .i64 n := hi
    split at he
    · rename_i ty hel
      simp only [Option.some.injEq] at he
      subst he
      obtain ⟨h1, h2, h3⟩ := hob
      obtain ⟨A, m, cap, hv, hm, _, hr⟩ := hx
      rcases hr with hr | ⟨ad, hA, hok, hlt, hrows⟩
      · subst hr; simp at h3; omega
      · subst hA
        have hlt2 : n.toNat < rows.length := by omega
        obtain ⟨hlen, hc⟩ := RepRows.at hrows hlt2
        refine sound_val h hd trivial (x := .pointer (some (ad.add (n.toNat * ty.size)))) ?_ ⟨_, rfl, by rw [ablock]; exact hok, by rw [ablock]; exact hlt, ?_⟩
        · have hb : 0 ≤ n ∧ n < (m : Int) := ⟨h2, by rw [hm]; exact h3⟩
          simp [execOp, ho, hv, hi', Instr.indexAt, asIntOf, run_und_slice hT hty, run_size hT hel, hb]
        · rw [RepCells.shift, Nat.add_zero, ← h1]
          simpa using hc
    · cases he
  · rename_i _ _ _ len el n1 b1 z1 cs n hty
    have hi' : a.eval i = .int .i64 n := hi
    split at he
    · rename_i ty hel
      simp only [Option.some.injEq] at he
      subst he
      obtain ⟨h2, h3⟩ := hob
      obtain ⟨ad, hv, hok, hlt, hc⟩ := hx
      have hund : P.underlying t = some (.array len el) := hT.und t _ hty
      refine sound_val h hd trivial (x := .pointer (some (ad.add (n.toNat * ty.size)))) ?_ ⟨_, rfl, by rw [ablock]; exact hok, by rw [ablock]; exact hlt, ?_⟩
      · simp [execOp, ho, hv, hi', Instr.indexAt, asIntOf, run_underlying hund, Instr.sureAddr, run_size hT hel, h2, h3]
      · rw [RepCells.shift, Nat.add_zero]
        have := RepCells.drop (n.toNat * ty.size) hc
        simpa using this
    · cases he
  · cases he
theorem size_mk (l : List UInt8) : (⟨l.toArray⟩ : ByteArray).size = l.length := by show l.toArray.size = _; simp
theorem sound_len (hT : TyOk P G) (h : Rel G ok w0 N β Ω s a w) {o : Oper} (hd : ∀ d, o.dst = some d → d < N) {t : TypeId} {x : Operand} (ho : o.op = .call { callee := .builtin .len, args := #[x], argTypes := #[t] }) {e : Eff} (he : lenE (G.ty t) (evalO G s x) = some e) : Sound P G ok w0 N s a w o e := by
  have hx := eval_sound h x
  generalize evalO G s x = v at he hx
  unfold lenE at he
  split at he
  · rename_i _ _ n1 b1 z1 l hty
    simp only [Option.some.injEq] at he
    subst he
    obtain ⟨hv, hl⟩ := rv_str hx
    have hund := (hT.und t _ hty).1
    refine sound_val h hd (by simp only [maxLen] at hl; omega) (x := .int .i64 l.length) ?_ (rv_int _ _)
    simp [execOp, ho, resolve, invoke, builtin, hv, Builtin.len_, run_underlying hund, goInt, size_mk]
  · rename_i _ _ el n1 b1 z1 hty
    split at he
    · rename_i rows hr
      simp only [Option.some.injEq] at he
      subst he
      obtain ⟨A, n, cap, hv, hn, hm⟩ := rv_slice hr hx
      refine sound_val h hd (by simp only [maxLen] at hm; omega) (x := .int .i64 rows.length) ?_ (rv_int _ _)
      simp [execOp, ho, resolve, invoke, builtin, hv, Builtin.len_, run_und_slice hT hty, goInt, hn]
    · cases he
  · cases he
theorem sound_max (h : Rel G ok w0 N β Ω s a w) {o : Oper} (hd : ∀ d, o.dst = some d → d < N) {args : Array Operand} {ts : Array TypeId} (ho : o.op = .call { callee := .builtin .max, args := args, argTypes := ts }) {e : Eff} (he : maxE (args.toList.map (evalO G s)) = some e) : Sound P G ok w0 N s a w o e := by
  obtain ⟨l⟩ := args
  unfold maxE at he
  split at he
  · rename_i k m k' n heq
    have hl : ∃ x y, l = [x, y] ∧ evalO G s x = .cell (.c (.int k m)) ∧ evalO G s y = .cell (.c (.int k' n)) := by
      rcases l with _ | ⟨x, _ | ⟨y, _ | ⟨z, r⟩⟩⟩ <;> simp at heq
      exact ⟨x, y, rfl, heq.1, heq.2⟩
    obtain ⟨x, y, rfl, h1, h2⟩ := hl
    have hx := eval_sound h x
    have hy := eval_sound h y
    rw [h1] at hx
    rw [h2] at hy
    have hv : a.eval x = .int k m := hx
    have hu : a.eval y = .int k' n := hy
    split at he
    · rename_i hk
      subst hk
      refine sound_ok h hd he (x := .int k (if n > m then n else m)) ?_ (rv_int _ _)
      simp [execOp, ho, resolve, invoke, builtin, hv, hu, Builtin.max_, Builtin.max2]
    · cases he
  · rename_i k m k' n k'' q heq
    have hl : ∃ x y z, l = [x, y, z] ∧ evalO G s x = .cell (.c (.int k m)) ∧ evalO G s y = .cell (.c (.int k' n)) ∧ evalO G s z = .cell (.c (.int k'' q)) := by
      rcases l with _ | ⟨x, _ | ⟨y, _ | ⟨z, _ | ⟨u, r⟩⟩⟩⟩ <;> simp at heq
      exact ⟨x, y, z, rfl, heq.1, heq.2.1, heq.2.2⟩
    obtain ⟨x, y, z, rfl, h1, h2, h3⟩ := hl
    have hx := eval_sound h x
    have hy := eval_sound h y
    have hz := eval_sound h z
    rw [h1] at hx
    rw [h2] at hy
    rw [h3] at hz
    have hv : a.eval x = .int k m := hx
    have hu : a.eval y = .int k' n := hy
    have ht : a.eval z = .int k'' q := hz
    split at he
    · rename_i hk
      obtain ⟨hk1, hk2⟩ := hk
      subst hk1
      subst hk2
      refine sound_ok h hd he (x := .int k (if q > (if n > m then n else m) then q else (if n > m then n else m))) ?_ (rv_int _ _)
      simp [execOp, ho, resolve, invoke, builtin, hv, hu, ht, Builtin.max_, Builtin.max2]
    · cases he
  · cases he
theorem sound_min (h : Rel G ok w0 N β Ω s a w) {o : Oper} (hd : ∀ d, o.dst = some d → d < N) {args : Array Operand} {ts : Array TypeId} (ho : o.op = .call { callee := .builtin .min, args := args, argTypes := ts }) {e : Eff} (he : minE (args.toList.map (evalO G s)) = some e) : Sound P G ok w0 N s a w o e := by
  obtain ⟨l⟩ := args
  unfold minE at he
  split at he
  · rename_i k m k' n heq
    have hl : ∃ x y, l = [x, y] ∧ evalO G s x = .cell (.c (.int k m)) ∧ evalO G s y = .cell (.c (.int k' n)) := by
      rcases l with _ | ⟨x, _ | ⟨y, _ | ⟨z, r⟩⟩⟩ <;> simp at heq
      exact ⟨x, y, rfl, heq.1, heq.2⟩
    obtain ⟨x, y, rfl, h1, h2⟩ := hl
    have hx := eval_sound h x
    have hy := eval_sound h y
    rw [h1] at hx
    rw [h2] at hy
    have hv : a.eval x = .int k m := hx
    have hu : a.eval y = .int k' n := hy
    split at he
    · rename_i hk
      subst hk
      refine sound_ok h hd he (x := .int k (if n < m then n else m)) ?_ (rv_int _ _)
      simp [execOp, ho, resolve, invoke, builtin, hv, hu, Builtin.min_, Builtin.min2]
    · cases he
  · cases he
theorem look_upd (k i : Nat) (f : List Cell → List Cell) : ∀ (l : List (Nat × List Cell)), amLook i (l.map fun p => if p.1 = k then (p.1, f p.2) else p) = if i = k then (amLook i l).map f else amLook i l := by
  intro l
  induction l with
  | nil => simp [amLook]
  | cons p r ih =>
    obtain ⟨j, y⟩ := p
    rw [List.map_cons]
    by_cases hj : j = k
    · subst hj
      simp only [if_true, look_cons]
      by_cases hi : i = j
      · simp [hi]
      · simp [hi]; rw [ih, if_neg hi]
    · simp only [if_neg hj, look_cons]
      by_cases hi : i = j
      · subst hi; simp [hj]
      · simp [hi]; rw [ih]
theorem sound_store (hT : TyOk P G) (h : Rel G ok w0 N β Ω s a w) {o : Oper} {t : TypeId} {x y : Operand} (hdst : o.dst = none) (ho : o.op = .store t x y) {e : Eff} (he : storeE (G.ty t) (evalO G s x) (evalO G s y).cells (fun k => amLook k s.box) = some e) (hob : e.obl) : Sound P G ok w0 N s a w o e := by
  have hx := eval_sound h x
  have hy := eval_sound h y
  generalize evalO G s x = v at he hx
  generalize hu : evalO G s y = u at he hy
  unfold storeE at he
  split at he
  · rename_i _ _ _ ty k off nw hty hcs
    split at he
    · rename_i cs hbx
      simp only [Option.some.injEq] at he
      subst he
      obtain ⟨hsz, hfit⟩ := hob
      obtain ⟨b, hb, hv⟩ := hx
      have hbx : amLook k s.box = some cs := hbx
      obtain ⟨vs, bt, hh, hl⟩ := h.boxB hb hbx
      have hc := cells_sound hy hcs
      have hlen := hl.length
      have hlen2 := hc.length
      have h1 := RepCellL.one hc
      have hst := run_storeCells_at P b off bt (a.eval y).cells.toList 0 vs w hh (by rw [← hlen2]; simp at hlen ⊢; omega) h1
      simp only [Nat.add_zero] at hst
      have hsize : (a.eval y).cells.size = ty.size := by rw [← hsz, hlen2]; simp
      have hr : (execOp a.eval o).run P w = .ok .skip (w.setRow b (vs.toList.take off ++ (a.eval y).cells.toList ++ vs.toList.drop (off + (a.eval y).cells.toList.length)).toArray) := by
        have h2 := run_size hT hty w
        simp only [execOp, ho, Instr.storeAt, Instr.sureAddr, hv, storeVar, Sem.run_bind, Sem.run_pure, Result.andThen_ok, h2]
        rw [if_neg (by simp [hsize])]
        simp only [hst, Result.andThen_ok]
      have hmb : Mut β Ω b := .inl ⟨k, hb⟩
      have hbl := h.bB k b hb
      refine ⟨trivial, undef, _, β, Ω, .inr ⟨hr, rfl⟩, ?_⟩
      have hput : a.put o.dst undef = a := by rw [hdst]; rfl
      rw [hput]
      have other : ∀ i, i ≠ b → (w.setRow b (vs.toList.take off ++ (a.eval y).cells.toList ++ vs.toList.drop (off + (a.eval y).cells.toList.length)).toArray).heap[i]? = w.heap[i]? := fun i hi => setRow_other w b i _ hi
      have hbel : BelowX ok.X w0.heap.size w (w.setRow b (vs.toList.take off ++ (a.eval y).cells.toList ++ vs.toList.drop (off + (a.eval y).cells.toList.length)).toArray) := ⟨rfl, rfl, rfl, by simp [World.setRow], fun i hi hx => other i (fun e => by subst e; rcases hbl.1 with h1 | h1; omega; exact hx h1)⟩
      have hk : Keeps w (w.setRow b (vs.toList.take off ++ (a.eval y).cells.toList ++ vs.toList.drop (off + (a.eval y).cells.toList.length)).toArray) (okF G ok w0.heap.size β Ω) (okF G ok w0.heap.size β Ω) := by
        refine ⟨fun i hi _ => other i ?_, fun i hi _ => hi⟩
        rintro rfl
        rcases hi with ⟨h3, h5⟩ | ⟨_, h4⟩
        · rcases hbl.1 with h1 | h1
          · omega
          · have h6 := h.xok _ h1; rcases h5 with h5 | h5; exact h6.2 h5; omega
        · exact h4 hmb
      have hown : OwnKeeps w (w.setRow b (vs.toList.take off ++ (a.eval y).cells.toList ++ vs.toList.drop (off + (a.eval y).cells.toList.length)).toArray) Ω Ω (fun _ _ => True) :=
        ⟨fun _ _ _ _ h => h, fun i j v b' _ h3 h4 _ => other b' (fun e => h.bo k b i j v hb h3 (e ▸ h4))⟩
      refine h.move (fun _ _ => True) (fun _ => True) hbel hk hown (fun _ _ _ h => h) (fun i v hv => .inr ⟨hv, V.live_true v⟩) (fun i ds hi => ?_) (fun _ _ h => h) h.bInj h.oInj h.bo (fun i b1 h3 => ⟨(h.bB i b1 h3).1, by have := (h.bB i b1 h3).2; simpa [World.setRow] using this⟩) (fun i j v b1 h3 h4 => ⟨(h.oB i j v b1 h3 h4).1, by have := (h.oB i j v b1 h3 h4).2; simpa [World.setRow] using this⟩)
      have hi' : (if i = k then (amLook i s.box).map (fun p => splice p off nw) else amLook i s.box) = some ds := (look_upd k i (fun p => splice p off nw) s.box).symm.trans hi
      by_cases hik : i = k
      · subst hik
        rw [if_pos rfl, hbx] at hi'
        simp only [Option.map_some, Option.some.injEq] at hi'
        subst hi'
        refine .inr (.inl ⟨b, _, bt, hb, setRow_heap w b vs _ bt _ hh, ?_⟩)
        have k1 := RepCellL.keeps hk.W hown (fun x _ => Cell.live_true x) hl
        have k2 := RepCellL.keeps hk.W hown (fun x _ => Cell.live_true x) hc
        have := ((k1.take off).append k2).append (k1.drop (off + nw.length))
        rw [hlen2] at this
        simpa [splice, hlen2] using this
      · rw [if_neg hik] at hi'
        exact .inl ⟨hi', trivial, fun x _ => Cell.live_true x, fun b1 h3 => other b1 (fun e => hik (h.bInj i k b (e ▸ h3) hb))⟩
    · cases he
  · cases he
end
end Go.Proofs.Am
namespace Go.Proofs.Am
open Go.RowKit
section
variable {P : Program} {G : Ctx} {ok : Fr} {w0 : World} {N : Nat} {β : Nat → Option Nat} {Ω : Nat → Nat → Option Value} {s : S} {a : Act} {w : World}
theorem fold_set (vs : List Value) : ∀ (j off : Nat) (cs : Array Value), off + j + vs.length ≤ cs.size →
    ((vs.zipIdx j).foldl (fun (cs : Array Value) (p : Value × Nat) => cs.setIfInBounds (off + p.2) p.1) cs).toList = cs.toList.take (off + j) ++ vs ++ cs.toList.drop (off + j + vs.length) := by
  induction vs with
  | nil => intro j off cs _; simp
  | cons v vs ih =>
    intro j off cs hl
    simp only [List.zipIdx_cons, List.foldl_cons]
    rw [ih (j + 1) off _ (by simp at hl ⊢; omega)]
    simp only [Array.toList_setIfInBounds, List.length_cons] at hl ⊢
    have hlt : off + j < cs.toList.length := by simp; omega
    rw [show off + (j + 1) = off + j + 1 by omega, List.take_add_one, List.take_set_of_le (Nat.le_refl _), List.getElem?_set_self hlt, List.drop_set_of_lt (by omega)]
    simp only [Option.toList_some, List.append_assoc, List.singleton_append]
    rw [show off + j + 1 + vs.length = off + j + (vs.length + 1) by omega]
theorem fill_one (place : Nat → Option (Nat × Nat)) (cs : Array Value) (i : Nat) (v : Value) (rest : List (Nat × Value)) (off size : Nat) (hp : place i = some (off, size)) (hs : v.cells.size = size) (hf : off + size ≤ cs.size) :
    Instr.fill place cs ((i, v) :: rest) = Instr.fill place (cs.toList.take off ++ v.cells.toList ++ cs.toList.drop (off + size)).toArray rest := by
  have h1 : (v.cells.zipIdx.foldl (fun (cs : Array Value) (p : Value × Nat) => cs.setIfInBounds (off + p.2) p.1) cs) = (cs.toList.take off ++ v.cells.toList ++ cs.toList.drop (off + size)).toArray := by
    apply Array.ext'
    rw [← Array.foldl_toList, Array.toList_zipIdx, fold_set v.cells.toList 0 off cs (by simp [hs]; omega)]
    simp [hs]
  have h2 : (v.cells.size ≠ size || off + v.cells.size > cs.size) = false := by simp [hs]; omega
  simp only [Instr.fill, hp, h2, Bool.false_eq_true, if_false]
  rw [← h1]
abbrev part (a : Act) (p : Nat × Operand) : Nat × Value := (p.1, a.eval p.2)
theorem fill_sound (h : Rel G ok w0 N β Ω s a w) {offs : List (Nat × Nat)} : ∀ (parts : List (Nat × Operand)) (cs cs' : List Cell) (vs : Array Value), fillCells offs cs (parts.map fun p => (p.1, (evalO G s p.2).cells)) = some cs' →
    RepCellL w (okF G ok w0.heap.size β Ω) w0.heap.size Ω cs vs.toList → ∃ vs', Instr.fill (fun i => offs.toArray[i]?) vs (parts.map (part a)) = some vs' ∧ RepCellL w (okF G ok w0.heap.size β Ω) w0.heap.size Ω cs' vs'.toList := by
  intro parts
  induction parts with
  | nil => intro cs cs' vs he hr; simp [fillCells] at he; subst he; exact ⟨vs, rfl, hr⟩
  | cons p r ih =>
    intro cs cs' vs he hr
    obtain ⟨i, x⟩ := p
    simp only [List.map_cons] at he
    cases hc : (evalO G s x).cells with
    | none => rw [hc] at he; simp [fillCells] at he
    | some xs =>
      rw [hc] at he
      simp only [fillCells] at he
      cases hp : offs[i]? with
      | none => rw [hp] at he; cases he
      | some q =>
        rw [hp] at he
        simp only at he
        split at he
        · rename_i hq
          have hx := cells_sound (eval_sound h x) hc
          have hl := hx.length
          have hl2 := hr.length
          have hsz : (a.eval x).cells.size = q.2 := by rw [← hq.1, hl]; simp
          have hspl : RepCellL w (okF G ok w0.heap.size β Ω) w0.heap.size Ω (splice cs q.1 xs) (vs.toList.take q.1 ++ (a.eval x).cells.toList ++ vs.toList.drop (q.1 + q.2)) := by
            have := ((hr.take q.1).append hx).append (hr.drop (q.1 + xs.length))
            rw [hq.1] at this
            simpa [splice, hq.1] using this
          obtain ⟨vs', h1, h2⟩ := ih _ _ (vs.toList.take q.1 ++ (a.eval x).cells.toList ++ vs.toList.drop (q.1 + q.2)).toArray he (by simpa using hspl)
          refine ⟨vs', ?_, h2⟩
          rw [List.map_cons]
          show Instr.fill _ vs ((i, a.eval x) :: _) = _
          rw [fill_one _ vs i (a.eval x) _ q.1 q.2 (by simp [hp]) hsz (by simp at hl2; omega)]
          exact h1
        · cases he
theorem parts_list (a : Act) (parts : Array (Nat × Operand)) : (parts.map fun (i, x) => (i, a.eval x)).toList = parts.toList.map (part a) := by
  rw [Array.toList_map]
theorem sound_build (hT : TyOk P G) (h : Rel G ok w0 N β Ω s a w) {o : Oper} (hd : ∀ d, o.dst = some d → d < N) {t : TypeId} {parts : Array (Nat × Operand)} (ho : o.op = .build t parts) {e : Eff}
    (he : buildE (G.ty t) (o.dst.getD 0) (parts.toList.map fun p => (p.1, (evalO G s p.2).cells)) = some e) (hf : FreshOk e s) : Sound P G ok w0 N s a w o e := by
  unfold buildE at he
  split at he
  · rename_i _ offs n1 b1 zs hty
    split at he
    · rename_i cs hcs
      simp only [Option.some.injEq] at he
      subst he
      obtain ⟨i, z, hi, hsz, hby, hz, hzo, hzs, hpos, hbp⟩ := hT.info t _ hty
      obtain ⟨fs, hu, hfs, _⟩ := hT.und t _ hty
      have h2 := h.zeros (k := o.dst.getD 0) hf (Below.refl _ w) zs none (by simp)
      obtain ⟨vs, hfill, hrep⟩ := fill_sound h2 parts.toList _ _ z.cells hcs (zeros_sound hzo 0 (fun j _ => by simp))
      have hb : P.built t (parts.map fun (i, x) => (i, a.eval x)).toList = some vs := by
        simp only [Program.built, hi, hu, hz, hfs, parts_list]
        exact hfill
      have hr : (execOp a.eval o).run P w = .ok (.value (.agg vs)) w := by
        have := run_build (P := P) w t (parts.map fun (i, x) => (i, a.eval x)) vs hb
        simp only [execOp, ho, Sem.run_bind, this, Result.andThen_ok, Sem.run_pure]
      refine ⟨trivial, .agg vs, w, _, _, .inl hr, h2.put hd ⟨vs.toList, by simp, hrep⟩⟩
    · cases he
  · cases he
theorem RepCellL.pure {F : Nat → Prop} {B : Nat} {cs : List Cell} {vs : List Value} (h : RepCellL w F B Ω cs vs) (hp : cs.all (·.pure?) = true) : RepL w F (cs.map (·.data)) vs := by
  induction h with
  | nil => exact .nil
  | @cons x v l vs h _ ih =>
    simp only [List.all_cons, Bool.and_eq_true] at hp
    cases x with
    | c y => exact .cons h (ih hp.2)
    | own => simp [Cell.pure?] at hp
    | omap => simp [Cell.pure?] at hp
    | objst => simp [Cell.pure?] at hp
theorem lit_sound (h : Rel G ok w0 N β Ω s a w) {sz L : Nat} : ∀ (parts : List (Nat × Operand)) (n : Nat) (rows : List (List C)) (vs : Array Value), litRows sz n (parts.map fun p => (p.1, (evalO G s p.2).cells)) = some rows → (∀ p ∈ parts, ∀ cs, (evalO G s p.2).cells = some cs → cs.all (·.pure?) = true) →
    vs.size = L * sz → n + rows.length = L → ∃ vs' us, Instr.fill (fun i => some (i * sz, sz)) vs (parts.map (part a)) = some vs' ∧ RepL w (okF G ok w0.heap.size β Ω) rows.flatten us ∧ vs'.toList = vs.toList.take (n * sz) ++ us ∧ (∀ r ∈ rows, r.length = sz) := by
  intro parts
  induction parts with
  | nil =>
    intro n rows vs he hpu hs hn
    simp [litRows] at he
    subst he
    simp at hn
    subst hn
    exact ⟨vs, [], rfl, .nil, by rw [List.append_nil, List.take_of_length_le (by simp [hs])], by simp⟩
  | cons p r ih =>
    intro n rows vs he hpu hs hn
    obtain ⟨i, x⟩ := p
    simp only [List.map_cons] at he
    cases hc : (evalO G s x).cells with
    | none => rw [hc] at he; simp [litRows] at he
    | some xs =>
      rw [hc] at he
      simp only [litRows] at he
      split at he
      · rename_i hq
        obtain ⟨rfl, hlen⟩ := hq
        have hpure := hpu _ (List.mem_cons_self ..) xs hc
        cases hr : litRows sz (i + 1) (r.map fun p => (p.1, (evalO G s p.2).cells)) with
        | none => rw [hr] at he; cases he
        | some rest =>
          rw [hr] at he
          simp only [Option.map_some, Option.some.injEq] at he
          subst he
          simp only [List.length_cons] at hn
          have hx := cells_sound (eval_sound h x) hc
          have hl := hx.length
          have hsz : (a.eval x).cells.size = sz := by rw [← hlen, hl]; simp
          have hmul : (i + 1) * sz ≤ L * sz := Nat.mul_le_mul_right _ (by omega)
          rw [Nat.succ_mul] at hmul
          have htk : (vs.toList.take (i * sz)).length = i * sz := by rw [List.length_take, Array.length_toList, hs]; omega
          have hct : (a.eval x).cells.toList.length = sz := by rw [Array.length_toList, hsz]
          obtain ⟨vs', us, h1, h2, h3, h4⟩ := ih (i + 1) rest (vs.toList.take (i * sz) ++ (a.eval x).cells.toList ++ vs.toList.drop (i * sz + sz)).toArray hr (fun p hp => hpu p (List.mem_cons_of_mem _ hp)) (by simp only [List.size_toArray, List.length_append, htk, hct, List.length_drop, Array.length_toList, hs]; omega) (by omega)
          refine ⟨vs', (a.eval x).cells.toList ++ us, ?_, ?_, ?_, ?_⟩
          · rw [List.map_cons]
            show Instr.fill _ vs ((i, a.eval x) :: _) = _
            rw [fill_one _ vs i (a.eval x) _ (i * sz) sz rfl hsz (by rw [hs]; exact hmul)]
            exact h1
          · rw [List.flatten_cons]
            exact (hx.pure hpure).append h2
          · rw [h3]
            have hA : (vs.toList.take (i * sz) ++ (a.eval x).cells.toList).length = (i + 1) * sz := by
              rw [List.length_append, htk, hct, Nat.succ_mul]
            simp only [List.toList_toArray]
            rw [List.take_append_of_le_length (by omega), List.take_of_length_le (by omega), List.append_assoc]
          · intro q hq
            rcases List.mem_cons.1 hq with rfl | hq
            · simp [hlen]
            · exact h4 q hq
      · cases he
theorem sound_buildSlice0 (hT : TyOk P G) (h : Rel G ok w0 N β Ω s a w) {o : Oper} (hd : ∀ d, o.dst = some d → d < N) {t el : TypeId} {len : Nat} {parts : Array (Nat × Operand)} (ho : o.op = .buildSlice t len parts) (hund : P.underlying t = some (.slice el)) {ty : Ty} (hty : G.ty el = some ty) {rows : List (List C)}
    (hrows : litRows ty.size 0 (parts.toList.map fun p => (p.1, (evalO G s p.2).cells)) = some rows) (hpu : ∀ p ∈ parts.toList, ∀ cs, (evalO G s p.2).cells = some cs → cs.all (·.pure?) = true) (hlen : rows.length = len) (hsmall : len * ty.size ≤ 16777216) (hf : FreshP s (o.dst.getD 0)) :
    Sound P G ok w0 N s a w o ⟨True, True, none, .val (.cell (.own (o.dst.getD 0) 0 el ty.size rows))⟩ := by
  obtain ⟨i, z, hi, hsz, hby, hz, hzo, hzs, hpos, hbp⟩ := hT.info el ty hty
  have hle : w0.heap.size ≤ w.heap.size := h.below.size
  have fin : ∀ (zs : Array Value), zs.size = len * ty.size → (∀ vs', Instr.fill (fun i => some (i * ty.size, ty.size)) zs (parts.map fun (i, x) => (i, a.eval x)).toList = some vs' → (Instr.buildSlice t len (parts.map fun (i, x) => (i, a.eval x))).run P w = .ok (.slice (some ⟨w.heap.size, 0, none⟩) len len) (w.alloc (.cells vs' el))) → Sound P G ok w0 N s a w o ⟨True, True, none, .val (.cell (.own (o.dst.getD 0) 0 el ty.size rows))⟩ := by
    intro zs hzsz hrun
    obtain ⟨vs', us, h1, h2, h3, h4⟩ := lit_sound h (L := len) parts.toList 0 rows zs hrows hpu hzsz (by omega)
    rw [← parts_list] at h1
    have hr : (execOp a.eval o).run P w = .ok (.value (.slice (some ⟨w.heap.size, 0, none⟩) len len)) (w.alloc (.cells vs' el)) := by
      simp only [execOp, ho, Sem.run_bind, hrun vs' h1, Result.andThen_ok, Sem.run_pure]
    have hbw : Below w.heap.size w (w.alloc (.cells vs' el)) := (Below.refl _ w).alloc (Nat.le_refl _) _
    have hc := h.create (k := o.dst.getD 0) hf hbw (fun j => if j = 0 then some (.slice (some ⟨w.heap.size, 0, none⟩) len len) else none) none
      (by intro j v b hv hb; split at hv <;> simp at hv; subst hv; simp [oblk] at hb; simp; omega)
      (by intro j j' v v' b hv hb hv' hb'; split at hv <;> simp at hv; split at hv' <;> simp at hv'; omega) (by simp) (by simp)
    refine ⟨trivial, _, _, _, _, .inl hr, hc.put hd ?_⟩
    have hk : Keeps w (w.alloc (.cells vs' el)) (okF G ok w0.heap.size β Ω) (okF G ok w0.heap.size (fun i => if i = o.dst.getD 0 then none else β i) (fun i j => if i = o.dst.getD 0 then (if j = 0 then some (.slice (some ⟨w.heap.size, 0, none⟩) len len) else none) else Ω i j)) := by
      refine ⟨fun b _ hl => hbw.block b hl, fun b hb hl => ?_⟩
      rcases hb with hb | ⟨hb, hm⟩
      · exact .inl hb
      · refine .inr ⟨hb, fun hm' => hm ?_⟩
        rcases hm' with ⟨k, hk⟩ | ⟨k, j, v, hk1, hk2⟩
        · dsimp only at hk
          split at hk
          · cases hk
          · exact .inl ⟨k, hk⟩
        · dsimp only at hk1
          split at hk1
          · split at hk1
            · injection hk1 with hk1; subst hk1; simp [oblk] at hk2; omega
            · cases hk1
          · exact .inr ⟨k, j, v, hk1, hk2⟩
    have hul := h2.length
    rw [length_flatten h4, hlen] at hul
    simp only [Nat.zero_mul, List.take_zero, List.nil_append] at h3
    have hmax : len ≤ maxLen := by
      have : len ≤ len * ty.size := Nat.le_mul_of_pos_right _ hpos
      simp only [maxLen]; omega
    refine ⟨by simp, h4, by rw [hlen]; exact hmax, us, ⟨by rw [hlen]; exact hul.symm, .inr ⟨w.heap.size, len, vs', by rw [hlen], Nat.zero_le _, heap_alloc_new w _, by omega, hmax, ?_, ?_⟩⟩, h2.keeps hk⟩
    · have : vs'.toList.length = us.length := by rw [h3]
      simp at this
      omega
    · rw [h3, List.take_of_length_le (by rw [hlen]; omega)]
  by_cases hz0 : len * ty.size = 0
  · refine fin #[] (by simp [hz0]) (fun vs' hv => ?_)
    simp [Instr.buildSlice, run_underlying hund, sizeOf, typeInfo, hi, hsz, hz0, newRow]
    have hv2 : Instr.fill (fun i => some (i * ty.size, ty.size)) #[] (List.map (fun x => (x.1, a.eval x.2)) parts.toList) = some vs' := by rw [parts_list] at hv; exact hv
    have e0 : Array.map (fun _ => (default : Value)) (Array.range 0) = #[] := by simp
    rw [e0, hv2]
    simp
  · refine fin ((Array.range (len * ty.size)).map (z.cells[· % z.cells.size]!)) (by simp) (fun vs' hv => ?_)
    refine run_buildSlice w t el len _ vs' i z hund hi hz (by rw [hsz]; omega) (by rw [hsz]; exact hz0) ?_
    rw [hsz]
    exact hv
theorem sound_buildSlice (hT : TyOk P G) (h : Rel G ok w0 N β Ω s a w) {o : Oper} (hd : ∀ d, o.dst = some d → d < N) {t el : TypeId} {len : Nat} {parts : Array (Nat × Operand)} (ho : o.op = .buildSlice t len parts) (hel : sliceElem G t = some el) {e : Eff}
    (he : buildSliceE el (G.ty el) (o.dst.getD 0) len (parts.toList.map fun p => (p.1, (evalO G s p.2).cells)) = some e) (hob : e.obl) (hf : FreshOk e s) : Sound P G ok w0 N s a w o e := by
  have hund : P.underlying t = some (.slice el) := by
    unfold sliceElem at hel
    split at hel
    · rename_i hty; injection hel with hel; subst hel; exact (hT.und t _ hty).1
    · cases hel
  unfold buildSliceE at he
  split at he
  · rename_i ty hty
    split at he
    · rename_i rows hrows
      simp only [Option.some.injEq] at he
      subst he
      obtain ⟨hlen, hsmall⟩ := hob
      have hf' : FreshP s (o.dst.getD 0) := by
        simp only [FreshOk] at hf
        generalize partSites _ = ks at hf
        cases ks <;> exact hf
      generalize hks : partSites (parts.toList.map fun p => (p.1, (evalO G s p.2).cells)) = ks
      obtain ⟨Ω', h'⟩ := h.frz ks
      have key := sound_buildSlice0 hT h' hd ho hund hty (rows := rows) (by rw [litRows_frz]; exact hrows) ?_ hlen hsmall (hf'.frz ks)
      · obtain ⟨_, v, w', β', Ω'', hr, hR⟩ := key
        refine ⟨trivial, v, w', β', Ω'', hr, ?_⟩
        cases ks <;> exact hR
      · intro p hp ds hds
        cases hc : (evalO G s p.2).cells with
        | none =>
          have : ∀ (ks : List Nat) (s : S), (evalO G s p.2).cells = none → (evalO G (S.frz ks s) p.2).cells = none := by
            intro ks
            induction ks with
            | nil => intro s hs; exact hs
            | cons k r ih => intro s hs; exact ih (s.freeze k) (by rw [evalO_freeze, cells_freeze, hs]; rfl)
          rw [this ks s hc] at hds
          cases hds
        | some cs => exact frz_pure ks s cs ds hc hds (fun k hk => by rw [← hks]; exact partSites_mem (List.mem_map.2 ⟨p, hp, by rw [hc]⟩) k hk)
    · cases he
  · cases he
theorem run_append_zero (base : Nat) (t ty e : TypeId) (i : TypeInfo) (size : Nat) (ht : P.underlying t = some (.slice e)) (hi : P.info? e = some i)
    (v : Value) (n : Nat) (xs : List Value) (hown : w.ownsRow base e size v n xs) (A : Option Addr) (c : Nat) :
    (Builtin.append_ #[t, t] ty #[v, .slice A 0 c]).run P w = .ok v w := by
  have hfc : (Builtin.firstCells i.size 0 (.slice A 0 c)).run P w = .ok #[] w := by cases A <;> simp [Builtin.firstCells, loadCells, loadCellsFrom]
  rcases hown.2 with ⟨rfl, rfl⟩ | ⟨g, cap, cur, rfl, _, _, hnc, _⟩
  · simp [Builtin.append_, run_underlying ht, sizeOf, typeInfo, hi, Builtin.lenOf, hfc]
  · simp [Builtin.append_, run_underlying ht, sizeOf, typeInfo, hi, Builtin.lenOf, hfc, hnc, storeCells]
theorem Cell.live_tag {k j : Nat} {x : Cell} (h : x.tag? k j = false) : x.live (fun k' j' => ¬ (k' = k ∧ j' = j)) := by
  cases x with
  | c x => trivial
  | own t i e sz rows => simp [Cell.tag?] at h; exact fun h2 => h h2.1 h2.2
  | omap t kd es => simp [Cell.tag?] at h; exact fun h2 => h h2.1 h2.2
  | objst p => simp [Cell.tag?] at h; exact fun j h2 => h h2.1
theorem V.live_tag {k j : Nat} {v : V} (h : v.tag? k j = false) : v.live (fun k' j' => ¬ (k' = k ∧ j' = j)) (fun _ => True) := by
  cases v with
  | cell x => exact Cell.live_tag h
  | agg cs => intro x hx; simp [V.tag?] at h; exact Cell.live_tag (h x hx)
  | clo f caps => exact fun _ _ => trivial
  | _ => trivial
theorem kill_env (s : S) (k j t : Nat) : amLook t (s.kill k j).env = (amLook t s.env).map (·.kill k j) := look_map _ _ _
theorem kill_box (s : S) (k j t : Nat) : amLook t (s.kill k j).box = (amLook t s.box).map (·.map fun x => if x.tag? k j then .c .dead else x) := look_map (fun cs : List Cell => cs.map fun x => if x.tag? k j then .c .dead else x) _ _
theorem RepCell.dead {F : Nat → Prop} {B : Nat} {x : Cell} {v : Value} (h : RepCell w F B Ω x v) : RepCell w F B Ω (.c .dead) v := RepCell.one h
/-- What is appended to: its tag is done away with, the world may have turned at its block alone; the new slice lies there, or in a new block. -/
theorem Rel.app (h : Rel G ok w0 N β Ω s a w) {k j d : Nat} {v v' : Value} {w' : World} (hv : Ω k j = some v) (hf : FreshP (s.kill k j) d) (hg : w.grownBy w' (oblk v))
    (hB : ∀ b, oblk v' = some b → b < w'.heap.size) (hat : oblk v' = oblk v ∨ oblk v' = some w.heap.size) :
    ∃ Ω', Ω' d 0 = some v' ∧ Rel G ok w0 N β Ω' (s.kill k j) a w' ∧ Keeps w w' (okF G ok w0.heap.size β Ω) (okF G ok w0.heap.size β Ω') := by
  have hle : w0.heap.size ≤ w.heap.size := h.below.size
  let Ω' : Nat → Nat → Option Value := fun i l => if i = d then (if l = 0 then some v' else none) else if i = k ∧ l = j then none else Ω i l
  have hvb : ∀ b, oblk v = some b → (w0.heap.size ≤ b ∨ ok.X b) ∧ b < w.heap.size := fun b hb => h.oB k j v b hv hb
  have hmut : ∀ b, b < w.heap.size → Mut β Ω' b → Mut β Ω b := by
    intro b hlt hm
    rcases hm with ⟨i, hi⟩ | ⟨i, l, u, h1, h2⟩
    · exact .inl ⟨i, hi⟩
    · simp only [Ω'] at h1
      split at h1
      · split at h1
        · injection h1 with h1
          subst h1
          rcases hat with hat | hat
          · exact .inr ⟨k, j, v, hv, by rw [← hat]; exact h2⟩
          · rw [h2] at hat; injection hat with hat; omega
        · cases h1
      · split at h1
        · cases h1
        · exact .inr ⟨i, l, u, h1, h2⟩
  have hkeep : Keeps w w' (okF G ok w0.heap.size β Ω) (okF G ok w0.heap.size β Ω') := by
    refine ⟨fun b hb hl => hg.block b hl (fun e => ?_), fun b hb hl => ?_⟩
    · have hmb : Mut β Ω b := .inr ⟨k, j, v, hv, e.symm⟩
      rcases hb with ⟨h1, h5⟩ | ⟨_, h2⟩
      · rcases (h.lt hmb).1 with h3 | h3
        · omega
        · have h4 := h.xok _ h3; rcases h5 with h5 | h5; exact h4.2 h5; omega
      · exact h2 hmb
    · rcases hb with hb | ⟨hb, hm⟩
      · exact .inl hb
      · exact .inr ⟨hb, fun hm' => hm (hmut b hl hm')⟩
  refine ⟨Ω', by simp [Ω'], ?_, hkeep⟩
  have hbel : BelowX ok.X w0.heap.size w w' := ⟨hg.os, hg.tape, hg.output, hg.size, fun b hb hx => hg.block b (by omega) (fun e => by rcases (hvb b e.symm).1 with h1 | h1; omega; exact hx h1)⟩
  have hown : OwnKeeps w w' Ω Ω' (fun k' j' => k' ≠ d ∧ ¬ (k' = k ∧ j' = j)) := by
    refine ⟨fun i l u hL h1 => by simp only [Ω']; rw [if_neg hL.1, if_neg hL.2]; exact h1, fun i l u b hL h1 h2 hl => hg.block b hl (fun e => hL.2 (h.oInj i l k j u v b h1 h2 hv e.symm))⟩
  refine h.move (fun k' j' => k' ≠ d ∧ ¬ (k' = k ∧ j' = j)) (fun k' => k' ≠ d) hbel hkeep hown (fun _ _ _ h => h) (fun t u hu => ?_) (fun i cs hc => ?_) (fun _ _ h => h) h.bInj ?_ ?_ ?_ ?_
  · have hs := S.fresh_env hf hu
    rw [kill_env] at hu
    cases hl : amLook t s.env with
    | none => rw [hl] at hu; cases hu
    | some x =>
      rw [hl] at hu
      simp only [Option.map_some, Option.some.injEq] at hu
      subst hu
      unfold V.kill at hs ⊢
      split
      · exact .inl rfl
      · rename_i ht
        rw [if_neg ht] at hs
        refine .inr ⟨rfl, ?_⟩
        have l1 := V.live_of hs
        have l2 := V.live_tag (by simpa using ht)
        cases x with
        | cell x => cases x with
          | c x => trivial
          | own => exact ⟨l1, l2⟩
          | omap => exact ⟨l1, l2⟩
          | objst => exact fun j => ⟨l1 j, l2 j⟩
        | agg cs => intro x hx; have a1 := l1 x hx; have a2 := l2 x hx; cases x with
          | c x => trivial
          | own => exact ⟨a1, a2⟩
          | omap => exact ⟨a1, a2⟩
          | objst => exact fun j => ⟨a1 j, a2 j⟩
        | ptr t off => exact l1
        | clo f caps => exact l1
        | «at» t b => exact l1
        | _ => trivial
  · obtain ⟨h1, h2⟩ := S.fresh_box hf hc
    rw [kill_box] at hc
    cases hl : amLook i s.box with
    | none => rw [hl] at hc; cases hc
    | some ds =>
      rw [hl] at hc
      simp only [Option.map_some, Option.some.injEq] at hc
      subst hc
      rcases h.box i ds hl with ⟨b, vs, ty, hb, hh, hr⟩ | ⟨hk0, hbn, hob⟩
      rotate_left
      · refine .inr (.inr ⟨hk0, hbn, ?_⟩)
        match ds, hob, h2 with
        | [.objst p], hob, h2 =>
          show ObjBox w' _ Ω' [if (1000000 == k) = true then .c .dead else .objst p]
          split
          · trivial
          · rename_i hne
            have h3 := h2 (if (1000000 == k) = true then .c .dead else .objst p) (by simp [Cell.tag?])
            rw [if_neg hne] at h3
            have h4 : ¬ (1000000 = d) := by simpa [Cell.site?] using h3
            exact ObjRep.keeps hkeep hown (fun j => ⟨fun e => h4 e, fun e => hne (by simp [e.1])⟩) hob
        | [], _, _ => trivial
        | [.c x], _, _ => show ObjBox w' _ Ω' [if _ then _ else _]; split <;> trivial
        | [.own t j e z r], _, _ => show ObjBox w' _ Ω' [if _ then _ else _]; split <;> trivial
        | [.omap t kd es], _, _ => show ObjBox w' _ Ω' [if _ then _ else _]; split <;> trivial
        | _ :: _ :: _, _, _ => exact ObjBox.two
      have hsame : w'.heap[b]? = w.heap[b]? := hg.block b (h.bB i b hb).2 (fun e => h.bo i b k j v hb hv e.symm)
      refine .inr (.inl ⟨b, vs, ty, hb, hsame.trans hh, ?_⟩)
      have gen : ∀ {ds : List Cell} {us : List Value}, RepCellL w (okF G ok w0.heap.size β Ω) w0.heap.size Ω ds us → (∀ x ∈ ds.map (fun x => if x.tag? k j then Cell.c .dead else x), x.site? d = false) → RepCellL w' (okF G ok w0.heap.size β Ω') w0.heap.size Ω' (ds.map fun x => if x.tag? k j then .c .dead else x) us := by
        intro ds us hr hs
        induction hr with
        | nil => exact .nil
        | @cons x u l us hx hr ih =>
          simp only [List.map_cons, List.mem_cons, forall_eq_or_imp] at hs
          refine .cons ?_ (ih hs.2)
          by_cases ht : x.tag? k j = true
          · show RepCell _ _ _ _ (if x.tag? k j = true then Cell.c C.dead else x) u
            rw [if_pos ht]; exact RepCell.one hx
          · show RepCell _ _ _ _ (if x.tag? k j = true then Cell.c C.dead else x) u
            rw [if_neg ht] at hs ⊢
            have l1 := Cell.live_of hs.1
            have l2 := Cell.live_tag (by simpa using ht : x.tag? k j = false)
            refine RepCell.keeps hkeep hown ?_ hx
            cases x with
            | c x => trivial
            | own => exact ⟨l1, l2⟩
            | omap => exact ⟨l1, l2⟩
            | objst => exact fun j => ⟨l1 j, l2 j⟩
      exact gen hr h2
  · intro i l i' l' u u' b h1 h2 h3 h4
    simp only [Ω'] at h1 h3
    have old : ∀ {i l : Nat} {u : Value}, ¬ (i = k ∧ l = j) → Ω i l = some u → oblk u = some b → oblk v' = some b → False := by
      intro i l u hne hu hb hb'
      rcases hat with hat | hat
      · exact hne (h.oInj i l k j u v b hu hb hv (by rw [← hat]; exact hb'))
      · rw [hb'] at hat; injection hat with hat; have := (h.oB i l u b hu hb).2; omega
    by_cases e : i = d <;> by_cases e' : i' = d
    · rw [if_pos e] at h1
      rw [if_pos e'] at h3
      split at h1
      · split at h3
        · omega
        · cases h3
      · cases h1
    · rw [if_pos e] at h1
      rw [if_neg e'] at h3
      split at h1
      · split at h3
        · cases h3
        · rename_i hne; injection h1 with h1; subst h1; exact (old hne h3 h4 h2).elim
      · cases h1
    · rw [if_neg e] at h1
      rw [if_pos e'] at h3
      split at h3
      · split at h1
        · cases h1
        · rename_i hne; injection h3 with h3; subst h3; exact (old hne h1 h2 h4).elim
      · cases h3
    · rw [if_neg e] at h1
      rw [if_neg e'] at h3
      split at h1
      · cases h1
      · split at h3
        · cases h3
        · exact h.oInj i l i' l' u u' b h1 h2 h3 h4
  · intro i b i' l u h1 h2 h3
    simp only [Ω'] at h2
    split at h2
    · split at h2
      · injection h2 with h2
        subst h2
        rcases hat with hat | hat
        · exact h.bo i b k j v h1 hv (by rw [← hat]; exact h3)
        · rw [h3] at hat; injection hat with hat; have := (h.bB i b h1).2; omega
      · cases h2
    · split at h2
      · cases h2
      · exact h.bo i b i' l u h1 h2 h3
  · intro i b h1
    have h2 := h.bB i b h1; have := hg.size; exact ⟨h2.1, by omega⟩
  · intro i l u b h1 h2
    simp only [Ω'] at h1
    split at h1
    · split at h1
      · injection h1 with h1; subst h1; refine ⟨?_, hB b h2⟩; rcases hat with hat | hat
        · exact (h.oB k j v b hv (by rw [← hat]; exact h2)).1
        · rw [h2] at hat; injection hat with hat; exact .inl (by omega)
      · cases h1
    · split at h1
      · cases h1
      · have h3 := h.oB i l u b h1 h2; have := hg.size; exact ⟨h3.1, by omega⟩
theorem sound_append (hT : TyOk P G) (h : Rel G ok w0 N β Ω s a w) {o : Oper} (hd : ∀ d, o.dst = some d → d < N) {t el : TypeId} {x y : Operand} (ho : o.op = .call { callee := .builtin .append, args := #[x, y], argTypes := #[t, t] }) (hel : sliceElem G t = some el) {e : Eff}
    (he : appendE el (G.ty el) (o.dst.getD 0) (evalO G s x) (evalO G s y) = some e) (hob : e.obl) (hf : FreshOk e s) : Sound P G ok w0 N s a w o e := by
  have hund : P.underlying t = some (.slice el) := by
    unfold sliceElem at hel
    split at hel
    · rename_i hty; injection hel with hel; subst hel; exact (hT.und t _ hty).1
    · cases hel
  have hx := eval_sound h x
  have hy := eval_sound h y
  generalize evalO G s x = v at he hx
  generalize evalO G s y = u at he hy
  unfold appendE at he
  split at he
  · rename_i _ _ ty k j e' sz rows hty
    split at he
    · rename_i news hnews
      simp only [Option.some.injEq] at he
      subst he
      obtain ⟨rfl, hsz, htag, hlen, hbytes⟩ := hob
      obtain ⟨i, z, hi, hisz, hby, hz, hzo, hzs, hpos, hbp⟩ := hT.info el ty hty
      obtain ⟨hΩ, hrl, hrm, xs, hown, hxs⟩ := hx
      have hle : w0.heap.size ≤ w.heap.size := h.below.size
      have hmax : rows.length + news.length ≤ maxLen := by
        have := Nat.le_mul_of_pos_right (rows.length + news.length) hbp
        simp only [maxLen]; omega
      have hrow : ∀ q ∈ rows ++ news, q.length = sz := by
        intro q hq
        rcases List.mem_append.1 hq with hq | hq
        · exact hrl q hq
        · exact hlen q hq
      have fin : ∀ {v' : Value} {w' : World} {us : List Value}, (Builtin.append_ #[t, t] o.type #[a.eval x, a.eval y]).run P w = .ok v' w' → w.grownBy w' (a.eval x).ownBlock → w'.ownsRow 0 el ty.size v' (rows.length + news.length) (xs ++ us) →
          (v'.ownBlock = (a.eval x).ownBlock ∨ v'.ownBlock = some w.heap.size) → RepL w (okF G ok w0.heap.size β Ω) news.flatten us →
          Sound P G ok w0 N s a w o ⟨el = el ∧ sz = ty.size ∧ V.tag? u k j = false ∧ (∀ r ∈ news, r.length = sz) ∧ (rows.length + news.length) * ty.bytes ≤ 140737488355328, True, some (o.dst.getD 0), .app k j (.cell (.own (o.dst.getD 0) 0 el sz (rows ++ news)))⟩ := by
        intro v' w' us hrun hg hown' hat hus
        have hr : (execOp a.eval o).run P w = .ok (.value v') w' := by
          simp [execOp, ho, resolve, invoke, builtin, hrun]
        rw [← oblk_row hown] at hg hat
        rw [← oblk_row hown'] at hat
        obtain ⟨Ω', h1, h2, h3⟩ := h.app hΩ hf hg (fun b hb => (hown'.lt b (by rw [← oblk_row hown']; exact hb)).2) hat
        refine ⟨trivial, v', w', β, Ω', .inl hr, h2.put hd ⟨h1, hrow, by rw [List.length_append]; exact hmax, xs ++ us, ?_, ?_⟩⟩
        · rw [List.length_append, hsz]; exact hown'
        · rw [List.flatten_append]; exact (hxs.append hus).keeps h3
      have hown0 : w.ownsRow 0 el ty.size (a.eval x) rows.length xs := by rw [← hsz]; exact hown
      have go : ∀ (ad : Addr) (c : Nat) (us : List Value), a.eval y = .slice (some ad) news.length c → RepL w (okF G ok w0.heap.size β Ω) news.flatten us → (∀ j u, us[j]? = some u → w.cell? (ad.add j) = some u) → Sound P G ok w0 N s a w o ⟨el = el ∧ sz = ty.size ∧ V.tag? u k j = false ∧ (∀ r ∈ news, r.length = sz) ∧ (rows.length + news.length) * ty.bytes ≤ 140737488355328, True, some (o.dst.getD 0), .app k j (.cell (.own (o.dst.getD 0) 0 el sz (rows ++ news)))⟩ := by
        intro ad c us hyv hus hcell
        have hul : us.length = news.length * ty.size := by rw [← hus.length, length_flatten hlen, hsz]
        obtain ⟨v', w', hrun, h2, h3, _, h5⟩ := run_append_own_at (P := P) w 0 t o.type el i z ty.size ty.bytes hund hi hz hisz hby hzs hpos (a.eval x) rows.length xs hown0 ad news.length c us hul hcell hus.one hmax hbytes (Nat.zero_le _)
        exact fin (by rw [hyv]; exact hrun) h3 h2 h5 hus
      have zero : ∀ (A : Option Addr) (c : Nat), a.eval y = .slice A 0 c → news = [] → Sound P G ok w0 N s a w o ⟨el = el ∧ sz = ty.size ∧ V.tag? u k j = false ∧ (∀ r ∈ news, r.length = sz) ∧ (rows.length + news.length) * ty.bytes ≤ 140737488355328, True, some (o.dst.getD 0), .app k j (.cell (.own (o.dst.getD 0) 0 el sz (rows ++ news)))⟩ := by
        intro A c hyv hn
        have hrun := run_append_zero (P := P) (w := w) 0 t o.type el i ty.size hund hi (a.eval x) rows.length xs hown0 A c
        refine fin (us := []) (by rw [hyv]; exact hrun) ⟨rfl, rfl, rfl, Nat.le_refl _, fun _ _ _ => rfl⟩ ?_ (.inl rfl) (by rw [hn]; exact .nil)
        rw [hn, List.append_nil]; exact hown0
      unfold rowsOf at hnews
      split at hnews
      · injection hnews with hnews
        subst hnews
        rename_i _ sz2 rows2
        obtain ⟨A, n, cap, hv, hn, hm, hr⟩ := hy
        rcases hr with hr | ⟨ad, hA, hok, hlt, hrows⟩
        · subst hr; simp at hn; subst hn; exact zero A cap hv rfl
        · subst hA
          obtain ⟨_, hc⟩ := RepRows.flat hrows
          obtain ⟨us, hus, hcell⟩ := RepCells.load hc
          exact go ad cap us (by rw [hv, hn]) hus (fun j u hu => by have := hcell j u hu; simpa using this)
      · injection hnews with hnews
        subst hnews
        rename_i _ k2 j2 e2 sz2 rows2
        obtain ⟨_, _, _, us, hown2, hus⟩ := hy
        rcases hown2.2 with ⟨hv, h0⟩ | ⟨g, cap, cur, hv, _⟩
        · exact zero none 0 hv (List.eq_nil_of_length_eq_zero h0)
        · exact go ⟨g, 0, none⟩ cap us hv hus (hown2.cells (by rw [hv]; rfl))
      · cases hnews
    · cases he
  · rename_i _ _ ty z hty
    split at he
    · rename_i hnews
      obtain ⟨i, zz, hi, hisz, hby, hz, hzo, hzs, hpos, hbp⟩ := hT.info el ty hty
      obtain ⟨A, n, cap, hv, hn, hm, hr⟩ := hx
      simp at hn
      subst hn
      have hyv : ∃ B c, a.eval y = .slice B 0 c := by
        unfold rowsOf at hnews
        split at hnews
        · injection hnews with hnews
          subst hnews
          obtain ⟨B, m, c, hv2, hn2, _⟩ := hy
          simp at hn2
          subst hn2
          exact ⟨B, c, hv2⟩
        · injection hnews with hnews
          subst hnews
          obtain ⟨_, _, _, us, hown2, hus⟩ := hy
          rcases hown2.2 with ⟨hv2, h0⟩ | ⟨g, c, cur, hv2, _⟩
          · exact ⟨none, 0, hv2⟩
          · exact ⟨some ⟨g, 0, none⟩, c, hv2⟩
        · cases hnews
      obtain ⟨B, c, hyv⟩ := hyv
      have hfc : ∀ A : Option Addr, (Builtin.firstCells i.size 0 (.slice B 0 c)).run P w = .ok #[] w := fun _ => by cases B <;> simp [Builtin.firstCells, loadCells, loadCellsFrom]
      have hrun : (Builtin.append_ #[t, t] o.type #[a.eval x, a.eval y]).run P w = .ok (.slice A 0 cap) w := by
        rw [hv, hyv]
        cases A <;> simp [Builtin.append_, run_underlying hund, sizeOf, typeInfo, hi, Builtin.lenOf, hfc none, storeCells]
      refine sound_ok h hd he (x := .slice A 0 cap) ?_ ⟨A, 0, cap, rfl, rfl, hm, .inl rfl⟩
      simp [execOp, ho, resolve, invoke, builtin, hrun]
    · cases he
  · cases he
end
end Go.Proofs.Am
namespace Go.Proofs.Am
open Go.RowKit
section
variable {P : Program} {G : Ctx} {ok : Fr} {w0 : World} {N : Nat} {β : Nat → Option Nat} {Ω : Nat → Nat → Option Value} {s : S} {a : Act} {w : World}
theorem sound_sindex (hT : TyOk P G) (h : Rel G ok w0 N β Ω s a w) {o : Oper} (hd : ∀ d, o.dst = some d → d < N) {t : TypeId} {x i : Operand} (ho : o.op = .index t x i) {e : Eff} (he : sindexE (G.ty t) (evalO G s x) (evalO G s i) = some e) (hob : e.obl) : Sound P G ok w0 N s a w o e := by
  have hx := eval_sound h x
  have hi := eval_sound h i
  generalize evalO G s x = v at he hx
  generalize evalO G s i = u at he hi
  unfold sindexE at he
  split at he
  · rename_i _ _ _ n1 b1 z1 l n hty
    simp only [Option.some.injEq] at he
    subst he
    have hob' : 0 ≤ n ∧ n < l.length := hob
    obtain ⟨hv, hl⟩ := rv_str hx
    have hi' : a.eval i = .int .i64 n := hi
    have hund := (hT.und t _ hty).1
    have hlt : n.toNat < l.length := by omega
    have hget : (⟨l.toArray⟩ : ByteArray)[n.toNat]? = some l[n.toNat] := by
      show (if h : n.toNat < (⟨l.toArray⟩ : ByteArray).size then some ((⟨l.toArray⟩ : ByteArray).get n.toNat h) else none) = _
      rw [dif_pos (by rw [size_mk]; exact hlt)]
      rfl
    refine sound_val h hd trivial (x := .int .u8 (l.getD n.toNat 0).toNat) ?_ (rv_int _ _)
    have hD : l.getD n.toNat 0 = l[n.toNat] := by simp [List.getD, hlt]
    rw [hD]
    simp only [execOp, ho, hv, hi', Instr.index, asIntOf, Sem.run_bind, Sem.run_pure, Result.andThen_ok, run_underlying hund, hob'.1, if_true, hget]
  · cases he
theorem extract_mk (l : List UInt8) (p q : Nat) (hq : q ≤ l.length) : (⟨l.toArray⟩ : ByteArray).extract p q = ⟨((l.drop p).take (q - p)).toArray⟩ := by
  apply ByteArray.ext
  simp [ByteArray.data_extract]
theorem sound_sslice (hT : TyOk P G) (h : Rel G ok w0 N β Ω s a w) {o : Oper} (hd : ∀ d, o.dst = some d → d < N) {t : TypeId} {x lo hi : Operand} (ho : o.op = .slice t x (some lo) (some hi) none) {e : Eff} (he : ssliceE (G.ty t) (evalO G s x) (evalO G s lo) (evalO G s hi) = some e) (hob : e.obl) : Sound P G ok w0 N s a w o e := by
  have hx := eval_sound h x
  have h1 := eval_sound h lo
  have h2 := eval_sound h hi
  generalize evalO G s x = v at he hx
  generalize evalO G s lo = u1 at he h1
  generalize evalO G s hi = u2 at he h2
  unfold ssliceE at he
  split at he
  · rename_i _ _ _ _ n1 b1 z1 l p q hty
    simp only [Option.some.injEq] at he
    subst he
    have hob' : 0 ≤ p ∧ p ≤ q ∧ q ≤ l.length := hob
    obtain ⟨hv, hl⟩ := rv_str hx
    have h1' : a.eval lo = .int .i64 p := h1
    have h2' : a.eval hi = .int .i64 q := h2
    have hund := (hT.und t _ hty).1
    refine sound_val h hd trivial (x := .string ⟨((l.drop p.toNat).take (q.toNat - p.toNat)).toArray⟩) ?_ ⟨rfl, ?_⟩
    · have e1 : (0 ≤ q ∧ q ≤ ((l.length : Nat) : Int)) := ⟨by omega, hob'.2.2⟩
      have e2 : (0 ≤ p ∧ p ≤ ((q.toNat : Nat) : Int)) := ⟨hob'.1, by omega⟩
      have hs : (⟨l.toArray⟩ : ByteArray).size = l.length := size_mk l
      simp [execOp, ho, hv, h1', h2', Instr.sliceAt, Instr.slice, run_underlying hund, Instr.sliceBounds, Instr.sliceBound, asIntOf, hs, e1, e2, extract_mk l p.toNat q.toNat (by omega)]
      intro hc
      exfalso
      omega
    · have := List.length_take_le (q.toNat - p.toNat) (l.drop p.toNat)
      simp only [List.length_take, List.length_drop]
      omega
  · cases he
end
end Go.Proofs.Am
namespace Go.Proofs.Am
open Go.RowKit
section
variable {P : Program} {G : Ctx} {ok : Fr} {w0 : World} {N : Nat} {β : Nat → Option Nat} {Ω : Nat → Nat → Option Value} {s : S} {a : Act} {w : World}
theorem mapKd_spec (hT : TyOk P G) {t : TypeId} {kd : IntKind} (h : mapKd G (G.ty t) = some kd) : ∃ k e ety, P.underlying t = some (.map k e) ∧ P.underlying k = some .string ∧ G.ty e = some ety ∧ ety.k = .int kd := by
  unfold mapKd at h
  split at h
  · rename_i k e _ _ _ ht
    split at h
    · rename_i hk he
      injection h with h
      subst h
      exact ⟨k, e, _, (hT.und t _ ht).1, (hT.und k _ hk).1, he, rfl⟩
    · cases h
  · cases h
theorem bytes_inj {p q : List UInt8} (h : (⟨p.toArray⟩ : ByteArray) = ⟨q.toArray⟩) : p = q := by
  have := congrArg (fun b : ByteArray => b.data.toList) h
  simpa using this
theorem findNow_of {kd : IntKind} {q : List UInt8} : ∀ (es : List (List UInt8 × Int)) (vs : List MapEntry) (i : Nat), vs.map (fun e => (e.key, e.val)) = es.map (fun p => (Value.string ⟨p.1.toArray⟩, Value.int kd p.2)) →
    (amFind q es = none ∧ Instr.findNow .string (.string ⟨q.toArray⟩) vs i = some none) ∨ ∃ x j, amFind q es = some x ∧ Instr.findNow .string (.string ⟨q.toArray⟩) vs i = some (some (j, .int kd x)) := by
  intro es
  induction es with
  | nil =>
    intro vs i h
    cases vs with
    | nil => exact .inl ⟨rfl, rfl⟩
    | cons => simp at h
  | cons p r ih =>
    intro vs i h
    cases vs with
    | nil => simp at h
    | cons e vs =>
      simp only [List.map_cons, List.cons.injEq, Prod.mk.injEq] at h
      obtain ⟨⟨h1, h2⟩, h3⟩ := h
      by_cases hq : p.1 = q
      · refine .inr ⟨p.2, i, by simp [amFind, hq], ?_⟩
        have hs : Instr.sameNow .string (.string ⟨q.toArray⟩) e.key = some true := by
          obtain ⟨r, hr, hiff⟩ := MapKept.sameNow_of_keys (d := .string) (a := .string ⟨q.toArray⟩) (b := e.key) trivial (by rw [h1]; trivial)
          rw [hr, hiff.2 (by rw [h1, hq])]
        simp [Instr.findNow, hs, h2]
      · have hs : Instr.sameNow .string (.string ⟨q.toArray⟩) e.key = some false := by
          obtain ⟨r, hr, hiff⟩ := MapKept.sameNow_of_keys (d := .string) (a := .string ⟨q.toArray⟩) (b := e.key) trivial (by rw [h1]; trivial)
          rw [hr]
          cases r with
          | false => rfl
          | true =>
            have h5 := hiff.1 rfl
            rw [h1] at h5
            injection h5 with h5
            exact absurd (bytes_inj h5).symm hq
        rcases ih vs (i + 1) h3 with ⟨h4, h5⟩ | ⟨x, j, h4, h5⟩
        · exact .inl ⟨by simp [amFind, hq, h4], by simp [Instr.findNow, hs, h5]⟩
        · exact .inr ⟨x, j, by simp [amFind, hq, h4], by simp [Instr.findNow, hs, h5]⟩
theorem sound_makeMap (hT : TyOk P G) (h : Rel G ok w0 N β Ω s a w) {o : Oper} (hd : ∀ d, o.dst = some d → d < N) {t : TypeId} (ho : o.op = .makeMap t none) {e : Eff} (he : makeMapE (mapKd G (G.ty t)) (o.dst.getD 0) = some e) (hf : FreshOk e s) : Sound P G ok w0 N s a w o e := by
  unfold makeMapE at he
  split at he
  · rename_i kd hkd
    simp only [Option.some.injEq] at he
    subst he
    have hr : (execOp a.eval o).run P w = .ok (.value (.map (some w.heap.size))) (w.alloc (.map #[] 0)) := by
      simp [execOp, ho, Instr.makeMap]
    have hbw : Below w.heap.size w (w.alloc (.map #[] 0)) := (Below.refl _ w).alloc (Nat.le_refl _) _
    have hc := h.create (k := o.dst.getD 0) hf hbw (fun j => if j = 0 then some (.map (some w.heap.size)) else none) none
      (by intro j v b hv hb; split at hv <;> simp at hv; subst hv; simp [oblk] at hb; simp; omega)
      (by intro j j' v v' b hv hb hv' hb'; split at hv <;> simp at hv; split at hv' <;> simp at hv'; omega) (by simp) (by simp)
    exact ⟨trivial, _, _, _, _, .inl hr, hc.put hd ⟨by simp, w.heap.size, #[], 0, rfl, (MapKept.heap_alloc w _).1, rfl⟩⟩
  · cases he
theorem capsOf_sound (h : Rel G ok w0 N β Ω s a w) : ∀ {l : List Operand} {caps : List (Nat × Nat)}, capsOf (l.map (evalO G s)) = some caps → (l.map a.eval).length = caps.length ∧ ∀ (j : Nat) k off, caps[j]? = some (k, off) → ∃ b, β k = some b ∧ (l.map a.eval)[j]? = some (.pointer (some ⟨b, off, none⟩)) := by
  intro l
  induction l with
  | nil => intro caps hc; simp [capsOf] at hc; subst hc; exact ⟨rfl, by simp⟩
  | cons x r ih =>
    intro caps hc
    have hx := eval_sound h x
    rw [List.map_cons] at hc
    generalize evalO G s x = v at hc hx
    cases v <;> simp only [capsOf] at hc <;> try cases hc
    rename_i k off
    rw [Option.map_eq_some_iff] at hc
    obtain ⟨caps', h1, rfl⟩ := hc
    obtain ⟨h2, h3⟩ := ih h1
    obtain ⟨b, hb, hv⟩ := hx
    refine ⟨by simpa using h2, fun j k' off' hj => ?_⟩
    cases j with
    | zero => simp at hj; obtain ⟨rfl, rfl⟩ := hj; exact ⟨b, hb, by simp [hv]⟩
    | succ j => simp at hj; simpa using h3 j k' off' hj
theorem sound_makeFunc (h : Rel G ok w0 N β Ω s a w) {o : Oper} (hd : ∀ d, o.dst = some d → d < N) {fn : Fn} {first captured : Array Operand} (ho : o.op = .makeFunc fn first captured) {e : Eff} (he : makeFuncE fn (first.toList.map (evalO G s)) (captured.toList.map (evalO G s)) = some e) : Sound P G ok w0 N s a w o e := by
  have hr : (execOp a.eval o).run P w = .ok (.value (.func fn (first.map a.eval) (captured.map a.eval))) w := by
    simp [execOp, ho, Instr.makeFunc]
  have harr : captured.map a.eval = (captured.toList.map a.eval).toArray := by apply Array.ext'; simp
  have hf0 : first.toList.map (evalO G s) = [] → first.map a.eval = #[] := by intro hh; simp at hh; subst hh; simp
  unfold makeFuncE at he
  split at he
  · rename_i f hfi hcp
    rw [hf0 hfi, harr] at hr
    simp at hcp
    subst hcp
    exact sound_ok h hd he hr rfl
  · rename_i f hfi _
    rw [hf0 hfi, harr] at hr
    split at he
    · rename_i caps hcaps
      obtain ⟨h1, h2⟩ := capsOf_sound h hcaps
      exact sound_ok h hd he hr ⟨_, rfl, h1, h2⟩
    · cases he
  · cases he
theorem entsOf_sound {F : Nat → Prop} {B : Nat} {x : V} {v : Value} {kd : IntKind} {es : List (List UInt8 × Int)} (hx : RepV w F B β Ω x v) (he : entsOf x = some (kd, es)) : ∃ r vs clock, v = .map (some r) ∧ w.heap[r]? = some (.map vs clock) ∧ Ents kd es vs := by
  unfold entsOf at he
  split at he
  · injection he with he; injection he with h1 h2; subst h1 h2
    obtain ⟨r, vs, clock, h1, h2, h3, h4, h5⟩ := hx
    exact ⟨r, vs, clock, h1, h4, h5⟩
  · injection he with he; injection he with h1 h2; subst h1 h2
    obtain ⟨_, r, vs, clock, h1, h4, h5⟩ := hx
    exact ⟨r, vs, clock, h1, h4, h5⟩
  · cases he
theorem run_zero_int (hT : TyOk P G) {e : TypeId} {ty : Ty} {kd : IntKind} (h : G.ty e = some ty) (hk : ty.k = .int kd) : (zeroValue e).run P w = .ok (.int kd 0) w := by
  obtain ⟨i, hi, hz⟩ := hT.zint e ty kd h hk
  simp [zeroValue, typeInfo, hi, hz]
theorem sound_lookup (hT : TyOk P G) (h : Rel G ok w0 N β Ω s a w) {o : Oper} (hd : ∀ d, o.dst = some d → d < N) {t : TypeId} {x i : Operand} {c : Bool} (ho : o.op = .lookup t x i c) {e : Eff} (he : lookupE (mapKd G (G.ty t)) (evalO G s x) (evalO G s i) c = some e) : Sound P G ok w0 N s a w o e := by
  have hx := eval_sound h x
  have hi := eval_sound h i
  generalize evalO G s x = v at he hx
  generalize evalO G s i = u at he hi
  unfold lookupE lookE at he
  split at he
  · rename_i _ _ _ kd kd' es q hkd hes
    split at he
    · rename_i hkk
      subst hkk
      obtain ⟨k, e', ety, h1, h2, h3, h4⟩ := mapKd_spec hT hkd
      obtain ⟨r, vs, clock, hv, hh, hE⟩ := entsOf_sound hx hes
      obtain ⟨hq, hql⟩ : a.eval i = .string ⟨q.toArray⟩ ∧ q.length ≤ maxLen := hi
      have hz := run_zero_int (w := w) hT h3 h4
      have hg := MapKept.run_getObj_map (P := P) hh
      have hc := MapKept.run_checkKey (P := P) (w := w) (k := .string ⟨q.toArray⟩) h2 trivial vs.isEmpty 9999
      rcases findNow_of es vs.toList 0 hE with ⟨h5, h6⟩ | ⟨y, j, h5, h6⟩
      · have hfk := MapKept.run_findKey (P := P) (w := w) h2 h6
        rw [h5] at he
        cases c
        · refine sound_ok h hd he (x := .int kd 0) ?_ rfl
          simp [execOp, ho, hv, hq, Instr.lookup, run_underlying h1, hg, hc, hfk, hz, Result.andThen]
        · refine sound_ok h hd he (x := .tuple #[.int kd 0, .bool false]) ?_ ⟨_, rfl, .cons rfl (.cons rfl .nil)⟩
          simp [execOp, ho, hv, hq, Instr.lookup, run_underlying h1, hg, hc, hfk, hz, Result.andThen]
      · have hfk := MapKept.run_findKey (P := P) (w := w) h2 h6
        rw [h5] at he
        cases c
        · refine sound_ok h hd he (x := .int kd y) ?_ rfl
          simp [execOp, ho, hv, hq, Instr.lookup, run_underlying h1, hg, hc, hfk, hz, Result.andThen]
        · refine sound_ok h hd he (x := .tuple #[.int kd y, .bool true]) ?_ ⟨_, rfl, .cons rfl (.cons rfl .nil)⟩
          simp [execOp, ho, hv, hq, Instr.lookup, run_underlying h1, hg, hc, hfk, hz, Result.andThen]
    · cases he
  · cases he
theorem sound_mapUpdate (hT : TyOk P G) (h : Rel G ok w0 N β Ω s a w) {o : Oper} {t : TypeId} {m x y : Operand} (hdst : o.dst = none) (ho : o.op = .mapUpdate t m x y) {e : Eff} (he : mapPutE (mapKd G (G.ty t)) (evalO G s m) (evalO G s x) (evalO G s y) = some e) (hob : e.obl) : Sound P G ok w0 N s a w o e := by
  have hm := eval_sound h m
  have hx := eval_sound h x
  have hy := eval_sound h y
  generalize evalO G s m = v at he hm
  generalize evalO G s x = u at he hx
  generalize evalO G s y = z at he hy
  unfold mapPutE at he
  split at he
  · rename_i _ _ _ _ kd k kd' es q kd'' n hkd
    simp only [Option.some.injEq] at he
    subst he
    obtain ⟨rfl, rfl, hnone⟩ := hob
    obtain ⟨kt, e', ety, h1, h2, h3, h4⟩ := mapKd_spec hT hkd
    obtain ⟨hΩ, r, vs, clock, hv, hh, hE⟩ := hm
    obtain ⟨hq, hql⟩ : a.eval x = .string ⟨q.toArray⟩ ∧ q.length ≤ maxLen := hx
    have hn : a.eval y = .int kd'' n := hy
    have hg := MapKept.run_getObj_map (P := P) hh
    have hc := MapKept.run_checkKey (P := P) (w := w) (k := .string ⟨q.toArray⟩) h2 trivial false 9999
    have hfk : (Instr.findKey kt (.string ⟨q.toArray⟩) vs.toList).run P w = .ok none w := by
      rcases findNow_of es vs.toList 0 hE with ⟨h5, h6⟩ | ⟨y, j, h5, h6⟩
      · exact MapKept.run_findKey (P := P) (w := w) h2 h6
      · rw [hnone] at h5; cases h5
    have hset := MapKept.run_setObj_map (P := P) (.map (vs.push { key := .string ⟨q.toArray⟩, val := .int kd'' n, born := clock }) (clock + 1)) hh
    have hrun : (execOp a.eval o).run P w = .ok .skip { w with heap := w.heap.setIfInBounds r (.map (vs.push { key := .string ⟨q.toArray⟩, val := .int kd'' n, born := clock }) (clock + 1)) } := by
      simp [execOp, ho, hv, hq, hn, Instr.mapUpdate, run_underlying h1, hg, hc, hfk, hset, Result.andThen]
    generalize hw' : ({ w with heap := w.heap.setIfInBounds r (.map (vs.push { key := .string ⟨q.toArray⟩, val := .int kd'' n, born := clock }) (clock + 1)) } : World) = w' at hrun
    obtain ⟨hat, hother⟩ := MapKept.heap_set (o' := .map (vs.push { key := .string ⟨q.toArray⟩, val := .int kd'' n, born := clock }) (clock + 1)) hh
    have hat : w'.heap[r]? = some (.map (vs.push { key := .string ⟨q.toArray⟩, val := .int kd'' n, born := clock }) (clock + 1)) := by rw [← hw']; exact hat
    have hother : ∀ i, i ≠ r → w'.heap[i]? = w.heap[i]? := by rw [← hw']; exact hother
    have hsize : w'.heap.size = w.heap.size := by rw [← hw']; simp
    have hE' : Ents kd'' (es ++ [(q, n)]) (vs.push { key := .string ⟨q.toArray⟩, val := .int kd'' n, born := clock }) := by
      unfold Ents at hE ⊢
      simp [hE]
    have hrO := h.oB k 0 _ r hΩ (by rw [hv]; rfl)
    have hmr : Mut β Ω r := .inr ⟨k, 0, _, hΩ, by rw [hv]; rfl⟩
    have hk : Keeps w w' (okF G ok w0.heap.size β Ω) (okF G ok w0.heap.size β Ω) := by
      refine ⟨fun b hb _ => hother b ?_, fun b hb _ => hb⟩
      rintro rfl
      rcases hb with ⟨h5, h6⟩ | ⟨_, h5⟩
      · rcases hrO.1 with h7 | h7
        · omega
        · have h8 := h.xok _ h7; rcases h6 with h6 | h6; exact h8.2 h6; omega
      · exact h5 hmr
    have hcell : ∀ c u, RepCell w (okF G ok w0.heap.size β Ω) w0.heap.size Ω c u → RepCell w' (okF G ok w0.heap.size β Ω) w0.heap.size Ω (c.mput k kd'' (es ++ [(q, n)])) u := by
      intro c u hu
      cases c with
      | c c => exact RepC.keeps hk c u hu
      | own i j e sz rows =>
        obtain ⟨a1, a2, a3, xs, a4, a5⟩ := hu
        refine ⟨a1, a2, a3, xs, ownsRow_same a4 (fun b hb => hother b ?_), a5.keeps hk⟩
        rintro rfl
        obtain ⟨rfl, rfl⟩ := h.oInj i j k 0 _ _ b a1 (oblk_of hb) hΩ (by rw [hv]; rfl)
        rw [hΩ] at a1
        injection a1 with a1
        rw [← a1, hv] at hb
        cases hb
      | omap i kd2 es2 =>
        obtain ⟨a1, r2, vs2, clock2, a2, a3, a4⟩ := hu
        show RepCell _ _ _ _ (if i = k then _ else _) _
        split
        · rename_i e; subst e
          rw [hΩ] at a1
          injection a1 with a1
          exact ⟨by rw [← a1]; exact hΩ, r, _, _, by rw [← a1]; exact hv, hat, hE'⟩
        · rename_i hne
          refine ⟨a1, r2, vs2, clock2, a2, (hother r2 ?_).trans a3, a4⟩
          rintro rfl
          exact hne (h.oInj i 0 k 0 _ _ r2 a1 (by rw [a2]; rfl) hΩ (by rw [hv]; rfl)).1
      | objst p => exact hu.elim
    have hcells : ∀ l us, RepCellL w (okF G ok w0.heap.size β Ω) w0.heap.size Ω l us → RepCellL w' (okF G ok w0.heap.size β Ω) w0.heap.size Ω (l.map (·.mput k kd'' (es ++ [(q, n)]))) us := by
      intro l us hl
      induction hl with
      | nil => exact .nil
      | cons h _ ih => exact .cons (hcell _ _ h) ih
    refine ⟨trivial, undef, w', β, Ω, .inr ⟨hrun, rfl⟩, ?_⟩
    have hput : a.put o.dst undef = a := by rw [hdst]; rfl
    rw [hput]
    have hbel : BelowX ok.X w0.heap.size w w' := ⟨by rw [← hw'], by rw [← hw'], by rw [← hw'], by omega, fun i hi hx => hother i (fun e => by subst e; rcases hrO.1 with h1 | h1; omega; exact hx h1)⟩
    refine ⟨h.below.trans hbel, h.xok, h.glob, h.defers.keeps hk.def, h.size, fun t v hv => ?_, fun t cs hc => ?_, h.bInj, h.oInj, h.bo, fun i b hb => by rw [hsize]; exact h.bB i b hb, fun i j v b h1 h2 => by rw [hsize]; exact h.oB i j v b h1 h2⟩
    · have hv' : amLook t (s.env.map fun p => (p.1, p.2.mput k kd'' (es ++ [(q, n)]))) = some v := hv
      rw [look_map (V.mput k kd'' (es ++ [(q, n)]))] at hv'
      cases hl : amLook t s.env with
      | none => rw [hl] at hv'; cases hv'
      | some u =>
        rw [hl] at hv'
        simp only [Option.map_some, Option.some.injEq] at hv'
        subst hv'
        have hu := h.env t u hl
        cases u with
        | cell x => exact hcell _ _ hu
        | agg cs => obtain ⟨vs, h1, h2⟩ := hu; exact ⟨vs, h1, hcells _ _ h2⟩
        | tup l => obtain ⟨vs, h1, h2⟩ := hu; exact ⟨vs, h1, h2.keeps hk⟩
        | ptr t off => exact hu
        | ref cs => exact RepA.keeps (a := .ref cs) hk hu
        | undef => trivial
        | skp => exact hu
        | «at» k b => exact hu
        | clo f caps => exact hu
    · have hc' : amLook t (s.box.map fun p => (p.1, p.2.map (·.mput k kd'' (es ++ [(q, n)])))) = some cs := hc
      rw [look_map (fun l : List Cell => l.map (·.mput k kd'' (es ++ [(q, n)])))] at hc'
      cases hl : amLook t s.box with
      | none => rw [hl] at hc'; cases hc'
      | some u =>
        rw [hl] at hc'
        simp only [Option.map_some, Option.some.injEq] at hc'
        subst hc'
        rcases h.box t u hl with ⟨b, vs', ty, h1, h2, h3⟩ | ⟨h1, h2, h3⟩
        · refine .inl ⟨b, vs', ty, h1, (hother b ?_).trans h2, hcells _ _ h3⟩
          rintro rfl
          rw [hh] at h2
          cases h2
        · refine .inr ⟨h1, h2, ?_⟩
          match u, h3 with
          | [.objst p], ⟨a1, fp, a2, a3⟩ =>
            have hs : ∀ b, fp b → w'.heap[b]? = w.heap[b]? := fun b hb => hother b (by
              rintro rfl
              have a4 := (a3 b hb).2
              have a5 := h.oInj 1000000 b k 0 _ _ b a4 rfl hΩ (by rw [hv]; rfl)
              rw [a5.1, a5.2, hΩ] at a4
              rw [hv] at a4
              cases a4)
            exact ⟨a1, fp, a1 _ _ w w' fp a2 hk hs, fun b hb => ⟨by rw [hsize]; exact (a3 b hb).1, (a3 b hb).2⟩⟩
          | [], _ => trivial
          | [.c x], _ => trivial
          | [.own t j e z r], _ => trivial
          | [.omap t kd es], _ => show ObjBox w' _ Ω [if t = k then _ else _]; split <;> trivial
          | _ :: _ :: _, _ => exact ObjBox.two
  · cases he
end
end Go.Proofs.Am
namespace Go.Proofs.Am
open Go.RowKit
section
variable {P : Program} {G : Ctx} {ok : Fr} {w0 : World} {N : Nat} {β : Nat → Option Nat} {Ω : Nat → Nat → Option Value} {s : S} {a : Act} {w : World}
theorem eff_sound (hT : TyOk P G) (h : Rel G ok w0 N β Ω s a w) {o : Oper} (hd : ∀ d, o.dst = some d → d < N) {e : Eff} (he : effF G o (evalO G s) (fun k => amLook k s.box) = some e) (hob : e.obl) (hf : FreshOk e s) : Sound P G ok w0 N s a w o e := by
  unfold effF at he
  split at he
  · rename_i ho
    split at he
    · exact sound_nil hT h hd (.inl ho) he hf
    · cases he
  · rename_i ho
    split at he
    · exact sound_nil hT h hd (.inr ho) he hf
    · cases he
  · rename_i x _ ho; exact sound_move h hd (.inl ho) he
  · rename_i x _ ho; exact sound_move h hd (.inr ho) he
  · rename_i ho; exact sound_pick h hd ho he
  · rename_i ho; exact sound_alloc hT h hd ho he hf
  · rename_i ho; exact sound_box h hd ho he hf
  · rename_i ho; exact sound_build hT h hd ho he hf
  · rename_i ho
    split at he
    · rename_i hel; exact sound_buildSlice hT h hd ho hel he hob hf
    · cases he
  · rename_i ho; exact sound_load hT h hd ho he hob
  · rename_i ho
    split at he
    · rename_i hdst; exact sound_store hT h hdst ho he hob
    · cases he
  · rename_i ho; exact sound_nilCheck h hd ho he
  · rename_i ho; exact sound_bin hT h hd ho he hob
  · rename_i ho; exact sound_un h hd ho he
  · rename_i ho; exact sound_conv hT h hd ho he
  · rename_i ho; exact sound_field hT h hd ho he
  · rename_i ho; exact sound_index hT h hd ho he hob
  · rename_i ho; exact sound_extract h hd ho he
  · rename_i ho; exact sound_sindex hT h hd ho he hob
  · rename_i ho; exact sound_sslice hT h hd ho he hob
  · rename_i ho; exact sound_makeFunc h hd ho he
  · rename_i ho; exact sound_makeMap hT h hd ho he hf
  · rename_i ho; exact sound_lookup hT h hd ho he
  · rename_i ho
    split at he
    · rename_i hdst; exact sound_mapUpdate hT h hdst ho he hob
    · cases he
  · rename_i c ho
    obtain ⟨cal, ⟨args⟩, ⟨ts⟩⟩ := c
    unfold callE at he
    split at he
    · rename_i b hb
      simp only at hb he
      subst hb
      unfold biE at he
      split at he
      · exact sound_len hT h hd ho he
      · exact sound_max h hd ho he
      · exact sound_min h hd ho he
      · split at he
        · rename_i ht
          subst ht
          split at he
          · rename_i hel; exact sound_append hT h hd ho hel he hob hf
          · cases he
        · cases he
      · cases he
    · cases he
  · cases he
end
end Go.Proofs.Am
namespace Go.Proofs.Am
open Go.RowKit
section
variable {P : Program} {G : Ctx} {ok : Fr} {w0 : World} {N : Nat} {β : Nat → Option Nat} {Ω : Nat → Nat → Option Value} {s : S} {a : Act} {w w' : World}
/-- Less is known. -/
def S.sub (s s' : S) : Prop := (∀ t v, amLook t s.env = some v → amLook t s'.env = some v) ∧ ∀ k cs, amLook k s.box = some cs → amLook k s'.box = some cs
theorem Rel.sub {s' : S} (h : Rel G ok w0 N β Ω s a w) (hs : s'.sub s) : Rel G ok w0 N β Ω s' a w :=
  { h with env := fun t v hv => h.env t v (hs.1 t v hv), box := fun k cs hc => h.box k cs (hs.2 k cs hc) }
def resV : List A → V
  | [a] => a.val
  | l => .tup l
def resVal : List Value → Value
  | [v] => v
  | vs => .tuple vs.toArray
/-- What a call of function f answers. -/
def Holds (P : Program) (G : Ctx) (f : FuncId) (args res : List A) : Prop :=
  (∃ fn, P.funcs[f]? = some fn ∧ fn.body.isSome = true ∧ (fn.name == "runtime.NumGoroutine") = false) ∧
  ∀ (ok : Nat → Prop) (w : World) (vs : List Value), G.nglob ≤ w.heap.size → GlobOk G w → RepAs w ok args vs →
    Calls P f vs.toArray w fun e w' => ∃ rs, e = .returned (resVal rs) ∧ RepAs w' (fun b => (b < w.heap.size ∧ (ok b ∨ b < G.nglob)) ∨ w.heap.size ≤ b) res rs ∧ Below w.heap.size w w'
def argsOf (G : Ctx) (s : S) : List Operand → Option (List A)
  | [] => some []
  | x :: r => match (evalO G s x).arg with
    | some y => match argsOf G s r with
      | some l => some (y :: l)
      | none => none
    | none => none
def pures (G : Ctx) (s : S) : List Operand → Bool
  | [] => true
  | x :: r => (evalO G s x).pure? && pures G s r
def C.scalar : C → Bool
  | .int _ _ | .bool _ | .str _ | .fn _ | .nilp | .nilm | .val _ => true
  | _ => false
def A.scalar : A → Bool
  | .c x => x.scalar
  | _ => false
theorem C.scalar_rep {F F' : Nat → Prop} {c : C} {v : Value} (hs : c.scalar = true) (h : RepC w F c v) : RepC w' F' c v := by
  cases c <;> first | exact h | cases hs
theorem A.scalar_rep {F F' : Nat → Prop} {c : A} {v : Value} (hs : c.scalar = true) (h : RepA w F c v) : RepA w' F' c v := by
  cases c with
  | c x => exact C.scalar_rep hs h
  | agg l => cases hs
  | ref l => cases hs
theorem RepAs.scalar {F F' : Nat → Prop} {l : List A} {vs : List Value} (hs : l.all (·.scalar) = true) (h : RepAs w F l vs) : RepAs w' F' l vs := by
  induction h with
  | nil => exact .nil
  | cons h _ ih =>
    simp only [List.all_cons, Bool.and_eq_true] at hs
    exact .cons (A.scalar_rep hs.1 h) (ih hs.2)
theorem Rel.globw (h : Rel G ok w0 N β Ω s a w) : GlobOk G w := by
  intro g cs hg
  obtain ⟨h1, h2, vs, ty, fz, h3, hl⟩ := h.glob g cs hg
  exact ⟨h1, Nat.lt_of_lt_of_le h2 h.below.size, vs, ty, fz, (h.below.block g h2 (fun hx => by have := (h.xok g hx).1; omega)).trans h3, hl.keeps Keeps.none⟩
theorem arg_sound {F F' : Nat → Prop} {B : Nat} {v : V} {x : Value} {y : A} (hv : v.arg = some y) (h : RepV w F B β Ω v x) (hF : ∀ b, F b → F' b) (hb : ∀ k j b u, Ω k j = some u → oblk u = some b → F' b) : RepA w F' y x := by
  cases v with
  | cell c => simp [V.arg] at hv; subst hv; exact RepCell.data (B := B) h hF hb
  | agg cs =>
    simp [V.arg] at hv; subst hv
    obtain ⟨vs, h1, h2⟩ := h
    exact ⟨vs, h1, RepCellL.datas h2 hF hb⟩
  | tup l => simp [V.arg] at hv
  | ptr k off => simp [V.arg] at hv
  | ref cs => simp [V.arg] at hv; subst hv; exact RepA.keeps (a := .ref cs) (Keeps.grow w hF) h
  | undef => simp [V.arg] at hv
  | skp => simp [V.arg] at hv
  | «at» k b => simp [V.arg] at hv
  | clo f caps => simp [V.arg] at hv
theorem args_sound {F' : Nat → Prop} (h : Rel G ok w0 N β Ω s a w) (hF : ∀ b, okF G ok w0.heap.size β Ω b → F' b) (hb : ∀ k j b u, Ω k j = some u → oblk u = some b → F' b) : ∀ {xs : List Operand} {l : List A}, argsOf G s xs = some l → RepAs w F' l (xs.map a.eval) := by
  intro xs
  induction xs with
  | nil => intro l hl; simp [argsOf] at hl; subst hl; exact .nil
  | cons x r ih =>
    intro l hl
    simp only [argsOf] at hl
    split at hl
    · rename_i y hy
      split at hl
      · rename_i l' hl'
        simp only [Option.some.injEq] at hl
        subst hl
        exact .cons (arg_sound hy (eval_sound h x) hF hb) (ih hl')
      · cases hl
    · cases hl
theorem Cell.data_pure {F : Nat → Prop} {B : Nat} {x : Cell} {v : Value} (hp : x.pure? = true) (h : RepCell w F B Ω x v) : RepC w F x.data v := by
  cases x with
  | c x => exact h
  | own k j e sz rows => cases hp
  | omap k kd es => cases hp
  | objst p => cases hp
theorem arg_pure {F : Nat → Prop} {B : Nat} {v : V} {x : Value} {y : A} (hv : v.arg = some y) (hp : v.pure? = true) (h : RepV w F B β Ω v x) : RepA w F y x := by
  cases v with
  | cell c => simp [V.arg] at hv; subst hv; exact Cell.data_pure (B := B) hp h
  | agg cs =>
    simp [V.arg] at hv; subst hv
    obtain ⟨vs, h1, h2⟩ := h
    exact ⟨vs, h1, RepCellL.pure h2 hp⟩
  | tup l => simp [V.arg] at hv
  | ptr k off => simp [V.arg] at hv
  | ref cs => simp [V.arg] at hv; subst hv; exact h
  | undef => simp [V.arg] at hv
  | skp => simp [V.arg] at hv
  | «at» k b => simp [V.arg] at hv
  | clo f caps => simp [V.arg] at hv
theorem args_pure (h : Rel G ok w0 N β Ω s a w) : ∀ {xs : List Operand} {l : List A}, argsOf G s xs = some l → pures G s xs = true → RepAs w (okF G ok w0.heap.size β Ω) l (xs.map a.eval) := by
  intro xs
  induction xs with
  | nil => intro l hl _; simp [argsOf] at hl; subst hl; exact .nil
  | cons x r ih =>
    intro l hl hp
    simp only [pures, Bool.and_eq_true] at hp
    simp only [argsOf] at hl
    split at hl
    · rename_i y hy
      split at hl
      · rename_i l' hl'
        simp only [Option.some.injEq] at hl
        subst hl
        exact .cons (arg_pure hy hp.1 (eval_sound h x)) (ih hl' hp.2)
      · cases hl
    · cases hl
theorem val_sound {F : Nat → Prop} {B : Nat} {y : A} {x : Value} (h : RepA w F y x) : RepV w F B β Ω y.val x := by
  cases y with
  | c x => exact h
  | agg cs => obtain ⟨vs, h1, h2⟩ := h; exact ⟨vs, h1, RepCellL.of h2⟩
  | ref cs => exact h
theorem res_sound {F : Nat → Prop} {B : Nat} {l : List A} {vs : List Value} (h : RepAs w F l vs) : RepV w F B β Ω (resV l) (resVal vs) := by
  cases h with
  | nil => exact ⟨[], rfl, .nil⟩
  | cons h r =>
    cases r with
    | nil => exact val_sound h
    | cons h' r => exact ⟨_, rfl, .cons h (.cons h' r)⟩
/-- A closure and the boxes that it holds. -/
def cloOf (G : Ctx) (s : S) (c : Call) : Option (FuncId × List (Nat × Nat)) := match c.callee with
  | .value x => match evalO G s x with
    | .clo f caps => some (f, caps)
    | _ => none
  | _ => none
def capArgs (s : S) : List (Nat × Nat) → Option (List A)
  | [] => some []
  | (k, off) :: r => match amLook k s.box with
    | some cs => match capArgs s r with
      | some l => some (.ref ((cs.drop off).map (·.data)) :: l)
      | none => none
    | none => none
theorem RepAs.append {F : Nat → Prop} {l m : List A} {vs us : List Value} (h : RepAs w F l vs) (k : RepAs w F m us) : RepAs w F (l ++ m) (vs ++ us) := by
  induction h with
  | nil => exact k
  | cons h _ ih => exact .cons h ih
theorem caps_sound (h : Rel G ok w0 N β Ω s a w) : ∀ {caps : List (Nat × Nat)} {l : List A} {vs : List Value}, capArgs s caps = some l → vs.length = caps.length → (∀ (j : Nat) k off, caps[j]? = some (k, off) → ∃ b, β k = some b ∧ vs[j]? = some (.pointer (some ⟨b, off, none⟩))) → RepAs w (fun _ => True) l vs := by
  intro caps
  induction caps with
  | nil => intro l vs hl hn _; simp [capArgs] at hl; subst hl; simp at hn; subst hn; exact .nil
  | cons p r ih =>
    intro l vs hl hn hv
    obtain ⟨k, off⟩ := p
    simp only [capArgs] at hl
    split at hl
    · rename_i cs hcs
      split at hl
      · rename_i l' hl'
        simp only [Option.some.injEq] at hl
        subst hl
        cases vs with
        | nil => simp at hn
        | cons v vs =>
          obtain ⟨b, hb, hvb⟩ := hv 0 k off rfl
          simp at hvb
          subst hvb
          refine .cons ?_ (ih hl' (by simpa using hn) fun j k off hj => by simpa using hv (j + 1) k off (by simpa using hj))
          obtain ⟨us, ty, hh, hr⟩ := h.boxB hb hcs
          have hd := RepCellL.datas (F' := fun _ => True) (hr.drop off) (fun _ _ => trivial) (fun _ _ _ _ _ _ => trivial)
          refine ⟨⟨b, off, none⟩, rfl, trivial, (h.bB k b hb).2, RepCells.of hd fun j u hu => ?_⟩
          rw [Nat.zero_add, aplain, cell_at hh]
          simpa using hu
      · cases hl
    · cases hl
/-- The function that a call's first place names. -/
def calleeOf (G : Ctx) (s : S) (c : Call) : Option FuncId := match c.callee with
  | .value x => match evalO G s x with
    | .cell (.c (.fn f)) => some f
    | _ => none
  | _ => none
theorem call_enter (h : Rel G ok w0 N β Ω s a w) {o : Oper} {c : Call} (ho : o.op = .call c) {f : FuncId} (hf : calleeOf G s c = some f)
    (hfn : ∃ fn, P.funcs[f]? = some fn ∧ fn.body.isSome = true ∧ (fn.name == "runtime.NumGoroutine") = false) :
    (execOp a.eval o).run P w = .ok (.enter f (c.args.toList.map a.eval).toArray) w := by
  obtain ⟨fn, h1, h2, h3⟩ := hfn
  unfold calleeOf at hf
  split at hf
  · rename_i x hx
    split at hf
    · rename_i g hg
      simp only [Option.some.injEq] at hf
      subst hf
      have he := eval_sound h x
      rw [hg] at he
      have he' : a.eval x = .func (.func g) #[] #[] := he
      have hb : fn.body.isNone = false := by cases hb : fn.body <;> simp_all
      have harr : (c.args.toList.map a.eval).toArray = c.args.map a.eval := by
        apply Array.ext'; simp
      rw [harr]
      simp only [beq_eq_false_iff_ne, ne_eq] at h3
      have hb' : fn.body ≠ none := by intro e; rw [e] at hb; cases hb
      simp [execOp, ho, resolve, hx, he', Deferred.ofValue, invoke, callFunc, h1, hb', h3]
    · cases hf
  · cases hf
theorem clo_enter (h : Rel G ok w0 N β Ω s a w) {o : Oper} {c : Call} (ho : o.op = .call c) {f : FuncId} {caps : List (Nat × Nat)} (hf : cloOf G s c = some (f, caps))
    (hfn : ∃ fn, P.funcs[f]? = some fn ∧ fn.body.isSome = true ∧ (fn.name == "runtime.NumGoroutine") = false) :
    ∃ vs : List Value, (execOp a.eval o).run P w = .ok (.enter f (c.args.toList.map a.eval ++ vs).toArray) w ∧ vs.length = caps.length ∧ ∀ (j : Nat) k off, caps[j]? = some (k, off) → ∃ b, β k = some b ∧ vs[j]? = some (.pointer (some ⟨b, off, none⟩)) := by
  obtain ⟨fn, h1, h2, h3⟩ := hfn
  unfold cloOf at hf
  split at hf
  · rename_i x hx
    split at hf
    · rename_i g l hg
      simp only [Option.some.injEq, Prod.mk.injEq] at hf
      obtain ⟨rfl, rfl⟩ := hf
      have he := eval_sound h x
      rw [hg] at he
      obtain ⟨vs, he', hl, hv⟩ := he
      refine ⟨vs, ?_, hl, hv⟩
      have hb : fn.body.isNone = false := by cases hb : fn.body <;> simp_all
      have harr : (c.args.toList.map a.eval ++ vs).toArray = c.args.map a.eval ++ vs.toArray := by
        apply Array.ext'; simp
      rw [harr]
      simp only [beq_eq_false_iff_ne, ne_eq] at h3
      have hb' : fn.body ≠ none := by intro e; rw [e] at hb; cases hb
      simp [execOp, ho, resolve, hx, he', Deferred.ofValue, invoke, callFunc, h1, hb', h3]
    · cases hf
  · cases hf
end
end Go.Proofs.Am
namespace Go.Proofs.Am
open Go.RowKit
section
variable {P : Program} {G : Ctx} {ok : Fr} {w0 : World} {N : Nat} {β : Nat → Option Nat} {Ω : Nat → Nat → Option Value} {s : S} {a : Act} {w w' : World}
def FnOk (P : Program) (f : FuncId) : Prop := ∃ fn, P.funcs[f]? = some fn ∧ fn.body.isSome = true ∧ (fn.name == "runtime.NumGoroutine") = false
def ResO (w : World) : Option (List A) → Value → Prop
  | none, _ => True
  | some l, u => l.all (·.scalar) = true ∧ ∃ rs, u = resVal rs ∧ RepAs w (fun _ => False) l rs
def resO : Option (List A) → V
  | none => .undef
  | some l => resV l
def ObjPost (G : Ctx) (ok : Nat → Prop) (w : World) (fp : Nat → Prop) (res : Option (List A)) (p' : OP) (e : Ending) (w' : World) : Prop :=
  ∃ u fp', e = .returned u ∧ ResO w' res u ∧ p' (fun b => (b < w.heap.size ∧ (ok b ∨ b < G.nglob)) ∨ ((w.heap.size ≤ b ∨ fp b) ∧ ¬ fp' b)) w' fp' ∧ (∀ b, fp' b → b < w'.heap.size ∧ (fp b ∨ w.heap.size ≤ b)) ∧ BelowX fp w.heap.size w w'
/-- What a call of f answers that is handed an object: the object's state goes from p to p'; nothing else that was there turns. -/
def CallsO (P : Program) (G : Ctx) (f : FuncId) (extra : List Value) (args : List A) (p : OP) (res : Option (List A)) (p' : OP) : Prop :=
  Stab p' ∧ ∀ (ok : Nat → Prop) (w : World) (vs : List Value) (fp : Nat → Prop), G.nglob ≤ w.heap.size → GlobOk G w → RepAs w ok args vs → p ok w fp → (∀ b, fp b → b < w.heap.size ∧ G.nglob ≤ b ∧ ¬ ok b) →
    Calls P f (vs ++ extra).toArray w fun e w' => ObjPost G ok w fp res p' e w'
def HoldsO (P : Program) (G : Ctx) (f : FuncId) (args : List A) (p : OP) (res : Option (List A)) (p' : OP) : Prop := FnOk P f ∧ CallsO P G f [] args p res p'
/-- A function value is called: a function's, or a loop's yield. -/
def CallV (P : Program) (v : Value) (vs : List Value) (w : World) (R : Ending → World → Prop) : Prop :=
  (∃ f extra, v = .func (.func f) #[] (List.toArray extra) ∧ FnOk P f ∧ Calls P f (vs ++ extra).toArray w R) ∨
  (∃ l fn tmps assign body, v = .func (.yield l) #[] #[] ∧ (Instr.yield l vs.toArray).run P w = .ok (.round l fn tmps assign body) w ∧ RoundIn Fence.wide 0 P l fn tmps assign body w R)
/-- .. of a function value. -/
def HoldsV (P : Program) (G : Ctx) (v : Value) (args : List A) (p : OP) (res : Option (List A)) (p' : OP) : Prop :=
  Stab p' ∧ ∀ (ok : Nat → Prop) (w : World) (vs : List Value) (fp : Nat → Prop), G.nglob ≤ w.heap.size → GlobOk G w → RepAs w ok args vs → p ok w fp → (∀ b, fp b → b < w.heap.size ∧ G.nglob ≤ b ∧ ¬ ok b) →
    CallV P v vs w fun e w' => ObjPost G ok w fp res p' e w'
def A.isObj : A → Bool
  | .c (.val _) => true
  | _ => false
def V.isObj : V → Bool
  | .cell (.c (.val _)) => true
  | _ => false
def calleeV (G : Ctx) (s : S) (c : Call) : V := match c.callee with
  | .value x => evalO G s x
  | _ => .undef
def objArgs (G : Ctx) (s : S) : List Operand → Bool
  | [] => false
  | x :: r => (evalO G s x).isObj || objArgs G s r
/-- Is the call handed an object, or is it the object's own? -/
def objCall (G : Ctx) (s : S) (c : Call) : Bool := match c.callee with
  | .value x => (evalO G s x).isObj || objArgs G s c.args.toList
  | _ => false
def S.objOk (s : S) : Bool := s.env.all (fun p => !p.2.site? 1000000) && s.box.all (fun p => p.1 == 1000000 || p.2.all (fun x => !x.site? 1000000))
def putEnv (e : List (Nat × V)) (d : Option Nat) (v : V) : List (Nat × V) := match d with
  | some t => (t, v) :: e
  | none => e
def S.objPut (s : S) (d : Option Nat) (res : Option (List A)) (p' : OP) : S := ⟨putEnv s.env d (resO res), (1000000, [.objst p']) :: s.box⟩
def capRefs (l : List C) : List A := l.map fun c => .ref [c]
def objK (P : Program) (G : Ctx) (d : Option Nat) (args : List A) (p : OP) (K : S → Prop) (s : S) : V → Prop
  | .cell (.c (.fn f)) => ∃ res p', HoldsO P G f args p res p' ∧ K (s.objPut d res p')
  | .cell (.c (.clo f caps)) => ∃ res p', HoldsO P G f (args ++ capRefs caps) p res p' ∧ K (s.objPut d res p')
  | .cell (.c (.val v)) => ∃ res p', HoldsV P G v args p res p' ∧ K (s.objPut d res p')
  | _ => False
def amObj0 (P : Program) (G : Ctx) (o : Oper) (K : S → Prop) (s : S) : Prop :=
  match o.op with
  | .call c => match argsOf G s c.args.toList with
    | some args => match amLook 1000000 s.box with
      | some [.objst p] => pures G s c.args.toList = true ∧ objK P G o.dst args p K s (calleeV G s c)
      | _ => False
    | none => False
  | _ => False
def amObj (P : Program) (G : Ctx) (o : Oper) (K : S → Prop) (s : S) : Prop := s.objOk = true ∧ amObj0 P G o K s
/-- A function value is called. -/
theorem enter_of {o : Oper} {c : Call} (ho : o.op = .call c) {f : FuncId} {caps : List Value} {x : Operand} (hx : c.callee = .value x) (he : a.eval x = .func (.func f) #[] caps.toArray) (hfn : FnOk P f) :
    (execOp a.eval o).run P w = .ok (.enter f (c.args.toList.map a.eval ++ caps).toArray) w := by
  obtain ⟨fn, h1, h2, h3⟩ := hfn
  have hb : fn.body.isNone = false := by cases hb : fn.body <;> simp_all
  have harr : (c.args.toList.map a.eval ++ caps).toArray = c.args.map a.eval ++ caps.toArray := by
    apply Array.ext'; simp
  rw [harr]
  simp only [beq_eq_false_iff_ne, ne_eq] at h3
  have hb' : fn.body ≠ none := by intro e; rw [e] at hb; cases hb
  simp [execOp, ho, resolve, hx, he, Deferred.ofValue, invoke, callFunc, h1, hb', h3]
theorem caps_refs {F : Nat → Prop} : ∀ {caps : List C} {ads : List Addr}, RepCaps w F caps ads → RepAs w F (capRefs caps) (ads.map fun a => Value.pointer (some a)) := by
  intro caps
  induction caps with
  | nil => intro ads h; have h : ads = [] := h; subst h; exact .nil
  | cons c r ih =>
    intro ads h
    obtain ⟨ad, rest, rfl, ⟨h2, h3, v, h4, h5⟩, h6⟩ := h
    exact .cons ⟨ad, rfl, h2, h3, ⟨v, by simpa [azero] using h4, h5⟩, trivial⟩ (ih h6)
theorem Rel.obj (h : Rel G ok w0 N β Ω s a w) {p : OP} (hp : amLook 1000000 s.box = some [.objst p]) :
    β 1000000 = none ∧ Stab p ∧ ∃ fp, p (okF G ok w0.heap.size β Ω) w fp ∧ ∀ b, fp b → b < w.heap.size ∧ Ω 1000000 b = some (mark b) := by
  rcases h.box _ _ hp with ⟨b, vs, ty, _, _, h3⟩ | ⟨_, h1, h2, h3⟩
  · generalize vs.toList = l at h3
    cases h3 with
    | cons h3 _ => exact h3.elim
  · exact ⟨h1, h2, h3⟩
def ObjOkP (s : S) : Prop := (∀ t v, amLook t s.env = some v → v.site? 1000000 = false) ∧ ∀ t cs, amLook t s.box = some cs → t ≠ 1000000 → ∀ x ∈ cs, x.site? 1000000 = false
theorem objOkP (h : s.objOk = true) : ObjOkP s := by
  simp only [S.objOk, Bool.and_eq_true, List.all_eq_true] at h
  refine ⟨fun t v hv => ?_, fun t cs hc ht x hx => ?_⟩
  · simpa using h.1 _ (look_mem hv)
  · have := h.2 _ (look_mem hc)
    simp only [Bool.or_eq_true, beq_iff_eq, List.all_eq_true] at this
    rcases this with h1 | h1
    · exact absurd h1 ht
    · simpa using h1 x hx
open Classical in
/-- The object's own blocks have turned, nothing else. -/
theorem Rel.afterObj' (h : Rel G ok w0 N β Ω s a w) {p p' : OP} (hp : amLook 1000000 s.box = some [.objst p]) (hs : ObjOkP s) {fp fp' : Nat → Prop} (hfp : ∀ b, fp b → b < w.heap.size ∧ Ω 1000000 b = some (mark b))
    (hst : Stab p') (hp' : p' (fun b => (b < w.heap.size ∧ (okF G ok w0.heap.size β Ω b ∨ b < G.nglob)) ∨ ((w.heap.size ≤ b ∨ fp b) ∧ ¬ fp' b)) w' fp') (hfp' : ∀ b, fp' b → b < w'.heap.size ∧ (fp b ∨ w.heap.size ≤ b)) (hb : BelowX fp w.heap.size w w') (hng : G.nglob ≤ w0.heap.size) :
    ∃ Ω', Rel G ok w0 N β Ω' { env := s.env, box := (1000000, [.objst p']) :: s.box } a w' ∧ ∀ b, Mut β Ω' b → Mut β Ω b ∨ fp' b := by
  obtain ⟨hs1, hs2⟩ := hs
  obtain ⟨hβ, _, _⟩ := h.obj hp
  let Ω' : Nat → Nat → Option Value := fun i j => if i = 1000000 then (if fp' j then some (mark j) else none) else Ω i j
  have hle : w0.heap.size ≤ w.heap.size := h.below.size
  have ho : ∀ b, fp b → (w0.heap.size ≤ b ∨ ok.X b) := fun b hb => (h.oB 1000000 b _ b (hfp b hb).2 rfl).1
  have hmut : ∀ b, b < w.heap.size → Mut β Ω' b → Mut β Ω b := by
    intro b hlt hm
    rcases hm with ⟨i, hi⟩ | ⟨i, j, v, h1, h2⟩
    · exact .inl ⟨i, hi⟩
    · simp only [Ω'] at h1
      split at h1
      · split at h1
        · rename_i hj
          injection h1 with h1; subst h1; injection h2 with h2; subst h2
          rcases (hfp' _ hj).2 with h3 | h3
          · exact .inr ⟨1000000, _, _, (hfp _ h3).2, rfl⟩
          · have h3 : w.heap.size ≤ j := h3
            have hlt : j < w.heap.size := hlt
            omega
        · cases h1
      · exact .inr ⟨i, j, v, h1, h2⟩
  have hnf : ∀ b, fp b → ¬ okF G ok w0.heap.size β Ω b := by
    intro b hb hF
    rcases hF with ⟨h1, h2⟩ | ⟨_, h2⟩
    · rcases ho b hb with h3 | h3
      · omega
      · have h4 := h.xok _ h3; rcases h2 with h2 | h2; exact h4.2 h2; omega
    · exact h2 (.inr ⟨1000000, b, _, (hfp b hb).2, rfl⟩)
  have hk : Keeps w w' (okF G ok w0.heap.size β Ω) (okF G ok w0.heap.size β Ω') := by
    refine ⟨fun b h1 hl => hb.block b hl (fun h2 => hnf b h2 h1), fun b h1 hl => ?_⟩
    rcases h1 with h1 | ⟨h1, h2⟩
    · exact .inl h1
    · exact .inr ⟨h1, fun hm => h2 (hmut b hl hm)⟩
  have hother : ∀ i j v b, i ≠ 1000000 → Ω i j = some v → oblk v = some b → ¬ fp b := by
    intro i j v b hi h1 h2 h3
    exact hi (h.oInj i j 1000000 b v _ b h1 h2 (hfp b h3).2 rfl).1
  have hown : OwnKeeps w w' Ω Ω' (fun k _ => k ≠ 1000000) :=
    ⟨fun i j v hi h1 => by simp only [Ω']; rw [if_neg hi]; exact h1, fun i j v b hi h1 h2 hl => hb.block b hl (hother i j v b hi h1 h2)⟩
  have hbl : BelowX ok.X w0.heap.size w w' := ⟨hb.os, hb.tape, hb.output, hb.size, fun b h1 h2 => hb.block b (by omega) (fun h3 => by rcases ho b h3 with h4 | h4; omega; exact h2 h4)⟩
  have hmut2 : ∀ b, Mut β Ω' b → Mut β Ω b ∨ fp' b := by
    intro b hm
    rcases hm with ⟨i, hi⟩ | ⟨i, j, v, h1, h2⟩
    · exact .inl (.inl ⟨i, hi⟩)
    · simp only [Ω'] at h1
      split at h1
      · split at h1
        · rename_i hj; injection h1 with h1; subst h1; injection h2 with h2; subst h2; exact .inr hj
        · cases h1
      · exact .inl (.inr ⟨i, j, v, h1, h2⟩)
  refine ⟨Ω', h.move (fun k _ => k ≠ 1000000) (fun k => k ≠ 1000000) hbl hk hown (fun _ _ _ h => h) (fun t v hv => .inr ⟨hv, V.live_of (hs1 t v hv)⟩) (fun k cs hc => ?_) (fun _ _ h => h) h.bInj ?_ ?_ (fun k b h1 => ?_) ?_, hmut2⟩
  · have hc' : (if k = 1000000 then some [.objst p'] else amLook k s.box) = some cs := hc
    by_cases e : k = 1000000
    · rw [if_pos e] at hc'
      injection hc' with hc'
      subst hc' e
      refine .inr (.inr ⟨rfl, hβ, hst, fp', ?_, fun b h1 => ⟨(hfp' b h1).1, by simp only [Ω']; rw [if_pos trivial, if_pos h1]⟩⟩)
      refine hst _ _ w' w' fp' hp' (Keeps.growW w' fun b h1 => ?_) (fun _ _ => rfl)
      rcases h1 with ⟨h1, h2 | h2⟩ | ⟨h1, h2⟩
      · exact hk.ok b h2 h1
      · exact .inl ⟨by omega, .inr h2⟩
      · refine .inr ⟨h1.elim (fun h1 => .inl (by omega)) (fun h1 => ho b h1), fun hm => ?_⟩
        rcases hm with ⟨i, hi⟩ | ⟨i, j, v, h3, h4⟩
        · rcases h1 with h1 | h1
          · have := (h.bB i b hi).2; omega
          · exact h.bo i b 1000000 b _ hi (hfp b h1).2 rfl
        · simp only [Ω'] at h3
          split at h3
          · split at h3
            · rename_i hj; injection h3 with h3; subst h3; injection h4 with h4; subst h4; exact h2 hj
            · cases h3
          · rename_i hne
            rcases h1 with h1 | h1
            · have := (h.oB i j v b h3 h4).2; omega
            · exact hother i j v b hne h3 h4 h1
    · rw [if_neg e] at hc'
      exact .inl ⟨hc', e, fun x hx => Cell.live_of (hs2 k cs hc' e x hx), fun b h1 => hb.block b (h.bB k b h1).2 (fun h2 => h.bo k b 1000000 b _ h1 (hfp b h2).2 rfl)⟩
  · intro i j i' j' v v' b h1 h2 h3 h4
    simp only [Ω'] at h1 h3
    have key : ∀ i j v, i ≠ 1000000 → Ω i j = some v → oblk v = some b → fp' b → False := by
      intro i j v hi h5 h6 h7
      rcases (hfp' b h7).2 with h8 | h8
      · exact hother i j v b hi h5 h6 h8
      · have := (h.oB i j v b h5 h6).2; omega
    by_cases e : i = 1000000 <;> by_cases e' : i' = 1000000
    · rw [if_pos e] at h1
      rw [if_pos e'] at h3
      split at h1
      · split at h3
        · injection h1 with h1; injection h3 with h3; subst h1 h3; injection h2 with h2; injection h4 with h4; exact ⟨e.trans e'.symm, h2.trans h4.symm⟩
        · cases h3
      · cases h1
    · rw [if_pos e] at h1
      rw [if_neg e'] at h3
      split at h1
      · rename_i hj; injection h1 with h1; subst h1; injection h2 with h2; subst h2; exact (key i' j' v' e' h3 h4 hj).elim
      · cases h1
    · rw [if_neg e] at h1
      rw [if_pos e'] at h3
      split at h3
      · rename_i hj; injection h3 with h3; subst h3; injection h4 with h4; subst h4; exact (key i j v e h1 h2 hj).elim
      · cases h3
    · rw [if_neg e] at h1
      rw [if_neg e'] at h3
      exact h.oInj i j i' j' v v' b h1 h2 h3 h4
  · intro k b i j v h1 h2 h3
    simp only [Ω'] at h2
    split at h2
    · split at h2
      · rename_i hj
        injection h2 with h2; subst h2; injection h3 with h3; subst h3
        rcases (hfp' _ hj).2 with h4 | h4
        · exact h.bo k _ 1000000 _ _ h1 (hfp _ h4).2 rfl
        · have h5 := (h.bB k _ h1).2
          have h4 : w.heap.size ≤ j := h4
          have h5 : j < w.heap.size := h5
          omega
      · cases h2
    · exact h.bo k b i j v h1 h2 h3
  · have h2 := h.bB k b h1; have := hb.size; exact ⟨h2.1, by omega⟩
  · intro i j v b h1 h2
    simp only [Ω'] at h1
    split at h1
    · split at h1
      · rename_i hj
        injection h1 with h1; subst h1; injection h2 with h2; subst h2
        refine ⟨?_, (hfp' _ hj).1⟩
        rcases (hfp' _ hj).2 with h3 | h3
        · exact ho _ h3
        · exact .inl (Nat.le_trans hle h3)
      · cases h1
    · have h3 := h.oB i j v b h1 h2; have := hb.size; exact ⟨h3.1, by omega⟩
theorem Rel.afterObj (h : Rel G ok w0 N β Ω s a w) {p p' : OP} (hp : amLook 1000000 s.box = some [.objst p]) (hs : ObjOkP s) {fp fp' : Nat → Prop} (hfp : ∀ b, fp b → b < w.heap.size ∧ Ω 1000000 b = some (mark b))
    (hst : Stab p') (hp' : p' (fun b => (b < w.heap.size ∧ (okF G ok w0.heap.size β Ω b ∨ b < G.nglob)) ∨ ((w.heap.size ≤ b ∨ fp b) ∧ ¬ fp' b)) w' fp') (hfp' : ∀ b, fp' b → b < w'.heap.size ∧ (fp b ∨ w.heap.size ≤ b)) (hb : BelowX fp w.heap.size w w') (hng : G.nglob ≤ w0.heap.size) :
    ∃ Ω', Rel G ok w0 N β Ω' { env := s.env, box := (1000000, [.objst p']) :: s.box } a w' := by
  obtain ⟨Ω', h1, _⟩ := h.afterObj' hp hs hfp hst hp' hfp' hb hng
  exact ⟨Ω', h1⟩
/-- A frame of a function's body, or of a round of a loop. -/
def FR (r : Option Nat) : Fence := { Fence.wide with round := r }
theorem callsIn_FR {r : Option Nat} {n : Nat} {f : FuncId} {args : Array Value} {R : Ending → World → Prop} : CallsIn (FR r) n P f args w R ↔ Calls P f args w R := callsIn_wide (n := n)
section
variable {r : Option Nat} {o : Oper} {next : Act → World → Prop} {Qx : Exit → Act → World → Prop}
theorem win_value {v : Value} (hd : ∀ c, o.op ≠ .defer c) (hr : (execOp a.eval o).run P w = .ok (.value v) w') (h : next (a.put o.dst v) w') : o.wpIn (FR r) 0 P a w next Qx := by
  unfold Oper.wpIn
  rw [Oper.semAt_eq _ _ _ hd, hr, Oper.uponIn_value]
  exact ⟨fun _ _ => trivial, h⟩
theorem win_skip (hd : ∀ c, o.op ≠ .defer c) (hr : (execOp a.eval o).run P w = .ok .skip w') (h : next (a.put o.dst undef) w') : o.wpIn (FR r) 0 P a w next Qx := by
  unfold Oper.wpIn
  rw [Oper.semAt_eq _ _ _ hd, hr, Oper.uponIn_skip]
  exact ⟨fun _ _ => trivial, h⟩
theorem win_enter {f : FuncId} {args : Array Value} (hd : ∀ c, o.op ≠ .defer c) (hr : (execOp a.eval o).run P w = .ok (.enter f args) w') (h : Calls P f args w' fun e w'' => ∃ u, e = .returned u ∧ next (a.put o.dst u) w'') : o.wpIn (FR r) 0 P a w next Qx := by
  unfold Oper.wpIn
  rw [Oper.semAt_eq _ _ _ hd, hr, Oper.uponIn_enter]
  exact ⟨fun _ _ => trivial, fun h => (by cases h), callsIn_FR.2 (Calls.mono h fun e w'' he => by obtain ⟨u, rfl, he⟩ := he; exact he)⟩
theorem win_round {l fn : Nat} {tmps : Array Value} {assign body : Code} (hd : ∀ c, o.op ≠ .defer c) (hr : (execOp a.eval o).run P w = .ok (.round l fn tmps assign body) w') (h : RoundIn Fence.wide 0 P l fn tmps assign body w' fun e w'' => ∃ u, e = .returned u ∧ next (a.put o.dst u) w'') : o.wpIn (FR r) 0 P a w next Qx := by
  unfold Oper.wpIn
  rw [Oper.semAt_eq _ _ _ hd, hr, Oper.uponIn_round]
  exact ⟨fun _ _ => trivial, fun h => (by cases h), (show RoundIn Fence.wide 0 P l fn tmps assign body w' _ from RoundIn.mono h fun e w'' he => by obtain ⟨u, rfl, he⟩ := he; exact he)⟩
/-- What an operation comes to, it comes to. -/
theorem wpIn_exists (h : o.wpIn (FR r) 0 P a w next (fun _ _ _ => False)) : ∃ a' w', next a' w' := by
  unfold Oper.wpIn at h
  obtain ⟨_, h⟩ := h
  generalize (o.semAt (FR r).round a.eval).run P w = x at h
  cases x with
  | ok x w1 =>
    cases x <;> simp only [Oper.uponIn] at h <;> first
      | exact ⟨_, _, h⟩
      | (obtain ⟨_, hc⟩ := h
         obtain ⟨e, w2, fr, hq, _⟩ := callsIn_FR.1 hc []
         cases e with
         | returned v => exact ⟨_, _, hq⟩
         | panicked c => exact hq.elim
         | outgrown => obtain ⟨_, _, hq⟩ := hq; exact hq.elim)
      | (obtain ⟨_, hc⟩ := h
         obtain ⟨v, w2, hq, _⟩ := hc default [] (room_wide _)
         exact ⟨_, _, hq⟩)
      | (obtain ⟨_, _, hc⟩ := h
         obtain ⟨e, w2, hq, _⟩ := hc default [] (room_wide _)
         cases e with
         | returned v => exact ⟨_, _, hq⟩
         | panicked c => exact hq.elim
         | outgrown => obtain ⟨_, _, hq⟩ := hq; exact hq.elim)
      | exact h.elim
  | halt x w1 => cases x <;> simp only [Oper.uponIn] at h <;> exact h.elim
end
theorem not_defer {o : Oper} {c : Call} (ho : o.op = .call c) : ∀ c', o.op ≠ .defer c' := fun c' h => by rw [ho] at h; cases h
/-- A loop's yield is called. -/
theorem yield_run {o : Oper} {c : Call} (ho : o.op = .call c) {l : Nat} {x : Operand} (hx : c.callee = .value x) (he : a.eval x = .func (.yield l) #[] #[]) {n : Next} (hy : (Instr.yield l (c.args.toList.map a.eval).toArray).run P w = .ok n w) :
    (execOp a.eval o).run P w = .ok n w := by
  have harr : (c.args.toList.map a.eval).toArray = c.args.map a.eval := by
    apply Array.ext'; simp
  rw [harr] at hy
  simp [execOp, ho, resolve, hx, he, Deferred.ofValue, invoke, hy]
theorem amObj0_sound (h : Rel G ok w0 N β Ω s a w) (hng : G.nglob ≤ w0.heap.size) {r : Option Nat} {o : Oper} (hd : ∀ d, o.dst = some d → d < N) {K : S → Prop} (hok : ObjOkP s) (hk : amObj0 P G o K s) {next : Act → World → Prop} {Qx : Exit → Act → World → Prop}
    (hn : ∀ s' w' v Ω', K s' → Rel G ok w0 N β Ω' s' (a.put o.dst v) w' → next (a.put o.dst v) w') : o.wpIn (FR r) 0 P a w next Qx := by
  unfold amObj0 at hk
  split at hk
  rotate_left
  · exact hk.elim
  rename_i c ho
  split at hk
  rotate_left
  · exact hk.elim
  rename_i args hargs
  split at hk
  rotate_left
  · exact hk.elim
  rename_i p hp
  obtain ⟨hpure, hK⟩ := hk
  obtain ⟨hβ, hstp, fp, hfp, hfpm⟩ := h.obj hp
  have hA := args_pure h hargs hpure
  have hsz := h.below.size
  have hfpb : ∀ b, fp b → b < w.heap.size ∧ G.nglob ≤ b ∧ ¬ okF G ok w0.heap.size β Ω b := by
    intro b hb
    have h1 := (h.oB 1000000 b _ b (hfpm b hb).2 rfl).1
    refine ⟨(hfpm b hb).1, ?_, fun hF => ?_⟩
    · rcases h1 with h1 | h1
      · omega
      · exact (h.xok b h1).1
    · rcases hF with ⟨h2, h3⟩ | ⟨_, h2⟩
      · rcases h1 with h1 | h1
        · omega
        · have h4 := h.xok _ h1; rcases h3 with h3 | h3; exact h4.2 h3; omega
      · exact h2 (.inr ⟨1000000, b, _, (hfpm b hb).2, rfl⟩)
  have back : ∀ (res : Option (List A)) (p' : OP), Stab p' → K (s.objPut o.dst res p') → ∀ e w', ObjPost G (okF G ok w0.heap.size β Ω) w fp res p' e w' → ∃ u, e = .returned u ∧ next (a.put o.dst u) w' := by
    intro res p' hst hK e w' he
    obtain ⟨u, fp', rfl, hres, hp', hfp', hb⟩ := he
    obtain ⟨Ω', hR⟩ := h.afterObj hp hok hfpm hst hp' hfp' hb hng
    refine ⟨u, rfl, hn _ w' u Ω' hK ?_⟩
    have hv : RepV w' (okF G ok w0.heap.size β Ω') w0.heap.size β Ω' (resO res) u := by
      cases res with
      | none => trivial
      | some l =>
        obtain ⟨h1, rs, rfl, h2⟩ := hres
        exact res_sound (h2.scalar h1)
    have := hR.put (dst := o.dst) (v := resO res) (x := u) hd hv
    cases hdst : o.dst with
    | none => rw [hdst] at this; exact this
    | some d => rw [hdst] at this; exact this
  have key : ∀ (f : FuncId) (args' : List A) (vs : List Value) (res : Option (List A)) (p' : OP), FnOk P f → CallsO P G f [] args' p res p' → RepAs w (okF G ok w0.heap.size β Ω) args' vs →
      (execOp a.eval o).run P w = .ok (.enter f vs.toArray) w → K (s.objPut o.dst res p') → o.wpIn (FR r) 0 P a w next Qx := by
    intro f args' vs res p' hfn hc hvs henter hK
    refine win_enter (not_defer ho) henter (Calls.mono ?_ (back res p' hc.1 hK))
    have := hc.2 _ w vs fp (by omega) h.globw hvs hfp hfpb
    rwa [List.append_nil] at this
  unfold calleeV at hK
  split at hK
  · rename_i x hx
    have he := eval_sound h x
    generalize evalO G s x = v at hK he
    unfold objK at hK
    split at hK
    · rename_i f
      obtain ⟨res, p', ⟨hfn, hc⟩, hK⟩ := hK
      have he' : a.eval x = .func (.func f) #[] #[] := he
      refine key f args _ res p' hfn hc hA ?_ hK
      have := enter_of (P := P) (w := w) ho (caps := []) hx he' hfn
      rwa [List.append_nil] at this
    · rename_i f caps
      obtain ⟨res, p', ⟨hfn, hc⟩, hK⟩ := hK
      obtain ⟨ads, he', hcaps⟩ := he
      exact key f (args ++ capRefs caps) (c.args.toList.map a.eval ++ ads.map fun a => Value.pointer (some a)) res p' hfn hc (hA.append (caps_refs hcaps)) (enter_of ho hx he' hfn) hK
    · rename_i v'
      obtain ⟨res, p', hc, hK⟩ := hK
      have he' : a.eval x = v' := he.1
      rcases hc.2 _ w _ fp (by omega) h.globw hA hfp hfpb with ⟨f, extra, hv, hfn, hcall⟩ | ⟨l, fn, tmps, assign, body, hv, hy, hround⟩
      · exact win_enter (not_defer ho) (enter_of ho hx (he'.trans hv) hfn) (Calls.mono hcall (back res p' hc.1 hK))
      · exact win_round (not_defer ho) (yield_run ho hx (he'.trans hv) hy) (RoundIn.mono hround (back res p' hc.1 hK))
    · exact hK.elim
  · exact hK.elim
theorem amObj_sound (h : Rel G ok w0 N β Ω s a w) (hng : G.nglob ≤ w0.heap.size) {r : Option Nat} {o : Oper} (hd : ∀ d, o.dst = some d → d < N) {K : S → Prop} (hk : amObj P G o K s) {next : Act → World → Prop} {Qx : Exit → Act → World → Prop}
    (hn : ∀ s' w' v Ω', K s' → Rel G ok w0 N β Ω' s' (a.put o.dst v) w' → next (a.put o.dst v) w') : o.wpIn (FR r) 0 P a w next Qx := amObj0_sound h hng hd (objOkP hk.1) hk.2 hn
end
end Go.Proofs.Am
namespace Go.Proofs.Am
open Go.RowKit
def amCall0 (P : Program) (G : Ctx) (o : Oper) (K : S → Prop) (s : S) : Prop :=
  match o.op with
  | .call c => match calleeOf G s c with
    | some f => match argsOf G s c.args.toList with
      | some args => ∃ res, Holds P G f args res ∧ (pures G s c.args.toList = true ∨ res.all (·.scalar) = true) ∧ K (s.put o.dst (resV res))
      | none => False
    | none => False
  | _ => False
def amClo (P : Program) (G : Ctx) (o : Oper) (K : S → Prop) (s : S) : Prop :=
  match o.op with
  | .call c => match cloOf G s c with
    | some p => match argsOf G s c.args.toList with
      | some args => match capArgs s p.2 with
        | some extra => ∃ res, Holds P G p.1 (args ++ extra) res ∧ res.all (·.scalar) = true ∧ K (s.put o.dst (resV res))
        | none => False
      | none => False
    | none => False
  | _ => False
def argSites (G : Ctx) (s : S) : List Operand → List Nat
  | [] => []
  | x :: r => match (evalO G s x).cells with
    | some cs => cellSites cs ++ argSites G s r
    | none => argSites G s r
def frzUnless : Bool → List Nat → S → S
  | true, _, s => s
  | false, ks, s => S.frz ks s
def amCallN (P : Program) (G : Ctx) (o : Oper) (K : S → Prop) (s : S) : Prop :=
  match o.op with
  | .call c => match calleeOf G s c with
    | some f => match argsOf G s c.args.toList with
      | some args => ∃ res, Holds P G f args res ∧ K ((frzUnless (pures G s c.args.toList || res.all (·.scalar)) (argSites G s c.args.toList) s).put o.dst (resV res))
      | none => False
    | none => amClo P G o K s
  | _ => False
def isObjCall (G : Ctx) (o : Oper) (s : S) : Bool := match o.op with
  | .call c => objCall G s c
  | _ => false
def amCall (P : Program) (G : Ctx) (o : Oper) (K : S → Prop) (s : S) : Prop := match isObjCall G o s with
  | true => amObj P G o K s
  | false => amCallN P G o K s
def amOp (P : Program) (G : Ctx) (o : Oper) (K K' : S → Prop) (s : S) : Prop :=
  match effF G o (evalO G s) (fun k => amLook k s.box) with
  | some e => e.obl ∧ freshOk e s = true ∧ (e.fact → K (e.act.run o.dst s))
  | none => amCall P G o K' s
/-- A stop for the rewriter. -/
def later {α : Type} (l : List α) : List α := l
def amOps (P : Program) (G : Ctx) : Nat → List (Nat × Option Nat) → List Oper → (S → Prop) → S → Prop
  | _, _, [], K, s => K s
  | i, ds, o :: r, K, s => match o.guard with
    | none => amOp P G o (amOps P G (i + 1) ((i, o.dst) :: ds) r K) (amOps P G (i + 1) ((i, o.dst) :: ds) (later r) K) s
    | some (g, want) => match amLook g ds with
      | some (some t) => match s.get t with
        | .cell (.c (.bool b)) => if b = want then amOp P G o (amOps P G (i + 1) ((i, o.dst) :: ds) r K) (amOps P G (i + 1) ((i, o.dst) :: ds) (later r) K) s else amOps P G (i + 1) ((i, o.dst) :: ds) r K (s.put o.dst .skp)
        | .skp => amOps P G (i + 1) ((i, o.dst) :: ds) r K (s.put o.dst .skp)
        | _ => False
      | _ => False
inductive X where
  | norm
  | exit (id : Nat)
  | ret
def X.out : X → Exit
  | .norm => .normal
  | .exit id => .exit id
  | .ret => .ret
def thenQ (K : S → Prop) (Q : X → S → Prop) : X → S → Prop
  | .norm, s => K s
  | x, s => Q x s
def blkQ (id : Nat) (Q : X → S → Prop) : X → S → Prop
  | .exit n, s => if n = id then Q .norm s else Q (.exit n) s
  | x, s => Q x s
def dstIn (N : Nat) (o : Oper) : Bool := match o.dst with
  | some d => decide (d < N)
  | none => true
def dsts (N : Nat) : Code → Bool
  | .region _ ops _ => ops.toList.all (dstIn N)
  | .seq a b => dsts N a && dsts N b
  | .cond _ a b => dsts N a && dsts N b
  | .block _ a => dsts N a
  | .loop a => dsts N a
  | _ => true
def Post (G : Ctx) (ok : Fr) (w0 : World) (N : Nat) (Q : X → S → Prop) : Exit → Act → World → Prop :=
  fun e a w => ∃ x s β Ω, e = x.out ∧ Q x s ∧ Rel G ok w0 N β Ω s a w
/-- From every frame and world that hold what s says the code comes to an end of which Q holds. -/
def AW (P : Program) (G : Ctx) (N : Nat) (c : Code) (s : S) (Q : X → S → Prop) : Prop :=
  dsts N c = true → ∀ ok w0 β Ω a w, G.nglob ≤ w0.heap.size → Rel G ok w0 N β Ω s a w → ∀ r, (G.marks = true → r = none) → c.wpIn (FR r) 0 P (Post G ok w0 N Q) a w
section
variable {P : Program} {G : Ctx} {ok : Fr} {w0 : World} {N : Nat} {β : Nat → Option Nat} {Ω : Nat → Nat → Option Value} {s : S} {a : Act} {w w' : World} {Q : X → S → Prop}
theorem amCall0_sound (h : Rel G ok w0 N β Ω s a w) (hng : G.nglob ≤ w0.heap.size) {r : Option Nat} {o : Oper} (hd : ∀ d, o.dst = some d → d < N) {K : S → Prop} (hk : amCall0 P G o K s) {next : Act → World → Prop} {Qx : Exit → Act → World → Prop}
    (hn : ∀ s' w' v, K s' → Rel G ok w0 N β Ω s' (a.put o.dst v) w' → next (a.put o.dst v) w') : o.wpIn (FR r) 0 P a w next Qx := by
  unfold amCall0 at hk
  split at hk
  · rename_i c ho
    split at hk
    · rename_i f hf
      split at hk
      · rename_i args hargs
        obtain ⟨res, ⟨hfn, hcalls⟩, hp, hK⟩ := hk
        have henter := call_enter h ho hf hfn
        refine win_enter (not_defer ho) henter ?_
        have hglob : GlobOk G w := h.globw
        have hsz := h.below.size
        rcases hp with hp | hp
        · have hA := args_pure h hargs hp
          refine Calls.mono (hcalls _ w _ (by omega) hglob hA) fun e w' he => ?_
          obtain ⟨rs, rfl, hrs, hb⟩ := he
          refine ⟨_, rfl, hn _ w' _ hK ((h.world hb).put hd ?_)⟩
          refine res_sound (hrs.keeps (Keeps.growW w' fun b hb1 => ?_))
          rcases hb1 with ⟨h1, h2 | h2⟩ | h1
          · exact h2
          · exact .inl ⟨by omega, .inr h2⟩
          · refine .inr ⟨.inl (by omega), fun hm => ?_⟩
            have := (h.lt hm).2
            omega
        · have hA := args_sound (F' := fun _ => True) h (fun _ _ => trivial) (fun _ _ _ _ _ _ => trivial) hargs
          refine Calls.mono (hcalls _ w _ (by omega) hglob hA) fun e w' he => ?_
          obtain ⟨rs, rfl, hrs, hb⟩ := he
          exact ⟨_, rfl, hn _ w' _ hK ((h.world hb).put hd (res_sound (hrs.scalar hp)))⟩
      · exact hk.elim
    · exact hk.elim
  · exact hk.elim
theorem amClo_sound (h : Rel G ok w0 N β Ω s a w) (hng : G.nglob ≤ w0.heap.size) {r : Option Nat} {o : Oper} (hd : ∀ d, o.dst = some d → d < N) {K : S → Prop} (hk : amClo P G o K s) {next : Act → World → Prop} {Qx : Exit → Act → World → Prop}
    (hn : ∀ s' w' v, K s' → Rel G ok w0 N β Ω s' (a.put o.dst v) w' → next (a.put o.dst v) w') : o.wpIn (FR r) 0 P a w next Qx := by
  unfold amClo at hk
  split at hk
  · rename_i c ho
    split at hk
    · rename_i p hf
      obtain ⟨f, caps⟩ := p
      split at hk
      · rename_i args hargs
        split at hk
        · rename_i extra hex
          obtain ⟨res, ⟨hfn, hcalls⟩, hp, hK⟩ := hk
          obtain ⟨vs, henter, hvl, hvs⟩ := clo_enter h ho hf hfn
          refine win_enter (not_defer ho) henter ?_
          have hglob : GlobOk G w := h.globw
          have hsz := h.below.size
          have hA := args_sound (F' := fun _ => True) h (fun _ _ => trivial) (fun _ _ _ _ _ _ => trivial) hargs
          have hB := caps_sound h hex hvl hvs
          refine Calls.mono (hcalls _ w _ (by omega) hglob (hA.append hB)) fun e w' he => ?_
          obtain ⟨rs, rfl, hrs, hb⟩ := he
          exact ⟨_, rfl, hn _ w' _ hK ((h.world hb).put hd (res_sound (hrs.scalar hp)))⟩
        · exact hk.elim
      · exact hk.elim
    · exact hk.elim
  · exact hk.elim
theorem V.freeze_arg (k : Nat) (v : V) : (v.freeze k).arg = v.arg := by
  cases v with
  | cell x => simp [V.freeze, V.arg, Cell.freeze_data]
  | agg cs => simp [V.freeze, V.arg, Function.comp_def, Cell.freeze_data]
  | _ => rfl
theorem argsOf_frz (xs : List Operand) (ks : List Nat) : ∀ (s : S), argsOf G (S.frz ks s) xs = argsOf G s xs := by
  induction ks with
  | nil => intro s; rfl
  | cons k r ih =>
    intro s
    show argsOf G (S.frz r (s.freeze k)) xs = _
    rw [ih]
    clear ih
    induction xs with
    | nil => rfl
    | cons x l ihl => simp only [argsOf, evalO_freeze, V.freeze_arg, ihl]
theorem V.pure_cells (v : V) : v.pure? = match v.cells with | some cs => cs.all (·.pure?) | none => true := by
  cases v <;> simp [V.pure?, V.cells]
theorem cells_frz_none {x : Operand} : ∀ (ks : List Nat) (s : S), (evalO G s x).cells = none → (evalO G (S.frz ks s) x).cells = none := by
  intro ks
  induction ks with
  | nil => intro s hs; exact hs
  | cons k r ih => intro s hs; exact ih (s.freeze k) (by rw [evalO_freeze, cells_freeze, hs]; rfl)
theorem pures_frz (ks : List Nat) : ∀ (xs : List Operand), (∀ k ∈ argSites G s xs, k ∈ ks) → pures G (S.frz ks s) xs = true := by
  intro xs
  induction xs with
  | nil => intro _; rfl
  | cons x r ih =>
    intro h
    simp only [pures, Bool.and_eq_true]
    have hsub : ∀ k ∈ argSites G s r, k ∈ ks := fun k hk => h k (by
      simp only [argSites]
      split
      · exact List.mem_append_right _ hk
      · exact hk)
    refine ⟨?_, ih hsub⟩
    rw [V.pure_cells]
    split
    · rename_i ds hds
      cases hc : (evalO G s x).cells with
      | none => rw [cells_frz_none ks s hc] at hds; cases hds
      | some cs => exact frz_pure ks s cs ds hc hds (fun k hk => h k (by simp only [argSites, hc]; exact List.mem_append_left _ hk))
    · rfl
theorem amCallN_sound (h : Rel G ok w0 N β Ω s a w) (hng : G.nglob ≤ w0.heap.size) {r : Option Nat} {o : Oper} (hd : ∀ d, o.dst = some d → d < N) {K : S → Prop} (hk : amCallN P G o K s) {next : Act → World → Prop} {Qx : Exit → Act → World → Prop}
    (hn : ∀ s' w' v Ω', K s' → Rel G ok w0 N β Ω' s' (a.put o.dst v) w' → next (a.put o.dst v) w') : o.wpIn (FR r) 0 P a w next Qx := by
  unfold amCallN at hk
  split at hk
  · rename_i c ho
    cases hc : calleeOf G s c with
    | none => rw [hc] at hk; exact amClo_sound h hng hd hk (fun s' w' v => hn s' w' v Ω)
    | some f =>
      rw [hc] at hk
      simp only at hk
      split at hk
      · rename_i args hargs
        obtain ⟨res, hh, hK⟩ := hk
        cases hp : (pures G s c.args.toList || res.all (·.scalar)) with
        | true =>
          rw [hp] at hK
          exact amCall0_sound (K := K) h hng hd (by unfold amCall0; rw [ho]; simp only [hc, hargs]; exact ⟨res, hh, by simpa using hp, hK⟩) (fun s' w' v => hn s' w' v Ω)
        | false =>
          rw [hp] at hK
          obtain ⟨Ω', h'⟩ := h.frz (argSites G s c.args.toList)
          have hA := args_pure h' (by rw [argsOf_frz]; exact hargs) (pures_frz _ _ (fun _ h => h))
          obtain ⟨hfn, hcalls⟩ := hh
          have henter := call_enter h ho hc hfn
          refine win_enter (not_defer ho) henter ?_
          have hglob : GlobOk G w := h.globw
          have hsz := h.below.size
          refine Calls.mono (hcalls _ w _ (by omega) hglob hA) fun e w' he => ?_
          obtain ⟨rs, rfl, hrs, hb⟩ := he
          refine ⟨_, rfl, hn _ w' _ Ω' hK ((h'.world hb).put hd ?_)⟩
          refine res_sound (hrs.keeps (Keeps.growW w' fun b hb1 => ?_))
          rcases hb1 with ⟨h1, h2 | h2⟩ | h1
          · exact h2
          · exact .inl ⟨by omega, .inr h2⟩
          · refine .inr ⟨.inl (by omega), fun hm => ?_⟩
            have := (h'.lt hm).2
            omega
      · exact hk.elim
  · exact hk.elim
theorem amCall_sound (h : Rel G ok w0 N β Ω s a w) (hng : G.nglob ≤ w0.heap.size) {r : Option Nat} {o : Oper} (hd : ∀ d, o.dst = some d → d < N) {K : S → Prop} (hk : amCall P G o K s) {next : Act → World → Prop} {Qx : Exit → Act → World → Prop}
    (hn : ∀ s' w' v Ω', K s' → Rel G ok w0 N β Ω' s' (a.put o.dst v) w' → next (a.put o.dst v) w') : o.wpIn (FR r) 0 P a w next Qx := by
  unfold amCall at hk
  split at hk
  · exact amObj_sound h hng hd hk hn
  · exact amCallN_sound h hng hd hk hn
theorem amOp_sound (hT : TyOk P G) (h : Rel G ok w0 N β Ω s a w) (hng : G.nglob ≤ w0.heap.size) {r : Option Nat} {o : Oper} (hd : ∀ d, o.dst = some d → d < N) {K K' : S → Prop} (hk : amOp P G o K K' s) {next : Act → World → Prop} {Qx : Exit → Act → World → Prop}
    (hn : ∀ s' w' a' β' Ω', (K s' ∨ K' s') → Rel G ok w0 N β' Ω' s' a' w' → next a' w') : o.wpIn (FR r) 0 P a w next Qx := by
  unfold amOp at hk
  split at hk
  · rename_i e he
    obtain ⟨h1, h2, h3⟩ := hk
    obtain ⟨hf, v, w', β', Ω', hr, hR⟩ := eff_sound hT h hd he h1 (freshOkP h2)
    have hnd : ∀ c, o.op ≠ .defer c := fun c hc => by simp [effF, hc] at he
    rcases hr with hr | ⟨hr, hv⟩
    · exact win_value hnd hr (hn _ _ _ _ _ (.inl (h3 hf)) hR)
    · subst hv; exact win_skip hnd hr (hn _ _ _ _ _ (.inl (h3 hf)) hR)
  · exact amCall_sound h hng hd hk fun s' w' v Ω' h1 h2 => hn _ _ _ _ _ (.inr h1) h2
theorem yielded_of {ops : Array Oper} (h : Rel G ok w0 N β Ω s a w) {g t : Nat} (hg : (ops[g]?).map (·.dst) = some (some t)) {b : Bool} (hb : s.get t = .cell (.c (.bool b))) : yielded ops a.tmps g = some b := by
  have h1 := eval_sound h (.tmp t)
  have h2 : evalO G s (.tmp t) = .cell (.c (.bool b)) := hb
  rw [h2] at h1
  have h3 : a.tmps.getD t undef = .bool b := h1
  have h4 : (ops[g]?).bind (·.dst) = some t := by
    cases ho : ops[g]? with
    | none => rw [ho] at hg; cases hg
    | some o => rw [ho] at hg; simpa using hg
  unfold yielded
  rw [h4]
  have h5 : a.tmps[t]? = some (.bool b) := by
    rw [Array.getD_eq_getD_getElem?] at h3
    cases h6 : a.tmps[t]? with
    | none => rw [h6] at h3; cases h3
    | some v => rw [h6] at h3; simp at h3; rw [h3]
  simp [h5]
theorem yielded_skp {ops : Array Oper} (h : Rel G ok w0 N β Ω s a w) {g t : Nat} (hg : (ops[g]?).map (·.dst) = some (some t)) (hb : s.get t = .skp) : yielded ops a.tmps g = none := by
  have h1 := eval_sound h (.tmp t)
  have h2 : evalO G s (.tmp t) = .skp := hb
  rw [h2] at h1
  have h3 : a.tmps.getD t undef = undef := h1
  have h4 : (ops[g]?).bind (·.dst) = some t := by
    cases ho : ops[g]? with
    | none => rw [ho] at hg; cases hg
    | some o => rw [ho] at hg; simpa using hg
  unfold yielded
  rw [h4]
  rw [Array.getD_eq_getD_getElem?] at h3
  cases h6 : a.tmps[t]? with
  | none => simp [h6]
  | some v =>
    rw [h6] at h3
    simp at h3
    subst h3
    simp [h6, undef]
theorem amOps_sound (hT : TyOk P G) (hng : G.nglob ≤ w0.heap.size) {r : Option Nat} {ops : Array Oper} {Qx : Exit → Act → World → Prop} {K : S → Prop} (hQ : ∀ s' a' w' β' Ω', K s' → Rel G ok w0 N β' Ω' s' a' w' → Qx .normal a' w') :
    ∀ (l : List Oper) (i : Nat) (ds : List (Nat × Option Nat)) (s : S) (a : Act) (w : World) (β : Nat → Option Nat) (Ω : Nat → Nat → Option Value), (∀ j, j < l.length → l[j]? = ops[i + j]?) → (∀ j d, amLook j ds = some d → (ops[j]?).map (·.dst) = some d) → l.all (dstIn N) = true →
      Rel G ok w0 N β Ω s a w → amOps P G i ds l K s → wpOpsIn (FR r) 0 P ops Qx (List.range' i l.length) a w := by
  intro l
  induction l with
  | nil => intro i ds s a w β Ω _ _ _ hR hk; exact hQ _ _ _ _ _ hk hR
  | cons o rest ih =>
    intro i ds s a w β Ω hl hds hall hR hk
    have ho : ops[i]? = some o := by have := hl 0 (by simp); simpa using this.symm
    have hl' : ∀ j, j < rest.length → rest[j]? = ops[i + 1 + j]? := fun j hj => by have := hl (j + 1) (by simp; omega); simpa [Nat.add_assoc, Nat.add_comm 1 j] using this
    have hds' : ∀ j d, amLook j ((i, o.dst) :: ds) = some d → (ops[j]?).map (·.dst) = some d := by
      intro j d hj
      rw [look_cons] at hj
      split at hj
      · rename_i e; subst e; rw [ho]; simpa using hj
      · exact hds j d hj
    simp only [List.all_cons, Bool.and_eq_true] at hall
    have hd : ∀ d, o.dst = some d → d < N := by
      intro d hd; have := hall.1; rw [dstIn, hd] at this; simpa using this
    rw [List.length_cons, List.range'_succ, wpOpsIn_cons]
    unfold wpOpIn
    simp only [ho]
    have run : Region.wanted o (yielded ops a.tmps) = true → amOp P G o (amOps P G (i + 1) ((i, o.dst) :: ds) rest K) (amOps P G (i + 1) ((i, o.dst) :: ds) (later rest) K) s → (if Region.wanted o (yielded ops a.tmps) = true then o.wpIn (FR r) 0 P a w (wpOpsIn (FR r) 0 P ops Qx (List.range' (i + 1) rest.length)) Qx else (∀ f, o.about P w a.eval = some f → (FR r).fn f) ∧ wpOpsIn (FR r) 0 P ops Qx (List.range' (i + 1) rest.length) (a.put o.dst undef) w) := by
      intro hw hop
      rw [if_pos hw]
      refine amOp_sound hT hR hng hd hop fun s' w' a' β' Ω' hs' hR' => ?_
      exact ih _ _ s' a' w' β' Ω' hl' hds' hall.2 hR' (by rcases hs' with hs' | hs' <;> exact hs')
    simp only [amOps] at hk
    split at hk
    · rename_i hg
      exact run (by simp [Region.wanted, hg]) hk
    · rename_i g want hg
      split at hk
      · rename_i t ht
        split at hk
        · rename_i b hb
          have hy := yielded_of hR (hds g _ ht) hb
          split at hk
          · rename_i e; exact run (by simp [Region.wanted, hg, hy, e]) hk
          · rename_i e
            have hw : ¬ Region.wanted o (yielded ops a.tmps) = true := by simp [Region.wanted, hg, hy, e]
            rw [if_neg hw]
            exact ⟨fun _ _ => trivial, ih _ _ _ _ _ _ _ hl' hds' hall.2 (hR.put (v := .skp) hd rfl) hk⟩
        · rename_i hb
          have hy := yielded_skp hR (hds g _ ht) hb
          have hw : ¬ Region.wanted o (yielded ops a.tmps) = true := by simp [Region.wanted, hg, hy]
          rw [if_neg hw]
          exact ⟨fun _ _ => trivial, ih _ _ _ _ _ _ _ hl' hds' hall.2 (hR.put (v := .skp) hd rfl) hk⟩
        · exact hk.elim
      · exact hk.elim
theorem aw_region (hT : TyOk P G) {id : Nat} {ops : Array Oper} (h : amOps P G 0 [] ops.toList (Q .norm) s) : AW P G N (.region id ops false) s Q := by
  intro hd ok w0 β Ω a w hng hR r hr
  refine wpIn_region ?_
  rw [List.range_eq_range', ← Array.length_toList]
  exact amOps_sound hT hng (fun s' a' w' β' Ω' h1 h2 => ⟨.norm, s', β', Ω', rfl, h1, h2⟩) _ _ _ _ _ _ _ _ (fun j _ => by simp) (fun j d hj => by cases hj) hd hR h
theorem aw_seq {x y : Code} (h : ∀ K : S → Prop, (∀ s', AW P G N y s' Q → K s') → AW P G N x s (thenQ K Q)) : AW P G N (.seq x y) s Q := by
  intro hd ok w0 β Ω a w hng hR r hr
  simp only [dsts, Bool.and_eq_true] at hd
  refine wpIn_seq (wpIn_mono (h (fun s' => AW P G N y s' Q) (fun _ h => h) hd.1 ok w0 β Ω a w hng hR r hr) ?_)
  rintro e a' w' ⟨x, s', β', Ω', rfl, hq, hR'⟩
  cases x with
  | norm => exact hq hd.2 ok w0 β' Ω' a' w' hng hR' r hr
  | exit id => exact ⟨.exit id, s', β', Ω', rfl, hq, hR'⟩
  | ret => exact ⟨.ret, s', β', Ω', rfl, hq, hR'⟩
/-- A run of plain operations, and what comes behind it. -/
theorem aw_ops (hT : TyOk P G) {id : Nat} {ops : Array Oper} {y : Code} (h : ∀ K : S → Prop, (∀ s', AW P G N y s' Q → K s') → amOps P G 0 [] ops.toList K s) : AW P G N (.seq (.region id ops false) y) s Q :=
  aw_seq fun K hK => aw_region hT (h K hK)
theorem aw_cond {c : Operand} {x y : Code} {t : Bool} (hc : evalO G s c = .cell (.c (.bool t))) (ht : t = true → AW P G N x s Q) (hf : t = false → AW P G N y s Q) : AW P G N (.cond c x y) s Q := by
  intro hd ok w0 β Ω a w hng hR r hr
  simp only [dsts, Bool.and_eq_true] at hd
  have he := eval_sound hR c
  rw [hc] at he
  exact wpIn_cond_split he (fun e => ht e hd.1 ok w0 β Ω a w hng hR r hr) (fun e => hf e hd.2 ok w0 β Ω a w hng hR r hr)
theorem aw_block {id : Nat} {c : Code} (h : AW P G N c s (blkQ id Q)) : AW P G N (.block id c) s Q := by
  intro hd ok w0 β Ω a w hng hR r hr
  refine wpIn_block (wpIn_mono (h hd ok w0 β Ω a w hng hR r hr) ?_)
  rintro e a' w' ⟨x, s', β', Ω', rfl, hq, hR'⟩
  cases x with
  | norm => exact ⟨.norm, s', β', Ω', rfl, hq, hR'⟩
  | ret => exact ⟨.ret, s', β', Ω', rfl, hq, hR'⟩
  | exit n =>
    simp only [blkQ] at hq
    simp only [X.out, Exit.inBlock]
    split
    · rename_i e; rw [if_pos e] at hq; exact ⟨.norm, s', β', Ω', rfl, hq, hR'⟩
    · rename_i e; rw [if_neg e] at hq; exact ⟨.exit n, s', β', Ω', rfl, hq, hR'⟩
theorem least_of {p : Nat → Prop} (h : ∃ k, p k) : ∃ k, p k ∧ ∀ j, j < k → ¬ p j := by
  obtain ⟨k, hk⟩ := h
  induction k using Nat.strongRecOn with
  | ind k ih =>
    by_cases hj : ∃ j, j < k ∧ p j
    · obtain ⟨j, h1, h2⟩ := hj; exact ih j h1 h2
    · exact ⟨k, hk, fun j h1 h2 => hj ⟨j, h1, h2⟩⟩
open Classical in
noncomputable def leastN (p : Nat → Prop) : Nat := if h : ∃ k, p k then (least_of h).choose else 0
theorem leastN_spec {p : Nat → Prop} (h : ∃ k, p k) : p (leastN p) ∧ ∀ j, p j → leastN p ≤ j := by
  unfold leastN
  rw [dif_pos h]
  obtain ⟨h1, h2⟩ := (least_of h).choose_spec
  exact ⟨h1, fun j hj => Nat.le_of_not_lt fun hlt => h2 j hlt hj⟩
theorem wpIn_loop_ghost {F : Fence} {n : Nat} {c : Code} {Qx : Exit → Act → World → Prop} (I : Nat → Act → World → Prop) (n₀ : Nat) (h₀ : I n₀ a w)
    (round : ∀ k a w, I k a w → c.wpIn F n P (Exit.then (fun a' w' => ∃ k', k' < k ∧ I k' a' w') Qx) a w) : (Code.loop c).wpIn F n P Qx a w := by
  refine wpIn_loop (fun a w => ∃ k, I k a w) (fun a w => leastN fun k => I k a w) ⟨n₀, h₀⟩ fun a w hI => ?_
  refine wpIn_mono (round _ a w (leastN_spec hI).1) ?_
  intro e a' w' he
  cases e with
  | normal =>
    obtain ⟨k', h1, h2⟩ := he
    exact ⟨⟨k', h2⟩, Nat.lt_of_le_of_lt ((leastN_spec ⟨k', h2⟩).2 k' h2) h1⟩
  | _ => exact he
theorem aw_skip (h : Q .norm s) : AW P G N .skip s Q := fun _ ok w0 β Ω a w _ hR r _ => wpIn_skip ⟨.norm, s, β, Ω, rfl, h, hR⟩
theorem aw_exit {id : Nat} (h : Q (.exit id) s) : AW P G N (.exit id) s Q := fun _ ok w0 β Ω a w _ hR r _ => wpIn_exit ⟨.exit id, s, β, Ω, rfl, h, hR⟩
theorem aw_ret (h : Q .ret s) : AW P G N .ret s Q := fun _ ok w0 β Ω a w _ hR r _ => wpIn_ret ⟨.ret, s, β, Ω, rfl, h, hR⟩
theorem aw_freeze {c : Code} (k : Nat) (h : AW P G N c (s.freeze k) Q) : AW P G N c s Q := fun hd ok w0 β Ω a w hng hR r hr => h hd ok w0 β _ a w hng (hR.freeze k) r hr
def argEnv : Nat → List A → List (Nat × V)
  | _, [] => []
  | i, x :: r => (i, x.val) :: argEnv (i + 1) r
def cellRes (ty : Option Ty) (v : V) (bx : Nat → Option (List Cell)) : Option V := match ty, v with
  | some ⟨.struct _, n, _, _⟩, .ptr k off => match bx k with
    | some cs => if off + n ≤ cs.length then some (.agg ((cs.drop off).take n)) else none
    | none => none
  | some ⟨.array _ _, _, _, _⟩, _ => none
  | some _, .ptr k off => match bx k with
    | some cs => (cs[off]?).map .cell
    | none => none
  | _, _ => none
def resVs (G : Ctx) (s : S) : List ResultVar → Option (List V)
  | [] => some []
  | .tmp t :: r => (resVs G s r).map (s.get t :: ·)
  | .cell a t :: r => match cellRes (G.ty t) (s.get a) (fun k => amLook k s.box) with
    | some v => (resVs G s r).map (v :: ·)
    | none => none
def argsV : List V → Option (List A)
  | [] => some []
  | v :: r => match v.arg with
    | some x => (argsV r).map (x :: ·)
    | none => none
def resOf (G : Ctx) (s : S) (l : List ResultVar) : Option (List A) := (resVs G s l).bind argsV
def retQ (G : Ctx) (l : List ResultVar) (res : List A) : X → S → Prop
  | .exit _, _ => False
  | _, s => resOf G s l = some res
theorem look_argEnv : ∀ (l : List A) (i t : Nat) (v : V), amLook t (argEnv i l) = some v → ∃ j x, t = i + j ∧ l[j]? = some x ∧ v = x.val := by
  intro l
  induction l with
  | nil => intro i t v h; cases h
  | cons x r ih =>
    intro i t v h
    simp only [argEnv, look_cons] at h
    split at h
    · rename_i e; injection h with h; exact ⟨0, x, by omega, rfl, h.symm⟩
    · obtain ⟨j, y, h1, h2, h3⟩ := ih _ _ _ h
      exact ⟨j + 1, y, by omega, by simpa using h2, h3⟩
theorem RepAs.get {F : Nat → Prop} {l : List A} {vs : List Value} (h : RepAs w F l vs) : ∀ {j : Nat} {x : A}, l[j]? = some x → ∃ v, vs[j]? = some v ∧ RepA w F x v := by
  induction h with
  | nil => intro j x hx; simp at hx
  | cons h _ ih =>
    intro j x hx
    cases j with
    | zero => simp at hx; subst hx; exact ⟨_, rfl, h⟩
    | succ j => simp at hx; exact ih hx
theorem RepAs.length {F : Nat → Prop} {l : List A} {vs : List Value} (h : RepAs w F l vs) : l.length = vs.length := by
  induction h with
  | nil => rfl
  | cons _ _ ih => simp [ih]
theorem cellRes_sound (hT : TyOk P G) (h : Rel G ok w0 N β Ω s a w) {x t : Nat} {v : V} (hv : cellRes (G.ty t) (s.get x) (fun k => amLook k s.box) = some v) :
    ∃ ad u, a.tmps.getD x undef = .pointer (some ad) ∧ (loadVar t ad).run P w = .ok u w ∧ RV G ok w0 β Ω w v u := by
  have hx := eval_sound h (.tmp x)
  have hx' : RV G ok w0 β Ω w (s.get x) (a.tmps.getD x undef) := hx
  generalize s.get x = p at hv hx'
  cases hty : G.ty t with
  | none => rw [hty] at hv; simp [cellRes] at hv
  | some d =>
    rw [hty] at hv
    obtain ⟨kk, n, by_, z⟩ := d
    cases p with
    | ptr k off =>
      obtain ⟨b, hb, hp⟩ := hx'
      cases hbx : amLook k s.box with
      | none => cases kk <;> simp [cellRes, hbx] at hv
      | some cs =>
        obtain ⟨vs, ty, hh, hl⟩ := h.boxB hb hbx
        refine ⟨⟨b, off, none⟩, ?_⟩
        have one : kk.isAgg = false → (cs[off]?).map V.cell = some v → ∃ u, a.tmps.getD x undef = .pointer (some ⟨b, off, none⟩) ∧ (loadVar t ⟨b, off, none⟩).run P w = .ok u w ∧ RV G ok w0 β Ω w v u := by
          intro hk hy
          cases hy' : cs[off]? with
          | none => rw [hy'] at hy; cases hy
          | some y =>
            rw [hy'] at hy
            simp only [Option.map_some, Option.some.injEq] at hy
            subst hy
            obtain ⟨u, hu, hr⟩ := hl.get hy'
            exact ⟨u, hp, run_load_one hT hty hk _ (by rw [cell_at hh]; simpa using hu), hr⟩
        cases kk
        case struct offs =>
          simp only [cellRes, hbx] at hv
          split at hv
          · rename_i hob
            simp only [Option.some.injEq] at hv
            subst hv
            have hlen := hl.length
            refine ⟨.agg ((vs.toList.drop off).take n).toArray, hp, run_load_agg hT hty rfl _ _ ?_ ?_, _, rfl, (hl.drop off).take n⟩
            · simp only [List.length_take, List.length_drop]; omega
            · intro j u hj
              rw [aplain, cell_at hh]
              rw [List.getElem?_take] at hj
              split at hj
              · simpa using hj
              · cases hj
          · cases hv
        case array m el => simp [cellRes] at hv
        all_goals
          simp only [cellRes, hbx] at hv
          exact one rfl hv
    | _ => cases kk <;> simp [cellRes] at hv
def resRun (tmps : Array Value) : ResultVar → Sem Value
  | .tmp t => pure (tmps.getD t undef)
  | .cell x t => do loadVar t (← asAddr (tmps.getD x undef))
theorem results_eq (fn : Func) (tmps : Array Value) : results fn tmps = (do
    let vs ← fn.results.mapM (resRun tmps)
    pure (if h : vs.size = 1 then vs[0] else .tuple vs)) := by
  unfold results
  congr 1
theorem resVs_sound (hT : TyOk P G) (h : Rel G ok w0 N β Ω s a w) : ∀ (l : List ResultVar) (vs : List V), resVs G s l = some vs →
    ∃ us : List Value, (l.mapM (resRun a.tmps)).run P w = .ok us w ∧ us.length = vs.length ∧ ∀ (j : Nat) (v : V), vs[j]? = some v → ∃ u, us[j]? = some u ∧ RV G ok w0 β Ω w v u := by
  intro l
  induction l with
  | nil => intro vs hvs; simp [resVs] at hvs; subst hvs; exact ⟨[], by simp, rfl, by simp⟩
  | cons r rest ih =>
    intro vs hvs
    cases r with
    | tmp t =>
      simp only [resVs, Option.map_eq_some_iff] at hvs
      obtain ⟨vs', h1, rfl⟩ := hvs
      obtain ⟨us, h2, h3, h4⟩ := ih _ h1
      refine ⟨a.tmps.getD t undef :: us, ?_, by simp [h3], ?_⟩
      · simp only [List.mapM_cons, resRun, Sem.run_bind, Sem.run_pure, Result.andThen_ok, h2]
      · intro j v hj
        cases j with
        | zero => simp at hj; subst hj; exact ⟨_, rfl, eval_sound h (.tmp t)⟩
        | succ j => simp at hj; simpa using h4 j v hj
    | cell x t =>
      simp only [resVs] at hvs
      split at hvs
      · rename_i v hv
        simp only [Option.map_eq_some_iff] at hvs
        obtain ⟨vs', h1, rfl⟩ := hvs
        obtain ⟨us, h2, h3, h4⟩ := ih _ h1
        obtain ⟨ad, u, h5, h6, h7⟩ := cellRes_sound hT h hv
        refine ⟨u :: us, ?_, by simp [h3], ?_⟩
        · simp only [List.mapM_cons, resRun, Sem.run_bind, Sem.run_pure, Result.andThen_ok, h2, h5, asAddr, h6]
        · intro j v hj
          cases j with
          | zero => simp at hj; subst hj; exact ⟨_, rfl, h7⟩
          | succ j => simp at hj; simpa using h4 j v hj
      · cases hvs
theorem argsV_sound (h : Rel G ok w0 N β Ω s a w) {F' : Nat → Prop} (hF : ∀ b, okF G ok w0.heap.size β Ω b → F' b) (hb : ∀ k j b u, Ω k j = some u → oblk u = some b → F' b) : ∀ (vs : List V) (res : List A) (us : List Value), argsV vs = some res → us.length = vs.length →
    (∀ (j : Nat) (v : V), vs[j]? = some v → ∃ u, us[j]? = some u ∧ RV G ok w0 β Ω w v u) → RepAs w F' res us := by
  intro vs
  induction vs with
  | nil => intro res us hr hl _; simp [argsV] at hr; subst hr; simp at hl; subst hl; exact .nil
  | cons v r ih =>
    intro res us hr hl hj
    simp only [argsV] at hr
    split at hr
    · rename_i x hx
      simp only [Option.map_eq_some_iff] at hr
      obtain ⟨res', h1, rfl⟩ := hr
      cases us with
      | nil => simp at hl
      | cons u us =>
        obtain ⟨u', h2, h3⟩ := hj 0 v rfl
        simp at h2
        subst h2
        exact .cons (arg_sound hx h3 hF hb) (ih res' us h1 (by simpa using hl) fun j y hy => by simpa using hj (j + 1) y (by simpa using hy))
    · cases hr
theorem results_run (fn : Func) (tmps : Array Value) (us : List Value) (h : (fn.results.toList.mapM (resRun tmps)).run P w = .ok us w) : (results fn tmps).run P w = .ok (resVal us) w := by
  rw [results_eq, Array.mapM_eq_mapM_toList]
  simp only [map_eq_pure_bind, Sem.run_bind, h, Result.andThen_ok, Sem.run_pure]
  congr 1
  match us with
  | [] => rfl
  | [v] => rfl
  | v :: u :: r => rfl
theorem holds_of_body (hT : TyOk P G) {f : FuncId} {fn : Func} {c : Code} (hf : P.funcs[f]? = some fn) (hb : fn.body = some c) (hn : (fn.name == "runtime.NumGoroutine") = false) (hd : dsts fn.ntmps c = true) {args res : List A} (hlen : args.length ≤ fn.ntmps)
    (h : AW P G fn.ntmps c ⟨argEnv 0 args, []⟩ (retQ G fn.results.toList res)) (hmk : G.marks = false := by rfl) : Holds P G f args res := by
  refine ⟨⟨fn, hf, by rw [hb]; rfl, hn⟩, fun ok w vs hng hglob hA => ?_⟩
  have hl := hA.length
  have hR : Rel G ⟨ok, fun _ => False⟩ w fn.ntmps (fun _ => none) (fun _ _ => none) ⟨argEnv 0 args, []⟩ { tmps := vs.toArray ++ Array.replicate (fn.ntmps - vs.toArray.size) undef, defers := [] } w := by
    refine ⟨.of (Below.refl _ _), fun _ h => h.elim, hglob, DefersOk.none, by simp; omega, fun t v hv => ?_, fun k cs hc => (by cases hc), ?_, ?_, ?_, ?_, ?_⟩
    rotate_left
    · intro _ _ _ h; cases h
    · intro _ _ _ _ _ _ _ h; cases h
    · intro _ _ _ _ _ h; cases h
    · intro _ _ h; cases h
    · intro _ _ _ _ h; cases h
    obtain ⟨j, x, h1, h2, rfl⟩ := look_argEnv args 0 t v hv
    obtain ⟨u, h3, h4⟩ := hA.get h2
    have ht : (vs.toArray ++ Array.replicate (fn.ntmps - vs.toArray.size) undef).getD t undef = u := by
      have hjl : j < vs.length := (List.getElem?_eq_some_iff.1 h3).1
      rw [Array.getD_eq_getD_getElem?, Array.getElem?_append_left (by simp; omega), h1, Nat.zero_add]
      simp [h3]
    show RepV _ _ _ _ _ _ ((vs.toArray ++ Array.replicate (fn.ntmps - vs.toArray.size) undef).getD t undef)
    rw [ht]
    -- the argument's blocks lie below the heap's size
    cases x with
    | c x => exact RepC.keeps (Keeps.W ⟨fun _ _ _ => rfl, fun b hb hl => .inl ⟨hl, .inl hb⟩⟩) x u h4
    | agg cs =>
      obtain ⟨us, h5, h6⟩ := h4
      exact ⟨us, h5, RepCellL.of (h6.keeps (Keeps.W ⟨fun _ _ _ => rfl, fun b hb hl => .inl ⟨hl, .inl hb⟩⟩))⟩
    | ref cs => exact RepA.keeps (a := .ref cs) (Keeps.W ⟨fun _ _ _ => rfl, fun b hb hl => .inl ⟨hl, .inl hb⟩⟩) h4
  refine calls_of_wp hf hb (wp_mono (wpIn_wide.1 (h hd ⟨ok, fun _ => False⟩ w _ _ _ w hng hR none (fun _ => rfl))) ?_)
  rintro e a' w' ⟨x, s', β', Ω', rfl, hq, hR'⟩
  have fin : resOf G s' fn.results.toList = some res → a'.defers = [] ∧ ∃ v, (results fn a'.tmps).run P w' = .ok v w' ∧ ∃ rs, Ending.returned v = .returned (resVal rs) ∧ RepAs w' (fun b => (b < w.heap.size ∧ (ok b ∨ b < G.nglob)) ∨ w.heap.size ≤ b) res rs ∧ Below w.heap.size w w' := by
    intro hres
    unfold resOf at hres
    cases hvs : resVs G s' fn.results.toList with
    | none => rw [hvs] at hres; cases hres
    | some vs' =>
      rw [hvs] at hres
      have hres' : argsV vs' = some res := hres
      obtain ⟨us, h1, h2, h3⟩ := resVs_sound hT hR' _ _ hvs
      have hdf : a'.defers = [] := by have := hR'.defers; unfold DefersOk at this; rw [hmk] at this; exact this
      refine ⟨hdf, _, results_run fn a'.tmps us h1, us, rfl, argsV_sound hR' ?_ ?_ vs' res us hres' h2 h3, hR'.below.below (fun _ h => h)⟩
      · intro b hb
        rcases hb with hb | ⟨hb, _⟩
        · exact .inl hb
        · exact .inr (hb.resolve_right (fun h => h))
      · intro k j b u h4 h5
        exact .inr ((hR'.oB k j u b h4 h5).1.resolve_right (fun h => h))
  cases x with
  | norm => exact fin hq
  | ret => exact fin hq
  | exit id => exact hq.elim
end
end Go.Proofs.Am
namespace Go.Proofs.Am
open Go.RowKit
def Cell.retag (k j k' : Nat) : Cell → Cell
  | .c x => .c x
  | .own t i e z r => if t = k ∧ i = j then .own k' 0 e z r else .own t i e z r
  | .omap t kd es => if t = k ∧ 0 = j then .omap k' kd es else .omap t kd es
  | .objst p => if 1000000 = k then .c .dead else .objst p
def V.retag (k j k' : Nat) : V → V
  | .cell x => .cell (x.retag k j k')
  | .agg cs => .agg (cs.map (·.retag k j k'))
  | v => v
def S.retag (s : S) (k j k' : Nat) : S := { env := s.env.map fun p => (p.1, p.2.retag k j k'), box := s.box.map fun p => (p.1, p.2.map (·.retag k j k')) }
section
variable {P : Program} {G : Ctx} {ok : Fr} {w0 : World} {N : Nat} {β : Nat → Option Nat} {Ω : Nat → Nat → Option Value} {s : S} {a : Act} {w w' : World} {Q : X → S → Prop}
theorem Rel.retag (h : Rel G ok w0 N β Ω s a w) (k j k' : Nat) (hf : FreshP s k') :
    Rel G ok w0 N β (fun i l => if i = k' then (if l = 0 then Ω k j else none) else if i = k ∧ l = j then none else Ω i l) (s.retag k j k') a w := by
  let Ω' : Nat → Nat → Option Value := fun i l => if i = k' then (if l = 0 then Ω k j else none) else if i = k ∧ l = j then none else Ω i l
  show Rel G ok w0 N β Ω' (s.retag k j k') a w
  have src : ∀ i l v, Ω' i l = some v → ∃ i0 l0, Ω i0 l0 = some v ∧ ((i = k' ∧ l = 0 ∧ i0 = k ∧ l0 = j) ∨ (i ≠ k' ∧ ¬ (i = k ∧ l = j) ∧ i0 = i ∧ l0 = l)) := by
    intro i l v hv
    simp only [Ω'] at hv
    split at hv
    · split at hv
      · exact ⟨k, j, hv, .inl ⟨by assumption, by assumption, rfl, rfl⟩⟩
      · cases hv
    · split at hv
      · cases hv
      · exact ⟨i, l, hv, .inr ⟨by assumption, by assumption, rfl, rfl⟩⟩
  have hmut : ∀ b, Mut β Ω' b → Mut β Ω b := by
    intro b hm
    rcases hm with hm | ⟨i, l, v, h1, h2⟩
    · exact .inl hm
    · obtain ⟨i0, l0, h3, _⟩ := src i l v h1
      exact .inr ⟨i0, l0, v, h3, h2⟩
  have hF := okF_mono (G := G) (ok := ok) (B := w0.heap.size) hmut
  have hcell : ∀ x v, x.site? k' = false → RepCell w (okF G ok w0.heap.size β Ω) w0.heap.size Ω x v → RepCell w (okF G ok w0.heap.size β Ω') w0.heap.size Ω' (x.retag k j k') v := by
    intro x v hs hx
    cases x with
    | c x => exact RepC.keeps (Keeps.grow w hF) x v hx
    | own t i e sz rows =>
      obtain ⟨h1, h2, h3, xs, h4, h5⟩ := hx
      show RepCell _ _ _ _ (if t = k ∧ i = j then _ else _) _
      have hne : t ≠ k' := by simpa [Cell.site?] using hs
      split
      · rename_i e; obtain ⟨rfl, rfl⟩ := e
        exact ⟨by simp [Ω']; exact h1, h2, h3, xs, h4, h5.keeps (Keeps.grow w hF)⟩
      · rename_i hne2
        exact ⟨by simp only [Ω']; rw [if_neg hne, if_neg hne2]; exact h1, h2, h3, xs, h4, h5.keeps (Keeps.grow w hF)⟩
    | omap t kd es =>
      obtain ⟨h1, r, vs, clock, h2, h3, h4⟩ := hx
      show RepCell _ _ _ _ (if t = k ∧ 0 = j then _ else _) _
      have hne : t ≠ k' := by simpa [Cell.site?] using hs
      split
      · rename_i e; obtain ⟨rfl, rfl⟩ := e
        exact ⟨by simp [Ω']; exact h1, r, vs, clock, h2, h3, h4⟩
      · rename_i hne2
        exact ⟨by simp only [Ω']; rw [if_neg hne, if_neg hne2]; exact h1, r, vs, clock, h2, h3, h4⟩
    | objst p => exact hx.elim
  have hcells : ∀ l vs, (∀ x ∈ l, Cell.site? x k' = false) → RepCellL w (okF G ok w0.heap.size β Ω) w0.heap.size Ω l vs → RepCellL w (okF G ok w0.heap.size β Ω') w0.heap.size Ω' (l.map (·.retag k j k')) vs := by
    intro l vs hs hl
    induction hl with
    | nil => exact .nil
    | cons h _ ih => exact .cons (hcell _ _ (hs _ (by simp)) h) (ih (fun x hx => hs x (by simp [hx])))
  refine ⟨h.below, h.xok, h.glob, h.defers.keeps (Keeps.grow w hF).def, h.size, fun t v hv => ?_, fun t cs hc => ?_, h.bInj, ?_, ?_, h.bB, ?_⟩
  · have hv' : amLook t (s.env.map fun p => (p.1, p.2.retag k j k')) = some v := hv
    rw [look_map (V.retag k j k')] at hv'
    cases hl : amLook t s.env with
    | none => rw [hl] at hv'; cases hv'
    | some u =>
      rw [hl] at hv'
      simp only [Option.map_some, Option.some.injEq] at hv'
      subst hv'
      have hu := h.env t u hl
      have hs := S.fresh_env hf hl
      cases u with
      | cell x => exact hcell _ _ hs hu
      | agg cs =>
        obtain ⟨vs, h1, h2⟩ := hu
        exact ⟨vs, h1, hcells _ _ (by simpa [V.site?] using hs) h2⟩
      | tup l => obtain ⟨vs, h1, h2⟩ := hu; exact ⟨vs, h1, h2.keeps (Keeps.grow w hF)⟩
      | ptr t off => exact hu
      | ref cs => exact RepA.keeps (a := .ref cs) (Keeps.grow w hF) hu
      | undef => trivial
      | skp => exact hu
      | «at» k b => exact hu
      | clo f caps => exact hu
  · have hc' : amLook t (s.box.map fun p => (p.1, p.2.map (·.retag k j k'))) = some cs := hc
    rw [look_map (fun l : List Cell => l.map (·.retag k j k'))] at hc'
    cases hl : amLook t s.box with
    | none => rw [hl] at hc'; cases hc'
    | some u =>
      rw [hl] at hc'
      simp only [Option.map_some, Option.some.injEq] at hc'
      subst hc'
      rcases h.box t u hl with ⟨b, vs, ty, h1, h2, h3⟩ | ⟨h1, h2, h3⟩
      · exact .inl ⟨b, vs, ty, h1, h2, hcells _ _ (S.fresh_box hf hl).2 h3⟩
      · refine .inr ⟨h1, h2, ?_⟩
        have hs := (S.fresh_box hf hl).2
        match u, h3, hs with
        | [.objst p], h3, hs =>
          show ObjBox w _ Ω' [if 1000000 = k then .c .dead else .objst p]
          split
          · trivial
          · rename_i hne
            have h4 : ¬ (1000000 = k') := by simpa [Cell.site?] using hs
            obtain ⟨a1, fp, a2, a3⟩ := h3
            exact ⟨a1, fp, a1 _ _ w w fp a2 (Keeps.grow w hF) (fun _ _ => rfl), fun b hb => ⟨(a3 b hb).1, by simp only [Ω']; rw [if_neg h4, if_neg (fun e => hne e.1)]; exact (a3 b hb).2⟩⟩
        | [], _, _ => trivial
        | [.c x], _, _ => trivial
        | [.own t j e z r], _, _ => show ObjBox w _ Ω' [if _ then _ else _]; split <;> trivial
        | [.omap t kd es], _, _ => show ObjBox w _ Ω' [if _ then _ else _]; split <;> trivial
        | _ :: _ :: _, _, _ => exact ObjBox.two
  · intro i l i' l' v v' b h1 h2 h3 h4
    obtain ⟨i0, l0, g1, g2⟩ := src i l v h1
    obtain ⟨i1, l1, g3, g4⟩ := src i' l' v' h3
    obtain ⟨rfl, rfl⟩ := h.oInj i0 l0 i1 l1 v v' b g1 h2 g3 h4
    rcases g2 with ⟨rfl, rfl, rfl, rfl⟩ | ⟨n1, n2, rfl, rfl⟩
    · rcases g4 with ⟨rfl, rfl, _⟩ | ⟨_, n3, rfl, rfl⟩
      · exact ⟨rfl, rfl⟩
      · exact absurd ⟨rfl, rfl⟩ n3
    · rcases g4 with ⟨_, _, rfl, rfl⟩ | ⟨_, _, rfl, rfl⟩
      · exact absurd ⟨rfl, rfl⟩ n2
      · exact ⟨rfl, rfl⟩
  · intro i b i' l v h1 h2
    obtain ⟨i0, l0, g1, _⟩ := src i' l v h2
    exact h.bo i b i0 l0 v h1 g1
  · intro i l v b h1 h2
    obtain ⟨i0, l0, g1, _⟩ := src i l v h1
    exact h.oB i0 l0 v b g1 h2
/-- An own slice's name is turned. -/
theorem aw_retag {c : Code} (k j k' : Nat) (hf : s.fresh k' = true) (h : AW P G N c (s.retag k j k') Q) : AW P G N c s Q :=
  fun hd ok w0 β Ω a w hng hR r hr => h hd ok w0 β _ a w hng (hR.retag k j k' (S.freshP hf)) r hr
def envIn {α : Type} (e : List (Nat × α)) : List (Nat × α) → Prop
  | [] => True
  | (t, v) :: r => amLook t e = some v ∧ envIn e r
theorem envIn_look {α : Type} {e : List (Nat × α)} : ∀ {m : List (Nat × α)}, envIn e m → ∀ t v, amLook t m = some v → amLook t e = some v := by
  intro m
  induction m with
  | nil => intro _ t v h; cases h
  | cons p r ih =>
    intro hm t v h
    obtain ⟨t', v'⟩ := p
    rw [look_cons] at h
    split at h
    · rename_i e; subst e; injection h with h; subst h; exact hm.1
    · exact ih hm.2 t v h
/-- The end of a round: the slices renamed, what is known no more let go. -/
def Reach (s s' : S) : Prop := ∀ {G : Ctx} {ok : Fr} {w0 : World} {N : Nat} {β : Nat → Option Nat} {Ω : Nat → Nat → Option Value} {a : Act} {w : World}, Rel G ok w0 N β Ω s a w → ∃ Ω', Rel G ok w0 N β Ω' s' a w
theorem Reach.refl (s : S) : Reach s s := fun h => ⟨_, h⟩
theorem Reach.trans {s s' s'' : S} (h : Reach s s') (k : Reach s' s'') : Reach s s'' := fun r => let ⟨_, r'⟩ := h r; k r'
theorem Reach.drop {e : List (Nat × V)} {b : List (Nat × List Cell)} {env : List (Nat × V)} {box : List (Nat × List Cell)} (h1 : envIn e env) (h2 : envIn b box) : Reach ⟨e, b⟩ ⟨env, box⟩ := fun h => ⟨_, h.sub ⟨envIn_look h1, envIn_look h2⟩⟩
theorem Reach.retag (k j k' : Nat) (hf : s.fresh k' = true) : Reach s (s.retag k j k') := fun h => ⟨_, h.retag k j k' (S.freshP hf)⟩
theorem Reach.freeze (k : Nat) : Reach s (s.freeze k) := fun h => ⟨_, h.freeze k⟩
theorem aw_reach {c : Code} {s' : S} (hre : Reach s s') (h : AW P G N c s' Q) : AW P G N c s Q := fun hd ok w0 β Ω a w hng hR r hr => let ⟨_, hR'⟩ := hre hR; h hd ok w0 β _ a w hng hR' r hr
theorem Reach.to {s s' : S} (h1 : envIn s.env s'.env) (h2 : envIn s.box s'.box) : Reach s s' := fun h => ⟨_, h.sub ⟨envIn_look h1, envIn_look h2⟩⟩
theorem aw_to {c : Code} (s' : S) (h1 : envIn s.env s'.env) (h2 : envIn s.box s'.box) (h : AW P G N c s' Q) : AW P G N c s Q := aw_reach (Reach.to h1 h2) h
/-- A loop: what holds at the head of a round holds of a state that can be had from the round's end. -/
theorem aw_loop' {c : Code} (I : Nat → S → Prop) (n₀ : Nat) (h₀ : ∃ s', Reach s s' ∧ I n₀ s') (round : ∀ n s, I n s → AW P G N c s (thenQ (fun s' => ∃ n' s'', n' < n ∧ Reach s' s'' ∧ I n' s'') Q)) : AW P G N (.loop c) s Q := by
  obtain ⟨s', hr, hI⟩ := h₀
  refine aw_reach hr ?_
  intro hd ok w0 β Ω a w hng hR r hr
  refine wpIn_loop_ghost (fun n a w => ∃ s β Ω, I n s ∧ Rel G ok w0 N β Ω s a w) n₀ ⟨s', β, Ω, hI, hR⟩ ?_
  rintro n a w ⟨s, β, Ω, hI, hR⟩
  refine wpIn_mono (round n s hI hd ok w0 β Ω a w hng hR r hr) ?_
  rintro e a' w' ⟨x, s', β', Ω', rfl, hq, hR'⟩
  cases x with
  | norm =>
    obtain ⟨n', s'', h1, h2, h3⟩ := hq
    obtain ⟨Ω'', hR''⟩ := h2 hR'
    exact ⟨n', h1, s'', β', Ω'', h3, hR''⟩
  | exit id => exact ⟨.exit id, s', β', Ω', rfl, hq, hR'⟩
  | ret => exact ⟨.ret, s', β', Ω', rfl, hq, hR'⟩
end
end Go.Proofs.Am
