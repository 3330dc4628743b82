/-
  A pure machine over plain values, generic in the program: its definitions. Nothing is assumed. What it means that the machine's plain values stand for the values and the memory of a run. Facts on plain data and its cells. The relation between the pure machine's state and a run's state. How the relation goes on: new blocks, blocks that are written, blocks that are to stay as they are. Cells read as plain data. Rows of rows: a place is taken out, a row is laid in. What is known of types and functions, and calls. What single operations of a run do, in the words of plain data. Single operations: moves, numbers, memory of the machine's own, loads and stores. Stores. Addresses, elements, cuts, conversions. Cuts, conversions, new rows. Structs, arrays and slices that are written out; append; copy. append, copy, len, min, max, closures, strings gone through, calls.
  No condition beyond those that each theorem names.
-/
import Derived.Orders
import Derived.KernelRfl
import Derived.Below
import Derived.Laws.AppendOwn
import Derived.Laws.MakeOwn
import Derived.Laws.OwnMore
import Derived.Laws.Tables
import Derived.Laws.Slices
import Derived.LoopN
import Derived.Laws.Concat
import Derived.Laws.BytesString

/-! PmDefs -/
namespace Go.PM
set_option linter.unusedVariables false

/-- The kinds of plain data. A struct is a chain of pairs that ends in unit. -/
inductive Ty where
  | int (k : IntKind) | bool | str
  | sl (e : Ty) | unit | pair (a b : Ty) | ptr (e : Ty) | fn (p r : Ty)

@[reducible] def Den : Ty → Type
  | .int _ => Int
  | .bool => Bool
  | .str => ByteArray
  | .sl e => List (Den e)
  | .unit => Unit
  | .pair a b => Den a × Den b
  | .ptr e => Den e
  | .fn p r => Den p → Option (Den r)

/-- One kind read as another: only where they are the same. -/
def castTy : (F : Ty → Type) → (a b : Ty) → F a → Option (F b)
  | F, .int k, .int k', x => if h : k = k' then some (h ▸ x) else none
  | F, .bool, .bool, x => some x
  | F, .str, .str, x => some x
  | F, .sl a, .sl b, x => castTy (fun t => F (.sl t)) a b x
  | F, .unit, .unit, x => some x
  | F, .pair a b, .pair c d, x =>
    match castTy (fun t => F (.pair t b)) a c x with
    | some y => castTy (fun t => F (.pair c t)) b d y
    | none => none
  | F, .ptr a, .ptr b, x => castTy (fun t => F (.ptr t)) a b x
  | F, .fn a b, .fn c d, x =>
    match castTy (fun t => F (.fn t b)) a c x with
    | some y => castTy (fun t => F (.fn c t)) b d y
    | none => none
  | _, _, _, _ => none

def Ty.size : Ty → Nat
  | .unit => 0
  | .pair a b => a.size + b.size
  | _ => 1
def Ty.agg : Ty → Bool
  | .unit => true
  | .pair .. => true
  | _ => false

/-- Kinds whose zero is plain data. -/
def Ty.plain : Ty → Bool
  | .pair a b => a.plain && b.plain
  | .ptr _ => false
  | .fn _ _ => false
  | _ => true

def zeroD : (t : Ty) → Den t
  | .int _ => (0 : Int)
  | .bool => false
  | .str => (⟨#[]⟩ : ByteArray)
  | .sl _ => []
  | .unit => ()
  | .pair a b => (zeroD a, zeroD b)
  | .ptr e => zeroD e
  | .fn _ _ => fun _ => none

/-- What one cell holds. -/
inductive LV where
  | undef
  | int (k : IntKind) (n : Int)
  | bool (b : Bool)
  | str (s : ByteArray)
  | nil
  | sl (e : Ty) (xs : List (Den e))
  | own (b : Nat)
  | sub (b off len : Nat)
  | vptr (b c : Nat)
  | rptr (b i : Nat)
  | eptr (t : Ty) (x : Den t)
  | fn (p r : Ty) (F : Den p → Option (Den r))
  | iter (b : Nat)
  /-- What place i of a row of rows holds, while the row's count is as told. -/
  | inn (b i ver : Nat)
  /-- Where element n of that row lies. -/
  | iptr (b i n ver : Nat)

/-- What a temporary holds. -/
inductive PV where
  | undef
  | no
  | one (x : LV)
  | agg (cs : List LV)
  | tup (vs : List (Bool × List LV))

/-- A block of the machine's own memory. -/
inductive Blk where
  | free
  | held
  | dead
  | row (live : Bool) (tid : Nat) (e : Ty) (xs : List (Den e))
  | var (live : Bool) (cs : List LV)
  | iter (s : ByteArray) (pos : Nat)
  /-- A row of rows, one place of which holds what leads to a row that is a block of its own still. -/
  | hole (tid : Nat) (e : Ty) (xs : List (Den e)) (i id : Nat)
  /-- A row of rows, each memory of its own; of the place 'out' nothing is told. A count tells what was looked at before a place was written. -/
  | deep (live : Bool) (tid tid2 : Nat) (e : Ty) (xs : List (List (Den e))) (out : Option Nat) (ver : Nat)

structure St where
  t : Nat → PV
  m : Nat → Blk
  nx : Nat
  n : Nat

inductive TK where
  | int (k : IntKind) | bool | str | sl (e : Nat) | st (fs : List (Nat × Nat)) | arr (n e : Nat) | other
/-- A type of the program, as the machine sees it. -/
structure TRow where
  ty : Ty
  kind : TK
  bytes : Nat

/-- What is known of a function: its parameters, its results (chains of pairs), which results are new memory, and the function. -/
structure Entry where
  p : Ty
  r : Ty
  fresh : List (Option Nat)
  f : Den p → Option (Den r)
  /-- The first argument is a window on a row that the call writes: the row, where the window begins, its length; the first result is the row behind the call. The row's type. -/
  win : Option Nat := none

/-- A package variable that is only read. -/
structure GRow where
  t : Ty
  x : Den t

/-- What a cell, or a slot, holds at a loop's head. -/
inductive ShC where
  | sc | data (e : Ty) | own (id tid : Nat) (e : Ty) | win | iter (id : Nat) | deep (id tid tid2 : Nat) (e : Ty)
inductive Sh where
  | c (x : ShC) | var (id : Nat) (cs : List ShC) | agg (t : Ty)

structure Env where
  T : Nat → Option TRow
  Φ : Nat → Option Entry
  G : Nat → Option GRow := fun _ => none
  ann : Nat → List (Nat × Sh)
  /-- The order in which a region is taken whose order is drawn. -/
  ord : Nat → List Nat := fun _ => []
  /-- Are rows that are laid into a row kept as blocks of their own until the loop's next round? -/
  loan : Bool := false
  /-- Are rows of rows that are made rows of memories of their own? -/
  deep : Bool := false

def upd {α : Type} (f : Nat → α) (i : Nat) (v : α) : Nat → α := fun j => bif Nat.beq j i then v else f j

/-- The cells of plain data. -/
def cellsD : (t : Ty) → Den t → List LV
  | .int k, n => [.int k n]
  | .bool, b => [.bool b]
  | .str, s => [.str s]
  | .sl e, xs => [.sl e xs]
  | .unit, _ => []
  | .pair a b, x => cellsD a x.1 ++ cellsD b x.2
  | .ptr e, x => [.eptr e x]
  | .fn p r, F => [.fn p r F]
def zeroC : Ty → List LV
  | .int k => [.int k 0]
  | .bool => [.bool false]
  | .str => [.str ⟨#[]⟩]
  | .sl _ => [.nil]
  | .unit => []
  | .pair a b => zeroC a ++ zeroC b
  | .ptr _ => [.undef]
  | .fn _ _ => [.undef]

def Blk.still : Blk → Blk
  | .row _ i e xs => .row false i e xs
  | .var _ cs => .var false cs
  | .deep _ i j e xs o v => .deep false i j e xs o v
  | b => b
def still (ids : List Nat) (m : Nat → Blk) : Nat → Blk :=
  match ids with
  | [] => m
  | i :: r => still r (upd m i (m i).still)

/-- Cells read as plain data: the data, the blocks that are to stay as they are, the cells behind. -/
def toDen (m : Nat → Blk) : (t : Ty) → List LV → Option (Den t × List Nat × List LV)
  | .int k, .int k' n :: r => if k = k' then some (n, [], r) else none
  | .bool, .bool b :: r => some (b, [], r)
  | .str, .str s :: r => some (s, [], r)
  | .sl _, .nil :: r => some ([], [], r)
  | .sl e, .sl e' xs :: r => match castTy (fun t => List (Den t)) e' e xs with
    | some ys => some (ys, [], r)
    | none => none
  | .sl e, .own b :: r => match m b with
    | .row _ _ e' xs => match castTy (fun t => List (Den t)) e' e xs with
      | some ys => some (ys, [b], r)
      | none => none
    | .deep _ _ _ e' xs none _ => match castTy (fun t => List (Den t)) (.sl e') e xs with
      | some ys => some (ys, [b], r)
      | none => none
    | _ => none
  | .sl e, .sub b off len :: r => match m b with
    | .row _ _ e' xs => match castTy (fun t => List (Den t)) e' e xs with
      | some ys => some ((ys.drop off).take len, [b], r)
      | none => none
    | _ => none
  | .unit, r => some ((), [], r)
  | .pair a b, cs => match toDen m a cs with
    | some (x, f, r) => match toDen m b r with
      | some (y, g, s) => some ((x, y), f ++ g, s)
      | none => none
    | none => none
  | .ptr e, .eptr e' x :: r => match castTy Den e' e x with
    | some y => some (y, [], r)
    | none => none
  | .ptr e, .vptr b 0 :: r => match m b with
    | .var _ cs => match toDen m e cs with
      | some (x, f, []) => some (x, b :: f, r)
      | _ => none
    | _ => none
  | .fn p q, .fn p' q' F :: r => match castTy (fun t => Den t → Option (Den q')) p' p F with
    | some G => match castTy (fun t => Den p → Option (Den t)) q' q G with
      | some H => some (H, [], r)
      | none => none
    | none => none
  | _, _ => none

def isSl : Ty → Bool
  | .sl _ => true
  | _ => false
/-- The row that is laid into a row, and stays a block of its own. -/
def loanOf (Γ : Env) (m : Nat → Blk) (ds : List LV) : Option Nat := bif Γ.loan then match ds with
  | [.own j] => match m j with
    | .row true _ _ _ => some j
    | _ => none
  | _ => none
  else none

def PV.cells : PV → Option (Bool × List LV)
  | .one x => some (false, [x])
  | .agg cs => some (true, cs)
  | _ => none
def ofCells (agg : Bool) (cs : List LV) : PV :=
  bif agg then .agg cs else match cs with
    | [x] => .one x
    | _ => .undef

/-- A call's arguments as plain data. -/
def toArgs (m : Nat → Blk) : (p : Ty) → List PV → Option (Den p × List Nat)
  | .unit, [] => some ((), [])
  | .pair a b, v :: vs => match v.cells with
    | some (g, cs) => bif g == a.agg then match toDen m a cs with
      | some (x, f, []) => match toArgs m b vs with
        | some (y, h) => some ((x, y), f ++ h)
        | none => none
      | _ => none
      else none
    | none => none
  | _, _ => none

/-- A new row; from a million on the type's number tells a row of rows: behind the row's own (below a million), a million times the inner row's. -/
def newRow' (tid : Nat) : (e : Ty) → List (Den e) → Blk
  | .sl e, xs => bif Nat.blt tid 1000000 then .row true tid (.sl e) xs else .deep true (tid % 1000000) (tid / 1000000) e xs none 0
  | e, xs => bif Nat.blt tid 1000000 then .row true tid e xs else .dead
/-- The results of a call: those that are new memory get blocks from id on. -/
def ofRes : (r : Ty) → List (Option Nat) → Nat → Den r → (Nat → Blk) → Option (List (Bool × List LV) × (Nat → Blk))
  | .unit, _, _, _, m => some ([], m)
  | .pair (.sl e) b, some tid :: fr, id, x, m => match m id with
    | .free => match ofRes b fr (id + 1) x.2 (upd m id (newRow' tid e x.1)) with
      | some (l, m') => some ((false, [.own id]) :: l, m')
      | none => none
    | _ => none
  | .pair a b, fr, id, x, m => match fr.headD none with
    | some _ => none
    | none => match ofRes b fr.tail (id + 1) x.2 m with
      | some (l, m') => some ((a.agg, cellsD a x.1) :: l, m')
      | none => none
  | _, _, _, _, _ => none
def ofResults (l : List (Bool × List LV)) : PV :=
  match l with
  | [(g, cs)] => ofCells g cs
  | l => .tup l

def constLV : Value → LV
  | .int k n => .int k n
  | .bool b => .bool b
  | .string s => .str s
  | .slice none 0 0 => .nil
  | _ => .undef
def constPV : Value → PV
  | .agg _ => .undef
  | .tuple _ => .undef
  | v => .one (constLV v)

def operand (Γ : Env) (st : St) : Operand → PV
  | .tmp d => st.t d
  | .const v => constPV v
  | .func f => match Γ.Φ f with
    | some E => match E.fresh, E.win with
      | [], none => .one (.fn E.p E.r E.f)
      | _, _ => .undef
    | none => .undef
  | .global g => match Γ.G g with
    | some r => .one (.eptr r.t r.x)
    | none => .undef

def ibits (op : BinOp) (k : IntKind) (x y : Int) : Int :=
  let a := BitVec.ofInt k.bits x
  let b := BitVec.ofInt k.bits y
  match op with
  | .and => k.wrap (a &&& b).toNat
  | .or => k.wrap (a ||| b).toNat
  | .xor => k.wrap (a ^^^ b).toNat
  | _ => k.wrap (a &&& ~~~b).toNat

section
variable {R : Type}

def binLV (op : BinOp) (x y : LV) (k : LV → Option R) : Option R :=
  match op, x, y with
  | .shl, .int c a, .int _ n => cond (decide (0 ≤ n)) (k (.int c (c.wrap (a * 2 ^ min n.toNat c.bits)))) none
  | .shr, .int c a, .int _ n => cond (decide (0 ≤ n)) (k (.int c (a.fdiv (2 ^ min n.toNat c.bits)))) none
  | .add, .int c a, .int d b => if c = d then k (.int c (c.wrap (a + b))) else none
  | .sub, .int c a, .int d b => if c = d then k (.int c (c.wrap (a - b))) else none
  | .mul, .int c a, .int d b => if c = d then k (.int c (c.wrap (a * b))) else none
  | .quo, .int c a, .int d b => if c = d then cond (decide (b = 0)) none (k (.int c (c.wrap (a.tdiv b)))) else none
  | .rem, .int c a, .int d b => if c = d then cond (decide (b = 0)) none (k (.int c (a.tmod b))) else none
  | .and, .int c a, .int d b => if c = d then k (.int c (ibits .and c a b)) else none
  | .or, .int c a, .int d b => if c = d then k (.int c (ibits .or c a b)) else none
  | .xor, .int c a, .int d b => if c = d then k (.int c (ibits .xor c a b)) else none
  | .eql, .int c a, .int d b => if c = d then k (.bool (decide (a = b))) else none
  | .neq, .int c a, .int d b => if c = d then k (.bool (!decide (a = b))) else none
  | .lss, .int c a, .int d b => if c = d then k (.bool (decide (a < b))) else none
  | .leq, .int c a, .int d b => if c = d then k (.bool (decide (a ≤ b))) else none
  | .gtr, .int c a, .int d b => if c = d then k (.bool (decide (b < a))) else none
  | .geq, .int c a, .int d b => if c = d then k (.bool (decide (b ≤ a))) else none
  | .eql, .bool a, .bool b => k (.bool (a == b))
  | .neq, .bool a, .bool b => k (.bool (!(a == b)))
  | .add, .str a, .str b => cond (decide (a.size + b.size ≤ 9223372036854775807)) (k (.str (a ++ b))) none
  | .eql, .str a, .str b => k (.bool (a.toList == b.toList))
  | .neq, .str a, .str b => k (.bool (!(a.toList == b.toList)))
  | _, _, _ => none

def unLV (op : UnOp) (x : LV) (k : LV → Option R) : Option R :=
  match op, x with
  | .neg, .int c a => k (.int c (c.wrap (0 - a)))
  | .not, .bool b => k (.bool !b)
  | _, _ => none

def one1 (x : PV) (k : LV → Option R) : Option R :=
  match x with
  | .one v => k v
  | _ => none

/-- The value is looked at before it goes on. -/
def seen (x : PV) (k : PV → Option R) : Option R :=
  match x with
  | .undef => k .undef
  | .no => k .no
  | .one v => k (.one v)
  | .agg cs => k (.agg cs)
  | .tup vs => k (.tup vs)

def put (st : St) (dst : Option Tmp) (v : PV) (k : St → Option R) : Option R :=
  match dst with
  | some d => bif Nat.blt d st.n then k { st with t := upd st.t d v } else none
  | none => k st

/-- The part of plain data that begins at a cell. -/
def subAt : (t : Ty) → Den t → Nat → (u : Ty) → Option (Den u)
  | .pair a b, x, off, u =>
    match (match off with
      | 0 => castTy Den a u x.1
      | _ => none) with
    | some y => some y
    | none => bif Nat.blt off a.size then subAt a x.1 off u else subAt b x.2 (off - a.size) u
  | _, _, _, _ => none

def bt (s : ByteArray) (i : Int) : Int := ((s.data.toList.getD i.toNat 0).toNat : Int)

def toStr (xs : List Int) : ByteArray := ⟨(xs.map fun x => UInt8.ofNat x.toNat).toArray⟩

/-- A row, but not a row of rows. -/
def shallow (m : Nat → Blk) (x : LV) : Bool := match x with
  | .own b => (match m b with
    | .deep .. => false
    | _ => true)
  | _ => true
def toDenL (m : Nat → Blk) (e : Ty) (x : LV) : Option (List (Den e) × List Nat × List LV) := bif shallow m x then toDen m (.sl e) [x] else none
def listOf (Γ : Env) (st : St) (e : Ty) (x : LV) (k : List (Den e) → Option R) : Option R :=
  match toDenL st.m e x with
  | some (xs, _, _) => k xs
  | none => none

def sliceBounds (len : Int) (low high max : Option LV) (k : Int → Int → Option R) : Option R :=
  match low, high, max with
  | none, none, none => k 0 len
  | some (.int _ l), none, none => cond (decide (0 ≤ l)) (cond (decide (l ≤ len)) (k l len) none) none
  | none, some (.int _ h), none => cond (decide (0 ≤ h)) (cond (decide (h ≤ len)) (k 0 h) none) none
  | some (.int _ l), some (.int _ h), none => cond (decide (0 ≤ l)) (cond (decide (l ≤ h)) (cond (decide (h ≤ len)) (k l h) none) none) none
  | none, some (.int _ h), some (.int _ m) => cond (decide (0 ≤ h)) (cond (decide (h ≤ m)) (cond (decide (m ≤ len)) (k 0 h) none) none) none
  | some (.int _ l), some (.int _ h), some (.int _ m) => cond (decide (0 ≤ l)) (cond (decide (l ≤ h)) (cond (decide (h ≤ m)) (cond (decide (m ≤ len)) (k l h) none) none) none) none
  | _, _, _ => none

def optLV (Γ : Env) (st : St) : Option Operand → Option (Option LV)
  | none => some none
  | some o => match operand Γ st o with
    | .one v => some (some v)
    | _ => none

def sameOperand : Operand → Operand → Bool
  | .tmp a, .tmp b => Nat.beq a b
  | .const (.int p a), .const (.int q b) => decide (p = q) && decide (a = b)
  | _, _ => false

/-- Struct and array values out of their parts, in order. -/
def partsC (Γ : Env) (st : St) : List (Nat × Operand) → (Nat → Option (Nat × Ty)) → List LV → Option (List LV)
  | [], _, cs => some cs
  | (i, o) :: r, place, cs => match place i, (operand Γ st o).cells with
    | some (off, u), some (g, ds) => bif g == u.agg && (Nat.beq ds.length u.size && Nat.ble (off + u.size) cs.length) then partsC Γ st r place (cs.take off ++ ds ++ cs.drop (off + u.size)) else none
    | _, _ => none
def partsR (Γ : Env) (st : St) (e : Ty) : List (Nat × Operand) → Nat → Option (List (Den e) × List Nat)
  | [], _ => some ([], [])
  | (i, o) :: r, n => bif Nat.beq i n then match (operand Γ st o).cells with
    | some (g, cs) => bif g == e.agg then match toDen st.m e cs with
      | some (x, f, []) => match partsR Γ st e r (n + 1) with
        | some (xs, h) => some (x :: xs, f ++ h)
        | none => none
      | _ => none else none
    | none => none
    else none
def splice (cs : List LV) (c : Nat) (ds : List LV) : List LV := cs.take c ++ ds ++ cs.drop (c + ds.length)

def exBuiltin (Γ : Env) (id : Nat) (b : Builtin) (c : Call) (st : St) (k : PV → St → Option R) : Option R :=
  match b, c.args.toList, c.argTypes.toList with
  | .len, [x], [t] => match Γ.T t with
    | some row => match row.kind, operand Γ st x with
      | .sl _, .one .nil => k (.one (.int .i64 0)) st
      | .sl _, .one (.sl _ xs) => k (.one (.int .i64 (xs.length : Int))) st
      | .sl _, .one (.own b) => match st.m b with
        | .row _ _ _ xs => k (.one (.int .i64 (xs.length : Int))) st
        | .deep _ _ _ _ xs _ _ => k (.one (.int .i64 (xs.length : Int))) st
        | _ => none
      | .sl _, .one (.sub b _ len) => match st.m b with
        | .row .. => k (.one (.int .i64 (len : Int))) st
        | _ => none
      | .str, .one (.str s) => k (.one (.int .i64 (s.size : Int))) st
      | _, _ => none
    | none => none
  | .min, [x, y], _ => match operand Γ st x, operand Γ st y with
    | .one (.int c a), .one (.int d b) => if c = d then k (.one (.int c (min a b))) st else none
    | _, _ => none
  | .max, [x, y], _ => match operand Γ st x, operand Γ st y with
    | .one (.int c a), .one (.int d b) => if c = d then k (.one (.int c (max a b))) st else none
    | _, _ => none
  | .append, [s, x], [t, u] => bif Nat.beq t u then match Γ.T t with
    | some row => match row.kind with
      | .sl e => match Γ.T e with
        | some er => one1 (operand Γ st x) fun xv => listOf Γ st er.ty xv fun ys =>
          match operand Γ st s, st.m id with
          | .one .nil, .free => bif Nat.ble 1 er.bytes then cond (decide (ys.length * er.bytes ≤ 140737488351232)) (k (.one (.own id)) { st with m := upd st.m id (.row true e er.ty ys) }) none else none
          | .one (.own b), .free => match st.m b with
            | .row true e0 e' xs0 => bif Nat.beq e0 e && Nat.ble 1 er.bytes then match castTy (fun t => List (Den t)) e' er.ty xs0 with
              | some xs => cond (decide ((xs.length + ys.length) * er.bytes ≤ 140737488351232)) (k (.one (.own id)) { st with m := upd (upd st.m b .dead) id (.row true e er.ty (xs ++ ys)) }) none
              | none => none
              else none
            | _ => none
          | .one (.inn b i v), .free => match st.m b with
            | .deep true t1 e0 e' xs0 none v0 => bif (Nat.beq e0 e && Nat.beq v0 v) && (Nat.blt 0 b && Nat.ble 1 er.bytes) then match castTy (fun t => List (List (Den t))) e' er.ty xs0 with
              | some xs => cond (decide (((xs.getD i []).length + ys.length) * er.bytes ≤ 140737488351232)) (k (.one (.own id)) { st with m := upd (upd st.m b (.deep true t1 e0 er.ty xs (some i) v0)) id (.row true e er.ty (xs.getD i [] ++ ys)) }) none
              | none => none
              else none
            | _ => none
          | _, _ => none
        | none => none
      | _ => none
    | none => none
    else none
  | .copy, [s, x], [t, u] => match Γ.T t, Γ.T u with
    | some row, some row' => match row.kind, row'.kind with
      | .sl e, .sl _ => match Γ.T e with
        | some er => one1 (operand Γ st x) fun xv => listOf Γ st er.ty xv fun ys =>
          match operand Γ st s with
          | .one (.own b) => match st.m b with
            | .row true e0 e' xs0 => match castTy (fun t => List (Den t)) e' er.ty xs0 with
              | some xs => k (.one (.int .i64 (min ys.length xs.length : Nat))) { st with m := upd st.m b (.row true e0 er.ty (ys.take xs.length ++ xs.drop ys.length)) }
              | none => none
            | _ => none
          | _ => none
        | none => none
      | _, _ => none
    | _, _ => none
  | _, _, _ => none

def exCall (Γ : Env) (id : Nat) (f : PV) (args : List PV) (st : St) (k : PV → St → Option R) : Option R :=
  match f with
  | .one (.fn p r F) => match toArgs st.m p args with
    | some (x, fz) => (F x).bind fun y => match ofRes r [] id y (still fz st.m) with
      | some (l, m) => k (ofResults l) { st with m := m }
      | none => none
    | none => none
  | _ => none

/-- The window that a value is: the row, where it begins, its length. -/
def winOf (m : Nat → Blk) (v : PV) : Option (Nat × Nat × Nat) :=
  match v with
  | .one (.own b) => match m b with
    | .row true _ _ xs => some (b, 0, xs.length)
    | _ => none
  | .one (.sub b off len) => some (b, off, len)
  | _ => none
/-- A call that writes a window on a row of the machine's own. -/
def exWin (id tid : Nat) : (p r : Ty) → List (Option Nat) → (Den p → Option (Den r)) → List PV → St → (PV → St → Option R) → Option R
  | .pair (.sl e) (.pair (.int .i64) (.pair (.int .i64) q)), .pair (.sl e2) r, fr, f, v :: args, st, k => match winOf st.m v with
    | some (b, off, len) => match st.m b with
      | .row true e0 e' xs0 => bif Nat.beq e0 tid then match castTy (fun t => List (Den t)) e' e xs0, toArgs st.m q args with
        | some xs, some (x, fz) => bif fz.contains b then none else (f (xs, (off : Int), (len : Int), x)).bind fun y =>
          match ofRes r fr id y.2 (upd (still fz st.m) b (.row true tid e2 y.1)) with
          | some (l, m) => k (ofResults l) { st with m := m }
          | none => none
        | _, _ => none
        else none
      | _ => none
    | none => none
  | _, _, _, _, _, _, _ => none
def exPlain (id : Nat) (p r : Ty) (fresh : List (Option Nat)) (f : Den p → Option (Den r)) (args : List PV) (st : St) (k : PV → St → Option R) : Option R :=
  match toArgs st.m p args with
  | some (x, fz) => (f x).bind fun y => match ofRes r fresh id y (still fz st.m) with
    | some (l, m) => k (ofResults l) { st with m := m }
    | none => none
  | none => none
def exFunc (Γ : Env) (id : Nat) (g : Nat) (args : List PV) (st : St) (k : PV → St → Option R) : Option R :=
  match Γ.Φ g with
  | some E => match E.win with
    | some tid => exWin id tid E.p E.r E.fresh E.f args st k
    | none => exPlain id E.p E.r E.fresh E.f args st k
  | none => none

/-- A row that is made. -/
def madeRow (Γ : Env) (e : Nat) (er : TRow) (n : Nat) : Blk := bif Γ.deep then match er.ty, er.kind with
  | .sl t, .sl e2 => .deep true e e2 t (List.replicate n []) none 0
  | t, _ => .row true e t (List.replicate n (zeroD t))
  else .row true e er.ty (List.replicate n (zeroD er.ty))
/-- One operation: its value, and the state behind it. -/
def exOp (Γ : Env) (id : Nat) (o : Oper) (st : St) (k : PV → St → Option R) : Option R :=
  match o.op with
  | .move x | .assign x => seen (operand Γ st x) fun v => k v st
  | .pick c a b => match operand Γ st c with
    | .one (.bool v) => cond v (seen (operand Γ st a) fun v => k v st) (seen (operand Γ st b) fun v => k v st)
    | _ => none
  | .alloc e => match Γ.T e, st.m id with
    | some row, .free => k (.one (.vptr id 0)) { st with m := upd st.m id (.var true (zeroC row.ty)) }
    | _, _ => none
  | .box e x => match Γ.T e, (operand Γ st x).cells, st.m id with
    | some row, some (g, cs), .free => bif g == row.ty.agg && Nat.beq cs.length row.ty.size then k (.one (.vptr id 0)) { st with m := upd st.m id (.var true cs) } else none
    | _, _, _ => none
  | .build t parts => match Γ.T t with
    | some row => match row.kind with
      | .st fs => bif fs.all (fun q => (Γ.T q.2).isSome) then match partsC Γ st parts.toList (fun i => match fs[i]? with
          | some (off, u) => match Γ.T u with
            | some ur => some (off, ur.ty)
            | none => none
          | none => none) (zeroC row.ty) with
        | some cs => k (.agg cs) st
        | none => none
        else none
      | .arr n e => match Γ.T e with
        | some er => match partsC Γ st parts.toList (fun i => bif Nat.blt i n then some (i * er.ty.size, er.ty) else none) (zeroC row.ty) with
          | some cs => k (.agg cs) st
          | none => none
        | none => none
      | _ => none
    | none => none
  | .buildSlice t len parts => match Γ.T t, st.m id with
    | some row, .free => match row.kind with
      | .sl e => match Γ.T e with
        | some er => match partsR Γ st er.ty parts.toList 0 with
          | some (xs, fz) => bif Nat.beq xs.length len && (Nat.ble (len * er.ty.size) 1000 && Nat.ble 1 er.ty.size) then k (.one (.own id)) { st with m := upd (still fz st.m) id (.row true e er.ty xs) } else none
          | none => none
        | none => none
      | _ => none
    | _, _ => none
  | .load t a => match Γ.T t, operand Γ st a with
    | some row, .one (.vptr b c) => match st.m b with
      | .var _ cs => bif Nat.ble (c + row.ty.size) cs.length then seen (ofCells row.ty.agg ((cs.drop c).take row.ty.size)) fun v => k v st else none
      | _ => none
    | some row, .one (.rptr b i) => match st.m b with
      | .row _ _ e xs => match castTy (fun t => List (Den t)) e row.ty xs with
        | some ys => seen (ofCells row.ty.agg (cellsD row.ty (ys.getD i (zeroD row.ty)))) fun v => k v st
        | none => none
      | .hole _ e xs j id' => match castTy (fun t => List (Den t)) e row.ty xs, st.m id' with
        | some _, .row .. => cond (decide (i = j)) (k (.one (.own id')) st) none
        | _, _ => none
      | .deep _ _ _ _ _ none v => bif isSl row.ty then k (.one (.inn b i v)) st else none
      | _ => none
    | some row, .one (.eptr e x) => match castTy Den e row.ty x with
      | some y => seen (ofCells row.ty.agg (cellsD row.ty y)) fun v => k v st
      | none => none
    | _, _ => none
  | .store t a x => match Γ.T t, operand Γ st a, (operand Γ st x).cells with
    | some row, .one (.vptr b c), some (g, ds) => bif g == row.ty.agg && Nat.beq ds.length row.ty.size then match st.m b with
      | .var true cs => bif Nat.ble (c + ds.length) cs.length then k .undef { st with m := upd st.m b (.var true (splice cs c ds)) } else none
      | _ => none
      else none
    | some row, .one (.rptr b i), some (g, ds) => bif g == row.ty.agg then match st.m b with
      | .row true e0 e xs0 => match loanOf Γ st.m ds with
       | some j => bif Nat.beq j b then none else match castTy (fun t => List (Den t)) e row.ty xs0 with
        | some xs => bif isSl row.ty then k .undef { st with m := upd st.m b (.hole e0 row.ty xs i j) } else none
        | none => none
       | none => match castTy (fun t => List (Den t)) e row.ty xs0, toDen st.m row.ty ds with
        | some xs, some (y, fz, []) => bif fz.contains b then none else k .undef { st with m := upd (still fz st.m) b (.row true e0 row.ty (xs.set i y)) }
        | _, _ => none
      | .deep true t1 t2 e xs o v => match ds with
        | [.own j] => match st.m j with
          | .row true t2' e' zs0 => bif Nat.beq t2' t2 && (isSl row.ty && Nat.blt 0 b) then match castTy (fun t => List (Den t)) e' e zs0 with
            | some zs => match o with
              | none => k .undef { st with m := upd (upd st.m j .dead) b (.deep true t1 t2 e (xs.set i zs) none (v + 1)) }
              | some p => cond (decide (i = p)) (k .undef { st with m := upd (upd st.m j .dead) b (.deep true t1 t2 e (xs.set i zs) none (v + 1)) }) none
            | none => none
            else none
          | _ => none
        | _ => none
      | _ => none
      else none
    | some row, .one (.iptr b i n v), some (g, ds) => bif g == row.ty.agg then match st.m b with
      | .deep true t1 t2 e xs0 none v0 => bif Nat.beq v0 v then match castTy (fun t => List (List (Den t))) e row.ty xs0, toDen st.m row.ty ds with
        | some xs, some (y, fz, []) => bif fz.contains b then none else k .undef { st with m := upd (still fz st.m) b (.deep true t1 t2 row.ty (xs.set i ((xs.getD i []).set n y)) none v0) }
        | _, _ => none
        else none
      | _ => none
      else none
    | _, _, _ => none
  | .binOp op t x y _ => one1 (operand Γ st x) fun a => one1 (operand Γ st y) fun b => match a with
    | .bool _ => match Γ.T t with
      | some row => match row.kind with
        | .bool => binLV op a b fun v => k (.one v) st
        | _ => none
      | none => none
    | _ => binLV op a b fun v => k (.one v) st
  | .unOp op _ x => one1 (operand Γ st x) fun a => unLV op a fun v => k (.one v) st
  | .convert src dst x => match Γ.T src, Γ.T dst with
    | some s, some d => match s.kind, d.kind, operand Γ st x with
      | .int _, .int c, .one (.int _ n) => k (.one (.int c (c.wrap n))) st
      | .str, .str, .one (.str z) => k (.one (.str z)) st
      | .sl e, .str, .one x => match Γ.T e with
        | some er => match er.kind with
          | .int .u8 => listOf Γ st (.int .u8) x fun xs => k (.one (.str (toStr xs))) st
          | _ => none
        | none => none
      | _, _, _ => none
    | _, _ => none
  | .makeSlice t len cap => bif sameOperand len cap then match Γ.T t, operand Γ st len, st.m id with
    | some row, .one (.int .i64 n), .free => match row.kind with
      | .sl e => match Γ.T e with
        | some er => bif er.ty.plain && Nat.ble 1 er.bytes then cond (decide (0 ≤ n)) (cond (decide (n * er.bytes ≤ 140737488351232)) (k (.one (.own id)) { st with m := upd st.m id (madeRow Γ e er n.toNat) }) none) none else none
        | none => none
      | _ => none
    | _, _, _ => none
    else none
  | .slice t x lo hi mx => match optLV Γ st lo, optLV Γ st hi, optLV Γ st mx with
    | some l, some h, some m => match Γ.T t with
      | some row => match row.kind, operand Γ st x, m with
        | .str, .one (.str s), none => sliceBounds (s.size : Int) l h none fun a b => k (.one (.str (s.extract a.toNat b.toNat))) st
        | .sl q, .one (.sl e xs0), m => match Γ.T q with
          | some er => match castTy (fun t => List (Den t)) e er.ty xs0 with
            | some xs => sliceBounds (xs.length : Int) l h m fun a b => k (.one (.sl er.ty ((xs.take b.toNat).drop a.toNat))) st
            | none => none
          | none => none
        | .sl q, .one (.own r), m => match Γ.T q with
          | some er => match st.m r with
            | .row _ _ e xs0 => match castTy (fun t => List (Den t)) e er.ty xs0 with
              | some xs => sliceBounds (xs.length : Int) l h m fun a b => k (.one (.sub r a.toNat (b.toNat - a.toNat))) st
              | none => none
            | _ => none
          | none => none
        | .sl q, .one (.sub r off len), m => match Γ.T q with
          | some er => match st.m r with
            | .row _ _ e xs0 => match castTy (fun t => List (Den t)) e er.ty xs0 with
              | some xs => sliceBounds (len : Int) l h m fun a b => k (.one (.sub r (off + a.toNat) (b.toNat - a.toNat))) st
              | none => none
            | _ => none
          | none => none
        | _, _, _ => none
      | none => none
    | _, _, _ => none
  | .fieldAddr t x f => match Γ.T t with
    | some row => match row.kind with
      | .st fs => match fs[f]? with
        | some (off, u) => match Γ.T u, operand Γ st x with
          | some ur, .one (.vptr b c) => match st.m b with
            | .var .. => bif Nat.beq ur.ty.size 0 then none else k (.one (.vptr b (c + off))) st
            | _ => none
          | some ur, .one (.eptr e z) => bif Nat.beq ur.ty.size 0 then none else match castTy Den e row.ty z with
            | some z' => match subAt row.ty z' off ur.ty with
              | some y => k (.one (.eptr ur.ty y)) st
              | none => none
            | none => none
          | _, _ => none
        | none => none
      | _ => none
    | none => none
  | .indexAddr t x i => match Γ.T t, operand Γ st i with
    | some row, .one (.int _ n) => match row.kind with
      | .sl e => match Γ.T e, operand Γ st x with
        | some er, .one (.sl e' xs0) => match castTy (fun t => List (Den t)) e' er.ty xs0 with
          | some xs => cond (decide (0 ≤ n)) (cond (decide (n < xs.length)) (k (.one (.eptr er.ty (xs.getD n.toNat (zeroD er.ty)))) st) none) none
          | none => none
        | some er, .one (.own b) => match st.m b with
          | .row _ _ e' xs => match castTy (fun t => List (Den t)) e' er.ty xs with
            | some ys => cond (decide (0 ≤ n)) (cond (decide (n < ys.length)) (k (.one (.rptr b n.toNat)) st) none) none
            | none => none
          | .hole _ e' xs _ _ => match castTy (fun t => List (Den t)) e' er.ty xs with
            | some ys => cond (decide (0 ≤ n)) (cond (decide (n < ys.length)) (k (.one (.rptr b n.toNat)) st) none) none
            | none => none
          | .deep _ _ _ _ xs _ _ => bif isSl er.ty then cond (decide (0 ≤ n)) (cond (decide (n < xs.length)) (k (.one (.rptr b n.toNat)) st) none) none else none
          | _ => none
        | some er, .one (.inn b j v) => match st.m b with
          | .deep _ _ _ e' xs0 none v0 => bif Nat.beq v0 v then match castTy (fun t => List (List (Den t))) e' er.ty xs0 with
            | some xs => cond (decide (0 ≤ n)) (cond (decide (n < (xs.getD j []).length)) (k (.one (.iptr b j n.toNat v)) st) none) none
            | none => none
            else none
          | _ => none
        | some er, .one (.sub b off len) => match st.m b with
          | .row _ _ e' xs => match castTy (fun t => List (Den t)) e' er.ty xs with
            | some ys => cond (decide (0 ≤ n)) (cond (decide (n < len)) (k (.one (.rptr b (off + n.toNat))) st) none) none
            | none => none
          | _ => none
        | _, _ => none
      | .arr len e => match Γ.T e, operand Γ st x with
        | some er, .one (.vptr b c) => match st.m b with
          | .var .. => cond (decide (0 ≤ n)) (cond (decide (n < len)) (k (.one (.vptr b (c + n.toNat * er.ty.size))) st) none) none
          | _ => none
        | _, _ => none
      | _ => none
    | _, _ => none
  | .index t x i => match operand Γ st x, operand Γ st i with
    | .one (.str s), .one (.int _ n) => match Γ.T t with
      | some row => match row.kind with
        | .str => cond (decide (0 ≤ n)) (cond (decide (n < s.size)) (k (.one (.int .u8 (bt s n))) st) none) none
        | _ => none
      | none => none
    | .agg cs, .one (.int _ n) => match Γ.T t with
      | some row => match row.kind with
        | .arr len e => match Γ.T e with
          | some er => cond (decide (0 ≤ n)) (cond (decide (n < len)) (bif Nat.ble (n.toNat * er.ty.size + er.ty.size) cs.length then seen (ofCells er.ty.agg ((cs.drop (n.toNat * er.ty.size)).take er.ty.size)) fun v => k v st else none) none) none
          | none => none
        | _ => none
      | none => none
    | _, _ => none
  | .field t x f => match Γ.T t, operand Γ st x with
    | some row, .agg cs => match row.kind with
      | .st fs => match fs[f]? with
        | some (off, u) => match Γ.T u with
          | some ur => bif Nat.ble (off + ur.ty.size) cs.length then seen (ofCells ur.ty.agg ((cs.drop off).take ur.ty.size)) fun v => k v st else none
          | none => none
        | none => none
      | _ => none
    | _, _ => none
  | .extract x i => match operand Γ st x with
    | .tup vs => match vs[i]? with
      | some (g, cs) => seen (ofCells g cs) fun v => k v st
      | none => none
    | _ => none
  | .makeFunc (.func g) first captured => match first.toList, captured.toList, Γ.Φ g with
    | [], [c], some E => match operand Γ st c, E.fresh, E.win with
      | .one x, [], none => match E.p, E.f with
        | .pair a (.pair b (.pair (.ptr e) .unit)), F => match toDen st.m (.ptr e) [x] with
          | some (y, fz, []) => k (.one (.fn (.pair a (.pair b .unit)) E.r (fun z => F (z.1, z.2.1, y, ())))) { st with m := still fz st.m }
          | _ => none
        | _, _ => none
      | _, _, _ => none
    | _, _, _ => none
  | .range t x => match Γ.T t, operand Γ st x, st.m id with
    | some row, .one (.str s), .free => match row.kind with
      | .str => k (.one (.iter id)) { st with m := upd st.m id (.iter s 0) }
      | _ => none
    | _, _, _ => none
  | .next x true => match operand Γ st x with
    | .one (.iter b) => match st.m b with
      | .iter s pos => cond (decide (pos < s.size))
          (k (.tup [(false, [.bool true]), (false, [.int .i64 pos]), (false, [.int .i32 (Utf8.decode s pos).1])]) { st with m := upd st.m b (.iter s (pos + (Utf8.decode s pos).2)) })
          (k (.tup [(false, [.bool false])]) st)
      | _ => none
    | _ => none
  | .call c => match c.callee with
    | .builtin b => exBuiltin Γ id b c st k
    | .value (.func g) => exFunc Γ id g (c.args.toList.map (operand Γ st)) st k
    | .value f => exCall Γ id (operand Γ st f) (c.args.toList.map (operand Γ st)) st k
    | _ => none
  | _ => none

/-- An operation under its guard. -/
def exGuard (Γ : Env) (ops : Array Oper) (id : Nat) (o : Oper) (st : St) (k : St → Option R) : Option R :=
  match o.guard with
  | none => exOp Γ id o st fun v st' => put st' o.dst v k
  | some (j, want) => match ops[j]? with
    | some oj => match oj.dst with
      | some d => match st.t d with
        | .one (.bool b) => match want with
          | true => cond b
            (exOp Γ id o { st with t := upd st.t d (.one (.bool true)) } fun v st' => put st' o.dst v k)
            (put { st with t := upd st.t d (.one (.bool false)) } o.dst .no k)
          | false => cond b
            (put { st with t := upd st.t d (.one (.bool true)) } o.dst .no k)
            (exOp Γ id o { st with t := upd st.t d (.one (.bool false)) } fun v st' => put st' o.dst v k)
        | .no => put st o.dst .no k
        | _ => none
      | none => none
    | none => none

def exOps (Γ : Env) (ops : Array Oper) (nx : Nat) : List Oper → Nat → St → (St → Option R) → Option R
  | [], _, st, k => k st
  | o :: r, i, st, k => exGuard Γ ops (nx + 4 * i) o st fun st' => exOps Γ ops nx r (i + 1) st' k

def exOpsL (Γ : Env) (ops : Array Oper) (nx : Nat) : List Nat → St → (St → Option R) → Option R
  | [], st, k => k st
  | i :: l, st, k => match ops[i]? with
    | some o => exGuard Γ ops (nx + 4 * i) o st fun st' => exOpsL Γ ops nx l st' k
    | none => none

def loopF (body : St → (St → Option R) → Option R) (msk : St → (St → Option R) → Option R) : Nat → St → Option R
  | 0, _ => none
  | n + 1, st => body st fun st' => msk st' (loopF body msk n)
end

def arity : Ty → Nat
  | .pair _ b => arity b + 1
  | _ => 0


/-- Operations that look at no memory. -/
def isA : Op → Bool
  | .move _ | .assign _ | .pick .. | .build .. | .binOp .. | .unOp .. | .extract .. | .field .. => true
  | _ => false
/-- Operations that only read. -/
def isB : Op → Bool
  | .load .. | .fieldAddr .. | .indexAddr .. | .index .. | .slice .. | .convert .. => true
  | .call c => match c.callee with | .builtin .len => true | _ => false
  | _ => false

/-- Operations that lay one block and look at no other. -/
def isAdd : Op → Bool
  | .alloc _ | .box .. | .makeSlice .. => true
  | _ => false
/-- Operations that lay new blocks, and may make blocks stay as they are. -/
def isC (Γ : Env) : Op → Bool
  | .alloc _ | .box .. | .makeSlice .. | .buildSlice .. => true
  | .call c => match c.callee with
    | .value (.func g) => match Γ.Φ g with
      | some E => match E.win with
        | none => Nat.ble (arity E.r) 4
        | some _ => false
      | none => true
    | .value (.tmp _) => true
    | _ => false
  | _ => false

/-- May the first stand behind the second? -/
def scal : Ty → Bool
  | .unit => true
  | .pair (.int _) q => scal q
  | .pair .bool q => scal q
  | .pair .str q => scal q
  | _ => false
/-- Calls that look at no memory and lay none. -/
def isK (Γ : Env) : Op → Bool
  | .call c => match c.callee with
    | .value (.func g) => match Γ.Φ g with
      | some E => match E.win with
        | none => scal E.p && E.fresh.all fun q => match q with
          | none => true
          | some _ => false
        | some _ => false
      | none => false
    | _ => false
  | _ => false
def isA2 (Γ : Env) (x : Op) : Bool := isA x || isK Γ x
/-- Does an operation write a temporary? -/
def writes (o : Oper) (p : Nat) : Bool := match o.dst with
  | some d => Nat.beq d p
  | none => false
def unwritten (ops : Array Oper) (p : Nat) : Bool := ops.toList.all fun o => !writes o p
def atBlk (v : PV) (b : Nat) : Bool := match v with
  | .one (.vptr b' _) => Nat.beq b' b
  | _ => false
def isUndef (v : PV) : Bool := match v with
  | .undef => true
  | _ => false
/-- All that a temporary points at, in a region that begins at a state, is within one block. -/
def rooted (st0 : St) (ops : Array Oper) (p b : Nat) : Bool :=
  (atBlk (st0.t p) b || isUndef (st0.t p)) && ops.toList.all fun o => !writes o p || (match o.op with
    | .fieldAddr _ (.tmp q) _ => unwritten ops q && atBlk (st0.t q) b
    | _ => false)
def rootL (st0 : St) (p : Nat) : List Oper → Option Nat
  | [] => none
  | o :: l => bif writes o p then (match o.op with
    | .fieldAddr _ (.tmp q) _ => match st0.t q with
      | .one (.vptr b _) => some b
      | _ => none
    | _ => none) else rootL st0 p l
def blkOf (st0 : St) (ops : Array Oper) : Operand → Option Nat
  | .tmp p => match (match st0.t p with
    | .one (.vptr b _) => some b
    | _ => rootL st0 p ops.toList) with
    | some b => bif rooted st0 ops p b then some b else none
    | none => none
  | _ => none
def far (st0 : St) (ops : Array Oper) (p q : Operand) : Bool := match blkOf st0 ops p, blkOf st0 ops q with
  | some b, some b' => !Nat.beq b b'
  | _, _ => false
/-- The pointer of an operation that touches one place alone. -/
def placeOf : Op → Option Operand
  | .store _ p _ => some p
  | .load _ p => some p
  | .fieldAddr _ p _ => some p
  | _ => none
/-- Operations that touch different variables. -/
def farOK (st0 : St) (ops : Array Oper) (x y : Op) : Bool := match placeOf x, placeOf y with
  | some p, some q => far st0 ops p q
  | _, _ => false
/-- Values that lead to no block of the machine's own. -/
def sv (v : PV) : Bool := match v with
  | .one (.sl ..) | .one (.eptr ..) | .undef | .no => true
  | _ => false
/-- A temporary that, in a region that begins at a state, leads to no block of the machine's own. -/
def safeT (st0 : St) (ops : Array Oper) : Nat → Nat → Bool
  | 0, p => sv (st0.t p) && unwritten ops p
  | f + 1, p => sv (st0.t p) && ops.toList.all fun o => !writes o p || (match o.op with
    | .move (.tmp q) => safeT st0 ops f q
    | .indexAddr _ (.tmp q) _ => safeT st0 ops f q
    | _ => false)
/-- Operations that look at no block of the machine's own. -/
def memfree (st0 : St) (ops : Array Oper) : Op → Bool
  | .load _ (.tmp p) => safeT st0 ops 3 p
  | .indexAddr _ (.tmp p) _ => safeT st0 ops 3 p
  | _ => false
/-- Operations that add to a row. -/
def isApp : Op → Bool
  | .call c => match c.callee with
    | .builtin .append => true
    | _ => false
  | _ => false
/-- Operations that read a variable. -/
def readAt (st0 : St) (ops : Array Oper) : Op → Bool
  | .load _ p => (blkOf st0 ops p).isSome
  | .fieldAddr _ p _ => (blkOf st0 ops p).isSome
  | _ => false
def pairOK (Γ : Env) (st0 : St) (ops : Array Oper) (x y : Oper) : Bool :=
  x.apart ops y && ((isA2 Γ x.op || (isA2 Γ y.op || ((isB x.op && (isB y.op || isC Γ y.op)) || (isC Γ x.op && isAdd y.op)))) || (farOK st0 ops x.op y.op || ((memfree st0 ops x.op || memfree st0 ops y.op) || ((isApp x.op && readAt st0 ops y.op) || (readAt st0 ops x.op && isApp y.op)))))

/-- The order that the machine takes is one of those that may be, and each that may be comes to the same. -/
def depends (ops : Array Oper) (i j : Nat) : Bool := match ops[i]? with
  | some o => o.after.toList.any fun e => Region.binds .any e && Nat.beq e.on j
  | none => false
/-- The same, by way of others that are chained. -/
def depT (ops : Array Oper) : Nat → Nat → Nat → Bool
  | 0, i, j => depends ops i j
  | f + 1, i, j => depends ops i j || match ops[i]? with
    | some o => o.after.toList.any fun e => Region.binds .any e && ((match e.ground with
      | .chain => true
      | .data => true
      | _ => Nat.beq f 7) && depT ops f e.on j)
    | none => false
/-- The same, by way of others that are all chained, however many. -/
def depC (ops : Array Oper) : Nat → Nat → Nat → Bool
  | 0, _, _ => false
  | f + 1, i, j => match ops[i]? with
    | some o => o.after.toList.any fun e => Region.binds .any e && ((match e.ground with
      | .chain => true
      | _ => false) && (Nat.beq e.on j || depC ops f e.on j))
    | none => false
def depX (ops : Array Oper) (i j : Nat) : Bool := (match ops[i]? with
  | some o => o.after.toList.any fun e => Region.binds .any e && (Nat.beq e.on j || depC ops 64 e.on j)
  | none => false) || depT ops 8 i j
def selfOK (ops : Array Oper) (i : Nat) : Bool := match ops[i]? with
  | some o => o.after.toList.all fun e => !Region.binds .any e || (Nat.blt e.on ops.size && !Nat.beq e.on i)
  | none => false
def orderOK (Γ : Env) (st0 : St) (ops : Array Oper) : List Nat → Bool
  | [] => true
  | j :: l => selfOK ops j && (l.all fun i => !depends ops j i && (!Nat.beq i j && (depX ops i j || match ops[j]?, ops[i]? with
    | some x, some y => pairOK Γ st0 ops x y
    | _, _ => false))) && orderOK Γ st0 ops l

/-- A region's first number: by it a loop is told. -/
def rid : Code → Nat
  | .region id _ _ => id
  | .seq a _ => rid a
  | .block _ c => rid c
  | .cond _ a _ => rid a
  | _ => 0

section
variable {R : Type}
/-- At a loop's head: what is told there stays, all else is forgotten. -/
def maskC (m : Nat → Blk) (sh : ShC) (x : LV) (nm : Nat → Blk) (k : LV → (Nat → Blk) → (Nat → Blk) → Option R) : Option R :=
  match sh, x with
  | .sc, .int c n => k (.int c n) m nm
  | .sc, .bool b => k (.bool b) m nm
  | .sc, .str s => k (.str s) m nm
  | .sc, .fn p r F => k (.fn p r F) m nm
  | .sc, .eptr t x => k (.eptr t x) m nm
  | .data e, x => match toDen m (.sl e) [x] with
    | some (xs, fz, _) => k (.sl e xs) (still fz m) nm
    | none => none
  | .own id tid e, .nil => match nm id with
    | .free => k (.own id) m (upd nm id (.row true tid e []))
    | _ => none
  | .own id tid e, .own b => match m b, nm id with
    | .row true e0 e' xs, .free => bif Nat.beq e0 tid then match castTy (fun t => List (Den t)) e' e xs with
      | some ys => k (.own id) (upd m b .dead) (upd nm id (.row true tid e ys))
      | none => none
      else none
    | .hole e0 e' xs i j, .free => bif Nat.beq e0 tid then match castTy (fun t => List (Den t)) e' e xs, toDen m e [.own j] with
      | some ys, some (y, fz, _) => bif fz.contains b then none else k (.own id) (upd (still fz m) b .dead) (upd nm id (.row true tid e (ys.set i y)))
      | _, _ => none
      else none
    | _, _ => none
  | .deep id t1 t2 e, .own b => match m b, nm id with
    | .deep true a1 a2 e' xs none _, .free => bif Nat.beq a1 t1 && Nat.beq a2 t2 then match castTy (fun t => List (List (Den t))) e' e xs with
      | some ys => k (.own id) (upd m b .dead) (upd nm id (.deep true t1 t2 e ys none 0))
      | none => none
      else none
    | _, _ => none
  | .win, .sub 0 off len => match m 0, nm 0 with
    | .row true e0 e xs, .held => k (.sub 0 off len) (upd m 0 .dead) (upd nm 0 (.row true e0 e xs))
    | _, _ => none
  | .iter id, .iter b => match m b, nm id with
    | .iter s pos, .free => k (.iter id) (upd m b .dead) (upd nm id (.iter s pos))
    | _, _ => none
  | _, _ => none
def maskCs : List ShC → List LV → (Nat → Blk) → (Nat → Blk) → (List LV → (Nat → Blk) → (Nat → Blk) → Option R) → Option R
  | [], [], m, nm, k => k [] m nm
  | s :: ss, x :: xs, m, nm, k => maskC m s x nm fun y m nm => maskCs ss xs m nm fun ys m nm => k (y :: ys) m nm
  | _, _, _, _, _ => none
def maskAll : List (Nat × Sh) → (Nat → PV) → (Nat → Blk) → (Nat → PV) → (Nat → Blk) → ((Nat → PV) → (Nat → Blk) → Option R) → Option R
  | [], _, _, nt, nm, k => k nt nm
  | (i, .c sh) :: r, t, m, nt, nm, k => match t i with
    | .one x => maskC m sh x nm fun y m nm => maskAll r t m (upd nt i (.one y)) nm k
    | _ => none
  | (i, .agg u) :: r, t, m, nt, nm, k => match t i with
    | .agg cs => match toDen m u cs with
      | some (x, fz, []) => maskAll r t (still fz m) (upd nt i (.agg (cellsD u x))) nm k
      | _ => none
    | _ => none
  | (i, .var id shs) :: r, t, m, nt, nm, k => match t i with
    | .one (.vptr b 0) => match m b, nm id with
      | .var true cs, .free => maskCs shs cs m nm fun cs' m nm =>
        match m b, nm id with
        | .var true _, .free => maskAll r t (upd m b .dead) (upd nt i (.one (.vptr id 0))) (upd nm id (.var true cs')) k
        | _, _ => none
      | _, _ => none
    | _ => none
def mask (sh : List (Nat × Sh)) (nx : Nat) (st : St) (k : St → Option R) : Option R :=
  maskAll sh st.t st.m (fun _ => .undef) (upd (fun _ => .free) 0 .held) fun t m => k { t := t, m := m, nx := nx, n := st.n }

/-- Where nothing is told of a loop, it is gone through as it stands. -/
def headOf (Γ : Env) (c : Code) (st : St) (k : St → Option R) : Option R :=
  match Γ.ann (rid c) with
  | [] => k st
  | sh => mask sh 1000000 st k

def ex (Γ : Env) (K : Nat) : Code → St → (St → Option R) → (Nat → St → Option R) → (St → Option R) → Option R
  | .skip, st, kn, _, _ => kn st
  | .region id ops draw, st, kn, _, _ =>
    bif draw then
      bif orderOK Γ st ops (Γ.ord id) && (Nat.beq (Γ.ord id).length ops.size && (List.range ops.size).all fun i => (Γ.ord id).contains i) then
        exOpsL Γ ops st.nx (Γ.ord id) st fun st' => kn { st' with nx := st.nx + 4 * ops.size }
      else none
    else exOps Γ ops st.nx ops.toList 0 st fun st' => kn { st' with nx := st.nx + 4 * ops.size }
  | .seq a b, st, kn, kx, kr => ex Γ K a st (fun st' => ex Γ K b st' kn kx kr) kx kr
  | .cond c a b, st, kn, kx, kr => match operand Γ st c with
    | .one (.bool v) => cond v (ex Γ K a st kn kx kr) (ex Γ K b st kn kx kr)
    | _ => none
  | .block id c, st, kn, kx, kr => ex Γ K c st kn (fun i st' => bif Nat.beq i id then kn st' else kx i st') kr
  | .loop c, st, _, kx, kr => headOf Γ c st (loopF (fun st' k => ex Γ K c st' k kx kr) (headOf Γ c) (match Γ.ann (rid c) with | [] => 12 | _ => K))
  | .exit id, st, _, kx, _ => kx id st
  | .ret, st, _, _, kr => kr st
  | _, _, _, _, _ => none
end

/-- The results, at a function's end. -/
def results (Γ : Env) (rs : List ResultVar) (st : St) : Option (List PV) :=
  match rs with
  | [] => some []
  | .tmp d :: r => match results Γ r st with
    | some l => some (st.t d :: l)
    | none => none
  | .cell a t :: r => match Γ.T t, st.t a with
    | some row, .one (.vptr b c) => match st.m b, results Γ r st with
      | .var _ cs, some l => bif Nat.ble (c + row.ty.size) cs.length then some (ofCells row.ty.agg ((cs.drop c).take row.ty.size) :: l) else none
      | _, _ => none
    | _, _ => none

/-- Results as plain data; those that are told to be new memory must be blocks of the call's own, each once, and nothing else may lead to them. -/
def toRes (m : Nat → Blk) : (r : Ty) → List (Option Nat) → List PV → Option (Den r × List Nat × List Nat)
  | .unit, _, [] => some ((), [], [])
  | .pair (.sl e) b, some tid :: fr, v :: vs => match v with
    | .one (.own i) => match m i with
      | .row true e0 e' xs => bif Nat.beq e0 tid && Nat.blt tid 1000000 then match castTy (fun t => List (Den t)) e' e xs, toRes m b fr vs with
        | some ys, some (y, f, g) => some ((ys, y), f, i :: g)
        | _, _ => none
        else none
      | .deep true t1 t2 e' xs none _ => bif Nat.beq t1 (tid % 1000000) && (Nat.beq t2 (tid / 1000000) && !Nat.blt tid 1000000) then match castTy (fun t => List (Den t)) (.sl e') e xs, toRes m b fr vs with
        | some ys, some (y, f, g) => some ((ys, y), f, i :: g)
        | _, _ => none
        else none
      | _ => none
    | .one .nil => bif Nat.blt tid 1000000 then match toRes m b fr vs with
      | some (y, f, g) => some (([], y), f, g)
      | none => none
      else none
    | _ => none
  | .pair a b, fr, v :: vs => match fr.headD none, v.cells with
    | none, some (g, cs) => bif g == a.agg then match toDen m a cs, toRes m b fr.tail vs with
      | some (x, f, []), some (y, f', g) => some ((x, y), f ++ f', g)
      | _, _ => none else none
    | _, _ => none
  | _, _, _ => none
def nodupB : List Nat → Bool
  | [] => true
  | a :: l => !l.contains a && nodupB l
def finish (Γ : Env) (rs : List ResultVar) (r : Ty) (fresh : List (Option Nat)) (st : St) : Option (Den r) :=
  match results Γ rs st with
  | some l => match toRes st.m r fresh l with
    | some (x, f, g) => bif nodupB g && g.all (fun i => !f.contains i) then some x else none
    | none => none
  | none => none

def startT : (p : Ty) → Den p → Nat → Nat → PV
  | .pair a b, x, i => upd (startT b x.2 (i + 1)) i (ofCells a.agg (cellsD a x.1))
  | _, _, _ => fun _ => .undef
def start (n : Nat) (p : Ty) (x : Den p) : St := { t := startT p x 0, m := fun _ => .free, nx := 4, n := n }

/-- The end of a function that writes a window on its first argument: the row is the block 0. -/
def finishW (Γ : Env) (tid : Nat) (rs : List ResultVar) (r : Ty) (fresh : List (Option Nat)) (st : St) : Option (Den r) :=
  match r with
  | .pair (.sl e) r => match st.m 0 with
    | .row true e0 e' xs => bif Nat.beq e0 tid then match castTy (fun t => List (Den t)) e' e xs, results Γ rs st with
      | some ys, some l => match toRes st.m r fresh l with
        | some (x, f, g) => bif nodupB g && (g.all (fun i => !f.contains i) && (!f.contains 0 && !g.contains 0)) then some (ys, x) else none
        | none => none
      | _, _ => none
      else none
    | _ => none
  | _ => none
def startW (n tid : Nat) (p : Ty) (x : Den p) : St :=
  match p, x with
  | .pair (.sl e) (.pair (.int .i64) (.pair (.int .i64) q)), x => { t := upd (startT q x.2.2.2 1) 0 (.one (.sub 0 x.2.1.toNat x.2.2.1.toNat)), m := upd (fun _ => .free) 0 (.row true tid e x.1), nx := 4, n := n }
  | _, _ => { t := fun _ => .undef, m := fun _ => .free, nx := 4, n := n }
def exW (Γ : Env) (K : Nat) (fn : Func) (tid : Nat) (p r : Ty) (fresh : List (Option Nat)) (x : Den p) : Option (Den r) :=
  match fn.body with
  | some c => ex Γ K c (startW fn.ntmps tid p x) (finishW Γ tid fn.results.toList r fresh) (fun _ _ => none) (finishW Γ tid fn.results.toList r fresh)
  | none => none

def exF (Γ : Env) (K : Nat) (fn : Func) (p r : Ty) (fresh : List (Option Nat)) (x : Den p) : Option (Den r) :=
  match fn.body with
  | some c => ex Γ K c (start fn.ntmps p x) (finish Γ fn.results.toList r fresh) (fun _ _ => none) (finish Γ fn.results.toList r fresh)
  | none => none

/-- A loop inside a function's code, with what follows it. 'gs': what follows a round of the loops around it. -/
inductive Step where
  | l | r | b | c | t | e
def loopAt {R : Type} (Γ : Env) (K : Nat) : List Step → Code → List (St → Option R) → (St → Option R) → (Nat → St → Option R) → (St → Option R) → Nat → St → Option R
  | [], .loop c, _, _, kx, kr => loopF (fun st' k => ex Γ K c st' k kx kr) (headOf Γ c)
  | .l :: p, .seq a b, gs, kn, kx, kr => loopAt Γ K p a gs (fun st' => ex Γ K b st' kn kx kr) kx kr
  | .r :: p, .seq _ b, gs, kn, kx, kr => loopAt Γ K p b gs kn kx kr
  | .b :: p, .block id c, gs, kn, kx, kr => loopAt Γ K p c gs kn (fun i st' => bif Nat.beq i id then kn st' else kx i st') kr
  | .c :: p, .loop c, g :: gs, _, kx, kr => loopAt Γ K p c gs g kx kr
  | .t :: p, .cond _ a _, gs, kn, kx, kr => loopAt Γ K p a gs kn kx kr
  | .e :: p, .cond _ _ b, gs, kn, kx, kr => loopAt Γ K p b gs kn kx kr
  | _, _, _, _, _, _ => fun _ _ => none

theorem loopF_eq {R α : Type} (body : St → (St → Option R) → Option R) (msk : St → (St → Option R) → Option R) (mk : α → St) (l : Nat → α → Option R)
    (h0 : ∀ a, l 0 a = none) (hs : ∀ n a, body (mk a) (fun st' => msk st' (loopF body msk n)) = l (n + 1) a) : ∀ n a, loopF body msk n (mk a) = l n a := by
  intro n a
  cases n with
  | zero => rw [h0]; rfl
  | succ n => exact hs n a
end Go.PM

/-! PmRep -/
namespace Go.PM
open Go.RowKit
set_option linter.unusedVariables false

def Stab (w : World) (S : Nat → Prop) (w' : World) (S' : Nat → Prop) : Prop := ∀ b, S b → S' b ∧ w'.heap[b]? = w.heap[b]?
theorem Stab.refl (w : World) (S : Nat → Prop) : Stab w S w S := fun b h => ⟨h, rfl⟩
theorem Stab.trans {w w1 w2 : World} {S S1 S2 : Nat → Prop} (h : Stab w S w1 S1) (k : Stab w1 S1 w2 S2) : Stab w S w2 S2 :=
  fun b hb => ⟨(k b (h b hb).1).1, (k b (h b hb).1).2.trans (h b hb).2⟩
theorem Stab.cell {w w' : World} {S S' : Nat → Prop} (h : Stab w S w' S') {a : Addr} (ha : S a.block) : w'.cell? a = w.cell? a := World.cell?_of_block (h _ ha).2

/-- A list of elements, each of some cells, laid one behind the other. -/
def Es {α : Type} (R : α → List Value → Prop) : List α → List Value → Prop
  | [], cs => cs = []
  | x :: xs, cs => ∃ c1 c2, cs = c1 ++ c2 ∧ R x c1 ∧ Es R xs c2

def valOf (g : Bool) (cs : List Value) : Value := bif g then .agg cs.toArray else cs.headD undef
def tupleOf (vs : List Value) : Value := match vs with
  | [v] => v
  | vs => .tuple vs.toArray
def Lies (w : World) (ad : Addr) (cells : List Value) : Prop := ∀ j v, cells[j]? = some v → w.cell? (ad.add j) = some v

mutual
/-- Cells that read as plain data, all of it in the blocks of S. -/
def RepD (P : Program) : (t : Ty) → World → (Nat → Prop) → Den t → List Value → Prop
  | .int k, _, _, n, cs => cs = [.int k n]
  | .bool, _, _, b, cs => cs = [.bool b]
  | .str, _, _, s, cs => cs = [.string s]
  | .sl e, w, S, xs, cs => ∃ A c, cs = [.slice A xs.length c] ∧ xs.length ≤ c ∧ (xs = [] ∨ ∃ ad cells, A = some ad ∧ S ad.block ∧ Es (fun x es => RepD P e w S x es) xs cells ∧ Lies w ad cells)
  | .unit, _, _, _, cs => cs = []
  | .pair a b, w, S, x, cs => ∃ c1 c2, cs = c1 ++ c2 ∧ RepD P a w S x.1 c1 ∧ RepD P b w S x.2 c2
  | .ptr e, w, S, x, cs => ∃ ad es, cs = [.pointer (some ad)] ∧ S ad.block ∧ RepD P e w S x es ∧ Lies w ad es
  | .fn p r, w, S, F, cs => ∃ f caps, cs = [.func (.func f) #[] caps] ∧ (∃ fn, P.funcs[f]? = some fn ∧ fn.body.isSome = true ∧ (fn.name == "runtime.NumGoroutine") = false) ∧
      ∀ w' S', Stab w S w' S' → (∀ b, S' b → b < w'.heap.size) → ∀ x vs y, RepA P p w' S' x vs → F x = some y →
        Calls P f (vs.toArray ++ caps) w' fun e w'' => Below w'.heap.size w' w'' ∧ ∃ vs', e = .returned (tupleOf vs') ∧
          RepA P r w'' (fun b => S' b ∨ (w'.heap.size ≤ b ∧ b < w''.heap.size)) y vs'
/-- Values, one for each part of a chain of pairs. -/
def RepA (P : Program) : (p : Ty) → World → (Nat → Prop) → Den p → List Value → Prop
  | .unit, _, _, _, vs => vs = []
  | .pair a b, w, S, x, vs => ∃ cs vs', vs = valOf a.agg cs :: vs' ∧ RepD P a w S x.1 cs ∧ RepA P b w S x.2 vs'
  | .int _, _, _, _, _ | .bool, _, _, _, _ | .str, _, _, _, _ | .sl _, _, _, _, _ | .ptr _, _, _, _, _ | .fn _ _, _, _, _, _ => False
end
end Go.PM

/-! PmBase -/
namespace Go.PM
open Go.RowKit
set_option linter.unusedVariables false
set_option linter.unusedSimpArgs false

theorem castTy_eq : ∀ (a : Ty) (F : Ty → Type) (b : Ty) (x : F a) (y : F b), castTy F a b x = some y → ∃ h : a = b, h ▸ x = y := by
  intro a
  induction a with
  | int k =>
    intro F b x y h
    cases b <;> simp only [castTy] at h <;> try (cases h; done)
    split at h
    · rename_i hk; subst hk; cases h; exact ⟨rfl, rfl⟩
    · cases h
  | bool => intro F b x y h; cases b <;> simp only [castTy] at h <;> try (cases h; done)
            cases h; exact ⟨rfl, rfl⟩
  | str => intro F b x y h; cases b <;> simp only [castTy] at h <;> try (cases h; done)
           cases h; exact ⟨rfl, rfl⟩
  | unit => intro F b x y h; cases b <;> simp only [castTy] at h <;> try (cases h; done)
            cases h; exact ⟨rfl, rfl⟩
  | sl e ih =>
    intro F b x y h
    cases b <;> simp only [castTy] at h <;> try (cases h; done)
    obtain ⟨h1, h2⟩ := ih _ _ _ _ h
    subst h1; exact ⟨rfl, h2⟩
  | ptr e ih =>
    intro F b x y h
    cases b <;> simp only [castTy] at h <;> try (cases h; done)
    obtain ⟨h1, h2⟩ := ih _ _ _ _ h
    subst h1; exact ⟨rfl, h2⟩
  | pair a b iha ihb =>
    intro F c x y h
    cases c <;> simp only [castTy] at h <;> try (cases h; done)
    split at h
    · rename_i z hz
      obtain ⟨h1, h2⟩ := iha _ _ _ _ hz
      subst h1; subst h2
      obtain ⟨h3, h4⟩ := ihb _ _ _ _ h
      subst h3; exact ⟨rfl, h4⟩
    · cases h
  | fn a b iha ihb =>
    intro F c x y h
    cases c <;> simp only [castTy] at h <;> try (cases h; done)
    split at h
    · rename_i z hz
      obtain ⟨h1, h2⟩ := iha _ _ _ _ hz
      subst h1; subst h2
      obtain ⟨h3, h4⟩ := ihb _ _ _ _ h
      subst h3; exact ⟨rfl, h4⟩
    · cases h

section es
variable {α : Type} {R R' : α → List Value → Prop} {n : Nat}
theorem Es.mono (h : ∀ x cs, R x cs → R' x cs) : ∀ {xs : List α} {cs}, Es R xs cs → Es R' xs cs
  | [], _, k => k
  | _ :: _, _, ⟨c1, c2, e, h1, h2⟩ => ⟨c1, c2, e, h _ _ h1, Es.mono h h2⟩
theorem Es.length (hn : ∀ x cs, R x cs → cs.length = n) : ∀ {xs : List α} {cs}, Es R xs cs → cs.length = xs.length * n
  | [], _, k => by simp only [Es] at k; simp [k]
  | _ :: xs, _, ⟨c1, c2, e, h1, h2⟩ => by
    rw [e, List.length_append, hn _ _ h1, Es.length hn h2, List.length_cons, Nat.add_mul, Nat.one_mul, Nat.add_comm]
theorem Es.append : ∀ {xs ys : List α} {cs ds}, Es R xs cs → Es R ys ds → Es R (xs ++ ys) (cs ++ ds)
  | [], _, _, _, k, h => by simp only [Es] at k; simpa [k] using h
  | _ :: _, _, _, _, ⟨c1, c2, e, h1, h2⟩, h => ⟨c1, c2 ++ _, by rw [e, List.append_assoc], h1, Es.append h2 h⟩
theorem Es.drop (hn : ∀ x cs, R x cs → cs.length = n) : ∀ (j : Nat) {xs : List α} {cs}, Es R xs cs → Es R (xs.drop j) (cs.drop (j * n))
  | 0, xs, cs, h => by simpa using h
  | j + 1, [], cs, h => by simp only [Es] at h; simp [h, Es]
  | j + 1, x :: xs, cs, ⟨c1, c2, e, h1, h2⟩ => by
    have := Es.drop hn j h2
    have hl := hn _ _ h1
    rw [e, List.drop_succ_cons, Nat.add_mul, Nat.one_mul, List.drop_append, List.drop_eq_nil_of_le (show c1.length ≤ j * n + n by omega), List.nil_append, show j * n + n - c1.length = j * n by omega]
    exact this
theorem Es.take (hn : ∀ x cs, R x cs → cs.length = n) : ∀ (j : Nat) {xs : List α} {cs}, Es R xs cs → Es R (xs.take j) (cs.take (j * n))
  | 0, xs, cs, h => by simp [Es]
  | j + 1, [], cs, h => by simp only [Es] at h; simp [h, Es]
  | j + 1, x :: xs, cs, ⟨c1, c2, e, h1, h2⟩ => by
    have := Es.take hn j h2
    rw [e, List.take_succ_cons, Nat.add_mul, Nat.one_mul, Nat.add_comm, ← hn _ _ h1, List.take_append]
    refine ⟨c1, c2.take (j * c1.length), ?_, h1, by rw [hn _ _ h1]; exact this⟩
    rw [List.take_of_length_le (by omega)]; congr 2; omega
theorem Es.get (hn : ∀ x cs, R x cs → cs.length = n) (j : Nat) {xs : List α} {cs} (h : Es R xs cs) {x : α} (hx : xs[j]? = some x) : R x ((cs.drop (j * n)).take n) := by
  have h1 := Es.drop hn j h
  have hj : j < xs.length := by
    rcases Nat.lt_or_ge j xs.length with h | h
    · exact h
    · rw [List.getElem?_eq_none h] at hx; cases hx
  rw [List.drop_eq_getElem_cons hj] at h1
  have e : xs[j] = x := by rw [List.getElem?_eq_getElem hj] at hx; exact Option.some.inj hx
  rw [e] at h1
  obtain ⟨c1, c2, e1, h2, h3⟩ := h1
  rw [e1, List.take_append, hn _ _ h2]
  simpa [List.take_of_length_le (Nat.le_of_eq (hn _ _ h2))] using h2
theorem Es.set (hn : ∀ x cs, R x cs → cs.length = n) (j : Nat) {xs : List α} {cs} (h : Es R xs cs) (hj : j < xs.length) {y : α} {ds} (hy : R y ds) :
    Es R (xs.set j y) (cs.take (j * n) ++ ds ++ cs.drop (j * n + n)) := by
  have e : xs.set j y = xs.take j ++ y :: xs.drop (j + 1) := by rw [List.set_eq_take_append_cons_drop, if_pos hj]
  rw [e, List.append_assoc]
  refine Es.append (Es.take hn j h) ⟨ds, _, rfl, hy, ?_⟩
  have := Es.drop hn (j + 1) h
  rwa [Nat.add_mul, Nat.one_mul] at this
theorem Es.replicate {x : α} {cs} (h : R x cs) : ∀ m : Nat, Es R (List.replicate m x) (List.replicate m cs).flatten
  | 0 => by simp [Es]
  | m + 1 => ⟨cs, _, by simp [List.replicate_succ], h, Es.replicate h m⟩
end es

theorem Lies.mono {w w' : World} {ad : Addr} {cells : List Value} (h : Lies w ad cells) (hb : w'.heap[ad.block]? = w.heap[ad.block]?) : Lies w' ad cells := by
  intro j v hv
  have hb' : (ad.add j).block = ad.block := by unfold Addr.add; split <;> rfl
  rw [World.cell?_of_block (w := w) (by rw [hb']; exact hb)]
  exact h j v hv

variable {P : Program}

theorem RepD.length : ∀ {t : Ty} {w S} {x : Den t} {cs}, RepD P t w S x cs → cs.length = t.size := by
  intro t
  induction t with
  | pair a b iha ihb =>
    intro w S x cs h
    simp only [RepD] at h
    obtain ⟨c1, c2, rfl, h1, h2⟩ := h
    rw [List.length_append, iha h1, ihb h2]; rfl
  | sl e ih => intro w S x cs h; simp only [RepD] at h; obtain ⟨A, c, rfl, _⟩ := h; rfl
  | ptr e ih => intro w S x cs h; simp only [RepD] at h; obtain ⟨A, c, rfl, _⟩ := h; rfl
  | fn p r _ _ => intro w S x cs h; simp only [RepD] at h; obtain ⟨A, c, rfl, _⟩ := h; rfl
  | int k => intro w S x cs h; simp only [RepD] at h; subst h; rfl
  | bool => intro w S x cs h; simp only [RepD] at h; subst h; rfl
  | str => intro w S x cs h; simp only [RepD] at h; subst h; rfl
  | unit => intro w S x cs h; simp only [RepD] at h; subst h; rfl

theorem RepD.one : ∀ {t : Ty} {w S} {x : Den t} {cs}, RepD P t w S x cs → ∀ v ∈ cs, v.oneCell' = true := by
  intro t
  induction t with
  | pair a b iha ihb =>
    intro w S x cs h v hv
    simp only [RepD] at h
    obtain ⟨c1, c2, rfl, h1, h2⟩ := h
    rcases List.mem_append.1 hv with h | h
    · exact iha h1 v h
    · exact ihb h2 v h
  | sl e ih => intro w S x cs h v hv; simp only [RepD] at h; obtain ⟨A, c, rfl, _⟩ := h; simp at hv; subst hv; rfl
  | ptr e ih => intro w S x cs h v hv; simp only [RepD] at h; obtain ⟨A, c, rfl, _⟩ := h; simp at hv; subst hv; rfl
  | fn p r _ _ => intro w S x cs h v hv; simp only [RepD] at h; obtain ⟨A, c, rfl, _⟩ := h; simp at hv; subst hv; rfl
  | int k => intro w S x cs h v hv; simp only [RepD] at h; subst h; simp at hv; subst hv; rfl
  | bool => intro w S x cs h v hv; simp only [RepD] at h; subst h; simp at hv; subst hv; rfl
  | str => intro w S x cs h v hv; simp only [RepD] at h; subst h; simp at hv; subst hv; rfl
  | unit => intro w S x cs h v hv; simp only [RepD] at h; subst h; simp at hv

theorem RepD.mono : ∀ {t : Ty} {w w' : World} {S S' : Nat → Prop} {x : Den t} {cs}, Stab w S w' S' → RepD P t w S x cs → RepD P t w' S' x cs := by
  intro t
  induction t with
  | pair a b iha ihb =>
    intro w w' S S' x cs hs h
    simp only [RepD] at h ⊢
    obtain ⟨c1, c2, e, h1, h2⟩ := h
    exact ⟨c1, c2, e, iha hs h1, ihb hs h2⟩
  | sl e ih =>
    intro w w' S S' x cs hs h
    simp only [RepD] at h ⊢
    obtain ⟨A, c, e1, h1, h2⟩ := h
    refine ⟨A, c, e1, h1, ?_⟩
    rcases h2 with h2 | ⟨ad, cells, hA, hS, hE, hL⟩
    · exact .inl h2
    · exact .inr ⟨ad, cells, hA, (hs _ hS).1, Es.mono (fun x cs h => ih hs h) hE, hL.mono (hs _ hS).2⟩
  | ptr e ih =>
    intro w w' S S' x cs hs h
    simp only [RepD] at h ⊢
    obtain ⟨ad, es, e1, hS, h1, hL⟩ := h
    exact ⟨ad, es, e1, (hs _ hS).1, ih hs h1, hL.mono (hs _ hS).2⟩
  | fn p r _ _ =>
    intro w w' S S' x cs hs h
    simp only [RepD] at h ⊢
    obtain ⟨f, caps, e1, h0, h1⟩ := h
    exact ⟨f, caps, e1, h0, fun w2 S2 hs2 => h1 w2 S2 (hs.trans hs2)⟩
  | int k => intro w w' S S' x cs hs h; simpa only [RepD] using h
  | bool => intro w w' S S' x cs hs h; simpa only [RepD] using h
  | str => intro w w' S S' x cs hs h; simpa only [RepD] using h
  | unit => intro w w' S S' x cs hs h; simpa only [RepD] using h

theorem RepA.mono : ∀ {t : Ty} {w w' : World} {S S' : Nat → Prop} {x : Den t} {vs}, Stab w S w' S' → RepA P t w S x vs → RepA P t w' S' x vs := by
  intro t
  induction t with
  | pair a b iha ihb =>
    intro w w' S S' x vs hs h
    simp only [RepA] at h ⊢
    obtain ⟨cs, vs', e, h1, h2⟩ := h
    exact ⟨cs, vs', e, RepD.mono hs h1, ihb hs h2⟩
  | unit => intro w w' S S' x cs hs h; simpa only [RepA] using h
  | _ => intros; rename_i h; simp only [RepA] at h

theorem zeroD_int (k : IntKind) : zeroD (.int k) = (0 : Int) := rfl
end Go.PM

/-! PmRel -/
namespace Go.PM
open Go.RowKit
set_option linter.unusedVariables false
set_option linter.unusedSimpArgs false

def All2 {α β : Type} (R : α → β → Prop) : List α → List β → Prop
  | [], [] => True
  | a :: l, b :: r => R a b ∧ All2 R l r
  | _, _ => False
section all2
variable {α β : Type} {R R' : α → β → Prop}
theorem All2.mono (h : ∀ a b, R a b → R' a b) : ∀ {l r}, All2 R l r → All2 R' l r
  | [], [], _ => trivial
  | _ :: _, _ :: _, ⟨h1, h2⟩ => ⟨h _ _ h1, All2.mono h h2⟩
theorem All2.length : ∀ {l : List α} {r : List β}, All2 R l r → l.length = r.length
  | [], [], _ => rfl
  | _ :: _, _ :: _, ⟨_, h2⟩ => by simp [All2.length h2]
theorem All2.append : ∀ {l l' : List α} {r r' : List β}, All2 R l r → All2 R l' r' → All2 R (l ++ l') (r ++ r')
  | [], _, [], _, _, h => h
  | _ :: _, _, _ :: _, _, ⟨h1, h2⟩, h => ⟨h1, All2.append h2 h⟩
theorem All2.take : ∀ (n : Nat) {l : List α} {r : List β}, All2 R l r → All2 R (l.take n) (r.take n)
  | 0, _, _, _ => by simp [All2]
  | _ + 1, [], [], _ => by simp [All2]
  | n + 1, _ :: _, _ :: _, ⟨h1, h2⟩ => ⟨h1, All2.take n h2⟩
theorem All2.drop : ∀ (n : Nat) {l : List α} {r : List β}, All2 R l r → All2 R (l.drop n) (r.drop n)
  | 0, _, _, h => by simpa using h
  | _ + 1, [], [], _ => by simp [All2]
  | n + 1, _ :: _, _ :: _, ⟨_, h2⟩ => All2.drop n h2
theorem All2.one {x : α} {r : List β} (h : All2 R [x] r) : ∃ v, r = [v] ∧ R x v := by
  match r, h with
  | [v], ⟨h1, _⟩ => exact ⟨v, rfl, h1⟩
end all2

def vblk : Value → Option Nat
  | .slice (some a) _ _ => some a.block
  | .pointer (some a) => some a.block
  | _ => none

/-- The blocks that are a row's, or a row of rows'. -/
def vbl : Value → List Nat
  | .tuple vs => vs.toList.filterMap vblk
  | v => (vblk v).toList
@[reducible] def vb (v : Value) (g : Nat) : Prop := match v with
  | .slice (some a) _ _ => a.block = g
  | .pointer (some a) => a.block = g
  | .tuple vs => g ∈ vs.toList.filterMap vblk
  | _ => False
theorem vb_of {v : Value} {g : Nat} (h : vblk v = some g) : vb v g := by
  cases v <;> simp only [vblk] at h <;> try (cases h; done)
  · rename_i a; cases a <;> simp only at h <;> cases h; rfl
  · rename_i a _ _; cases a <;> simp only at h <;> cases h; rfl
theorem mem_vbl {v : Value} {g : Nat} : g ∈ vbl v ↔ vb v g := by
  cases v <;> simp only [vbl, vb, vblk, Option.toList, List.not_mem_nil] <;> try exact Iff.rfl
  · rename_i a; cases a <;> simp [eq_comm]
  · rename_i a _ _; cases a <;> simp [eq_comm]
/-- The value itself; what a row of rows holds at its places. -/
def hdV : Value → Value
  | .tuple vs => vs.toList.headD undef
  | v => v
def innV : Value → Nat → Option Value
  | .tuple vs, i => vs.toList[i + 1]?
  | _, _ => none

/-- The blocks of the machine's own that may still be written. -/
def Blk.live : Blk → Bool
  | .row l _ _ _ => l
  | .var l _ => l
  | .iter .. => true
  | .hole .. => true
  | .deep l _ _ _ _ _ _ => l
  | _ => false

/-- What stands for one cell. 'ρ' tells of each block of the machine's own what value leads to it. -/
def RepLV (P : Program) (ρ : Nat → Value) (m : Nat → Blk) (w : World) (S : Nat → Prop) : LV → Value → Prop
  | .undef, v => v.oneCell' = true
  | .int k n, v => v = .int k n
  | .bool b, v => v = .bool b
  | .str s, v => v = .string s
  | .nil, v => v = .slice none 0 0
  | .sl e xs, v => RepD P (.sl e) w S xs [v]
  | .own b, v => v.oneCell' = true ∧ match m b with
    | .dead => True
    | .row .. => v = ρ b
    | .hole .. => v = ρ b
    | .deep .. => v = hdV (ρ b)
    | _ => False
  | .sub b off len, v => v.oneCell' = true ∧ match m b with
    | .dead => True
    | .row _ _ e xs => off + len ≤ xs.length ∧ ∃ A c, v = .slice A len c ∧ len ≤ c ∧ (0 < len → ∃ g n k, ρ b = .slice (some ⟨g, 0, none⟩) n k ∧ A = some ⟨g, off * e.size, none⟩)
    | .hole _ e xs _ _ => off + len ≤ xs.length ∧ ∃ A c, v = .slice A len c ∧ len ≤ c ∧ (0 < len → ∃ g n k, ρ b = .slice (some ⟨g, 0, none⟩) n k ∧ A = some ⟨g, off * e.size, none⟩)
    | _ => False
  | .vptr b c, v => v.oneCell' = true ∧ match m b with
    | .dead => True
    | .var .. => ∃ g, ρ b = .pointer (some ⟨g, 0, none⟩) ∧ v = .pointer (some ⟨g, c, none⟩)
    | _ => False
  | .rptr b i, v => v.oneCell' = true ∧ match m b with
    | .dead => True
    | .row _ _ e xs => i < xs.length ∧ ∃ g n k, ρ b = .slice (some ⟨g, 0, none⟩) n k ∧ v = .pointer (some ⟨g, i * e.size, none⟩)
    | .hole _ e xs _ _ => i < xs.length ∧ ∃ g n k, ρ b = .slice (some ⟨g, 0, none⟩) n k ∧ v = .pointer (some ⟨g, i * e.size, none⟩)
    | .deep _ _ _ _ xs _ _ => i < xs.length ∧ ∃ g n k, hdV (ρ b) = .slice (some ⟨g, 0, none⟩) n k ∧ v = .pointer (some ⟨g, i, none⟩)
    | _ => False
  | .eptr t x, v => RepD P (.ptr t) w S x [v]
  | .fn p r F, v => RepD P (.fn p r) w S F [v]
  | .iter b, v => v.oneCell' = true ∧ match m b with
    | .dead => True
    | .iter .. => v = ρ b
    | _ => False
  | .inn b i u, v => v.oneCell' = true ∧ match m b with
    | .dead => True
    | .deep _ _ _ _ xs o u0 => u ≤ u0 ∧ (u = u0 → o = none → i < xs.length ∧ innV (ρ b) i = some v)
    | _ => False
  | .iptr b i n u, v => v.oneCell' = true ∧ match m b with
    | .dead => True
    | .deep _ _ _ e xs o u0 => u ≤ u0 ∧ (u = u0 → o = none → i < xs.length ∧ n < (xs.getD i []).length ∧ ∃ g n' k, innV (ρ b) i = some (.slice (some ⟨g, 0, none⟩) n' k) ∧ v = .pointer (some ⟨g, n * e.size, none⟩))
    | _ => False

def RepC (P : Program) (ρ : Nat → Value) (m : Nat → Blk) (w : World) (S : Nat → Prop) (g : Bool) (cs : List LV) (v : Value) : Prop :=
  ∃ vs, All2 (RepLV P ρ m w S) cs vs ∧ v = valOf g vs ∧ (g = false → vs.length = 1)

def RepPV (P : Program) (ρ : Nat → Value) (m : Nat → Blk) (w : World) (S : Nat → Prop) : PV → Value → Prop
  | .undef, _ => True
  | .no, v => v = Go.undef
  | .one x, v => RepLV P ρ m w S x v
  | .agg cs, v => ∃ vs, All2 (RepLV P ρ m w S) cs vs ∧ v = .agg vs.toArray
  | .tup l, v => ∃ vs, v = .tuple vs.toArray ∧ All2 (fun (x : Bool × List LV) v => RepC P ρ m w S x.1 x.2 v) l vs

/-- As 'Below', but for some blocks. -/
structure BelowX (X : Nat → Prop) (B : Nat) (w w' : World) : Prop where
  os : w'.os = w.os
  tape : w'.tape = w.tape
  output : w'.output = w.output
  size : w.heap.size ≤ w'.heap.size
  block : ∀ k, k < B → ¬ X k → w'.heap[k]? = w.heap[k]?
theorem BelowX.refl (X : Nat → Prop) (B : Nat) (w : World) : BelowX X B w w := ⟨rfl, rfl, rfl, Nat.le_refl _, fun _ _ _ => rfl⟩
theorem BelowX.trans {X : Nat → Prop} {B : Nat} {a b c : World} (h : BelowX X B a b) (k : BelowX X B b c) : BelowX X B a c :=
  ⟨k.os.trans h.os, k.tape.trans h.tape, k.output.trans h.output, Nat.le_trans h.size k.size, fun i hi hx => (k.block i hi hx).trans (h.block i hi hx)⟩
theorem BelowX.of {X : Nat → Prop} {B B' : Nat} {w w' : World} (h : Below B' w w') (hB : B ≤ B') : BelowX X B w w' := ⟨h.os, h.tape, h.output, h.size, fun k hk _ => h.block k (Nat.lt_of_lt_of_le hk hB)⟩
theorem BelowX.below {X : Nat → Prop} {B : Nat} {w w' : World} (h : BelowX X B w w') (hX : ∀ k, ¬ X k) : Below B w w' := ⟨h.os, h.tape, h.output, h.size, fun k hk => h.block k hk (hX k)⟩

/-- Package variables hold what they are told to hold. -/
def GlobOK (P : Program) (G : Nat → Option GRow) (w : World) (S : Nat → Prop) : Prop := ∀ g r, G g = some r → RepD P (.ptr r.t) w S r.x [.pointer (some ⟨g, 0, none⟩)]
theorem GlobOK.mono {P : Program} {G : Nat → Option GRow} {w w' : World} {S S' : Nat → Prop} (hs : Stab w S w' S') (h : GlobOK P G w S) : GlobOK P G w' S' := fun g r hg => RepD.mono hs (h g r hg)

structure Ctx where
  w0 : World
  S0 : Nat → Prop
  G : Nat → Option GRow
  /-- The row that a window of the first argument's is on. -/
  mv : Option Value
def Ctx.mx (C : Ctx) (g : Nat) : Prop := ∃ v, C.mv = some v ∧ vblk v = some g

/-- A row of rows, each a memory of its own: the row's value and its places'. -/
structure DeepAt (P : Program) (w : World) (S : Nat → Prop) (base tid tid2 : Nat) (e : Ty) (xs : List (List (Den e))) (o : Option Nat) (v : Value) (hs : List Value) : Prop where
  len : hs.length = xs.length
  row : ∃ cells, w.ownsRow base tid 1 v xs.length cells ∧ ∀ (p : Nat) (h : Value), o ≠ some p → hs[p]? = some h → cells[p]? = some h
  inn : ∀ (p : Nat) (h : Value), hs[p]? = some h → ∃ (n : Nat) (cs : List Value), w.ownsRow base tid2 e.size h n cs ∧ (o ≠ some p → ∃ x, xs[p]? = some x ∧ n = x.length ∧ Es (fun x es => RepD P e w S x es) x cs)
  nd : ((v :: hs).filterMap vblk).Nodup

def RepBlk (P : Program) (C : Ctx) (ρ : Nat → Value) (m : Nat → Blk) (w : World) (S : Nat → Prop) (b : Nat) : Prop :=
  match m b with
  | .row l tid e xs => ∃ cells, w.ownsRow 0 tid e.size (ρ b) xs.length cells ∧ Es (fun x es => RepD P e w S x es) xs cells ∧ (l = false → ∀ g, vb (ρ b) g → S g)
  | .var l cs => ∃ g T vs, ρ b = .pointer (some ⟨g, 0, none⟩) ∧ 0 ≤ g ∧ w.heap[g]? = some (.cells vs.toArray T (0, 0)) ∧ All2 (RepLV P ρ m w S) cs vs ∧ (l = false → S g)
  | .iter s pos => ∃ g, ρ b = .pointer (some ⟨g, 0, none⟩) ∧ 0 ≤ g ∧ w.heap[g]? = some (.stringIter s pos)
  | .hole tid e xs i j => e.size = 1 ∧ e.agg = false ∧ ∃ cells, w.ownsRow 0 tid e.size (ρ b) xs.length cells ∧ cells.length = xs.length ∧ i < xs.length ∧
      (∀ p x, p ≠ i → xs[p]? = some x → ∃ v, cells[p]? = some v ∧ RepD P e w S x [v]) ∧
      ∃ v, cells[i]? = some v ∧ v.oneCell' = true ∧ match m j with
        | .dead => True
        | .row .. => v = ρ j
        | .hole .. => v = ρ j
        | _ => False
  | .deep l tid tid2 e xs o u => ∃ v hs, ρ b = .tuple (v :: hs).toArray ∧ DeepAt P w S 0 tid tid2 e xs o v hs ∧ (l = false → ∀ g, vb (ρ b) g → S g)
  | _ => True

structure Rel (P : Program) (C : Ctx) (ρ : Nat → Value) (S : Nat → Prop) (st : St) (a : Act) (w : World) : Prop where
  defers : a.defers = []
  below : BelowX C.mx C.w0.heap.size C.w0 w
  sb : ∀ b, S b → b < w.heap.size
  s0 : ∀ b, C.S0 b → S b
  s1 : ∀ b, S b → C.S0 b ∨ C.w0.heap.size ≤ b ∨ C.mx b
  tm : ∀ d, RepPV P ρ st.m w S (st.t d) (a.tmps.getD d undef)
  sz : a.tmps.size = st.n
  mem : ∀ b, RepBlk P C ρ st.m w S b
  inj : ∀ b b', b ≠ b' → (st.m b).live = true → (st.m b').live = true → ∀ g, vb (ρ b) g → ¬ vb (ρ b') g
  out : ∀ b, (st.m b).live = true → ∀ g, vb (ρ b) g → ¬ S g
  loc : ∀ b, (st.m b).live = true → ∀ g, vb (ρ b) g → C.w0.heap.size ≤ g ∨ C.mx g
  gl : GlobOK P C.G w S
  mz : ∀ v, C.mv = some v → st.m 0 ≠ .free ∧ ρ 0 = v

variable {P : Program}

/-- The same state in a world that has grown: blocks of S and live blocks are as they were. -/
def Kept (ρ : Nat → Value) (m : Nat → Blk) (w w' : World) : Prop := ∀ b, (m b).live = true → ∀ g, vb (ρ b) g → w'.heap[g]? = w.heap[g]?

theorem RepLV.mono {ρ m w w'} {S S' : Nat → Prop} (hs : Stab w S w' S') {x : LV} {v : Value} (h : RepLV P ρ m w S x v) : RepLV P ρ m w' S' x v := by
  cases x <;> simp only [RepLV] at h ⊢ <;> first | exact h | exact RepD.mono hs h

theorem RepC.mono {ρ m w w'} {S S' : Nat → Prop} (hs : Stab w S w' S') {g cs v} (h : RepC P ρ m w S g cs v) : RepC P ρ m w' S' g cs v := by
  obtain ⟨vs, h1, h2⟩ := h
  exact ⟨vs, All2.mono (fun _ _ => RepLV.mono hs) h1, h2⟩

theorem RepPV.mono {ρ m w w'} {S S' : Nat → Prop} (hs : Stab w S w' S') {x : PV} {v : Value} (h : RepPV P ρ m w S x v) : RepPV P ρ m w' S' x v := by
  cases x with
  | undef => trivial
  | no => exact h
  | one x => exact RepLV.mono hs h
  | agg cs => obtain ⟨vs, h1, h2⟩ := h; exact ⟨vs, All2.mono (fun _ _ => RepLV.mono hs) h1, h2⟩
  | tup l => obtain ⟨vs, h1, h2⟩ := h; exact ⟨vs, h1, All2.mono (fun _ _ => RepC.mono hs) h2⟩

theorem ownsRow_of_block {w w' : World} {base e size : Nat} {v : Value} {n : Nat} {xs : List Value} (h : w.ownsRow base e size v n xs) (hb : ∀ g, vb v g → w'.heap[g]? = w.heap[g]?) :
    w'.ownsRow base e size v n xs := by
  refine ⟨h.1, ?_⟩
  rcases h.2 with hn | ⟨g, cap, cur, rfl, hb', hgg, rest⟩
  · exact .inl hn
  · exact .inr ⟨g, cap, cur, rfl, hb', by rw [hb g rfl]; exact hgg, rest⟩

theorem vb_tuple_hd {v : Value} {hs : List Value} {g : Nat} (h : vblk v = some g) : vb (.tuple (v :: hs).toArray) g := List.mem_filterMap.2 ⟨v, List.mem_cons_self .., h⟩
theorem vb_tuple_inn {v h : Value} {hs : List Value} {g p : Nat} (hp : hs[p]? = some h) (hg : vblk h = some g) : vb (.tuple (v :: hs).toArray) g := List.mem_filterMap.2 ⟨h, List.mem_cons_of_mem _ (List.mem_of_getElem? hp), hg⟩
theorem vb_tuple {v : Value} {hs : List Value} {g : Nat} (h : vb (.tuple (v :: hs).toArray) g) : vblk v = some g ∨ ∃ (p : Nat) (u : Value), hs[p]? = some u ∧ vblk u = some g := by
  obtain ⟨u, hu, hg⟩ := List.mem_filterMap.1 h
  rcases List.mem_cons.1 hu with rfl | hu
  · exact .inl hg
  · obtain ⟨p, hp⟩ := List.getElem?_of_mem hu
    exact .inr ⟨p, u, hp, hg⟩
theorem vb_slice {v : Value} {g : Nat} (hs : ∃ A n c, v = .slice A n c) (h : vb v g) : vblk v = some g := by
  obtain ⟨A, n, c, rfl⟩ := hs
  cases A with
  | none => exact h.elim
  | some a => exact congrArg some h
theorem ownsRow_slice {w : World} {base e size n : Nat} {v : Value} {xs : List Value} (h : w.ownsRow base e size v n xs) : ∃ A n c, v = .slice A n c := by
  rcases h.2 with ⟨rfl, _⟩ | ⟨g, cap, cur, rfl, _⟩
  · exact ⟨_, _, _, rfl⟩
  · exact ⟨_, _, _, rfl⟩
theorem DeepAt.mono {w w' : World} {S S' : Nat → Prop} {base t1 t2 : Nat} {e : Ty} {xs : List (List (Den e))} {o : Option Nat} {v : Value} {hs : List Value} (hst : Stab w S w' S') (h : DeepAt P w S base t1 t2 e xs o v hs)
    (hb : ∀ g, vb (.tuple (v :: hs).toArray) g → w'.heap[g]? = w.heap[g]?) : DeepAt P w' S' base t1 t2 e xs o v hs := by
  obtain ⟨cells, h1, h2⟩ := h.row
  refine ⟨h.len, ⟨cells, ownsRow_of_block h1 (fun g hg => hb g (vb_tuple_hd (vb_slice (ownsRow_slice h1) hg))), h2⟩, fun p u hp => ?_, h.nd⟩
  obtain ⟨n, cs, k1, k2⟩ := h.inn p u hp
  refine ⟨n, cs, ownsRow_of_block k1 (fun g hg => hb g (vb_tuple_inn hp (vb_slice (ownsRow_slice k1) hg))), fun ho => ?_⟩
  obtain ⟨x, x1, x2, x3⟩ := k2 ho
  exact ⟨x, x1, x2, Es.mono (fun x cs h => RepD.mono hst h) x3⟩

/-- A block of the machine's own in a grown world, if its own block is as it was. -/
theorem RepBlk.mono {C : Ctx} {ρ m w w'} {S S' : Nat → Prop} (hs : Stab w S w' S') {b : Nat} (h : RepBlk P C ρ m w S b)
    (hb : (m b).live = true → ∀ g, vb (ρ b) g → w'.heap[g]? = w.heap[g]?) : RepBlk P C ρ m w' S' b := by
  unfold RepBlk at h ⊢
  cases hm : m b with
  | free => trivial
  | held => trivial
  | dead => trivial
  | row l tid e xs =>
    rw [hm] at h hb
    obtain ⟨cells, h1, h2, h3⟩ := h
    have hblk : ∀ g, vb (ρ b) g → w'.heap[g]? = w.heap[g]? := by
      intro g hg
      cases l with
      | true => exact hb rfl g hg
      | false => exact (hs g (h3 rfl g hg)).2
    exact ⟨cells, ownsRow_of_block h1 hblk, Es.mono (fun x cs h => RepD.mono hs h) h2, fun hl g hg => (hs g (h3 hl g hg)).1⟩
  | var l cs =>
    rw [hm] at h hb
    obtain ⟨g, T, vs, h1, h2, h3, h4, h5⟩ := h
    have hblk : w'.heap[g]? = w.heap[g]? := by
      cases l with
      | true => exact hb rfl g (by rw [h1])
      | false => exact (hs g (h5 rfl)).2
    exact ⟨g, T, vs, h1, h2, hblk.trans h3, All2.mono (fun _ _ => RepLV.mono hs) h4, fun hl => (hs g (h5 hl)).1⟩
  | iter s pos =>
    rw [hm] at h hb
    obtain ⟨g, h1, h2, h3⟩ := h
    exact ⟨g, h1, h2, (hb rfl g (by rw [h1])).trans h3⟩
  | hole tid e xs i j =>
    rw [hm] at h hb
    obtain ⟨z1, z2, cells, h1, h2, h3, h4, h5⟩ := h
    exact ⟨z1, z2, cells, ownsRow_of_block h1 (hb rfl), h2, h3, fun p x hp hx => by obtain ⟨v, v1, v2⟩ := h4 p x hp hx; exact ⟨v, v1, RepD.mono hs v2⟩, h5⟩
  | deep l t1 t2 e xs o u =>
    rw [hm] at h hb
    obtain ⟨v, hs', h1, h2, h3⟩ := h
    have hblk : ∀ g, vb (.tuple (v :: hs').toArray) g → w'.heap[g]? = w.heap[g]? := by
      rw [h1] at hb h3
      intro g hg
      cases l with
      | true => exact hb rfl g hg
      | false => exact (hs g (h3 rfl g hg)).2
    exact ⟨v, hs', h1, h2.mono hs hblk, fun hl g hg => (hs g (h3 hl g hg)).1⟩
end Go.PM

/-! PmStep -/
namespace Go.PM
open Go.RowKit
set_option linter.unusedVariables false
set_option linter.unusedSimpArgs false
variable {P : Program}

theorem upd_same {α : Type} (f : Nat → α) (i : Nat) (v : α) : upd f i v i = v := by simp [upd]
theorem upd_other {α : Type} (f : Nat → α) {i j : Nat} (v : α) (h : j ≠ i) : upd f i v j = f j := by
  have : Nat.beq j i = false := by rw [Bool.eq_false_iff]; intro e; exact h (Nat.eq_of_beq_eq_true e)
  simp [upd, this]

/-- What may become of a block, as far as what leads to it is concerned. -/
def Ok1 (ρ ρ' : Nat → Value) (m m' : Nat → Blk) (b : Nat) : Prop :=
  match m b, m' b with
  | .free, _ => True
  | .held, _ => True
  | _, .dead => True
  | .row _ _ e xs, .row _ _ e' xs' => xs.length = xs'.length ∧ e.size = e'.size ∧ ρ' b = ρ b
  | .var .., .var .. => ρ' b = ρ b
  | .iter .., .iter .. => ρ' b = ρ b
  | .row _ _ e xs, .hole _ e' xs' _ _ => xs.length = xs'.length ∧ e.size = e'.size ∧ ρ' b = ρ b
  | .hole _ e xs _ _, .row _ _ e' xs' => xs.length = xs'.length ∧ e.size = e'.size ∧ ρ' b = ρ b
  | .hole _ e xs _ _, .hole _ e' xs' _ _ => xs.length = xs'.length ∧ e.size = e'.size ∧ ρ' b = ρ b
  | .deep _ _ _ e xs o u, .deep _ _ _ e' xs' o' u' => hdV (ρ' b) = hdV (ρ b) ∧ xs.length = xs'.length ∧ e.size = e'.size ∧ u ≤ u' ∧ (u = u' → o' = none → o = none ∧ (∀ i, innV (ρ' b) i = innV (ρ b) i) ∧ ∀ i : Nat, (xs'.getD i []).length = (xs.getD i []).length)
  | _, _ => False

theorem Ok1.same {ρ ρ' : Nat → Value} {m m' : Nat → Blk} {b : Nat} (hm : m' b = m b) (hr : ρ' b = ρ b) : Ok1 ρ ρ' m m' b := by
  unfold Ok1; rw [hm]; cases m b <;> simp [hr]

theorem RepLV.step {ρ ρ' : Nat → Value} {m m' : Nat → Blk} {w : World} {S : Nat → Prop} (ok : ∀ b, Ok1 ρ ρ' m m' b) {x : LV} {v : Value} (h : RepLV P ρ m w S x v) : RepLV P ρ' m' w S x v := by
  cases x with
  | own b =>
    have := ok b; unfold Ok1 at this; simp only [RepLV] at h ⊢
    refine ⟨h.1, ?_⟩; have h := h.2
    cases hm : m b <;> cases hm' : m' b <;> simp only [hm, hm'] at h this ⊢ <;> first | trivial | exact this.elim | exact h.elim | (rw [this.2.2]; exact h) | (rw [this]; exact h) | (rw [this.1]; exact h)
  | sub b off len =>
    have := ok b; unfold Ok1 at this; simp only [RepLV] at h ⊢
    refine ⟨h.1, ?_⟩; have h := h.2
    cases hm : m b <;> cases hm' : m' b <;> simp only [hm, hm'] at h this ⊢ <;> first | trivial | exact this.elim | exact h.elim | (rw [← this.1, ← this.2.1, this.2.2]; exact h)
  | vptr b c =>
    have := ok b; unfold Ok1 at this; simp only [RepLV] at h ⊢
    refine ⟨h.1, ?_⟩; have h := h.2
    cases hm : m b <;> cases hm' : m' b <;> simp only [hm, hm'] at h this ⊢ <;> first | trivial | exact this.elim | exact h.elim | (rw [this]; exact h)
  | rptr b i =>
    have := ok b; unfold Ok1 at this; simp only [RepLV] at h ⊢
    refine ⟨h.1, ?_⟩; have h := h.2
    cases hm : m b <;> cases hm' : m' b <;> simp only [hm, hm'] at h this ⊢ <;> first | trivial | exact this.elim | exact h.elim | (rw [← this.1, ← this.2.1, this.2.2]; exact h) | (rw [← this.2.1, this.1]; exact h)
  | inn b i u =>
    have := ok b; unfold Ok1 at this; simp only [RepLV] at h ⊢
    refine ⟨h.1, ?_⟩; have h := h.2
    cases hm : m b <;> cases hm' : m' b <;> simp only [hm, hm'] at h this ⊢ <;> first | trivial | exact this.elim | exact h.elim | skip
    refine ⟨Nat.le_trans h.1 this.2.2.2.1, fun hu ho => ?_⟩
    have hu1 := Nat.le_antisymm this.2.2.2.1 (hu ▸ h.1)
    obtain ⟨k1, k2, k3⟩ := this.2.2.2.2 hu1 ho
    obtain ⟨h1, h2⟩ := h.2 (by omega) k1
    exact ⟨by rw [← this.2.1]; exact h1, by rw [k2]; exact h2⟩
  | iptr b i n u =>
    have := ok b; unfold Ok1 at this; simp only [RepLV] at h ⊢
    refine ⟨h.1, ?_⟩; have h := h.2
    cases hm : m b <;> cases hm' : m' b <;> simp only [hm, hm'] at h this ⊢ <;> first | trivial | exact this.elim | exact h.elim | skip
    refine ⟨Nat.le_trans h.1 this.2.2.2.1, fun hu ho => ?_⟩
    have hu1 := Nat.le_antisymm this.2.2.2.1 (hu ▸ h.1)
    obtain ⟨k1, k2, k3⟩ := this.2.2.2.2 hu1 ho
    obtain ⟨h1, h2, g, n', k, h3, h4⟩ := h.2 (by omega) k1
    exact ⟨by rw [← this.2.1]; exact h1, by rw [k3]; exact h2, g, n', k, by rw [k2]; exact h3, by rw [← this.2.2.1]; exact h4⟩
  | iter b =>
    have := ok b; unfold Ok1 at this; simp only [RepLV] at h ⊢
    refine ⟨h.1, ?_⟩; have h := h.2
    cases hm : m b <;> cases hm' : m' b <;> simp only [hm, hm'] at h this ⊢ <;> first | trivial | exact this.elim | exact h.elim | (rw [this]; exact h)
  | _ => simpa only [RepLV] using h

theorem RepC.step {ρ ρ' : Nat → Value} {m m' : Nat → Blk} {w : World} {S : Nat → Prop} (ok : ∀ b, Ok1 ρ ρ' m m' b) {g cs v} (h : RepC P ρ m w S g cs v) : RepC P ρ' m' w S g cs v := by
  obtain ⟨vs, h1, h2⟩ := h; exact ⟨vs, All2.mono (fun _ _ => RepLV.step ok) h1, h2⟩
theorem RepPV.step {ρ ρ' : Nat → Value} {m m' : Nat → Blk} {w : World} {S : Nat → Prop} (ok : ∀ b, Ok1 ρ ρ' m m' b) {x : PV} {v : Value} (h : RepPV P ρ m w S x v) : RepPV P ρ' m' w S x v := by
  cases x with
  | undef => trivial
  | no => exact h
  | one x => exact RepLV.step ok h
  | agg cs => obtain ⟨vs, h1, h2⟩ := h; exact ⟨vs, All2.mono (fun _ _ => RepLV.step ok) h1, h2⟩
  | tup l => obtain ⟨vs, h1, h2⟩ := h; exact ⟨vs, h1, All2.mono (fun _ _ => RepC.step ok) h2⟩

theorem RepBlk.step {C : Ctx} {ρ ρ' : Nat → Value} {m m' : Nat → Blk} {w w' : World} {S S' : Nat → Prop} (ok : ∀ b, Ok1 ρ ρ' m m' b) (hs : Stab w S w' S') {b : Nat} (hm : m' b = m b) (hr : ρ' b = ρ b)
    (hb : (m b).live = true → ∀ g, vb (ρ b) g → w'.heap[g]? = w.heap[g]?) (h : RepBlk P C ρ m w S b) : RepBlk P C ρ' m' w' S' b := by
  have h := RepBlk.mono hs h hb
  unfold RepBlk at h ⊢
  rw [hm]
  cases hm0 : m b with
  | var l cs =>
    rw [hm0] at h
    obtain ⟨g, T, vs, h1, h2, h3, h4, h5⟩ := h
    exact ⟨g, T, vs, by rw [hr]; exact h1, h2, h3, All2.mono (fun _ _ => RepLV.step ok) h4, h5⟩
  | row l tid e xs => rw [hm0] at h; simpa only [hr] using h
  | iter s pos => rw [hm0] at h; simpa only [hr] using h
  | hole tid e xs i j =>
    rw [hm0] at h
    obtain ⟨z1, z2, cells, h1, h2, h3, h4, v, v1, v2, v3⟩ := h
    refine ⟨z1, z2, cells, by rw [hr]; exact h1, h2, h3, h4, v, v1, v2, ?_⟩
    have := ok j
    unfold Ok1 at this
    revert this v3
    cases m j <;> cases m' j <;> simp only <;> intro a b <;> first | trivial | exact a.elim | exact b.elim | (rw [b.2.2]; exact a) | (rw [a.2.2]; exact b)
  | deep l t1 t2 e xs o u => rw [hm0] at h; simpa only [hr] using h
  | _ => trivial

theorem ownsRow_lt {base e size n g : Nat} {v : Value} {xs : List Value} {w : World} (h : w.ownsRow base e size v n xs) (hg : vblk v = some g) : base ≤ g ∧ g < w.heap.size := by
  rcases h.2 with ⟨e, _⟩ | ⟨g', cap, cur, e, hb, hh, _⟩
  · rw [e] at hg; cases hg
  · rw [e] at hg; cases hg; exact ⟨hb, (Array.getElem?_eq_some_iff.1 hh).1⟩
theorem DeepAt.lt {base t1 t2 g : Nat} {e : Ty} {xs : List (List (Den e))} {o : Option Nat} {v : Value} {hs : List Value} {w : World} {S : Nat → Prop} (h : DeepAt P w S base t1 t2 e xs o v hs) (hg : vb (.tuple (v :: hs).toArray) g) : base ≤ g ∧ g < w.heap.size := by
  rcases vb_tuple hg with hg | ⟨p, u, hp, hg⟩
  · obtain ⟨cells, h1, _⟩ := h.row
    exact ownsRow_lt h1 hg
  · obtain ⟨n, cs, h1, _⟩ := h.inn p u hp
    exact ownsRow_lt h1 hg
theorem RepBlk.lt {C : Ctx} {ρ : Nat → Value} {m : Nat → Blk} {w : World} {S : Nat → Prop} {b g : Nat} (h : RepBlk P C ρ m w S b) (hl : (m b).live = true) (hg : vb (ρ b) g) : 0 ≤ g ∧ g < w.heap.size := by
  unfold RepBlk at h
  cases hm : m b <;> rw [hm] at h hl <;> simp only [Blk.live] at hl <;> try (cases hl; done)
  · obtain ⟨cells, h1, _⟩ := h
    rcases h1.2 with ⟨e, _⟩ | ⟨g', cap, cur, e, hb, hh, _⟩
    · rw [e] at hg; cases hg
    · rw [e] at hg; cases hg; exact ⟨hb, (Array.getElem?_eq_some_iff.1 hh).1⟩
  · obtain ⟨g', T, vs, e, hb, hh, _⟩ := h
    rw [e] at hg; cases hg; exact ⟨hb, (Array.getElem?_eq_some_iff.1 hh).1⟩
  · obtain ⟨g', e, hb, hh⟩ := h
    rw [e] at hg; cases hg; exact ⟨hb, (Array.getElem?_eq_some_iff.1 hh).1⟩
  · obtain ⟨_, _, cells, h1, _⟩ := h
    rcases h1.2 with ⟨e, _⟩ | ⟨g', cap, cur, e, hb, hh, _⟩
    · rw [e] at hg; cases hg
    · rw [e] at hg; cases hg; exact ⟨hb, (Array.getElem?_eq_some_iff.1 hh).1⟩
  · obtain ⟨v, hs, e1, h1, _⟩ := h
    rw [e1] at hg; exact h1.lt hg

variable {C : Ctx} {ρ : Nat → Value} {S : Nat → Prop} {st : St} {a : Act} {w : World}

theorem Rel.step (r : Rel P C ρ S st a w) {ρ' : Nat → Value} {S' : Nat → Prop} {m' : Nat → Blk} {w' : World} (hs : Stab w S w' S') (below : BelowX C.mx C.w0.heap.size C.w0 w')
    (sb : ∀ b, S' b → b < w'.heap.size) (s1 : ∀ b, S' b → C.S0 b ∨ C.w0.heap.size ≤ b ∨ C.mx b) (ok : ∀ b, Ok1 ρ ρ' st.m m' b) (mem : ∀ b, RepBlk P C ρ' m' w' S' b)
    (inj : ∀ b b', b ≠ b' → (m' b).live = true → (m' b').live = true → ∀ g, vb (ρ' b) g → ¬ vb (ρ' b') g)
    (out : ∀ b, (m' b).live = true → ∀ g, vb (ρ' b) g → ¬ S' g) (loc : ∀ b, (m' b).live = true → ∀ g, vb (ρ' b) g → C.w0.heap.size ≤ g ∨ C.mx g)
    (mz : ∀ v, C.mv = some v → m' 0 ≠ .free ∧ ρ' 0 = v) : Rel P C ρ' S' { st with m := m' } a w' :=
  ⟨r.defers, below, sb, fun b hb => (hs b (r.s0 b hb)).1, s1, fun d => RepPV.step ok (RepPV.mono hs (r.tm d)), r.sz, mem, inj, out, loc, r.gl.mono hs, mz⟩

/-- Memory has grown, all else is as it was. -/
theorem Rel.grow (r : Rel P C ρ S st a w) {S' : Nat → Prop} {w' : World} (hb : Below w.heap.size w w') (hS : ∀ b, S b → S' b) (hS' : ∀ b, S' b → S b ∨ (w.heap.size ≤ b ∧ b < w'.heap.size)) : Rel P C ρ S' st a w' := by
  have hB : C.w0.heap.size ≤ w.heap.size := r.below.size
  have hs : Stab w S w' S' := fun b h => ⟨hS b h, hb.block b (r.sb b h)⟩
  have hlive : ∀ b, (st.m b).live = true → ∀ g, vb (ρ b) g → w'.heap[g]? = w.heap[g]? := fun b hl g hg => hb.block g (RepBlk.lt (r.mem b) hl hg).2
  refine Rel.step (m' := st.m) r hs (r.below.trans (BelowX.of hb hB)) ?_ ?_ (fun b => Ok1.same rfl rfl) (fun b => RepBlk.mono hs (r.mem b) (hlive b)) r.inj ?_ r.loc r.mz
  · intro b h
    rcases hS' b h with h | h
    · exact Nat.lt_of_lt_of_le (r.sb b h) hb.size
    · exact h.2
  · intro b h
    rcases hS' b h with h | h
    · exact r.s1 b h
    · exact .inr (.inl (Nat.le_trans hB h.1))
  · intro b hl g hg h
    rcases hS' g h with h | h
    · exact r.out b hl g hg h
    · have := (RepBlk.lt (r.mem b) hl hg).2; omega

/-- A block is taken for the machine's own. -/
theorem Rel.adopt (r : Rel P C ρ S st a w) {id : Nat} {blk : Blk} {v : Value} (hf : st.m id = .free)
    (hv : ∀ g, vb v g → (¬ S g ∧ ∀ b, (st.m b).live = true → ¬ vb (ρ b) g) ∧ (C.w0.heap.size ≤ g ∨ C.mx g))
    (hblk : RepBlk P C (upd ρ id v) (upd st.m id blk) w S id) : Rel P C (upd ρ id v) S { st with m := upd st.m id blk } a w ∧ ∀ b, Ok1 ρ (upd ρ id v) st.m (upd st.m id blk) b := by
  have ok : ∀ b, Ok1 ρ (upd ρ id v) st.m (upd st.m id blk) b := by
    intro b
    by_cases e : b = id
    · subst e; unfold Ok1; rw [hf]; cases upd st.m b blk b <;> trivial
    · exact Ok1.same (upd_other _ _ e) (upd_other _ _ e)
  refine ⟨Rel.step r (Stab.refl _ _) r.below r.sb r.s1 ok ?_ ?_ ?_ ?_ ?_, ok⟩
  · intro b
    by_cases e : b = id
    · subst e; exact hblk
    · exact RepBlk.step ok (Stab.refl _ _) (upd_other _ _ e) (upd_other _ _ e) (fun _ _ _ => rfl) (r.mem b)
  · intro b b' hne hl hl' g hg hg'
    by_cases e : b = id
    · subst e
      rw [upd_same] at hg
      have hne' : b' ≠ b := fun h => hne h.symm
      rw [upd_other _ _ hne'] at hl' hg'
      exact (hv g hg).1.2 b' hl' hg'
    · rw [upd_other _ _ e] at hl hg
      by_cases e' : b' = id
      · subst e'
        rw [upd_same] at hg'
        exact (hv g hg').1.2 b hl hg
      · rw [upd_other _ _ e'] at hl' hg'
        exact r.inj b b' hne hl hl' g hg hg'
  · intro b hl g hg h
    by_cases e : b = id
    · subst e
      rw [upd_same] at hg
      exact (hv g hg).1.1 h
    · rw [upd_other _ _ e] at hl hg
      exact r.out b hl g hg h
  · intro b hl g hg
    by_cases e : b = id
    · subst e
      rw [upd_same] at hg
      exact (hv g hg).2
    · rw [upd_other _ _ e] at hl hg
      exact r.loc b hl g hg
  · intro u hu
    obtain ⟨h1, h2⟩ := r.mz u hu
    have e : 0 ≠ id := by intro e; subst e; exact h1 hf
    rw [upd_other _ _ e, upd_other _ _ e]
    exact ⟨h1, h2⟩

/-- A new block of the machine's own. -/
theorem Rel.new (r : Rel P C ρ S st a w) {id : Nat} {blk : Blk} {v : Value} {w' : World} (hf : st.m id = .free) (hb : Below w.heap.size w w')
    (hv : ∀ g, vb v g → w.heap.size ≤ g)
    (hblk : RepBlk P C (upd ρ id v) (upd st.m id blk) w' S id) : Rel P C (upd ρ id v) S { st with m := upd st.m id blk } a w' :=
  ((r.grow (S' := S) hb (fun _ h => h) (fun _ h => .inl h)).adopt hf (fun g hg => ⟨⟨fun h => by have := r.sb g h; have := hv g hg; omega, fun b hl hg' => by have := (RepBlk.lt (r.mem b) hl hg').2; have := hv g hg; omega⟩, .inl (by have := hv g hg; have := r.below.size; omega)⟩) hblk).1

/-- A live block is written, its length and what leads to it as they were. -/
theorem Rel.write (r : Rel P C ρ S st a w) {b : Nat} {blk : Blk} {w' : World} {g : Nat} (hl : (st.m b).live = true) (hg : vb (ρ b) g)
    (hsz : w'.heap.size = w.heap.size) (hos : w'.os = w.os) (htape : w'.tape = w.tape) (hout : w'.output = w.output) (hblock : ∀ k, k ≠ g → w'.heap[k]? = w.heap[k]?)
    (ok : Ok1 ρ ρ st.m (upd st.m b blk) b) (hblk : RepBlk P C ρ (upd st.m b blk) w' S b) : Rel P C ρ S { st with m := upd st.m b blk } a w' := by
  have hlt := RepBlk.lt (r.mem b) hl hg
  have hs : Stab w S w' S := fun k hk => ⟨hk, hblock k (fun e => r.out b hl g hg (e ▸ hk))⟩
  have ok' : ∀ k, Ok1 ρ ρ st.m (upd st.m b blk) k := by
    intro k
    by_cases e : k = b
    · subst e; exact ok
    · exact Ok1.same (upd_other _ _ e) rfl
  have hlive : ∀ k, (upd st.m b blk k).live = true → (st.m k).live = true := by
    intro k hk
    by_cases e : k = b
    · subst e; exact hl
    · rwa [upd_other _ _ e] at hk
  have hbf : blk ≠ .free := by
    intro e
    unfold Ok1 at ok
    rw [upd_same, e] at ok
    cases hm : st.m b <;> rw [hm] at ok hl <;> first | exact ok.elim | (cases hl; done) | exact ok
  refine Rel.step r hs ?_ (fun k hk => by rw [hsz]; exact r.sb k hk) r.s1 ok' ?_ (fun k k' hne h h' => r.inj k k' hne (hlive k h) (hlive k' h')) (fun k h => r.out k (hlive k h)) (fun k h => r.loc k (hlive k h)) (fun u hu => ⟨?_, (r.mz u hu).2⟩)
  · exact r.below.trans ⟨hos, htape, hout, by omega, fun k hk hx => hblock k (fun e => by subst e; rcases r.loc b hl k hg with h | h; omega; exact hx h)⟩
  · intro k
    by_cases e : k = b
    · subst e; exact hblk
    · exact RepBlk.step ok' hs (upd_other _ _ e) rfl (fun hlk g' hg' => hblock g' (fun e' => r.inj k b e hlk hl g' hg' (e' ▸ hg))) (r.mem k)
  · by_cases e : 0 = b
    · subst e; rw [upd_same]; exact hbf
    · rw [upd_other _ _ e]; exact (r.mz u hu).1

/-- A block is no longer told of. -/
theorem Rel.kill (r : Rel P C ρ S st a w) (b : Nat) (hb : st.m b ≠ .free) : Rel P C ρ S { st with m := upd st.m b .dead } a w := by
  have ok' : ∀ k, Ok1 ρ ρ st.m (upd st.m b .dead) k := by
    intro k
    by_cases e : k = b
    · subst e; unfold Ok1; rw [upd_same]; cases st.m k <;> trivial
    · exact Ok1.same (upd_other _ _ e) rfl
  have hlive : ∀ k, (upd st.m b .dead k).live = true → (st.m k).live = true := by
    intro k hk
    by_cases e : k = b
    · subst e; rw [upd_same] at hk; cases hk
    · rwa [upd_other _ _ e] at hk
  refine Rel.step r (Stab.refl _ _) r.below r.sb r.s1 ok' ?_ (fun k k' hne h h' => r.inj k k' hne (hlive k h) (hlive k' h')) (fun k h => r.out k (hlive k h)) (fun k h => r.loc k (hlive k h)) (fun u hu => ⟨?_, (r.mz u hu).2⟩)
  rotate_left
  · by_cases e : 0 = b
    · subst e; rw [upd_same]; intro e; cases e
    · rw [upd_other _ _ e]; exact (r.mz u hu).1
  intro k
  by_cases e : k = b
  · subst e; unfold RepBlk; rw [upd_same]; trivial
  · exact RepBlk.step ok' (Stab.refl _ _) (upd_other _ _ e) rfl (fun _ _ _ => rfl) (r.mem k)

/-- A block is to stay as it is: what it holds may be read for good. -/
theorem Rel.still1 (r : Rel P C ρ S st a w) (b : Nat) : ∃ S' : Nat → Prop, Rel P C ρ S' { st with m := upd st.m b (st.m b).still } a w ∧ (∀ k, S k → S' k) ∧ (∀ g, (st.m b).live = true → vb (ρ b) g → (upd st.m b (st.m b).still b).live = false → S' g) ∧
    (∀ k, S' k → S k ∨ ∃ b, (st.m b).live = true ∧ vb (ρ b) k) := by
  by_cases hl : (st.m b).live = true ∧ ((st.m b).still).live = false
  · obtain ⟨hl, hstill⟩ := hl
    let S' : Nat → Prop := fun k => S k ∨ vb (ρ b) k
    have hs : Stab w S w S' := fun k hk => ⟨.inl hk, rfl⟩
    have ok' : ∀ k, Ok1 ρ ρ st.m (upd st.m b (st.m b).still) k := by
      intro k
      by_cases e : k = b
      · subst e; unfold Ok1; rw [upd_same]; cases st.m k <;> simp [Blk.still]
      · exact Ok1.same (upd_other _ _ e) rfl
    have hlive : ∀ k, (upd st.m b (st.m b).still k).live = true → k ≠ b ∧ (st.m k).live = true := by
      intro k hk
      by_cases e : k = b
      · subst e; rw [upd_same, hstill] at hk; cases hk
      · rw [upd_other _ _ e] at hk; exact ⟨e, hk⟩
    refine ⟨S', Rel.step r hs r.below ?_ ?_ ok' ?_ (fun k k' hne h h' => r.inj k k' hne (hlive k h).2 (hlive k' h').2) ?_ (fun k h => r.loc k (hlive k h).2) (fun u hu => ⟨?_, (r.mz u hu).2⟩), fun k h => .inl h, fun g _ hg _ => .inr hg, fun k h => h.imp (fun h => h) (fun h => ⟨b, hl, h⟩)⟩
    · intro k hk
      rcases hk with hk | hk
      · exact r.sb k hk
      · exact (RepBlk.lt (r.mem b) hl hk).2
    · intro k hk
      rcases hk with hk | hk
      · exact r.s1 k hk
      · exact .inr (r.loc b hl k hk)
    · intro k
      by_cases e : k = b
      · subst e
        have h := RepBlk.mono hs (r.mem k) (fun _ _ _ => rfl)
        unfold RepBlk at h ⊢
        rw [upd_same]
        cases hm : st.m k with
        | row l tid e' xs =>
          rw [hm] at h
          obtain ⟨cells, h1, h2, h3⟩ := h
          exact ⟨cells, h1, h2, fun _ g hg => .inr hg⟩
        | var l cs =>
          rw [hm] at h
          obtain ⟨g, T, vs, h1, h2, h3, h4, h5⟩ := h
          exact ⟨g, T, vs, h1, h2, h3, All2.mono (fun _ _ => RepLV.step (fun k' => by simpa [hm] using ok' k')) h4, fun _ => .inr (by rw [h1])⟩
        | iter s pos => rw [hm] at hstill; cases hstill
        | hole tid e xs i j => rw [hm] at hstill; cases hstill
        | deep l t1 t2 e xs o u =>
          rw [hm] at h
          obtain ⟨v, hs', h1, h2, h3⟩ := h
          exact ⟨v, hs', h1, h2, fun _ g hg => .inr hg⟩
        | free => trivial
        | held => trivial
        | dead => trivial
      · exact RepBlk.step ok' hs (upd_other _ _ e) rfl (fun _ _ _ => rfl) (r.mem k)
    · intro k hk g hg h
      obtain ⟨hne, hlk⟩ := hlive k hk
      rcases h with h | h
      · exact r.out k hlk g hg h
      · exact r.inj k b hne hlk hl g hg h
    · have h1 := (r.mz u hu).1
      by_cases e : 0 = b
      · subst e; rw [upd_same]; cases hm : st.m 0 <;> rw [hm] at h1 <;> simp [Blk.still] <;> exact h1 rfl
      · rw [upd_other _ _ e]; exact h1
  · have e : upd st.m b (st.m b).still = st.m := by
      funext k
      by_cases e : k = b
      · subst e
        rw [upd_same]
        cases hm : st.m k <;> simp [hm, Blk.still, Blk.live] at hl ⊢ <;> first | rfl | (simp [hl])
      · exact upd_other _ _ e
    refine ⟨S, by rw [e]; exact r, fun _ h => h, fun g hl' hg h => ?_, fun k h => .inl h⟩
    rw [upd_same] at h
    exact absurd ⟨hl', h⟩ hl

theorem upd_still_live {m : Nat → Blk} {i k : Nat} (h : (upd m i (m i).still k).live = true) : (m k).live = true := by
  by_cases e : k = i
  · subst e; rw [upd_same] at h; cases hm : m k <;> rw [hm] at h <;> first | rfl | (cases h; done) | exact h
  · rwa [upd_other _ _ e] at h

theorem Rel.still {r0 : Rel P C ρ S st a w} : ∀ (ids : List Nat), ∃ S' : Nat → Prop, Rel P C ρ S' { st with m := still ids st.m } a w ∧ (∀ k, S k → S' k) ∧ (∀ k, S' k → S k ∨ ∃ b, (st.m b).live = true ∧ vb (ρ b) k) := by
  intro ids
  induction ids generalizing st S with
  | nil => exact ⟨S, r0, fun _ h => h, fun _ h => .inl h⟩
  | cons i ids ih =>
    obtain ⟨S1, r1, h1, _, k1⟩ := r0.still1 i
    obtain ⟨S2, r2, h2, k2⟩ := ih (r0 := r1)
    refine ⟨S2, r2, fun k h => h2 k (h1 k h), fun k h => ?_⟩
    rcases k2 k h with h | ⟨b, hb, hv⟩
    · exact k1 k h
    · exact .inr ⟨b, upd_still_live hb, hv⟩
end Go.PM

/-! PmDen -/
namespace Go.PM
open Go.RowKit
set_option linter.unusedVariables false
set_option linter.unusedSimpArgs false
variable {P : Program}

theorem Blk.still_still (b : Blk) : b.still.still = b.still := by cases b <;> rfl

theorem still_at (ids : List Nat) : ∀ (m : Nat → Blk) (b : Nat), Go.PM.still ids m b = if b ∈ ids then (m b).still else m b := by
  induction ids with
  | nil => intro m b; simp [Go.PM.still]
  | cons i ids ih =>
    intro m b
    simp only [Go.PM.still, ih]
    by_cases e : b = i
    · subst e; simp [upd_same, Blk.still_still]
    · simp [upd_other _ _ e, e]

variable {C : Ctx} {ρ : Nat → Value} {S : Nat → Prop} {st : St} {a : Act} {w : World}

/-- Blocks that are told to stay are behind what may be read for good. -/
theorem Rel.stillS' (r : Rel P C ρ S st a w) (ids : List Nat) : ∃ S' : Nat → Prop, Rel P C ρ S' { st with m := Go.PM.still ids st.m } a w ∧ (∀ k, S k → S' k) ∧
    (∀ b ∈ ids, (match st.m b with | .row .. => True | .var .. => True | .deep .. => True | _ => False) → ∀ g, vb (ρ b) g → S' g) ∧ (∀ k, S' k → S k ∨ ∃ b, (st.m b).live = true ∧ vb (ρ b) k) := by
  obtain ⟨S', r', h, h'⟩ := Rel.still (r0 := r) ids
  refine ⟨S', r', h, fun b hb hk g hg => ?_, h'⟩
  have hm := r'.mem b
  unfold RepBlk at hm
  simp only [still_at, if_pos hb] at hm
  cases hmb : st.m b with
  | row l tid e xs => rw [hmb] at hm; simp only [Blk.still] at hm; obtain ⟨_, _, _, h3⟩ := hm; exact h3 trivial g hg
  | var l cs => rw [hmb] at hm; simp only [Blk.still] at hm; obtain ⟨g', _, _, h1, _, _, _, h5⟩ := hm; rw [h1] at hg; cases hg; exact h5 trivial
  | deep l t1 t2 e xs o u => rw [hmb] at hm; simp only [Blk.still] at hm; obtain ⟨_, _, _, _, h3⟩ := hm; exact h3 trivial g hg
  | _ => rw [hmb] at hk; exact hk.elim
theorem Rel.stillS (r : Rel P C ρ S st a w) (ids : List Nat) : ∃ S' : Nat → Prop, Rel P C ρ S' { st with m := Go.PM.still ids st.m } a w ∧ (∀ k, S k → S' k) ∧
    ∀ b ∈ ids, (match st.m b with | .row .. => True | .var .. => True | .deep .. => True | _ => False) → ∀ g, vb (ρ b) g → S' g := by
  obtain ⟨S', h1, h2, h3, _⟩ := r.stillS' ids
  exact ⟨S', h1, h2, h3⟩

/-- Is this a block that data may lie in? -/
def isRV (b : Blk) : Prop := match b with | .row .. => True | .var .. => True | .deep .. => True | _ => False

theorem lies_row {w : World} {g : Nat} {cs : Array Value} {T : TypeId} {fr : Nat × Nat} (h : w.heap[g]? = some (.cells cs T fr)) (o : Nat) {l : List Value} (hl : ∀ j v, l[j]? = some v → cs[o + j]? = some v) : Lies w ⟨g, o, none⟩ l := by
  intro j v hv
  have hadd : (⟨g, o, none⟩ : Addr).add j = ⟨g, o + j, none⟩ := Addr.add_lit g o j
  rw [hadd, cell_of_row w g (o + j) cs T fr h]
  exact hl j v hv

theorem getElem?_take_drop {α : Type} {l : List α} {o n j : Nat} {v : α} (h : ((l.drop o).take n)[j]? = some v) : l[o + j]? = some v := by
  rw [List.getElem?_take] at h
  split at h
  · rwa [List.getElem?_drop] at h
  · cases h

theorem ownsRow_sl {e : Ty} {xs : List (Den e)} {cells : List Value} {base tid : Nat} {v : Value} {S : Nat → Prop} (h1 : w.ownsRow base tid e.size v xs.length cells)
    (h2 : Es (fun x es => RepD P e w S x es) xs cells) (hS : ∀ g, vb v g → S g) : RepD P (.sl e) w S xs [v] := by
  simp only [RepD]
  rcases h1.2 with ⟨rfl, hn⟩ | ⟨g, cap, cur, rfl, hb, hh, h3, h4, h5, h6⟩
  · have : xs = [] := List.eq_nil_of_length_eq_zero hn
    subst this
    exact ⟨none, 0, rfl, Nat.le_refl _, .inl rfl⟩
  · refine ⟨_, cap, rfl, h3, .inr ⟨_, cells, rfl, hS g rfl, h2, ?_⟩⟩
    refine lies_row hh 0 fun j v hv => ?_
    rw [Nat.zero_add]
    rw [← h6, List.getElem?_take] at hv
    split at hv
    · simpa using hv
    · cases hv

theorem Es.ofOnes {α : Type} {R : α → List Value → Prop} : ∀ {xs : List α} {cs : List Value}, cs.length = xs.length → (∀ (p : Nat) (x : α), xs[p]? = some x → ∃ v, cs[p]? = some v ∧ R x [v]) → Es R xs cs
  | [], cs, hl, _ => List.length_eq_zero_iff.1 hl
  | x :: xs, [], hl, _ => by simp at hl
  | x :: xs, c :: cs, hl, h => by
    obtain ⟨v, h1, h2⟩ := h 0 x rfl
    cases h1
    exact ⟨[c], cs, rfl, h2, Es.ofOnes (by simpa using hl) fun p y hy => h (p + 1) y hy⟩
theorem DeepAt.sl {base t1 t2 : Nat} {e : Ty} {xs : List (List (Den e))} {v : Value} {hs : List Value} {S S' : Nat → Prop} (h : DeepAt P w S base t1 t2 e xs none v hs) (hS : ∀ k, S k → S' k) (hv : ∀ g, vb (.tuple (v :: hs).toArray) g → S' g) :
    RepD P (.sl (.sl e)) w S' xs [v] := by
  obtain ⟨cells, h1, h2⟩ := h.row
  refine ownsRow_sl (e := .sl e) (xs := xs) h1 (Es.ofOnes (by rw [h1.1, Nat.mul_one]) fun p x hp => ?_) (fun g hg => hv g (vb_tuple_hd (vb_slice (ownsRow_slice h1) hg)))
  have hlt : p < hs.length := by rw [h.len]; exact (List.getElem?_eq_some_iff.1 hp).1
  have hu : hs[p]? = some hs[p] := List.getElem?_eq_getElem hlt
  obtain ⟨n, cs, k1, k2⟩ := h.inn p _ hu
  obtain ⟨y, y1, rfl, y3⟩ := k2 (by simp)
  rw [hp] at y1; cases y1
  exact ⟨_, h2 p _ (by simp) hu, ownsRow_sl k1 (Es.mono (fun x cs h => RepD.mono (fun b hb => ⟨hS b hb, rfl⟩) h) y3) (fun g hg => hv g (vb_tuple_inn hu (vb_slice (ownsRow_slice k1) hg)))⟩

theorem toDen_sound (r : Rel P C ρ S st a w) : ∀ (t : Ty) (cs : List LV) (vs : List Value) (x : Den t) (fz : List Nat) (rest : List LV), toDen st.m t cs = some (x, fz, rest) → All2 (RepLV P ρ st.m w S) cs vs →
    (∀ b ∈ fz, isRV (st.m b)) ∧ ∃ vs1 vs2, vs = vs1 ++ vs2 ∧ All2 (RepLV P ρ st.m w S) rest vs2 ∧
      ∀ S' : Nat → Prop, (∀ k, S k → S' k) → (∀ b ∈ fz, ∀ g, vb (ρ b) g → S' g) → RepD P t w S' x vs1 := by
  intro t
  induction t with
  | int k =>
    intro cs vs x fz rest h hr
    match cs, vs, h, hr with
    | .int k' n :: r, v :: vs, h, ⟨h1, h2⟩ =>
      simp only [toDen] at h
      split at h
      · rename_i hk; subst hk; cases h
        simp only [RepLV] at h1
        exact ⟨by simp, [v], vs, rfl, h2, fun _ _ _ => by simp only [RepD]; rw [h1]⟩
      · cases h
  | bool =>
    intro cs vs x fz rest h hr
    match cs, vs, h, hr with
    | .bool b :: r, v :: vs, h, ⟨h1, h2⟩ =>
      simp only [toDen] at h; cases h
      simp only [RepLV] at h1
      exact ⟨by simp, [v], vs, rfl, h2, fun _ _ _ => by simp only [RepD]; rw [h1]⟩
  | str =>
    intro cs vs x fz rest h hr
    match cs, vs, h, hr with
    | .str b :: r, v :: vs, h, ⟨h1, h2⟩ =>
      simp only [toDen] at h; cases h
      simp only [RepLV] at h1
      exact ⟨by simp, [v], vs, rfl, h2, fun _ _ _ => by simp only [RepD]; rw [h1]⟩
  | unit =>
    intro cs vs x fz rest h hr
    simp only [toDen] at h; cases h
    exact ⟨by simp, [], vs, rfl, hr, fun _ _ _ => by simp only [RepD]⟩
  | sl e ih =>
    intro cs vs x fz rest h hr
    match cs, vs, h, hr with
    | .nil :: r, v :: vs, h, ⟨h1, h2⟩ =>
      simp only [toDen] at h; cases h
      simp only [RepLV] at h1
      exact ⟨by simp, [v], vs, rfl, h2, fun _ _ _ => by simp only [RepD]; exact ⟨none, 0, by rw [h1]; rfl, Nat.le_refl _, .inl trivial⟩⟩
    | .sl e' xs :: r, v :: vs, h, ⟨h1, h2⟩ =>
      simp only [toDen] at h
      split at h
      · rename_i ys hy
        obtain ⟨he, hy⟩ := castTy_eq _ _ _ _ _ hy
        subst he; subst hy; cases h
        simp only [RepLV] at h1
        exact ⟨by simp, [v], vs, rfl, h2, fun S' hS _ => RepD.mono (fun b hb => ⟨hS b hb, rfl⟩) h1⟩
      · cases h
    | .own b :: r, v :: vs, h, ⟨h1, h2⟩ =>
      simp only [toDen] at h
      cases hm : st.m b with
      | row l tid e' xs =>
        rw [hm] at h
        simp only at h
        split at h
        · rename_i ys hy
          obtain ⟨he, hy⟩ := castTy_eq _ _ _ _ _ hy
          subst he; subst hy; cases h
          simp only [RepLV, hm] at h1
          have hb := r.mem b
          unfold RepBlk at hb; rw [hm] at hb
          obtain ⟨cells, hb1, hb2, hb3⟩ := hb
          refine ⟨by simp [isRV, hm], [v], vs, rfl, h2, fun S' hS hf => ?_⟩
          rw [h1.2]
          exact ownsRow_sl hb1 (Es.mono (fun x cs h => RepD.mono (fun b hb => ⟨hS b hb, rfl⟩) h) hb2) (hf b (by simp))
        · cases h
      | deep l t1 t2 e' xs o u =>
        rw [hm] at h
        cases o with
        | some p => cases h
        | none =>
          simp only at h
          split at h
          · rename_i ys hy
            obtain ⟨he, hy⟩ := castTy_eq _ _ _ _ _ hy
            subst he; subst hy; cases h
            simp only [RepLV, hm] at h1
            have hb := r.mem b
            unfold RepBlk at hb; rw [hm] at hb
            obtain ⟨u, hs, hb1, hb2, hb3⟩ := hb
            refine ⟨by simp [isRV, hm], [v], vs, rfl, h2, fun S' hS hf => ?_⟩
            rw [h1.2, hb1]
            exact hb2.sl hS (by have := hf b (by simp); rwa [hb1] at this)
          · cases h
      | _ => rw [hm] at h; cases h
    | .sub b off len :: r, v :: vs, h, ⟨h1, h2⟩ =>
      simp only [toDen] at h
      cases hm : st.m b with
      | row l tid e' xs =>
        rw [hm] at h
        simp only at h
        split at h
        · rename_i ys hy
          obtain ⟨he, hy⟩ := castTy_eq _ _ _ _ _ hy
          subst he; subst hy; cases h
          simp only [RepLV, hm] at h1
          have hb := r.mem b
          unfold RepBlk at hb; rw [hm] at hb
          obtain ⟨cells, hb1, hb2, hb3⟩ := hb
          refine ⟨by simp [isRV, hm], [v], vs, rfl, h2, fun S' hS hf => ?_⟩
          obtain ⟨_, hlen, A, c, hv, hc, hA⟩ := h1
          have hl : ((xs.drop off).take len).length = len := by rw [List.length_take, List.length_drop]; omega
          simp only [RepD]
          refine ⟨A, c, by rw [hl, hv], by omega, ?_⟩
          rcases Nat.eq_zero_or_pos len with h0 | h0
          · exact .inl (List.eq_nil_of_length_eq_zero (by rw [hl]; exact h0))
          · obtain ⟨g, n, k, hρ, hA⟩ := hA h0
            refine .inr ⟨_, (cells.drop (off * e'.size)).take (len * e'.size), hA, hf b (by simp) g (by rw [hρ]), ?_, ?_⟩
            · exact Es.take (n := e'.size) (fun x cs h => RepD.length h) len (Es.drop (n := e'.size) (fun x cs h => RepD.length h) off (Es.mono (fun x cs h => RepD.mono (fun b hb => ⟨hS b hb, rfl⟩) h) hb2))
            · rcases hb1.2 with ⟨e1, _⟩ | ⟨g', cap, cur, e1, _, hh, _, _, _, h6⟩
              · rw [hρ] at e1; cases e1
              · rw [hρ] at e1; cases e1
                refine lies_row hh _ fun j u hu => ?_
                have := getElem?_take_drop hu
                rw [← h6, List.getElem?_take] at this
                split at this
                · simpa using this
                · cases this
        · cases h
      | _ => rw [hm] at h; cases h
  | pair t1 t2 ih1 ih2 =>
    intro cs vs x fz rest h hr
    simp only [toDen] at h
    split at h
    · rename_i x1 f1 r1 h1
      split at h
      · rename_i y g s h2
        cases h
        obtain ⟨k1, vs1, vs2, rfl, k2, k3⟩ := ih1 _ _ _ _ _ h1 hr
        obtain ⟨l1, vs3, vs4, rfl, l2, l3⟩ := ih2 _ _ _ _ _ h2 k2
        refine ⟨fun b hb => (List.mem_append.1 hb).elim (k1 b) (l1 b), vs1 ++ vs3, vs4, by rw [List.append_assoc], l2, fun S' hS hf => ?_⟩
        simp only [RepD]
        exact ⟨vs1, vs3, rfl, k3 S' hS (fun b hb => hf b (List.mem_append.2 (.inl hb))), l3 S' hS (fun b hb => hf b (List.mem_append.2 (.inr hb)))⟩
      · cases h
    · cases h
  | ptr e ih =>
    intro cs vs x fz rest h hr
    match cs, vs, h, hr with
    | .eptr e' x' :: r, v :: vs, h, ⟨h1, h2⟩ =>
      simp only [toDen] at h
      split at h
      · rename_i ys hy
        obtain ⟨he, hy⟩ := castTy_eq _ _ _ _ _ hy
        subst he; subst hy; cases h
        simp only [RepLV] at h1
        exact ⟨by simp, [v], vs, rfl, h2, fun S' hS _ => RepD.mono (fun b hb => ⟨hS b hb, rfl⟩) h1⟩
      · cases h
    | .vptr b 0 :: r, v :: vs, h, ⟨h1, h2⟩ =>
      simp only [toDen] at h
      cases hm : st.m b with
      | var l cs' =>
        rw [hm] at h
        simp only at h
        split at h
        · rename_i x1 f1 he
          cases h
          simp only [RepLV, hm] at h1
          obtain ⟨_, g, hg1, hg2⟩ := h1
          have hb := r.mem b
          unfold RepBlk at hb; rw [hm] at hb
          obtain ⟨g', T, us, hb1, hb2, hb3, hb4, hb5⟩ := hb
          rw [hg1] at hb1; cases hb1
          obtain ⟨k1, vs1, vs2, e1, k2, k3⟩ := ih _ _ _ _ _ he hb4
          have : vs2 = [] := by
            cases vs2 with
            | nil => rfl
            | cons _ _ => exact k2.elim
          subst this
          rw [List.append_nil] at e1
          subst e1
          refine ⟨?_, [v], vs, rfl, h2, fun S' hS hf => ?_⟩
          · intro b' hb'
            rcases List.mem_cons.1 hb' with rfl | hb'
            · simp [isRV, hm]
            · exact k1 b' hb'
          · simp only [RepD]
            refine ⟨_, us, by rw [hg2], hf b (by simp) g (by rw [hg1]), k3 S' hS (fun b' hb' => hf b' (List.mem_cons_of_mem _ hb')), ?_⟩
            exact lies_row hb3 0 (fun j u hu => by rw [Nat.zero_add]; simpa using hu)
        · cases h
      | _ => rw [hm] at h; cases h
  | fn p q _ _ =>
    intro cs vs x fz rest h hr
    match cs, vs, h, hr with
    | .fn p' q' F :: r, v :: vs, h, ⟨h1, h2⟩ =>
      simp only [toDen] at h
      split at h
      · rename_i G hG
        obtain ⟨he, hG⟩ := castTy_eq _ (fun t => Den t → Option (Den q')) _ _ _ hG
        subst he; subst hG
        split at h
        · rename_i H hH
          obtain ⟨he, hH⟩ := castTy_eq _ (fun t => Den p' → Option (Den t)) _ _ _ hH
          subst he; subst hH; cases h
          simp only [RepLV] at h1
          exact ⟨by simp, [v], vs, rfl, h2, fun S' hS _ => RepD.mono (fun b hb => ⟨hS b hb, rfl⟩) h1⟩
        · cases h
      · cases h
end Go.PM

/-! PmDeep -/
namespace Go.PM
open Go.RowKit
set_option linter.unusedVariables false
set_option linter.unusedSimpArgs false
variable {P : Program}

theorem nd_pair {l : List Value} (h : (l.filterMap vblk).Nodup) {p q : Nat} {x y : Value} {g : Nat} (hp : l[p]? = some x) (hq : l[q]? = some y) (hx : vblk x = some g) (hy : vblk y = some g) : p = q := by
  induction l generalizing p q with
  | nil => cases hp
  | cons a l ih =>
    have hl : (l.filterMap vblk).Nodup := by
      rw [List.filterMap_cons] at h
      cases ha : vblk a with
      | none => rw [ha] at h; exact h
      | some k => rw [ha] at h; exact (List.nodup_cons.1 h).2
    have hno : ∀ (r : Nat) (z : Value), l[r]? = some z → vblk a = some g → vblk z = some g → False := by
      intro r z hr ha hz
      rw [List.filterMap_cons, ha] at h
      exact (List.nodup_cons.1 h).1 (List.mem_filterMap.2 ⟨z, List.mem_of_getElem? hr, hz⟩)
    cases p with
    | zero =>
      cases hp
      cases q with
      | zero => rfl
      | succ q => exact (hno q y hq hx hy).elim
    | succ p =>
      cases q with
      | zero => cases hq; exact (hno p x hp hy hx).elim
      | succ q => exact congrArg (· + 1) (ih hl hp hq)
theorem nd_set {x : Value} : ∀ (l : List Value) (i : Nat), (l.filterMap vblk).Nodup → (∀ g, vblk x = some g → g ∉ l.filterMap vblk) → ((l.set i x).filterMap vblk).Nodup
  | [], _, _, _ => by simp
  | a :: l, 0, h, hx => by
    rw [List.set_cons_zero]
    rw [List.filterMap_cons] at h ⊢
    have hl : (l.filterMap vblk).Nodup := by
      cases ha : vblk a with
      | none => rw [ha] at h; exact h
      | some k => rw [ha] at h; exact (List.nodup_cons.1 h).2
    cases hv : vblk x with
    | none => exact hl
    | some g => exact List.nodup_cons.2 ⟨fun hm => hx g hv (by obtain ⟨z, z1, z2⟩ := List.mem_filterMap.1 hm; exact List.mem_filterMap.2 ⟨z, List.mem_cons_of_mem _ z1, z2⟩), hl⟩
  | a :: l, i + 1, h, hx => by
    rw [List.set_cons_succ]
    rw [List.filterMap_cons] at h ⊢
    have hx' : ∀ g, vblk x = some g → g ∉ l.filterMap vblk := fun g hg hm => hx g hg (by obtain ⟨z, z1, z2⟩ := List.mem_filterMap.1 hm; exact List.mem_filterMap.2 ⟨z, List.mem_cons_of_mem _ z1, z2⟩)
    cases ha : vblk a with
    | none => rw [ha] at h; exact nd_set l i h hx'
    | some k =>
      rw [ha] at h
      have h := List.nodup_cons.1 h
      refine List.nodup_cons.2 ⟨fun hm => ?_, nd_set l i h.2 hx'⟩
      obtain ⟨z, z1, z2⟩ := List.mem_filterMap.1 hm
      rcases List.mem_or_eq_of_mem_set z1 with z1 | rfl
      · exact h.1 (List.mem_filterMap.2 ⟨z, z1, z2⟩)
      · exact hx k z2 (List.mem_filterMap.2 ⟨a, List.mem_cons_self .., ha⟩)
theorem nd_gone {l : List Value} (h : (l.filterMap vblk).Nodup) {i : Nat} {x y : Value} {g : Nat} (hi : l[i]? = some y) (hy : vblk y = some g) (hx : vblk x ≠ some g) : g ∉ (l.set i x).filterMap vblk := by
  intro hm
  obtain ⟨z, z1, z2⟩ := List.mem_filterMap.1 hm
  obtain ⟨p, hp⟩ := List.getElem?_of_mem z1
  by_cases e : p = i
  · subst e
    rw [List.getElem?_set_self (List.getElem?_eq_some_iff.1 hi).1] at hp
    cases hp; exact hx z2
  · rw [List.getElem?_set_ne (fun h => e h.symm)] at hp
    exact e (nd_pair h hp hi z2 hy)

theorem vb_set {v x : Value} {hs : List Value} {i g : Nat} (h : vb (.tuple (v :: hs.set i x).toArray) g) : vb (.tuple (v :: hs).toArray) g ∨ vblk x = some g := by
  rcases vb_tuple h with h | ⟨p, u, hp, hg⟩
  · exact .inl (vb_tuple_hd h)
  · rcases List.mem_or_eq_of_mem_set (List.mem_of_getElem? hp) with h | rfl
    · obtain ⟨q, hq⟩ := List.getElem?_of_mem h
      exact .inl (vb_tuple_inn hq hg)
    · exact .inr hg

variable {C : Ctx} {ρ : Nat → Value} {S : Nat → Prop} {st : St} {a : Act} {w : World}

/-- A place is taken out. -/
theorem Rel.take (r : Rel P C ρ S st a w) {b t1 t2 u i : Nat} {e : Ty} {xs : List (List (Den e))} {v h : Value} {hs : List Value} (hb0 : 0 < b) (hm : st.m b = .deep true t1 t2 e xs none u) (hρ : ρ b = .tuple (v :: hs).toArray) (hd : DeepAt P w S 0 t1 t2 e xs none v hs) (hi : hs[i]? = some h) :
    Rel P C (upd ρ b (.tuple (v :: hs.set i (.slice none 0 0)).toArray)) S { st with m := upd st.m b (.deep true t1 t2 e xs (some i) u) } a w ∧
      ∀ g, vb h g → (C.w0.heap.size ≤ g ∨ C.mx g) ∧ ¬ S g ∧ ∀ k, (upd st.m b (.deep true t1 t2 e xs (some i) u) k).live = true → ¬ vb (upd ρ b (.tuple (v :: hs.set i (.slice none 0 0)).toArray) k) g := by
  have hlive : (st.m b).live = true := by rw [hm]; rfl
  have hsub : ∀ g, vb (.tuple (v :: hs.set i (.slice none 0 0)).toArray) g → vb (ρ b) g := by
    intro g hg
    rw [hρ]
    rcases vb_set hg with h | h
    · exact h
    · cases h
  have hl : ∀ k, (upd st.m b (.deep true t1 t2 e xs (some i) u) k).live = true → (st.m k).live = true := by
    intro k hk
    by_cases e : k = b
    · subst e; exact hlive
    · rwa [upd_other _ _ e] at hk
  have hv : ∀ k g, vb (upd ρ b (.tuple (v :: hs.set i (.slice none 0 0)).toArray) k) g → vb (ρ k) g := by
    intro k g hg
    by_cases e : k = b
    · subst e; rw [upd_same] at hg; exact hsub g hg
    · rwa [upd_other _ _ e] at hg
  have ok : ∀ k, Ok1 ρ (upd ρ b (.tuple (v :: hs.set i (.slice none 0 0)).toArray)) st.m (upd st.m b (.deep true t1 t2 e xs (some i) u)) k := by
    intro k
    by_cases e : k = b
    · subst e; unfold Ok1; rw [hm, upd_same, upd_same, hρ]
      exact ⟨rfl, rfl, rfl, Nat.le_refl _, fun _ h => by cases h⟩
    · exact Ok1.same (upd_other _ _ e) (upd_other _ _ e)
  obtain ⟨n, cs, h1, _⟩ := hd.inn i h hi
  have hvb : ∀ g, vb h g → vblk h = some g := fun g hg => vb_slice (ownsRow_slice h1) hg
  refine ⟨Rel.step r (Stab.refl _ _) r.below r.sb r.s1 ok ?_ (fun k k' hne h1 h2 g g1 g2 => r.inj k k' hne (hl k h1) (hl k' h2) g (hv k g g1) (hv k' g g2)) (fun k h1 g g1 => r.out k (hl k h1) g (hv k g g1)) (fun k h1 g g1 => r.loc k (hl k h1) g (hv k g g1)) ?_, ?_⟩
  · intro k
    by_cases ek : k = b
    · subst ek
      unfold RepBlk
      rw [upd_same, upd_same]
      obtain ⟨cells, c1, c2⟩ := hd.row
      refine ⟨v, hs.set i (.slice none 0 0), rfl, ⟨by rw [List.length_set]; exact hd.len, ⟨cells, c1, fun p x hp hx => ?_⟩, fun p x hx => ?_, ?_⟩, fun h => by cases h⟩
      · rw [List.getElem?_set_ne (fun e => hp (congrArg some e))] at hx
        exact c2 p x (by simp) hx
      · by_cases ep : i = p
        · subst ep
          rw [List.getElem?_set_self (List.getElem?_eq_some_iff.1 hi).1] at hx
          cases hx
          exact ⟨0, [], World.ownsRow_nil _ _ _ _, fun h => absurd rfl h⟩
        · rw [List.getElem?_set_ne ep] at hx
          obtain ⟨n, cs, k1, k2⟩ := hd.inn p x hx
          exact ⟨n, cs, k1, fun _ => k2 (by simp)⟩
      · have := nd_set (v :: hs) (i + 1) hd.nd (x := .slice none 0 0) (fun g hg => by cases hg)
        exact this
    · exact RepBlk.step ok (Stab.refl _ _) (upd_other _ _ ek) (upd_other _ _ ek) (fun _ _ _ => rfl) (r.mem k)
  · intro x hx
    rw [upd_other _ _ (show 0 ≠ b by omega), upd_other _ _ (show 0 ≠ b by omega)]
    exact r.mz x hx
  · intro g hg
    have hg' : vb (ρ b) g := by rw [hρ]; exact vb_tuple_inn hi (hvb g hg)
    refine ⟨r.loc b hlive g hg', r.out b hlive g hg', fun k hk hvk => ?_⟩
    by_cases ek : k = b
    · subst ek
      rw [upd_same] at hvk
      exact nd_gone (l := v :: hs) (i := i + 1) (x := .slice none 0 0) hd.nd hi (hvb g hg) (by simp [vblk]) hvk
    · exact r.inj b k (Ne.symm ek) hlive (hl k hk) g hg' (hv k g hvk)

/-- A row of the machine's own is laid in, and the place is written so. -/
theorem Rel.lay (r : Rel P C ρ S st a w) {b j t1 t2 u i g1 : Nat} {e : Ty} {xs : List (List (Den e))} {zs : List (Den e)} {o : Option Nat} {v : Value} {hs : List Value} {w' : World} (hb0 : 0 < b) (hm : st.m b = .deep true t1 t2 e xs o u) (hρ : ρ b = .tuple (v :: hs).toArray) (hd : DeepAt P w S 0 t1 t2 e xs o v hs)
    (hj : st.m j = .row true t2 e zs) (hi : i < xs.length) (ho : ∀ p, o = some p → i = p) (hv : vblk v = some g1)
    (hsz : w'.heap.size = w.heap.size) (hos : w'.os = w.os) (htape : w'.tape = w.tape) (hout : w'.output = w.output) (hblock : ∀ k, k ≠ g1 → w'.heap[k]? = w.heap[k]?)
    (hrow : ∀ cells, w.ownsRow 0 t1 1 v xs.length cells → w'.ownsRow 0 t1 1 v xs.length (cells.set i (ρ j))) :
    Rel P C (upd ρ b (.tuple (v :: hs.set i (ρ j)).toArray)) S { st with m := upd (upd st.m j .dead) b (.deep true t1 t2 e (xs.set i zs) none (u + 1)) } a w' := by
  have hjb : j ≠ b := by intro h; subst h; rw [hm] at hj; cases hj
  have hlive : (st.m b).live = true := by rw [hm]; rfl
  have hlj : (st.m j).live = true := by rw [hj]; rfl
  have hg1 : vb (ρ b) g1 := by rw [hρ]; exact vb_tuple_hd hv
  have hbj := r.mem j
  unfold RepBlk at hbj; rw [hj] at hbj
  obtain ⟨cj, j1, j2, _⟩ := hbj
  have hvj : ∀ g, vblk (ρ j) = some g → vb (ρ j) g := fun g => vb_of
  have hs0 : Stab w S w' S := fun k hk => ⟨hk, hblock k (fun e => r.out b hlive g1 hg1 (e ▸ hk))⟩
  have hm' : ∀ k, k ≠ b → k ≠ j → upd (upd st.m j .dead) b (.deep true t1 t2 e (xs.set i zs) none (u + 1)) k = st.m k := fun k h1 h2 => by rw [upd_other _ _ h1, upd_other _ _ h2]
  have hdj : upd (upd st.m j .dead) b (.deep true t1 t2 e (xs.set i zs) none (u + 1)) j = .dead := by rw [upd_other _ _ hjb, upd_same]
  have hl : ∀ k, (upd (upd st.m j .dead) b (.deep true t1 t2 e (xs.set i zs) none (u + 1)) k).live = true → k ≠ j ∧ (st.m k).live = true := by
    intro k hk
    by_cases ek : k = b
    · subst ek; exact ⟨Ne.symm hjb, hlive⟩
    · by_cases ej : k = j
      · subst ej; rw [hdj] at hk; cases hk
      · rw [hm' k ek ej] at hk; exact ⟨ej, hk⟩
  have hvb : ∀ k g, vb (upd ρ b (.tuple (v :: hs.set i (ρ j)).toArray) k) g → vb (ρ k) g ∨ (k = b ∧ vb (ρ j) g) := by
    intro k g hg
    by_cases ek : k = b
    · subst ek
      rw [upd_same] at hg
      rcases vb_set hg with h | h
      · rw [hρ]; exact .inl h
      · exact .inr ⟨rfl, hvj g h⟩
    · rw [upd_other _ _ ek] at hg; exact .inl hg
  have ok : ∀ k, Ok1 ρ (upd ρ b (.tuple (v :: hs.set i (ρ j)).toArray)) st.m (upd (upd st.m j .dead) b (.deep true t1 t2 e (xs.set i zs) none (u + 1))) k := by
    intro k
    by_cases ek : k = b
    · subst ek; unfold Ok1; rw [hm, upd_same, upd_same, hρ]
      exact ⟨rfl, by rw [List.length_set], rfl, by omega, fun h => by omega⟩
    · by_cases ej : k = j
      · subst ej; unfold Ok1; rw [hj, hdj]; trivial
      · exact Ok1.same (hm' k ek ej) (upd_other _ _ ek)
  refine Rel.step r hs0 (r.below.trans ⟨hos, htape, hout, by omega, fun k hk hx => hblock k (fun e => by subst e; rcases r.loc b hlive k hg1 with h | h; omega; exact hx h)⟩) (fun k hk => by rw [hsz]; exact r.sb k hk) r.s1 ok ?_ ?_ ?_ ?_ ?_
  · intro k
    by_cases ek : k = b
    · subst ek
      unfold RepBlk
      rw [upd_same, upd_same]
      obtain ⟨cells, c1, c2⟩ := hd.row
      have hcl : cells.length = xs.length := by rw [c1.1, Nat.mul_one]
      have hil : i < hs.length := by rw [hd.len]; exact hi
      refine ⟨v, hs.set i (ρ j), rfl, ⟨by rw [List.length_set, List.length_set]; exact hd.len, ⟨cells.set i (ρ j), by rw [List.length_set]; exact hrow cells c1, fun p x _ hx => ?_⟩, fun p x hx => ?_, ?_⟩, fun h => by cases h⟩
      · by_cases ep : i = p
        · subst ep
          rw [List.getElem?_set_self hil] at hx
          cases hx
          exact List.getElem?_set_self (by omega)
        · rw [List.getElem?_set_ne ep] at hx ⊢
          exact c2 p x (fun h => ep (ho p h)) hx
      · by_cases ep : i = p
        · subst ep
          rw [List.getElem?_set_self hil] at hx
          cases hx
          refine ⟨zs.length, cj, ownsRow_of_block j1 (fun g hg => hblock g (fun e => ?_)), fun _ => ⟨zs, List.getElem?_set_self hi, rfl, Es.mono (fun x cs h => RepD.mono hs0 h) j2⟩⟩
          subst e
          exact r.inj j k hjb hlj hlive g hg hg1
        · rw [List.getElem?_set_ne ep] at hx
          obtain ⟨n, cs, k1, k2⟩ := hd.inn p x hx
          refine ⟨n, cs, ownsRow_of_block k1 (fun g hg => hblock g (fun e => ?_)), fun _ => ?_⟩
          · subst e
            have := nd_pair (l := v :: hs) hd.nd (p := 0) (q := p + 1) rfl hx hv (vb_slice (ownsRow_slice k1) hg)
            omega
          · obtain ⟨y, y1, y2, y3⟩ := k2 (fun h => ep (ho p h))
            exact ⟨y, by rw [List.getElem?_set_ne ep]; exact y1, y2, Es.mono (fun x cs h => RepD.mono hs0 h) y3⟩
      · refine nd_set (v :: hs) (i + 1) hd.nd (fun g hg hm => ?_)
        exact r.inj j k hjb hlj hlive g (hvj g hg) (by rw [hρ]; exact hm)
    · by_cases ej : k = j
      · subst ej; unfold RepBlk; simp only [hdj]
      · exact RepBlk.step ok hs0 (hm' k ek ej) (upd_other _ _ ek) (fun hlk g' hg' => hblock g' (fun e' => r.inj k b ek hlk hlive g' hg' (e' ▸ hg1))) (r.mem k)
  · intro k k' hne h1 h2 g g1 g2
    obtain ⟨a1, a2⟩ := hl k h1
    obtain ⟨b1, b2⟩ := hl k' h2
    rcases hvb k g g1 with g3 | ⟨e3, g3⟩
    · rcases hvb k' g g2 with g4 | ⟨e4, g4⟩
      · exact r.inj k k' hne a2 b2 g g3 g4
      · exact r.inj k j a1 a2 hlj g g3 g4
    · rcases hvb k' g g2 with g4 | ⟨e4, g4⟩
      · exact r.inj k' j b1 b2 hlj g g4 g3
      · exact hne (e3.trans e4.symm)
  · intro k h1 g g1
    obtain ⟨a1, a2⟩ := hl k h1
    rcases hvb k g g1 with g3 | ⟨e3, g3⟩
    · exact r.out k a2 g g3
    · exact r.out j hlj g g3
  · intro k h1 g g1
    obtain ⟨a1, a2⟩ := hl k h1
    rcases hvb k g g1 with g3 | ⟨e3, g3⟩
    · exact r.loc k a2 g g3
    · exact r.loc j hlj g g3
  · intro x hx
    have h0 : (0 : Nat) ≠ b := by omega
    obtain ⟨z1, z2⟩ := r.mz x hx
    refine ⟨?_, by rw [upd_other _ _ h0]; exact z2⟩
    by_cases ej : 0 = j
    · rw [← ej] at hdj; rw [← ej]; rw [hdj]; intro h; cases h
    · rw [hm' 0 h0 ej]; exact z1
end Go.PM

/-! PmEnv -/
namespace Go.PM
open Go.RowKit
set_option linter.unusedVariables false
set_option linter.unusedSimpArgs false

def zeroV : Ty → List Value
  | .int k => [.int k 0]
  | .bool => [.bool false]
  | .str => [.string ⟨#[]⟩]
  | .sl _ => [.slice none 0 0]
  | .unit => []
  | .pair a b => zeroV a ++ zeroV b
  | .ptr _ => [.pointer none]
  | .fn _ _ => [.nilFunc]

def kindOK (P : Program) (t : TypeId) : TK → Prop
  | .int k => P.underlying t = some (.int k)
  | .bool => P.underlying t = some .bool
  | .str => P.underlying t = some .string
  | .sl e => P.underlying t = some (.slice e)
  | .st fs => ∃ F : Array Field, P.underlying t = some (.struct F) ∧ F.toList.map (fun f => (f.offset, f.type)) = fs
  | .arr n e => P.underlying t = some (.array n e)
  | .other => ∃ d, P.underlying t = some d ∧ (match d with | .struct _ => False | .array .. => False | _ => True)
def TK.agg : TK → Bool
  | .st _ => true
  | .arr .. => true
  | _ => false

structure RowOK (P : Program) (t : TypeId) (row : TRow) : Prop where
  info : ∃ z, (P.info? t).map (fun i => (i.zero, i.size, i.bytes)) = some (some z, row.ty.size, row.bytes) ∧ z.cells.toList = zeroV row.ty
  kind : kindOK P t row.kind
  agg : row.kind.agg = row.ty.agg

/-- A new row at a value; from a million on the type's number tells a row of rows. 'u': the value, and behind it its places', where it is one. -/
def NewAt (P : Program) (w : World) (S : Nat → Prop) (base tid : Nat) : (e : Ty) → List (Den e) → Value → Prop
  | .sl e, xs, u => (tid < 1000000 ∧ ∃ cells, w.ownsRow base tid 1 u xs.length cells ∧ Es (fun x es => RepD P (.sl e) w S x es) xs cells) ∨
      (1000000 ≤ tid ∧ ∃ v hs, u = .tuple (v :: hs).toArray ∧ DeepAt P w S base (tid % 1000000) (tid / 1000000) e xs none v hs)
  | e, xs, u => tid < 1000000 ∧ ∃ cells, w.ownsRow base tid e.size u xs.length cells ∧ Es (fun x es => RepD P e w S x es) xs cells
theorem NewAt.row {P : Program} {w : World} {S : Nat → Prop} {base tid : Nat} {e : Ty} {xs : List (Den e)} {u : Value} {cells : List Value} (ht : tid < 1000000) (h1 : w.ownsRow base tid e.size u xs.length cells) (h2 : Es (fun x es => RepD P e w S x es) xs cells) :
    NewAt P w S base tid e xs u := by
  cases e <;> first | exact ⟨ht, cells, h1, h2⟩ | exact .inl ⟨ht, cells, h1, h2⟩
theorem NewAt.cases {P : Program} {w : World} {S : Nat → Prop} {base tid : Nat} {e : Ty} {xs : List (Den e)} {u : Value} (h : NewAt P w S base tid e xs u) :
    (tid < 1000000 ∧ ∃ cells, w.ownsRow base tid e.size u xs.length cells ∧ Es (fun x es => RepD P e w S x es) xs cells) ∨
      (1000000 ≤ tid ∧ ∃ v hs, u = .tuple (v :: hs).toArray ∧ ((v :: hs).filterMap vblk).Nodup ∧ ∀ g, vb u g → base ≤ g ∧ g < w.heap.size) := by
  cases e <;> first | exact .inl h | skip
  rcases h with h | ⟨h1, v, hs, rfl, h2⟩
  · exact .inl h
  · exact .inr ⟨h1, v, hs, rfl, h2.nd, fun g hg => h2.lt hg⟩
theorem NewAt.base {P : Program} {w : World} {S : Nat → Prop} {base tid : Nat} {e : Ty} {xs : List (Den e)} {u : Value} (h : NewAt P w S base tid e xs u) {g : Nat} (hg : vb u g) : base ≤ g := by
  rcases h.cases with ⟨_, cells, h1, _⟩ | ⟨_, v, hs, _, _, h⟩
  · exact (ownsRow_lt h1 (vb_slice (ownsRow_slice h1) hg)).1
  · exact (h g hg).1
theorem NewAt.nodup {P : Program} {w : World} {S : Nat → Prop} {base tid : Nat} {e : Ty} {xs : List (Den e)} {u : Value} (h : NewAt P w S base tid e xs u) : (vbl u).Nodup := by
  rcases h.cases with ⟨_, cells, h1, _⟩ | ⟨_, v, hs, rfl, h, _⟩
  · obtain ⟨A, n, c, rfl⟩ := ownsRow_slice h1
    cases A <;> simp [vbl, vblk]
  · exact h
theorem NewAt.blk {P : Program} {C : Ctx} {ρ : Nat → Value} {m : Nat → Blk} {w : World} {S : Nat → Prop} {base tid id : Nat} {e : Ty} {xs : List (Den e)} {u : Value} (h : NewAt P w S base tid e xs u) (hb : ∀ g, vb u g → 0 ≤ g) :
    RepBlk P C (upd ρ id u) (upd m id (newRow' tid e xs)) w S id ∧ ∀ {w' S'}, RepLV P (upd ρ id u) (upd m id (newRow' tid e xs)) w' S' (.own id) (hdV u) := by
  have k0 : ∀ {b t z n cs} {v : Value}, w.ownsRow b t z v n cs → w.ownsRow 0 t z v n cs ∧ v.oneCell' = true ∧ hdV v = v := by
    intro b t z n cs v h
    refine ⟨⟨h.1, ?_⟩, ?_⟩
    · rcases h.2 with h | ⟨g, cap, cur, h1, h2, rest⟩
      · exact .inl h
      · exact .inr ⟨g, cap, cur, h1, Nat.zero_le _, rest⟩
    · obtain ⟨A, n, c, rfl⟩ := ownsRow_slice h; exact ⟨rfl, rfl⟩
  have plain : ∀ (e : Ty) (xs : List (Den e)) (cells : List Value), w.ownsRow base tid e.size u xs.length cells → Es (fun x es => RepD P e w S x es) xs cells → newRow' tid e xs = .row true tid e xs →
      RepBlk P C (upd ρ id u) (upd m id (newRow' tid e xs)) w S id ∧ ∀ {w' S'}, RepLV P (upd ρ id u) (upd m id (newRow' tid e xs)) w' S' (.own id) (hdV u) := by
    intro e xs cells h1 h2 he
    obtain ⟨a1, a2, a3⟩ := k0 h1
    refine ⟨?_, ?_⟩
    · unfold RepBlk; rw [upd_same, upd_same, he]
      exact ⟨cells, a1, h2, fun h => by cases h⟩
    · intro w' S'; simp only [RepLV, upd_same, he]
      rw [a3]; exact ⟨a2, rfl⟩
  have hbl : tid < 1000000 → Nat.blt tid 1000000 = true := fun h => by simpa using h
  cases e
  case sl e =>
    rcases h with ⟨ht, cells, h1, h2⟩ | ⟨ht, v, hs, rfl, h2⟩
    · exact plain _ _ cells h1 h2 (by simp only [newRow', hbl ht, cond_true])
    have hbl' : Nat.blt tid 1000000 = false := by
      rw [Bool.eq_false_iff]; intro h
      have h : tid < 1000000 := by simpa using h
      omega
    obtain ⟨cells, h3, h4⟩ := h2.row
    refine ⟨?_, ?_⟩
    · unfold RepBlk; rw [upd_same, upd_same]; simp only [newRow', hbl', cond_false]
      refine ⟨v, hs, rfl, ⟨h2.len, ⟨cells, (k0 h3).1, h4⟩, fun p x hp => ?_, h2.nd⟩, fun h => by cases h⟩
      obtain ⟨n, cs, k1, k2⟩ := h2.inn p x hp
      exact ⟨n, cs, (k0 k1).1, k2⟩
    · intro w' S'; simp only [RepLV, upd_same, newRow', hbl', cond_false]
      exact ⟨(k0 h3).2.1, trivial⟩
  all_goals (obtain ⟨ht, cells, h1, h2⟩ := h; exact plain _ _ cells h1 h2 (by simp only [newRow', hbl ht, cond_true]))

/-- The results of a call as values: those told to be new memory lie in the blocks G. -/
def RepR (P : Program) : (r : Ty) → List (Option Nat) → World → (Nat → Prop) → Nat → Den r → List Value → List Nat → Prop
  | .unit, _, _, _, _, _, vs, G => vs = [] ∧ G = []
  | .pair (.sl e) b, some tid :: fr, w, S, base, x, vs, G => ∃ u vs' G', vs = hdV u :: vs' ∧ NewAt P w S base tid e x.1 u ∧ G = vbl u ++ G' ∧ RepR P b fr w S base x.2 vs' G'
  | .pair a b, fr, w, S, base, x, vs, G => fr.headD none = none ∧ ∃ cs vs', vs = valOf a.agg cs :: vs' ∧ RepD P a w S x.1 cs ∧ RepR P b fr.tail w S base x.2 vs' G
  | _, _, _, _, _, _, _, _ => False

def hasBody (P : Program) (g : FuncId) : Prop := ∃ fn, P.funcs[g]? = some fn ∧ fn.body.isSome = true ∧ (fn.name == "runtime.NumGoroutine") = false

/-- What a call of a known function does: one that writes nothing that it is given. -/
def PlainOK (P : Program) (G : Nat → Option GRow) (g : FuncId) (p r : Ty) (fresh : List (Option Nat)) (f : Den p → Option (Den r)) : Prop :=
  ∀ w S, (∀ b, S b → b < w.heap.size) → GlobOK P G w S → ∀ x vs y, RepA P p w S x vs → f x = some y →
    Calls P g vs.toArray w fun e w' => Below w.heap.size w w' ∧ ∃ vs' G', e = .returned (tupleOf vs') ∧
      RepR P r fresh w' (fun b => S b ∨ (w.heap.size ≤ b ∧ b < w'.heap.size ∧ b ∉ G')) w.heap.size y vs' G' ∧ G'.Nodup

/-- And one that writes a window on its first argument. -/
def WinOK (P : Program) (G : Nat → Option GRow) (g : FuncId) (tid : Nat) : (p r : Ty) → List (Option Nat) → (Den p → Option (Den r)) → Prop
  | .pair (.sl e) (.pair (.int .i64) (.pair (.int .i64) q)), .pair (.sl e2) r, fresh, f => e = e2 ∧
    ∀ w S, (∀ b, S b → b < w.heap.size) → GlobOK P G w S → ∀ (xs : List (Den e)) (off len : Nat) x v0 cells v A c vs y, w.ownsRow 0 tid e.size v0 xs.length cells → Es (fun x es => RepD P e w S x es) xs cells →
      (∀ g, vblk v0 = some g → ¬ S g) → off + len ≤ xs.length → v = .slice A len c → len ≤ c → (0 < len → ∃ g n k, v0 = .slice (some ⟨g, 0, none⟩) n k ∧ A = some ⟨g, off * e.size, none⟩) →
      RepA P q w S x vs → f (xs, (off : Int), (len : Int), x) = some y →
      Calls P g (v :: vs).toArray w fun ee w' => BelowX (fun b => vblk v0 = some b) w.heap.size w w' ∧ ∃ vs' G' cells', ee = .returned (tupleOf vs') ∧
        y.1.length = xs.length ∧ w'.ownsRow 0 tid e2.size v0 y.1.length cells' ∧ Es (fun x es => RepD P e2 w' (fun b => S b ∨ (w.heap.size ≤ b ∧ b < w'.heap.size ∧ b ∉ G')) x es) y.1 cells' ∧
        RepR P r fresh w' (fun b => S b ∨ (w.heap.size ≤ b ∧ b < w'.heap.size ∧ b ∉ G')) w.heap.size y.2 vs' G' ∧ G'.Nodup
  | _, _, _, _ => False

structure FnOK (P : Program) (G : Nat → Option GRow) (g : FuncId) (E : Entry) : Prop where
  body : hasBody P g
  calls : match E.win with
    | none => PlainOK P G g E.p E.r E.fresh E.f
    | some tid => WinOK P G g tid E.p E.r E.fresh E.f

structure EnvOK (P : Program) (G : Nat → Option GRow) (Γ : Env) : Prop where
  T : ∀ t row, Γ.T t = some row → RowOK P t row
  Φ : ∀ g E, Γ.Φ g = some E → FnOK P G g E
  G : ∀ g r, Γ.G g = some r → G g = some r
  mixed : P.follows .mixedOrders = true

variable {P : Program} {Γ : Env} {C : Ctx} {ρ : Nat → Value} {S : Nat → Prop} {st : St} {a : Act} {w : World}

theorem cellsD_sound {m : Nat → Blk} : ∀ {t : Ty} {x : Den t} {cs}, RepD P t w S x cs → All2 (RepLV P ρ m w S) (cellsD t x) cs := by
  intro t
  induction t with
  | pair a b iha ihb =>
    intro x cs h
    simp only [RepD] at h
    obtain ⟨c1, c2, rfl, h1, h2⟩ := h
    exact All2.append (iha h1) (ihb h2)
  | int k => intro x cs h; simp only [RepD] at h; subst h; exact ⟨rfl, trivial⟩
  | bool => intro x cs h; simp only [RepD] at h; subst h; exact ⟨rfl, trivial⟩
  | str => intro x cs h; simp only [RepD] at h; subst h; exact ⟨rfl, trivial⟩
  | unit => intro x cs h; simp only [RepD] at h; subst h; exact trivial
  | sl e _ =>
    intro x cs h
    have hl := RepD.length h
    match cs, hl with
    | [v], _ => exact ⟨h, trivial⟩
  | ptr e _ =>
    intro x cs h
    have hl := RepD.length h
    match cs, hl with
    | [v], _ => exact ⟨h, trivial⟩
  | fn p r _ _ =>
    intro x cs h
    have hl := RepD.length h
    match cs, hl with
    | [v], _ => exact ⟨h, trivial⟩

theorem ofCells_sound {m : Nat → Blk} {g : Bool} {cs : List LV} {v : Value} (h : RepC P ρ m w S g cs v) : RepPV P ρ m w S (ofCells g cs) v := by
  obtain ⟨vs, h1, h2, h3⟩ := h
  cases g with
  | true => exact ⟨vs, h1, h2⟩
  | false =>
    have hl := h3 rfl
    match vs, hl, cs, h1 with
    | [u], _, [x], ⟨k, _⟩ =>
      subst h2
      exact k

theorem cells_sound {m : Nat → Blk} {pv : PV} {v : Value} {g : Bool} {cs : List LV} (h : RepPV P ρ m w S pv v) (hc : pv.cells = some (g, cs)) : RepC P ρ m w S g cs v := by
  cases pv with
  | undef => cases hc
  | no => cases hc
  | tup l => cases hc
  | one x => cases hc; exact ⟨[v], ⟨h, trivial⟩, rfl, fun _ => rfl⟩
  | agg l => cases hc; obtain ⟨vs, h1, h2⟩ := h; exact ⟨vs, h1, h2, fun h => by cases h⟩

theorem RepC.ofD {m : Nat → Blk} {t : Ty} {x : Den t} {cs} (h : RepD P t w S x cs) : RepC P ρ m w S t.agg (cellsD t x) (valOf t.agg cs) :=
  ⟨cs, cellsD_sound h, rfl, fun hg => by rw [RepD.length h]; cases t <;> simp [Ty.agg] at hg <;> rfl⟩

theorem toArgs_sound (r : Rel P C ρ S st a w) : ∀ (p : Ty) (pvs : List PV) (vs : List Value) (x : Den p) (fz : List Nat), toArgs st.m p pvs = some (x, fz) → All2 (RepPV P ρ st.m w S) pvs vs →
    (∀ b ∈ fz, isRV (st.m b)) ∧ ∀ S' : Nat → Prop, (∀ k, S k → S' k) → (∀ b ∈ fz, ∀ g, vb (ρ b) g → S' g) → RepA P p w S' x vs := by
  intro p
  induction p with
  | unit =>
    intro pvs vs x fz h hr
    match pvs, vs, h, hr with
    | [], [], h, _ => simp only [toArgs] at h; cases h; exact ⟨by simp, fun _ _ _ => by simp only [RepA]⟩
  | pair t1 t2 _ ih =>
    intro pvs vs x fz h hr
    match pvs, vs, h, hr with
    | pv :: pvs, v :: vs, h, ⟨h1, h2⟩ =>
      simp only [toArgs] at h
      split at h
      · rename_i g cs hc
        cases hg : (g == t1.agg) with
        | false => rw [hg] at h; cases h
        | true =>
          rw [hg] at h
          simp only [cond_true] at h
          split at h
          · rename_i x1 f1 hd
            split at h
            · rename_i y1 f2 ht
              cases h
              have hg' : g = t1.agg := by simpa using hg
              subst hg'
              obtain ⟨us, k1, k2, k3⟩ := cells_sound h1 hc
              obtain ⟨l1, vs1, vs2, e1, l2, l3⟩ := toDen_sound r _ _ _ _ _ _ hd k1
              have : vs2 = [] := by
                cases vs2 with
                | nil => rfl
                | cons _ _ => exact l2.elim
              subst this
              rw [List.append_nil] at e1
              subst e1
              obtain ⟨m1, m2⟩ := ih _ _ _ _ ht h2
              refine ⟨fun b hb => (List.mem_append.1 hb).elim (l1 b) (m1 b), fun S' hS hf => ?_⟩
              simp only [RepA]
              exact ⟨us, vs, by rw [k2], l3 S' hS (fun b hb => hf b (List.mem_append.2 (.inl hb))), m2 S' hS (fun b hb => hf b (List.mem_append.2 (.inr hb)))⟩
            · cases h
          · cases h
      · cases h
  | _ => intro pvs vs x fz h; cases pvs <;> simp only [toArgs] at h <;> cases h

theorem ownsRow_base {w : World} {b b' e size : Nat} {v : Value} {n : Nat} {xs : List Value} (h : w.ownsRow b e size v n xs) (hb : b' ≤ b) : w.ownsRow b' e size v n xs := by
  refine ⟨h.1, ?_⟩
  rcases h.2 with h | ⟨g, cap, cur, h1, h2, rest⟩
  · exact .inl h
  · exact .inr ⟨g, cap, cur, h1, Nat.le_trans hb h2, rest⟩

theorem ofRes_sound : ∀ (t : Ty) (fr : List (Option Nat)) (id : Nat) (y : Den t) {ρ : Nat → Value} {st : St} (l : List (Bool × List LV)) (m' : Nat → Blk) (vs : List Value) (G : List Nat) (base : Nat), Rel P C ρ S st a w →
    C.w0.heap.size ≤ base → ofRes t fr id y st.m = some (l, m') → RepR P t fr w S base y vs G → G.Nodup → (∀ g ∈ G, ¬ S g ∧ ∀ b, (st.m b).live = true → ¬ vb (ρ b) g) →
    ∃ ρ', Rel P C ρ' S { st with m := m' } a w ∧ (∀ b, Ok1 ρ ρ' st.m m' b) ∧ All2 (fun (x : Bool × List LV) v => RepC P ρ' m' w S x.1 x.2 v) l vs := by
  intro t
  induction t with
  | unit =>
    intro fr id y ρ st l m' vs G base r hb h hr hnd hG
    simp only [ofRes] at h
    cases h
    simp only [RepR] at hr
    obtain ⟨rfl, rfl⟩ := hr
    exact ⟨ρ, r, fun b => Ok1.same rfl rfl, trivial⟩
  | pair t1 t2 _ ih =>
    intro fr id y ρ st l m' vs G base r hb h hr hnd hG
    have plain : ∀ (hfr : fr.headD none = none), ofRes (.pair t1 t2) fr id y st.m = (match ofRes t2 fr.tail (id + 1) y.2 st.m with | some (l, m') => some ((t1.agg, cellsD t1 y.1) :: l, m') | none => none) → (∃ cs vs', vs = valOf t1.agg cs :: vs' ∧ RepD P t1 w S y.1 cs ∧ RepR P t2 fr.tail w S base y.2 vs' G) →
        ∃ ρ', Rel P C ρ' S { st with m := m' } a w ∧ (∀ b, Ok1 ρ ρ' st.m m' b) ∧ All2 (fun (x : Bool × List LV) v => RepC P ρ' m' w S x.1 x.2 v) l vs := by
      intro hfr e hr
      rw [e] at h
      obtain ⟨cs, vs', rfl, h1, h2⟩ := hr
      split at h
      · rename_i l1 m1 hl
        cases h
        obtain ⟨ρ', r', ok, hall⟩ := ih _ _ _ _ _ _ _ _ r hb hl h2 hnd hG
        exact ⟨ρ', r', ok, RepC.ofD h1, hall⟩
      · cases h
    by_cases hfr : fr.headD none = none
    · refine plain hfr ?_ ?_
      · cases fr with
        | nil => cases t1 <;> rfl
        | cons f fr => simp at hfr; subst hfr; cases t1 <;> rfl
      · cases fr with
        | nil => cases t1 <;> simp only [RepR] at hr <;> exact hr.2
        | cons f fr => simp at hfr; subst hfr; cases t1 <;> simp only [RepR] at hr <;> exact hr.2
    · cases fr with
      | nil => exact absurd rfl hfr
      | cons f fr =>
        cases f with
        | none => exact absurd rfl hfr
        | some tid =>
          cases t1 with
          | sl e =>
            simp only [ofRes] at h
            simp only [RepR] at hr
            obtain ⟨u, vs', G', rfl, h1, hGe, h3⟩ := hr
            split at h
            · rename_i hfree
              split at h
              · rename_i l1 m1 hl
                cases h
                subst hGe
                have hnd3 := List.nodup_append.1 hnd
                have hvG : ∀ g, vb u g → g ∈ vbl u ++ G' ∧ g ∉ G' := fun g hg => ⟨List.mem_append.2 (.inl (mem_vbl.2 hg)), fun h => hnd3.2.2 g (mem_vbl.2 hg) g h rfl⟩
                obtain ⟨hblk, hlv⟩ := h1.blk (C := C) (ρ := ρ) (m := st.m) (id := id) (fun _ _ => Nat.zero_le _)
                obtain ⟨r1, ok1⟩ := r.adopt (id := id) (blk := newRow' tid e y.1) (v := u) hfree (fun g hg => ⟨hG g (hvG g hg).1, .inl (Nat.le_trans hb (h1.base hg))⟩) hblk
                obtain ⟨ρ', r', ok, hall⟩ := ih _ _ _ _ _ _ _ _ r1 hb hl h3 hnd3.2.1 (fun g hg => ⟨(hG g (List.mem_append.2 (.inr hg))).1, fun b hbl hbg => by
                  by_cases eb : b = id
                  · subst eb
                    rw [upd_same] at hbg
                    exact (hvG g hbg).2 hg
                  · rw [upd_other _ _ eb] at hbg
                    rw [show ({ st with m := upd st.m id (newRow' tid e y.1) } : St).m b = st.m b from upd_other _ _ eb] at hbl
                    exact (hG g (List.mem_append.2 (.inr hg))).2 b hbl hbg⟩)
                refine ⟨ρ', r', ?_, ?_, hall⟩
                · intro b
                  have k1 := ok1 b
                  have k2 := ok b
                  by_cases eb : b = id
                  · subst eb; unfold Ok1; rw [hfree]; cases m' b <;> trivial
                  · unfold Ok1 at k2 ⊢
                    simp only [upd_other _ _ eb] at k2
                    exact k2
                · exact ⟨[hdV u], ⟨RepLV.step ok hlv, trivial⟩, rfl, fun _ => rfl⟩
              · cases h
            · cases h
          | _ => simp only [RepR] at hr; exact absurd hr.1 (by simp)
  | _ => intro fr id y ρ st l m' vs G base r hb h; simp only [ofRes] at h; cases h

theorem ofResults_sound {m : Nat → Blk} {l : List (Bool × List LV)} {vs : List Value} (h : All2 (fun (x : Bool × List LV) v => RepC P ρ m w S x.1 x.2 v) l vs) : RepPV P ρ m w S (ofResults l) (tupleOf vs) := by
  match l, vs, h with
  | [], [], _ => exact ⟨[], rfl, trivial⟩
  | [(g, cs)], [v], ⟨h1, _⟩ => exact ofCells_sound h1
  | x :: y :: l, v :: u :: vs, h => exact ⟨v :: u :: vs, rfl, h⟩

theorem RepR.base : ∀ (t : Ty) (fr : List (Option Nat)) (w : World) (S : Nat → Prop) (base : Nat) (y : Den t) (vs : List Value) (G : List Nat), RepR P t fr w S base y vs G → ∀ g ∈ G, base ≤ g := by
  intro t
  induction t with
  | unit => intro fr w S base y vs G h g hg; simp only [RepR] at h; rw [h.2] at hg; cases hg
  | pair t1 t2 _ ih =>
    intro fr w S base y vs G h g hg
    by_cases hfr : fr.headD none = none
    · have : ∃ cs vs', vs = valOf t1.agg cs :: vs' ∧ RepD P t1 w S y.1 cs ∧ RepR P t2 fr.tail w S base y.2 vs' G := by
        cases fr with
        | nil => cases t1 <;> simp only [RepR] at h <;> exact h.2
        | cons f fr => simp at hfr; subst hfr; cases t1 <;> simp only [RepR] at h <;> exact h.2
      obtain ⟨_, _, _, _, h2⟩ := this
      exact ih _ _ _ _ _ _ _ h2 g hg
    · cases fr with
      | nil => exact absurd rfl hfr
      | cons f fr =>
        cases f with
        | none => exact absurd rfl hfr
        | some tid =>
          cases t1 with
          | sl e =>
            simp only [RepR] at h
            obtain ⟨u, vs', G', _, h1, rfl, h3⟩ := h
            rcases List.mem_append.1 hg with hg | hg
            · exact h1.base (mem_vbl.1 hg)
            · exact ih _ _ _ _ _ _ _ h3 g hg
          | _ => simp only [RepR] at h; exact absurd h.1 (by simp)
  | _ => intro fr w S base y vs G h; simp only [RepR] at h

/-- What behind a call is told of the caller's state. -/
def After (P : Program) (C : Ctx) (a : Act) {R : Type} (k : PV → St → Option R) (y : R) (e : Ending) (w' : World) : Prop :=
  ∃ v pv st' ρ' S', e = .returned v ∧ RepPV P ρ' st'.m w' S' pv v ∧ Rel P C ρ' S' st' a w' ∧ k pv st' = some y

theorem exPlain_sound (r : Rel P C ρ S st a w) {R : Type} {id g : Nat} {p q : Ty} {fr : List (Option Nat)} {f : Den p → Option (Den q)} {args : List PV} {vs : List Value} {k : PV → St → Option R} {y : R} (hF : PlainOK P C.G g p q fr f)
    (h : exPlain id p q fr f args st k = some y)
    (ha : All2 (RepPV P ρ st.m w S) args vs) : Calls P g vs.toArray w (After P C a k y) := by
  unfold exPlain at h
  split at h <;> try (cases h; done)
  rename_i x fz hx
  cases hf : f x with
  | none => rw [hf] at h; cases h
  | some z =>
    rw [hf] at h
    simp only [Option.bind_some] at h
    split at h <;> try (cases h; done)
    rename_i l m' hl
    obtain ⟨k1, k2⟩ := toArgs_sound r _ _ _ _ _ hx ha
    obtain ⟨S1, r1, hS1, hfz⟩ := r.stillS fz
    have hargs := k2 S1 hS1 (fun b hb => hfz b hb (by have := k1 b hb; unfold isRV at this; exact this))
    refine (hF w S1 r1.sb r1.gl x vs z hargs hf).mono ?_
    rintro e w' ⟨hb, vs', G, rfl, hR, hnd⟩
    have r2 := r1.grow (S' := fun b => S1 b ∨ (w.heap.size ≤ b ∧ b < w'.heap.size ∧ b ∉ G)) hb (fun b h => .inl h) (fun b h => h.imp (fun h => h) (fun h => ⟨h.1, h.2.1⟩))
    have hG : ∀ g ∈ G, w.heap.size ≤ g := RepR.base _ _ _ _ _ _ _ _ hR
    obtain ⟨ρ', r3, ok, hall⟩ := ofRes_sound q fr id z l m' vs' G w.heap.size r2 r.below.size hl hR hnd (fun g hg => ⟨by
        rintro (h | h)
        · have := r1.sb g h; have := hG g hg; omega
        · exact h.2.2 hg, fun b hbl hbg => by have := (RepBlk.lt (r1.mem b) hbl hbg).2; have := hG g hg; omega⟩)
    exact ⟨_, _, _, ρ', _, rfl, ofResults_sound hall, r3, h⟩

/-- A call has written a row of the machine's own, and may have laid new blocks. -/
theorem Rel.over (r : Rel P C ρ S st a w) {b : Nat} {tid : Nat} {e : Ty} {xs ys : List (Den e)} {w' : World} {S' : Nat → Prop} (hm : st.m b = .row true tid e xs) (hb : BelowX (fun k => vb (ρ b) k) w.heap.size w w')
    (hS : ∀ k, S k → S' k) (hS' : ∀ k, S' k → S k ∨ (w.heap.size ≤ k ∧ k < w'.heap.size)) (hlen : ys.length = xs.length) {cells : List Value} (hown : w'.ownsRow 0 tid e.size (ρ b) ys.length cells) (hEs : Es (fun x es => RepD P e w' S' x es) ys cells) :
    Rel P C ρ S' { st with m := upd st.m b (.row true tid e ys) } a w' := by
  have hl : (st.m b).live = true := by rw [hm]; rfl
  have hB : C.w0.heap.size ≤ w.heap.size := r.below.size
  have hs : Stab w S w' S' := fun k hk => ⟨hS k hk, hb.block k (r.sb k hk) (fun e => r.out b hl k e hk)⟩
  have ok' : ∀ k, Ok1 ρ ρ st.m (upd st.m b (.row true tid e ys)) k := by
    intro k
    by_cases ek : k = b
    · subst ek; unfold Ok1; rw [hm, upd_same]; exact ⟨hlen.symm, rfl, rfl⟩
    · exact Ok1.same (upd_other _ _ ek) rfl
  have hlive : ∀ k, (upd st.m b (.row true tid e ys) k).live = true → (st.m k).live = true := by
    intro k hk
    by_cases ek : k = b
    · subst ek; exact hl
    · rwa [upd_other _ _ ek] at hk
  refine Rel.step r hs ?_ ?_ ?_ ok' ?_ (fun k k' hne h h' => r.inj k k' hne (hlive k h) (hlive k' h')) ?_ (fun k h => r.loc k (hlive k h)) (fun u hu => ⟨?_, (r.mz u hu).2⟩)
  · exact r.below.trans ⟨hb.os, hb.tape, hb.output, hb.size, fun k hk hx => hb.block k (by omega) (fun e => by rcases r.loc b hl k e with h | h; omega; exact hx h)⟩
  · intro k hk
    rcases hS' k hk with h | h
    · exact Nat.lt_of_lt_of_le (r.sb k h) hb.size
    · exact h.2
  · intro k hk
    rcases hS' k hk with h | h
    · exact r.s1 k h
    · exact .inr (.inl (Nat.le_trans hB h.1))
  · intro k
    by_cases ek : k = b
    · subst ek
      unfold RepBlk
      rw [upd_same]
      exact ⟨cells, hown, hEs, fun h => by cases h⟩
    · exact RepBlk.step ok' hs (upd_other _ _ ek) rfl (fun hlk g' hg' => hb.block g' (RepBlk.lt (r.mem k) hlk hg').2 (fun e' => r.inj k b ek hlk hl g' hg' e')) (r.mem k)
  · intro k h g hg hk
    rcases hS' g hk with h' | h'
    · exact r.out k (hlive k h) g hg h'
    · have := (RepBlk.lt (r.mem k) (hlive k h) hg).2; omega
  · by_cases ek : 0 = b
    · subst ek; rw [upd_same]; intro e; cases e
    · rw [upd_other _ _ ek]; exact (r.mz u hu).1

theorem castList' {e e' : Ty} {xs : List (Den e)} {ys : List (Den e')} (h : castTy (fun t => List (Den t)) e e' xs = some ys) : ∃ he : e = e', he ▸ xs = ys := castTy_eq _ _ _ _ _ h

theorem exWin_sound (r : Rel P C ρ S st a w) {R : Type} {id g tid : Nat} {p q : Ty} {fr : List (Option Nat)} {f : Den p → Option (Den q)} {args : List PV} {vs : List Value} {k : PV → St → Option R} {y : R} (hF : WinOK P C.G g tid p q fr f)
    (h : exWin id tid p q fr f args st k = some y)
    (ha : All2 (RepPV P ρ st.m w S) args vs) : Calls P g vs.toArray w (After P C a k y) := by
  unfold exWin at h
  split at h <;> try (cases h; done)
  rename_i e q e2 rr f v args
  split at h <;> try (cases h; done)
  rename_i b off len hw
  split at h <;> try (cases h; done)
  rename_i e0 e' xs0 hm
  have h' : Nat.beq e0 tid = true ∧ (match castTy (fun t => List (Den t)) e' e xs0, toArgs st.m q args with
        | some xs, some (x, fz) => bif fz.contains b then none else (f (xs, (off : Int), (len : Int), x)).bind fun y =>
          match ofRes rr fr id y.2 (upd (Go.PM.still fz st.m) b (.row true tid e2 y.1)) with
          | some (l, m) => k (ofResults l) { st with m := m }
          | none => none
        | _, _ => none) = some y := by
    cases hb : Nat.beq e0 tid with
    | true => rw [hb] at h; exact ⟨rfl, h⟩
    | false => rw [hb] at h; cases h
  clear h
  obtain ⟨he0, h⟩ := h'
  have he0 := Nat.eq_of_beq_eq_true he0
  subst he0
  split at h <;> try (cases h; done)
  rename_i xs x fz hc hx
  obtain ⟨he, hc⟩ := castList' hc
  subst he; subst hc
  have hfz : fz.contains b = false ∧ ((f (xs0, (off : Int), (len : Int), x)).bind fun y =>
          match ofRes rr fr id y.2 (upd (Go.PM.still fz st.m) b (.row true e0 e2 y.1)) with
          | some (l, m) => k (ofResults l) { st with m := m }
          | none => none) = some y := by
    cases hb : fz.contains b with
    | true => rw [hb] at h; cases h
    | false => rw [hb] at h; exact ⟨rfl, h⟩
  clear h
  obtain ⟨hfz, h⟩ := hfz
  have hfz : b ∉ fz := by simpa using hfz
  cases hf : f (xs0, (off : Int), (len : Int), x) with
  | none => rw [hf] at h; cases h
  | some z =>
    rw [hf] at h
    simp only [Option.bind_some] at h
    split at h <;> try (cases h; done)
    rename_i l m' hl
    match vs, ha with
    | u :: vs, ⟨hu, ha⟩ =>
    obtain ⟨heq, hF⟩ := hF
    subst heq
    have hb := r.mem b
    unfold RepBlk at hb; rw [hm] at hb
    obtain ⟨cells, hown, hEs, _⟩ := hb
    have hlive : (st.m b).live = true := by rw [hm]; rfl
    -- the window
    have hwin : off + len ≤ xs0.length ∧ ∃ A c, u = .slice A len c ∧ len ≤ c ∧ (0 < len → ∃ g n k, ρ b = .slice (some ⟨g, 0, none⟩) n k ∧ A = some ⟨g, off * e'.size, none⟩) := by
      unfold winOf at hw
      split at hw
      · rename_i b'
        split at hw <;> try (cases hw; done)
        rename_i t1 e1 xs1 hm1
        cases hw
        rw [hm] at hm1
        cases hm1
        simp only [RepPV, RepLV, hm] at hu
        refine ⟨by omega, ?_⟩
        rcases hown.2 with ⟨e1, e3⟩ | ⟨gg, cap, cur, e1, _, _, h3, _⟩
        · exact ⟨none, 0, by rw [hu.2, e1, e3], by omega, fun h => by omega⟩
        · exact ⟨_, cap, by rw [hu.2, e1], h3, fun _ => ⟨gg, _, _, e1, by simp⟩⟩
      · cases hw
        simp only [RepPV, RepLV, hm] at hu
        obtain ⟨_, h1, A, c, h2, h3, h4⟩ := hu
        exact ⟨h1, A, c, h2, h3, h4⟩
      · cases hw
    obtain ⟨hoff, A, c, hu', hlc, hA⟩ := hwin
    obtain ⟨k1, k2⟩ := toArgs_sound r _ _ _ _ _ hx ha
    obtain ⟨S1, r1, hS1, hfz1⟩ := r.stillS fz
    have hargs := k2 S1 hS1 (fun b hb => hfz1 b hb (by have := k1 b hb; unfold isRV at this; exact this))
    have hm1 : (Go.PM.still fz st.m) b = .row true e0 e' xs0 := by rw [still_at, if_neg hfz, hm]
    have hlive1 : (Go.PM.still fz st.m b).live = true := by rw [hm1]; rfl
    refine (hF w S1 r1.sb r1.gl xs0 off len x (ρ b) cells u A c vs z hown (Es.mono (fun x cs h => RepD.mono (fun b hb => ⟨hS1 b hb, rfl⟩) h) hEs) (fun g hg => r1.out b hlive1 g (vb_of hg)) hoff hu' hlc hA hargs hf).mono ?_
    rintro ee w' ⟨hb0, vs', G, cells', rfl, hlen, hown', hEs', hR, hnd⟩
    have hb : BelowX (fun k => vb (ρ b) k) w.heap.size w w' := ⟨hb0.os, hb0.tape, hb0.output, hb0.size, fun k hk hx => hb0.block k hk (fun e => hx (vb_of e))⟩
    have r2 := r1.over (S' := fun b => S1 b ∨ (w.heap.size ≤ b ∧ b < w'.heap.size ∧ b ∉ G)) (ys := z.1) hm1 hb (fun b h => .inl h) (fun b h => h.imp (fun h => h) (fun h => ⟨h.1, h.2.1⟩)) hlen hown' hEs'
    have hG : ∀ g ∈ G, w.heap.size ≤ g := RepR.base _ _ _ _ _ _ _ _ hR
    obtain ⟨ρ', r3, ok, hall⟩ := ofRes_sound rr fr id z.2 l m' vs' G w.heap.size r2 r.below.size hl hR hnd (fun g hg => ⟨by
        rintro (h | h)
        · have := r1.sb g h; have := hG g hg; omega
        · exact h.2.2 hg, fun b' hbl hbg => by
        have hl' : (Go.PM.still fz st.m b').live = true := by
          by_cases eb : b' = b
          · rw [eb]; exact hlive1
          · rwa [show ({ st with m := upd (Go.PM.still fz st.m) b (.row true e0 e' z.1) } : St).m b' = Go.PM.still fz st.m b' from upd_other _ _ eb] at hbl
        have := (RepBlk.lt (r1.mem b') hl' hbg).2; have := hG g hg; omega⟩)
    exact ⟨_, _, _, ρ', _, rfl, ofResults_sound hall, r3, h⟩

/-- A call of a function that is known. -/
theorem exFunc_sound (hΓ : EnvOK P C.G Γ) (r : Rel P C ρ S st a w) {R : Type} {id g : Nat} {args : List PV} {vs : List Value} {k : PV → St → Option R} {y : R} (h : exFunc Γ id g args st k = some y)
    (ha : All2 (RepPV P ρ st.m w S) args vs) : hasBody P g ∧ Calls P g vs.toArray w (After P C a k y) := by
  unfold exFunc at h
  split at h <;> try (cases h; done)
  rename_i E hE
  have hF := hΓ.Φ g E hE
  refine ⟨hF.body, ?_⟩
  have hc := hF.calls
  cases hwin : E.win with
  | none =>
    rw [hwin] at h hc
    simp only at h hc
    exact exPlain_sound (id := id) r hc h ha
  | some tid =>
    rw [hwin] at h hc
    simp only at h hc
    exact exWin_sound r hc h ha
end Go.PM

/-! PmRun -/
namespace Go.PM
open Go.RowKit
set_option linter.unusedVariables false
set_option linter.unusedSimpArgs false
variable {P : Program} {Γ : Env} {C : Ctx} {ρ : Nat → Value} {S : Nat → Prop} {st : St} {a : Act} {w : World}

theorem seen_eq {R : Type} (x : PV) (k : PV → Option R) : seen x k = k x := by cases x <;> rfl

theorem RepLV.one {m : Nat → Blk} {x : LV} {v : Value} (h : RepLV P ρ m w S x v) : v.oneCell' = true := by
  cases x <;> simp only [RepLV] at h <;> first | exact h.1 | (subst h; rfl) | exact h | exact RepD.one h v (by simp)

theorem All2.ones {m : Nat → Blk} : ∀ {cs : List LV} {vs : List Value}, All2 (RepLV P ρ m w S) cs vs → ∀ v ∈ vs, v.oneCell' = true
  | [], [], _, v, hv => by cases hv
  | _ :: _, _ :: _, ⟨h1, h2⟩, v, hv => by
    rcases List.mem_cons.1 hv with rfl | hv
    · exact RepLV.one h1
    · exact All2.ones h2 v hv

theorem cells_one {v : Value} (h : v.oneCell' = true) : v.cells = #[v] := by cases v <;> first | rfl | cases h

/-- A value's cells. -/
theorem RepC.cells {m : Nat → Blk} {g : Bool} {cs : List LV} {v : Value} (h : RepC P ρ m w S g cs v) : All2 (RepLV P ρ m w S) cs v.cells.toList ∧ v = valOf g v.cells.toList := by
  obtain ⟨vs, h1, h2, h3⟩ := h
  cases g with
  | true => subst h2; exact ⟨by simpa [valOf, Value.cells] using h1, by simp [valOf, Value.cells]⟩
  | false =>
    have hl := h3 rfl
    match vs, hl with
    | [u], _ =>
      have hu : u.oneCell' = true := All2.ones h1 u (by simp)
      have e : v = u := h2
      subst e
      rw [cells_one hu]
      exact ⟨h1, rfl⟩

theorem run_typeInfo {t : TypeId} {i : TypeInfo} (h : P.info? t = some i) (w : World) : (typeInfo t).run P w = .ok i w := by simp [typeInfo, h]

theorem RowOK.get {t : TypeId} {row : TRow} (h : RowOK P t row) : ∃ i z, P.info? t = some i ∧ i.zero = some z ∧ i.size = row.ty.size ∧ i.bytes = row.bytes ∧ z.cells.toList = zeroV row.ty := by
  obtain ⟨z, h1, h2⟩ := h.info
  cases hi : P.info? t with
  | none => rw [hi] at h1; cases h1
  | some i =>
    rw [hi] at h1
    simp only [Option.map_some, Option.some.injEq, Prod.mk.injEq] at h1
    exact ⟨i, z, rfl, h1.1, h1.2.1, h1.2.2, h2⟩
theorem RowOK.sizeOf {t : TypeId} {row : TRow} (h : RowOK P t row) (w : World) : (sizeOf t).run P w = .ok row.ty.size w := by
  obtain ⟨i, z, hi, _, hs, _⟩ := h.get
  simp [Go.sizeOf, typeInfo, hi, hs]
theorem RowOK.zeroValue {t : TypeId} {row : TRow} (h : RowOK P t row) (w : World) : ∃ z, (zeroValue t).run P w = .ok z w ∧ z.cells.toList = zeroV row.ty := by
  obtain ⟨i, z, hi, hz, _, _, hc⟩ := h.get
  exact ⟨z, by simp [Go.zeroValue, typeInfo, hi, hz], hc⟩
theorem RowOK.isAgg {t : TypeId} {row : TRow} (h : RowOK P t row) (w : World) : (isAgg t).run P w = .ok row.ty.agg w := by
  have hk := h.kind
  rw [← h.agg]
  cases hkk : row.kind <;> rw [hkk] at hk <;> simp only [kindOK] at hk
  case st fs => obtain ⟨F, hF, _⟩ := hk; simp [Go.isAgg, run_underlying hF, TK.agg]
  case other =>
    obtain ⟨d, hd, hk⟩ := hk
    cases d <;> first | exact hk.elim | simp [Go.isAgg, run_underlying hd, TK.agg]
  all_goals simp [Go.isAgg, run_underlying hk, TK.agg]

theorem lies_take {ad : Addr} {cells : List Value} (h : Lies w ad cells) (n : Nat) : Lies w ad (cells.take n) := by
  intro j v hv
  rw [List.getElem?_take] at hv
  split at hv
  · exact h j v hv
  · cases hv

theorem add_add' (ad : Addr) (i j : Nat) : (ad.add i).add j = ad.add (i + j) := by
  unfold Addr.add
  by_cases hi : i = 0
  · subst hi; simp
  · by_cases hj : j = 0
    · subst hj; simp [hi]
    · simp [hi, hj, Nat.add_assoc]
theorem add_block' (ad : Addr) (i : Nat) : (ad.add i).block = ad.block := by unfold Addr.add; split <;> rfl

theorem lies_drop {ad : Addr} {cells : List Value} (h : Lies w ad cells) (n : Nat) : Lies w (ad.add n) (cells.drop n) := by
  intro j v hv
  rw [add_add']
  exact h (n + j) v (by rwa [List.getElem?_drop] at hv)

/-- A load. -/
theorem run_load_lies {t : TypeId} {row : TRow} (h : RowOK P t row) {ad : Addr} {us : List Value} (hl : us.length = row.ty.size) (hL : Lies w ad us) (h1 : row.ty.agg = false → us.length = 1) :
    (loadVar t ad).run P w = .ok (valOf row.ty.agg us) w := by
  cases hg : row.ty.agg with
  | true =>
    have := run_loadCells_list (P := P) w ad us hL
    simp only [loadVar, Sem.run_bind, h.isAgg, hg, Result.andThen_ok, if_true, h.sizeOf, ← hl, this, Sem.run_pure]
    rfl
  | false =>
    have hu := h1 hg
    match us, hu with
    | [u], _ =>
      have := hL 0 u rfl
      rw [Addr.add_zero'] at this
      simp [loadVar, h.isAgg, hg, run_load, this, valOf]

/-- A store. -/
theorem run_store_lies {t : TypeId} {row : TRow} (h : RowOK P t row) {g o : Nat} {T : TypeId} {cur : Array Value} {v : Value} (hs : v.cells.size = row.ty.size) (hh : w.heap[g]? = some (.cells cur T (0, 0)))
    (hfit : o + v.cells.size ≤ cur.size) (h1 : ∀ u ∈ v.cells.toList, u.oneCell' = true) :
    (storeVar t ⟨g, o, none⟩ v).run P w = .ok () (w.setRow g (cur.toList.take o ++ v.cells.toList ++ cur.toList.drop (o + v.cells.size)).toArray) := by
  have := run_storeCells_at P g o T v.cells.toList 0 cur w hh (by simpa using hfit) h1
  simp only [Nat.add_zero, Array.length_toList] at this
  simp only [storeVar, Sem.run_bind, h.sizeOf, Result.andThen_ok, hs, ne_eq, not_true_eq_false, if_false, Sem.run_ite]
  rw [this, hs]

theorem operand_sound (hΓ : EnvOK P C.G Γ) (r : Rel P C ρ S st a w) (x : Operand) : RepPV P ρ st.m w S (operand Γ st x) (a.eval x) := by
  cases x with
  | tmp d => exact r.tm d
  | global g =>
    simp only [operand]
    split
    · rename_i q hq
      exact r.gl g q (hΓ.G g q hq)
    · trivial
  | const v =>
    cases v with
    | agg => trivial
    | tuple => trivial
    | slice ad l c =>
      cases ad with
      | none =>
        cases l with
        | zero => cases c with
          | zero => exact rfl
          | succ => exact rfl
        | succ => exact rfl
      | some => exact rfl
    | _ => exact rfl
  | func f =>
    simp only [operand]
    split
    · rename_i E hE
      split
      · rename_i hfr hwin
        have hF := hΓ.Φ f E hE
        have hc := hF.calls
        rw [hwin] at hc
        show RepD P (.fn E.p E.r) w S E.f [.func (.func f) #[] #[]]
        simp only [RepD]
        refine ⟨f, #[], rfl, hF.body, fun w' S' hs hb x vs y hx hy => ?_⟩
        rw [Array.append_empty]
        refine (hc w' S' hb (r.gl.mono hs) x vs y hx hy).mono ?_
        rintro e w'' ⟨h1, vs', G, h2, h3, _⟩
        refine ⟨h1, vs', h2, ?_⟩
        rw [hfr] at h3
        have aux : ∀ (t : Ty) (S : Nat → Prop) (base : Nat) (y : Den t) (vs : List Value) (G : List Nat), RepR P t [] w'' S base y vs G → G = [] ∧ RepA P t w'' S y vs := by
          intro t
          induction t with
          | unit => intro S base y vs G h; simp only [RepR] at h; exact ⟨h.2, by simp only [RepA]; exact h.1⟩
          | pair t1 t2 _ ih =>
            intro S base y vs G h
            have : ∃ cs vs', vs = valOf t1.agg cs :: vs' ∧ RepD P t1 w'' S y.1 cs ∧ RepR P t2 [] w'' S base y.2 vs' G := by
              cases t1 <;> simp only [RepR, List.tail_nil] at h <;> exact h.2
            obtain ⟨cs, vs', e, k1, k2⟩ := this
            obtain ⟨l1, l2⟩ := ih _ _ _ _ _ k2
            exact ⟨l1, by simp only [RepA]; exact ⟨cs, vs', e, k1, l2⟩⟩
          | _ => intro S base y vs G h; simp only [RepR] at h
        have := (aux _ _ _ _ _ _ h3).2
        exact RepA.mono (fun b hb => ⟨hb.imp (fun h => h) (fun h => ⟨h.1, h.2.1⟩), rfl⟩) this
      · trivial
    · trivial

theorem one1_some {R : Type} {x : PV} {k : LV → Option R} {y : R} (h : one1 x k = some y) : ∃ v, x = .one v ∧ k v = some y := by
  cases x <;> simp only [one1] at h <;> first | exact ⟨_, rfl, h⟩ | cases h

theorem cond_some {R : Type} {c : Prop} [Decidable c] {x y : Option R} {z : R} (h : cond (decide c) x y = some z) : (c ∧ x = some z) ∨ (¬ c ∧ y = some z) := by
  by_cases hc : c
  · simp [hc] at h; exact .inl ⟨hc, h⟩
  · simp [hc] at h; exact .inr ⟨hc, h⟩
theorem cond_none {R : Type} {c : Prop} [Decidable c] {x : Option R} {z : R} (h : cond (decide c) x none = some z) : c ∧ x = some z := by
  rcases cond_some h with h | h
  · exact h
  · cases h.2
theorem cond_none' {R : Type} {c : Prop} [Decidable c] {x : Option R} {z : R} (h : cond (decide c) none x = some z) : ¬ c ∧ x = some z := by
  rcases cond_some h with h | h
  · cases h.2
  · exact h

theorem zeroC_sound {m : Nat → Blk} : ∀ t : Ty, All2 (RepLV P ρ m w S) (zeroC t) (zeroV t)
  | .int _ => ⟨rfl, trivial⟩
  | .bool => ⟨rfl, trivial⟩
  | .str => ⟨rfl, trivial⟩
  | .sl _ => ⟨rfl, trivial⟩
  | .unit => trivial
  | .pair a b => All2.append (zeroC_sound a) (zeroC_sound b)
  | .ptr _ => ⟨rfl, trivial⟩
  | .fn _ _ => ⟨rfl, trivial⟩

theorem zeroD_sound : ∀ t : Ty, t.plain = true → RepD P t w S (zeroD t) (zeroV t) := by
  intro t
  induction t with
  | pair a b iha ihb =>
    intro h
    simp only [Ty.plain, Bool.and_eq_true] at h
    simp only [RepD]
    exact ⟨_, _, rfl, iha h.1, ihb h.2⟩
  | ptr => intro h; cases h
  | fn => intro h; cases h
  | sl e _ => intro _; simp only [RepD]; exact ⟨none, 0, rfl, Nat.le_refl _, .inl rfl⟩
  | int => intro _; simp only [RepD]; rfl
  | bool => intro _; simp only [RepD]; rfl
  | str => intro _; simp only [RepD]; rfl
  | unit => intro _; simp only [RepD]; rfl

theorem run_equal_bool {t : TypeId} (h : P.underlying t = some .bool) (b c : Bool) : (Op.equal t (.bool b) (.bool c)).run P w = .ok (b == c) w := by
  show (Op.equalIn (9999 + 1) t (.bool b) (.bool c)).run P w = _
  unfold Op.equalIn
  simp [run_underlying h]
theorem binLV_sound {R : Type} {op : BinOp} {t : TypeId} {X Y : Operand} {x y : LV} {vx vy : Value} {m : Nat → Blk} {k : LV → Option R} {z : R} (h : binLV op x y k = some z) (hx : RepLV P ρ m w S x vx) (hy : RepLV P ρ m w S y vy)
    (hb : ∀ b c, x = .bool b → y = .bool c → P.underlying t = some .bool) :
    ∃ u v, k u = some z ∧ RepLV P ρ m w S u v ∧ (do eqGuard op t X Y vx vy; binOp op t vx vy : Sem Value).run P w = .ok v w := by
  unfold binLV at h
  split at h <;> try (cases h; done)
  · obtain ⟨hn, h⟩ := cond_none h
    simp only [RepLV] at hx hy; subst hx; subst hy
    exact ⟨_, _, h, rfl, by simp [eqGuard_shl, binOp_shl, Op.shift, Int.not_lt.2 hn]⟩
  · obtain ⟨hn, h⟩ := cond_none h
    simp only [RepLV] at hx hy; subst hx; subst hy
    exact ⟨_, _, h, rfl, by simp [eqGuard_shr, binOp_shr, Op.shift, Int.not_lt.2 hn]⟩
  · split at h
    · rename_i hcd; subst hcd
      simp only [RepLV] at hx hy; subst hx; subst hy
      exact ⟨_, _, h, rfl, by simp [eqGuard_add, binOp_add, Op.intArith]⟩
    · cases h
  · split at h
    · rename_i hcd; subst hcd
      simp only [RepLV] at hx hy; subst hx; subst hy
      exact ⟨_, _, h, rfl, by simp [eqGuard_sub, binOp_sub, Op.intArith]⟩
    · cases h
  · split at h
    · rename_i hcd; subst hcd
      simp only [RepLV] at hx hy; subst hx; subst hy
      exact ⟨_, _, h, rfl, by simp [eqGuard_mul, binOp_mul, Op.intArith]⟩
    · cases h
  · split at h
    · rename_i hcd; subst hcd
      simp only [RepLV] at hx hy; subst hx; subst hy
      obtain ⟨hb0, h⟩ := cond_none' h
      exact ⟨_, _, h, rfl, by simp [eqGuard_quo, binOp_quo, Op.intDiv, hb0]⟩
    · cases h
  · split at h
    · rename_i hcd; subst hcd
      simp only [RepLV] at hx hy; subst hx; subst hy
      obtain ⟨hb0, h⟩ := cond_none' h
      exact ⟨_, _, h, rfl, by simp [eqGuard_rem, binOp_rem, Op.intDiv, hb0]⟩
    · cases h
  · split at h
    · rename_i hcd; subst hcd
      simp only [RepLV] at hx hy; subst hx; subst hy
      exact ⟨_, _, h, rfl, by simp [eqGuard_and, binOp_and, Op.intBits]; rfl⟩
    · cases h
  · split at h
    · rename_i hcd; subst hcd
      simp only [RepLV] at hx hy; subst hx; subst hy
      exact ⟨_, _, h, rfl, by simp [eqGuard_or, binOp_or, Op.intBits]; rfl⟩
    · cases h
  · split at h
    · rename_i hcd; subst hcd
      simp only [RepLV] at hx hy; subst hx; subst hy
      exact ⟨_, _, h, rfl, by simp [eqGuard_xor, binOp_xor, Op.intBits]; rfl⟩
    · cases h
  · split at h
    · rename_i hcd; subst hcd
      simp only [RepLV] at hx hy; subst hx; subst hy
      exact ⟨_, _, h, rfl, by simp [eqGuard_at_int, binOp_eql]; try rfl⟩
    · cases h
  · split at h
    · rename_i hcd; subst hcd
      simp only [RepLV] at hx hy; subst hx; subst hy
      exact ⟨_, _, h, rfl, by simp [eqGuard_at_int, binOp_neq]; try rfl⟩
    · cases h
  · split at h
    · rename_i hcd; subst hcd
      simp only [RepLV] at hx hy; subst hx; subst hy
      exact ⟨_, _, h, rfl, by simp [eqGuard_at_int, binOp_lss]; try rfl⟩
    · cases h
  · split at h
    · rename_i hcd; subst hcd
      simp only [RepLV] at hx hy; subst hx; subst hy
      exact ⟨_, _, h, rfl, by simp [eqGuard_at_int, binOp_leq]; try rfl⟩
    · cases h
  · split at h
    · rename_i hcd; subst hcd
      simp only [RepLV] at hx hy; subst hx; subst hy
      exact ⟨_, _, h, rfl, by simp [eqGuard_at_int, binOp_gtr]; try rfl⟩
    · cases h
  · split at h
    · rename_i hcd; subst hcd
      simp only [RepLV] at hx hy; subst hx; subst hy
      exact ⟨_, _, h, rfl, by simp [eqGuard_at_int, binOp_geq]; try rfl⟩
    · cases h
  · have hu := hb _ _ rfl rfl
    simp only [RepLV] at hx hy; subst hx; subst hy
    exact ⟨_, _, h, rfl, by rw [eqGuard_at_bool]; simp only [binOp, Sem.run_bind, Sem.run_pure, Result.andThen_ok, run_equal_bool hu]⟩
  · have hu := hb _ _ rfl rfl
    simp only [RepLV] at hx hy; subst hx; subst hy
    exact ⟨_, _, h, rfl, by rw [eqGuard_at_bool]; simp only [binOp, Sem.run_bind, Sem.run_pure, Result.andThen_ok, run_equal_bool hu]⟩
  · obtain ⟨hn, h⟩ := cond_none h
    simp only [RepLV] at hx hy; subst hx; subst hy
    exact ⟨_, _, h, rfl, by simp [eqGuard_at_string, binOp, run_string_add_sum _ _ _ hn]⟩
  · simp only [RepLV] at hx hy; subst hx; subst hy
    exact ⟨_, _, h, rfl, by simp [eqGuard_at_string, binOp, Op.stringOp]⟩
  · simp only [RepLV] at hx hy; subst hx; subst hy
    exact ⟨_, _, h, rfl, by simp [eqGuard_at_string, binOp, Op.stringOp]⟩

theorem unLV_sound {R : Type} {op : UnOp} {x : LV} {vx : Value} {m : Nat → Blk} {k : LV → Option R} {z : R} (h : unLV op x k = some z) (hx : RepLV P ρ m w S x vx) :
    ∃ u v, k u = some z ∧ RepLV P ρ m w S u v ∧ (Op.unary op vx).run P w = .ok v w := by
  unfold unLV at h
  split at h <;> try (cases h; done)
  · simp only [RepLV] at hx; subst hx
    exact ⟨_, _, h, rfl, by simp [Op.unary, Op.intArith]⟩
  · simp only [RepLV] at hx; subst hx
    exact ⟨_, _, h, rfl, by simp [Op.unary]⟩
end Go.PM

/-! PmOp1 -/
namespace Go.PM
open Go.RowKit
set_option linter.unusedVariables false
set_option linter.unusedSimpArgs false
variable {P : Program} {Γ : Env} {C : Ctx} {ρ : Nat → Value} {S : Nat → Prop} {st : St} {a : Act} {w : World}

/-- What is to be shown of an operation. -/
def OpGoal (P : Program) (C : Ctx) {R : Type} (o : Oper) (a : Act) (w : World) (k : PV → St → Option R) (y : R) : Prop :=
  ∀ (next : Act → World → Prop) (Q : Exit → Act → World → Prop), (∀ v pv st' ρ' S' w', RepPV P ρ' st'.m w' S' pv v → Rel P C ρ' S' st' a w' → k pv st' = some y → next (a.put o.dst v) w') → o.wp P a w next Q

variable {R : Type} {o : Oper} {k : PV → St → Option R} {y : R}

theorem op_value {v : Value} {pv : PV} {st' : St} {ρ' : Nat → Value} {S' : Nat → Prop} {w' : World} (h : (execOp a.eval o).run P w = .ok (.value v) w') (h1 : RepPV P ρ' st'.m w' S' pv v) (h2 : Rel P C ρ' S' st' a w')
    (h3 : k pv st' = some y) : OpGoal P C o a w k y := fun next Q hn => by unfold Oper.wp; rw [h]; exact hn _ _ _ _ _ _ h1 h2 h3
theorem op_skip {st' : St} {ρ' : Nat → Value} {S' : Nat → Prop} {w' : World} (h : (execOp a.eval o).run P w = .ok .skip w') (h2 : Rel P C ρ' S' st' a w')
    (h3 : k .undef st' = some y) : OpGoal P C o a w k y := fun next Q hn => by unfold Oper.wp; rw [h]; exact hn undef .undef _ _ _ _ trivial h2 h3

theorem exec_move {x : Operand} (ho : o.op = .move x) (w : World) : (execOp a.eval o).run P w = .ok (.value (a.eval x)) w := by simp [execOp, ho]
theorem exec_assign {x : Operand} (ho : o.op = .assign x) (w : World) : (execOp a.eval o).run P w = .ok (.value (a.eval x)) w := by simp [execOp, ho]

theorem op_pick (hΓ : EnvOK P C.G Γ) (r : Rel P C ρ S st a w) {c x z : Operand} (ho : o.op = .pick c x z) {v : Bool} (hc : operand Γ st c = .one (.bool v))
    (h : cond v (seen (operand Γ st x) fun v => k v st) (seen (operand Γ st z) fun v => k v st) = some y) : OpGoal P C o a w k y := by
  have h1 := operand_sound hΓ r c
  rw [hc] at h1
  simp only [RepPV, RepLV] at h1
  rw [seen_eq, seen_eq] at h
  cases v with
  | true => exact op_value (by simp [execOp, ho, h1, asBool]) (operand_sound hΓ r x) r h
  | false => exact op_value (by simp [execOp, ho, h1, asBool]) (operand_sound hΓ r z) r h

theorem newVar_block {T : TypeId} {id : Nat} {cs : List LV} {vs : List Value} {cells : Array Value} (r : Rel P C ρ S st a w) (hf : st.m id = .free) (hc : cells.toList = vs) (hall : All2 (RepLV P ρ st.m w S) cs vs) :
    Rel P C (upd ρ id (.pointer (some ⟨w.heap.size, 0, none⟩))) S { st with m := upd st.m id (.var true cs) } a (w.alloc (.cells cells T)) ∧
    RepPV P (upd ρ id (.pointer (some ⟨w.heap.size, 0, none⟩))) (upd st.m id (.var true cs)) (w.alloc (.cells cells T)) S (.one (.vptr id 0)) (.pointer (some ⟨w.heap.size, 0, none⟩)) := by
  have hb : Below w.heap.size w (w.alloc (.cells cells T)) := (Below.refl _ _).alloc (Nat.le_refl _) _
  have hst : Stab w S (w.alloc (.cells cells T)) S := fun b hb => ⟨hb, heap_alloc_old w _ b (r.sb b hb)⟩
  have ok : ∀ b, Ok1 ρ (upd ρ id (.pointer (some ⟨w.heap.size, 0, none⟩))) st.m (upd st.m id (.var true cs)) b := by
    intro b
    by_cases e : b = id
    · subst e; unfold Ok1; rw [hf]; cases upd st.m b (Blk.var true cs) b <;> trivial
    · exact Ok1.same (upd_other _ _ e) (upd_other _ _ e)
  refine ⟨r.new hf hb (fun g hg => by cases hg; exact Nat.le_refl _) ?_, ?_⟩
  · unfold RepBlk
    rw [upd_same, upd_same]
    refine ⟨w.heap.size, T, vs, rfl, Nat.zero_le _, ?_, All2.mono (fun _ _ h => RepLV.step ok (RepLV.mono hst h)) hall, fun h => by cases h⟩
    rw [heap_alloc_new, ← hc]
  · simp only [RepPV, RepLV, upd_same]
    exact ⟨rfl, _, rfl, rfl⟩

theorem op_alloc (hΓ : EnvOK P C.G Γ) (r : Rel P C ρ S st a w) {e id : Nat} {row : TRow} (ho : o.op = .alloc e) (hT : Γ.T e = some row) (hf : st.m id = .free)
    (h : k (.one (.vptr id 0)) { st with m := upd st.m id (.var true (zeroC row.ty)) } = some y) : OpGoal P C o a w k y := by
  obtain ⟨z, hz, hc⟩ := (hΓ.T e row hT).zeroValue w
  obtain ⟨h1, h2⟩ := newVar_block (T := e) r hf hc (zeroC_sound row.ty)
  exact op_value (by simp [execOp, ho, Instr.alloc, hz, newVar, newRow]) h2 h1 h

theorem op_box (hΓ : EnvOK P C.G Γ) (r : Rel P C ρ S st a w) {e id : Nat} {x : Operand} {g : Bool} {cs : List LV} (ho : o.op = .box e x) (hc : (operand Γ st x).cells = some (g, cs)) (hf : st.m id = .free)
    (h : k (.one (.vptr id 0)) { st with m := upd st.m id (.var true cs) } = some y) : OpGoal P C o a w k y := by
  have hx := (cells_sound (operand_sound hΓ r x) hc).cells
  obtain ⟨h1, h2⟩ := newVar_block (T := e) r hf rfl hx.1
  exact op_value (by simp [execOp, ho, Instr.box, newVar, newRow]) h2 h1 h

theorem op_load (hΓ : EnvOK P C.G Γ) (r : Rel P C ρ S st a w) {t : TypeId} {x : Operand} {row : TRow} (ho : o.op = .load t x) (hT : Γ.T t = some row) {ad : Addr} (hx : a.eval x = .pointer (some ad))
    {cs : List LV} {us : List Value} (hl : us.length = row.ty.size) (hL : Lies w ad us) (hall : All2 (RepLV P ρ st.m w S) cs us)
    (h : k (ofCells row.ty.agg cs) st = some y) : OpGoal P C o a w k y := by
  have h1 : row.ty.agg = false → us.length = 1 := fun hg => by rw [hl]; cases hty : row.ty <;> rw [hty] at hg <;> simp [Ty.agg] at hg <;> rfl
  have hrun := run_load_lies (hΓ.T t row hT) hl hL h1
  exact op_value (by simp [execOp, ho, hx, Instr.loadAt, Instr.sureAddr, hrun]) (ofCells_sound ⟨us, hall, rfl, h1⟩) r h
end Go.PM

/-! PmOp2 -/
namespace Go.PM
open Go.RowKit
set_option linter.unusedVariables false
set_option linter.unusedSimpArgs false
variable {P : Program} {Γ : Env} {C : Ctx} {ρ : Nat → Value} {S : Nat → Prop} {st : St} {a : Act} {w : World}
variable {R : Type} {o : Oper} {k : PV → St → Option R} {y : R}

theorem stab_setRow (r : Rel P C ρ S st a w) {b g : Nat} (hl : (st.m b).live = true) (hg : vb (ρ b) g) (cells : Array Value) : Stab w S (w.setRow g cells) S :=
  fun q hq => ⟨hq, setRow_other w g q cells (fun e => r.out b hl g hg (e ▸ hq))⟩

theorem splice_All2 {α β : Type} {Q : α → β → Prop} {cs ds : List α} {vs us : List β} (h : All2 Q cs vs) (k : All2 Q ds us) (c : Nat) : All2 Q (cs.take c ++ ds ++ cs.drop (c + ds.length)) (vs.take c ++ us ++ vs.drop (c + us.length)) := by
  rw [k.length]
  exact All2.append (All2.append (All2.take c h) k) (All2.drop _ h)

theorem op_store_var (hΓ : EnvOK P C.G Γ) (r : Rel P C ρ S st a w) {t : TypeId} {x z : Operand} {row : TRow} (ho : o.op = .store t x z) (hT : Γ.T t = some row) {b c : Nat} (hx : operand Γ st x = .one (.vptr b c))
    {g : Bool} {ds : List LV} (hz : (operand Γ st z).cells = some (g, ds)) (hlen : ds.length = row.ty.size) {cs : List LV} (hm : st.m b = .var true cs) (hfit : c + ds.length ≤ cs.length)
    (h : k .undef { st with m := upd st.m b (.var true (splice cs c ds)) } = some y) : OpGoal P C o a w k y := by
  have hxv := operand_sound hΓ r x
  rw [hx] at hxv
  simp only [RepPV, RepLV, hm] at hxv
  obtain ⟨_, g1, hρ, hv⟩ := hxv
  obtain ⟨hds, _⟩ := (cells_sound (operand_sound hΓ r z) hz).cells
  have hb := r.mem b
  unfold RepBlk at hb; rw [hm] at hb
  obtain ⟨g2, T, vs, e2, hB, hh, hall, _⟩ := hb
  rw [hρ] at e2; cases e2
  have hl1 : vs.length = cs.length := hall.length.symm
  have hl2 : (a.eval z).cells.size = ds.length := by rw [← Array.length_toList]; exact hds.length.symm
  have hrun := run_store_lies (P := P) (hΓ.T t row hT) (g := g1) (o := c) (v := a.eval z) (by rw [hl2, hlen]) hh (by rw [hl2]; simpa [hl1] using hfit) (All2.ones hds)
  have hlive : (st.m b).live = true := by rw [hm]; rfl
  have hvb : vb (ρ b) g1 := by rw [hρ]
  have ok : Ok1 ρ ρ st.m (upd st.m b (.var true (splice cs c ds))) b := by unfold Ok1; rw [hm, upd_same]
  have ok' : ∀ q, Ok1 ρ ρ st.m (upd st.m b (.var true (splice cs c ds))) q := by
    intro q
    by_cases e : q = b
    · subst e; exact ok
    · exact Ok1.same (upd_other _ _ e) rfl
  refine op_skip (ρ' := ρ) (S' := S) (w' := w.setRow g1 _) (by simp only [execOp, ho, hv, Instr.storeAt, Instr.sureAddr, pure_bind, Sem.run_bind, hrun, Result.andThen_ok, Sem.run_pure]; rfl) ?_ h
  refine r.write hlive hvb (setRow_size _ _ _) (setRow_os _ _ _) (setRow_tape _ _ _) (setRow_output _ _ _) (fun q hq => setRow_other w g1 q _ hq) ok ?_
  unfold RepBlk
  rw [upd_same]
  refine ⟨g1, T, _, hρ, hB, setRow_heap w g1 _ _ T _ hh, ?_, fun h => by cases h⟩
  have hst := stab_setRow r hlive hvb
  have k1 := splice_All2 hall hds c
  refine All2.mono (fun _ _ h => RepLV.step ok' (RepLV.mono (hst _) h)) ?_
  unfold splice
  rw [show c + (a.eval z).cells.size = c + (a.eval z).cells.toList.length by rw [Array.length_toList]]
  exact k1

theorem op_store_row (hΓ : EnvOK P C.G Γ) (r : Rel P C ρ S st a w) {t : TypeId} {x z : Operand} {row : TRow} (ho : o.op = .store t x z) (hT : Γ.T t = some row) {b i : Nat} (hx : operand Γ st x = .one (.rptr b i))
    {g : Bool} {ds : List LV} (hz : (operand Γ st z).cells = some (g, ds)) {tid : Nat} {xs : List (Den row.ty)} (hm : st.m b = .row true tid row.ty xs) {u : Den row.ty} {fz : List Nat}
    (hd : toDen st.m row.ty ds = some (u, fz, [])) (hfz : b ∉ fz)
    (h : k .undef { st with m := upd (still fz st.m) b (.row true tid row.ty (xs.set i u)) } = some y) : OpGoal P C o a w k y := by
  have hxv := operand_sound hΓ r x
  rw [hx] at hxv
  simp only [RepPV, RepLV, hm] at hxv
  obtain ⟨_, hi, g1, n, k1, hρ, hv⟩ := hxv
  obtain ⟨hds, _⟩ := (cells_sound (operand_sound hΓ r z) hz).cells
  obtain ⟨hrv, vs1, vs2, evs, hv2, hD⟩ := toDen_sound r _ _ _ _ _ _ hd hds
  have : vs2 = [] := by
    cases vs2 with
    | nil => rfl
    | cons _ _ => exact hv2.elim
  subst this
  rw [List.append_nil] at evs
  obtain ⟨S1, r1, hS1, hf1⟩ := r.stillS fz
  have hu := hD S1 hS1 (fun b hb => hf1 b hb (by have := hrv b hb; unfold isRV at this; exact this))
  rw [← evs] at hu
  have hm1 : still fz st.m b = .row true tid row.ty xs := by rw [still_at, if_neg hfz, hm]
  have hb := r1.mem b
  unfold RepBlk at hb
  simp only [hm1] at hb
  obtain ⟨cells, hown, hEs, _⟩ := hb
  have hln := RepD.length hu
  have hsz : (a.eval z).cells.size = row.ty.size := by rw [← Array.length_toList]; exact hln
  rcases hown.2 with ⟨e1, _⟩ | ⟨g2, cap, cur, e1, hB, hh, hc1, hc2, hc3, hc4⟩
  · rw [hρ] at e1; cases e1
  · rw [hρ] at e1; cases e1
    have hfit : i * row.ty.size + row.ty.size ≤ xs.length * row.ty.size := by
      have := Nat.mul_le_mul_right row.ty.size (show i + 1 ≤ xs.length from hi)
      rwa [Nat.add_mul, Nat.one_mul] at this
    have hcs : xs.length * row.ty.size ≤ cur.size := by rw [hc3]; exact Nat.mul_le_mul_right _ hc1
    have hrun := run_store_lies (P := P) (hΓ.T t row hT) (g := g1) (o := i * row.ty.size) (v := a.eval z) hsz hh (by rw [hsz]; omega) (RepD.one hu)
    have hlive : (still fz st.m b).live = true := by rw [hm1]; rfl
    have hvb : vb (ρ b) g1 := by rw [hρ]
    refine op_skip (ρ' := ρ) (S' := S1) (w' := w.setRow g1 _) (by simp only [execOp, ho, hv, Instr.storeAt, Instr.sureAddr, pure_bind, Sem.run_bind, hrun, Result.andThen_ok, Sem.run_pure]; rfl) ?_ h
    refine r1.write hlive hvb (setRow_size _ _ _) (setRow_os _ _ _) (setRow_tape _ _ _) (setRow_output _ _ _) (fun q hq => setRow_other w g1 q _ hq) ?_ ?_
    · unfold Ok1; simp only [hm1, upd_same, List.length_set, true_and]
    · unfold RepBlk
      rw [upd_same]
      have hst := stab_setRow r1 hlive hvb
      have hlc : cells.length = xs.length * row.ty.size := hown.1
      refine ⟨cells.take (i * row.ty.size) ++ (a.eval z).cells.toList ++ cells.drop (i * row.ty.size + row.ty.size), ⟨?_, .inr ⟨g1, _, _, by rw [List.length_set]; exact hρ, hB, setRow_heap w g1 _ _ tid _ hh, by rw [List.length_set]; exact hc1, hc2, ?_, ?_⟩⟩, ?_, fun h => by cases h⟩
      · simp only [List.length_append, List.length_take, List.length_drop, List.length_set, hln, hlc]; omega
      · simp only [List.size_toArray, List.length_append, List.length_take, List.length_drop, hln, hsz, Array.length_toList]; omega
      · rw [List.length_set, hsz]
        have e4 : cells = cur.toList.take (xs.length * row.ty.size) := hc4.symm
        have hcl : (cur.toList.take (i * row.ty.size) ++ (a.eval z).cells.toList).length = i * row.ty.size + row.ty.size := by
          rw [List.length_append, List.length_take, hln, Array.length_toList]; omega
        rw [e4, List.take_append, hcl, List.take_of_length_le (by omega), List.take_take, Nat.min_eq_left (by omega), List.drop_take]
      · exact Es.mono (fun x cs h => RepD.mono (hst _) h) (Es.set (n := row.ty.size) (fun x cs h => RepD.length h) i hEs hi hu)
theorem isSl_size {t : Ty} (h : isSl t = true) : t.size = 1 ∧ t.agg = false := by
  cases t <;> simp only [isSl] at h <;> first | (cases h; done) | exact ⟨rfl, rfl⟩
/-- A row that is laid into a row, and stays a block of its own. -/
theorem op_store_loan (hΓ : EnvOK P C.G Γ) (r : Rel P C ρ S st a w) {t : TypeId} {x z : Operand} {row : TRow} (ho : o.op = .store t x z) (hT : Γ.T t = some row) {b i j : Nat} (hx : operand Γ st x = .one (.rptr b i))
    {g : Bool} (hz : (operand Γ st z).cells = some (g, [.own j])) {tid : Nat} {xs : List (Den row.ty)} (hm : st.m b = .row true tid row.ty xs) {l2 : Bool} {tid2 : Nat} {e2 : Ty} {ys : List (Den e2)} (hmj : st.m j = .row l2 tid2 e2 ys)
    (hjb : j ≠ b) (hsl : isSl row.ty = true)
    (h : k .undef { st with m := upd st.m b (.hole tid row.ty xs i j) } = some y) : OpGoal P C o a w k y := by
  have hxv := operand_sound hΓ r x
  rw [hx] at hxv
  simp only [RepPV, RepLV, hm] at hxv
  obtain ⟨_, hi, g1, n, k1, hρ, hv⟩ := hxv
  obtain ⟨hds, _⟩ := (cells_sound (operand_sound hΓ r z) hz).cells
  obtain ⟨v, evs, hvr⟩ := hds.one
  simp only [RepLV, hmj] at hvr
  obtain ⟨hone, hvj⟩ := hvr
  obtain ⟨s1, s2⟩ := isSl_size hsl
  have hb := r.mem b
  unfold RepBlk at hb
  simp only [hm] at hb
  obtain ⟨cells, hown, hEs, _⟩ := hb
  have hsz : (a.eval z).cells.size = row.ty.size := by rw [← Array.length_toList, evs, s1]; rfl
  have hln : (a.eval z).cells.toList.length = row.ty.size := by rw [Array.length_toList]; exact hsz
  have hone' : ∀ u ∈ (a.eval z).cells.toList, u.oneCell' = true := by rw [evs]; intro u hu; rw [List.mem_singleton] at hu; rw [hu]; exact hone
  rcases hown.2 with ⟨e1, _⟩ | ⟨g2, cap, cur, e1, hB, hh, hc1, hc2, hc3, hc4⟩
  · rw [hρ] at e1; cases e1
  · rw [hρ] at e1; cases e1
    have hfit : i * row.ty.size + row.ty.size ≤ xs.length * row.ty.size := by
      have := Nat.mul_le_mul_right row.ty.size (show i + 1 ≤ xs.length from hi)
      rwa [Nat.add_mul, Nat.one_mul] at this
    have hcs : xs.length * row.ty.size ≤ cur.size := by rw [hc3]; exact Nat.mul_le_mul_right _ hc1
    have hrun := run_store_lies (P := P) (hΓ.T t row hT) (g := g1) (o := i * row.ty.size) (v := a.eval z) hsz hh (by rw [hsz]; omega) hone'
    have hlive : (st.m b).live = true := by rw [hm]; rfl
    have hvb : vb (ρ b) g1 := by rw [hρ]
    refine op_skip (ρ' := ρ) (S' := S) (w' := w.setRow g1 _) (by simp only [execOp, ho, hv, Instr.storeAt, Instr.sureAddr, pure_bind, Sem.run_bind, hrun, Result.andThen_ok, Sem.run_pure]; rfl) ?_ h
    refine r.write hlive hvb (setRow_size _ _ _) (setRow_os _ _ _) (setRow_tape _ _ _) (setRow_output _ _ _) (fun q hq => setRow_other w g1 q _ hq) ?_ ?_
    · unfold Ok1; simp only [hm, upd_same, true_and]
    · unfold RepBlk
      rw [upd_same]
      have hst := stab_setRow r hlive hvb
      have hlc : cells.length = xs.length * row.ty.size := hown.1
      have hlc1 : cells.length = xs.length := by rw [hlc, s1, Nat.mul_one]
      have hnew : cells.take (i * row.ty.size) ++ (a.eval z).cells.toList ++ cells.drop (i * row.ty.size + row.ty.size) = cells.take i ++ v :: cells.drop (i + 1) := by
        rw [evs, s1, Nat.mul_one]; simp
      have hil : (cells.take i).length = i := by rw [List.length_take]; omega
      refine ⟨s1, s2, cells.take (i * row.ty.size) ++ (a.eval z).cells.toList ++ cells.drop (i * row.ty.size + row.ty.size), ⟨?_, .inr ⟨g1, _, _, hρ, hB, setRow_heap w g1 _ _ tid _ hh, hc1, hc2, ?_, ?_⟩⟩, ?_, hi, ?_, v, ?_, hone, ?_⟩
      · simp only [List.length_append, List.length_take, List.length_drop, hln, hlc]; omega
      · simp only [List.size_toArray, List.length_append, List.length_take, List.length_drop, hln, hsz, Array.length_toList]; omega
      · rw [hsz]
        have e4 : cells = cur.toList.take (xs.length * row.ty.size) := hc4.symm
        have hcl : (cur.toList.take (i * row.ty.size) ++ (a.eval z).cells.toList).length = i * row.ty.size + row.ty.size := by
          rw [List.length_append, List.length_take, hln, Array.length_toList]; omega
        rw [e4, List.take_append, hcl, List.take_of_length_le (by omega), List.take_take, Nat.min_eq_left (by omega), List.drop_take]
      · rw [hnew, List.length_append, hil, List.length_cons, List.length_drop]; omega
      · intro p x hp hxp
        have hE := Es.get (n := row.ty.size) (fun x cs h => RepD.length h) p hEs hxp
        rw [s1, Nat.mul_one] at hE
        have hpl : p < cells.length := by rw [hlc1]; exact (List.getElem?_eq_some_iff.1 hxp).1
        have e1 : (cells.drop p).take 1 = [cells[p]] := by
          rw [List.drop_eq_getElem_cons hpl]; rfl
        rw [e1] at hE
        refine ⟨cells[p], ?_, RepD.mono (hst _) hE⟩
        rw [hnew]
        rcases Nat.lt_or_gt_of_ne hp with h1 | h1
        · rw [List.getElem?_append_left (by omega), List.getElem?_take_of_lt h1, List.getElem?_eq_getElem hpl]
        · rw [List.getElem?_append_right (by omega), hil]
          obtain ⟨q, hq⟩ : ∃ q, p - i = q + 1 := ⟨p - i - 1, by omega⟩
          rw [hq, List.getElem?_cons_succ, List.getElem?_drop, show i + 1 + q = p by omega, List.getElem?_eq_getElem hpl]
      · rw [hnew, List.getElem?_append_right (by omega), hil, Nat.sub_self]; rfl
      · rw [upd_other _ _ hjb, hmj]; exact hvj
end Go.PM

/-! PmOp3 -/
namespace Go.PM
open Go.RowKit
set_option linter.unusedVariables false
set_option linter.unusedSimpArgs false
variable {P : Program} {Γ : Env} {C : Ctx} {ρ : Nat → Value} {S : Nat → Prop} {st : St} {a : Act} {w : World}
variable {R : Type} {o : Oper} {k : PV → St → Option R} {y : R}

theorem size_pos_of_cast (t u : Ty) : True := trivial

/-- A part of plain data lies where its cells lie. -/
theorem subAt_sound : ∀ (t : Ty) (x : Den t) (off : Nat) (u : Ty) (y : Den u) (es : List Value), subAt t x off u = some y → RepD P t w S x es → RepD P u w S y ((es.drop off).take u.size) := by
  intro t
  induction t with
  | pair a b iha ihb =>
    intro x off u y es h hr
    have hr0 := hr
    simp only [RepD] at hr
    obtain ⟨c1, c2, rfl, h1, h2⟩ := hr
    have hl1 := RepD.length h1
    simp only [subAt] at h
    have hfirst : ∀ z, (match off with | 0 => castTy Den a u x.1 | _ => none) = some z → RepD P u w S z (((c1 ++ c2).drop off).take u.size) := by
      intro z hz
      cases off with
      | succ => cases hz
      | zero =>
        obtain ⟨e, e2⟩ := castTy_eq _ _ _ _ _ hz
        subst e; subst e2
        rw [List.drop_zero, List.take_append_of_le_length (by omega), List.take_of_length_le (by omega)]
        exact h1
    split at h
    · rename_i z hz
      cases h
      exact hfirst _ hz
    · cases hb : Nat.blt off a.size with
      | true =>
        rw [hb] at h
        have hlt : off < a.size := by simpa using hb
        have k := iha x.1 off u y c1 h h1
        have kl := RepD.length k
        rw [List.drop_append, List.take_append_of_le_length]
        · exact k
        · simp only [List.length_take, List.length_drop] at kl ⊢; omega
      | false =>
        rw [hb] at h
        have hge : a.size ≤ off := by
          rcases Nat.lt_or_ge off a.size with h' | h'
          · have h2 : Nat.blt off a.size = true := by simpa using h'
            rw [hb] at h2; cases h2
          · exact h'
        have k := ihb x.2 (off - a.size) u y c2 h h2
        rw [List.drop_append, List.drop_eq_nil_of_le (by omega), List.nil_append, hl1]
        exact k
  | _ => intro x off u y es h; simp only [subAt] at h; cases h

theorem lies_part {ad : Addr} {es : List Value} (h : Lies w ad es) (off n : Nat) : Lies w (ad.add off) ((es.drop off).take n) := lies_take (lies_drop h off) n

theorem fields_get {F : Array Field} {fs : List (Nat × Nat)} (h : F.toList.map (fun f => (f.offset, f.type)) = fs) {f off u : Nat} (hf : fs[f]? = some (off, u)) : ∃ fd, F[f]? = some fd ∧ fd.offset = off ∧ fd.type = u := by
  subst h
  rw [List.getElem?_map] at hf
  cases hF : F.toList[f]? with
  | none => rw [hF] at hf; cases hf
  | some fd => rw [hF] at hf; simp at hf; exact ⟨fd, by simpa using hF, hf.1, hf.2⟩

theorem run_fieldAt {s f off u : Nat} {F : Array Field} {fd : Field} {ur : TRow} {ad : Addr} (hu : P.underlying s = some (.struct F)) (hF : F[f]? = some fd) (ho : fd.offset = off) (ht : fd.type = u) (hr : RowOK P u ur)
    (hs : ur.ty.size ≠ 0) (w : World) : (Instr.fieldAt s (.pointer (some ad)) f).run P w = .ok (.pointer (some (ad.add off))) w := by
  subst ho; subst ht
  simp [Instr.fieldAt, run_underlying hu, hF, Instr.sureAddr, fieldPlace, hr.sizeOf, hs]

theorem op_field_var (hΓ : EnvOK P C.G Γ) (r : Rel P C ρ S st a w) {t f off u : Nat} {x : Operand} {row ur : TRow} {fs : List (Nat × Nat)} (ho : o.op = .fieldAddr t x f) (hT : Γ.T t = some row) (hk : row.kind = .st fs) (hf : fs[f]? = some (off, u)) (hU : Γ.T u = some ur)
    (hs : ur.ty.size ≠ 0) {b c : Nat} (hx : operand Γ st x = .one (.vptr b c)) {l : Bool} {cs : List LV} (hm : st.m b = .var l cs) (h : k (.one (.vptr b (c + off))) st = some y) : OpGoal P C o a w k y := by
  have hxv := operand_sound hΓ r x
  rw [hx] at hxv
  simp only [RepPV, RepLV, hm] at hxv
  obtain ⟨_, g1, hρ, hv⟩ := hxv
  have hk' := (hΓ.T t row hT).kind
  rw [hk] at hk'
  obtain ⟨F, hF, hFs⟩ := hk'
  obtain ⟨fd, h1, h2, h3⟩ := fields_get hFs hf
  have hrun := run_fieldAt (P := P) (ad := ⟨g1, c, none⟩) hF h1 h2 h3 (hΓ.T u ur hU) hs w
  refine op_value (v := .pointer (some ⟨g1, c + off, none⟩)) (by simp [execOp, ho, hv, hrun, Addr.add_lit]) ?_ r h
  simp only [RepPV, RepLV, hm]
  exact ⟨rfl, g1, hρ, rfl⟩

theorem op_field_data (hΓ : EnvOK P C.G Γ) (r : Rel P C ρ S st a w) {t f off u : Nat} {x : Operand} {row ur : TRow} {fs : List (Nat × Nat)} (ho : o.op = .fieldAddr t x f) (hT : Γ.T t = some row) (hk : row.kind = .st fs) (hf : fs[f]? = some (off, u)) (hU : Γ.T u = some ur)
    (hs : ur.ty.size ≠ 0) {z : Den row.ty} (hx : operand Γ st x = .one (.eptr row.ty z)) {q : Den ur.ty} (hq : subAt row.ty z off ur.ty = some q) (h : k (.one (.eptr ur.ty q)) st = some y) : OpGoal P C o a w k y := by
  have hxv := operand_sound hΓ r x
  rw [hx] at hxv
  simp only [RepPV, RepLV, RepD] at hxv
  obtain ⟨ad, es, e1, hS, hD, hL⟩ := hxv
  have hv : a.eval x = .pointer (some ad) := by simpa using e1
  have hk' := (hΓ.T t row hT).kind
  rw [hk] at hk'
  obtain ⟨F, hF, hFs⟩ := hk'
  obtain ⟨fd, h1, h2, h3⟩ := fields_get hFs hf
  have hrun := run_fieldAt (P := P) (ad := ad) hF h1 h2 h3 (hΓ.T u ur hU) hs w
  refine op_value (v := .pointer (some (ad.add off))) (by simp [execOp, ho, hv, hrun]) ?_ r h
  simp only [RepPV, RepLV, RepD]
  exact ⟨ad.add off, _, rfl, by rw [add_block']; exact hS, subAt_sound _ _ _ _ _ _ hq hD, lies_part hL off _⟩

theorem run_indexAt {t e : TypeId} {er : TRow} {ad : Addr} {len cap : Nat} {q : IntKind} {n : Int} (hu : P.underlying t = some (.slice e)) (hr : RowOK P e er) (h0 : 0 ≤ n) (h1 : n < len) (w : World) :
    (Instr.indexAt t (.slice (some ad) len cap) (.int q n)).run P w = .ok (.pointer (some (ad.add (n.toNat * er.ty.size)))) w := by
  simp [Instr.indexAt, run_underlying hu, asIntOf, h0, h1, hr.sizeOf]

theorem op_index_data (hΓ : EnvOK P C.G Γ) (r : Rel P C ρ S st a w) {t e : Nat} {x i : Operand} {row er : TRow} (ho : o.op = .indexAddr t x i) (hT : Γ.T t = some row) (hk : row.kind = .sl e) (hE : Γ.T e = some er) {q : IntKind} {n : Int} (hi : operand Γ st i = .one (.int q n))
    {xs : List (Den er.ty)} (hx : operand Γ st x = .one (.sl er.ty xs)) (h0 : 0 ≤ n) (h1 : n < xs.length) (h : k (.one (.eptr er.ty (xs.getD n.toNat (zeroD er.ty)))) st = some y) : OpGoal P C o a w k y := by
  have hxv := operand_sound hΓ r x
  have hiv := operand_sound hΓ r i
  rw [hx] at hxv
  rw [hi] at hiv
  simp only [RepPV, RepLV, RepD] at hxv hiv
  obtain ⟨A, c, e1, hc, hrest⟩ := hxv
  have hv : a.eval x = .slice A xs.length c := by simpa using e1
  have hk' := (hΓ.T t row hT).kind
  rw [hk] at hk'
  rcases hrest with hnil | ⟨ad, cells, rfl, hS, hEs, hL⟩
  · subst hnil; simp at h1; omega
  · have hrun := run_indexAt (P := P) (ad := ad) (cap := c) (q := q) hk' (hΓ.T e er hE) h0 h1 w
    refine op_value (v := .pointer (some (ad.add (n.toNat * er.ty.size)))) (by simp [execOp, ho, hv, hiv, hrun]) ?_ r h
    simp only [RepPV, RepLV, RepD]
    have hj : n.toNat < xs.length := by omega
    have hg : xs[n.toNat]? = some (xs.getD n.toNat (zeroD er.ty)) := by rw [List.getD_eq_getElem?_getD, List.getElem?_eq_getElem hj]; rfl
    exact ⟨_, _, rfl, by rw [add_block']; exact hS, Es.get (n := er.ty.size) (fun x cs h => RepD.length h) _ hEs hg, lies_part hL _ _⟩

theorem row_slice {b : Nat} (r : Rel P C ρ S st a w) {l : Bool} {tid : Nat} {e : Ty} {xs : List (Den e)} (hm : st.m b = .row l tid e xs) : (ρ b = .slice none 0 0 ∧ xs = []) ∨ ∃ g c, ρ b = .slice (some ⟨g, 0, none⟩) xs.length c ∧ xs.length ≤ c := by
  have hb := r.mem b
  unfold RepBlk at hb; rw [hm] at hb
  obtain ⟨cells, hown, _, _⟩ := hb
  rcases hown.2 with ⟨e1, e2⟩ | ⟨g, cap, cur, e1, _, _, h3, _⟩
  · exact .inl ⟨e1, List.eq_nil_of_length_eq_zero e2⟩
  · exact .inr ⟨g, cap, e1, h3⟩

theorem op_index_own (hΓ : EnvOK P C.G Γ) (r : Rel P C ρ S st a w) {t e : Nat} {x i : Operand} {row er : TRow} (ho : o.op = .indexAddr t x i) (hT : Γ.T t = some row) (hk : row.kind = .sl e) (hE : Γ.T e = some er) {q : IntKind} {n : Int} (hi : operand Γ st i = .one (.int q n))
    {b : Nat} {l : Bool} {tid : Nat} {xs : List (Den er.ty)} (hx : operand Γ st x = .one (.own b)) (hm : st.m b = .row l tid er.ty xs) (h0 : 0 ≤ n) (h1 : n < xs.length) (h : k (.one (.rptr b n.toNat)) st = some y) : OpGoal P C o a w k y := by
  have hxv := operand_sound hΓ r x
  have hiv := operand_sound hΓ r i
  rw [hx] at hxv
  rw [hi] at hiv
  simp only [RepPV, RepLV, hm] at hxv hiv
  have hk' := (hΓ.T t row hT).kind
  rw [hk] at hk'
  rcases row_slice r hm with ⟨_, rfl⟩ | ⟨g, c, hρ, hc⟩
  · simp at h1; omega
  · have hv : a.eval x = .slice (some ⟨g, 0, none⟩) xs.length c := hxv.2.trans hρ
    have hrun := run_indexAt (P := P) (ad := ⟨g, 0, none⟩) (cap := c) (q := q) hk' (hΓ.T e er hE) h0 h1 w
    refine op_value (v := .pointer (some ⟨g, n.toNat * er.ty.size, none⟩)) (by simp [execOp, ho, hv, hiv, hrun, Addr.add_lit]) ?_ r h
    simp only [RepPV, RepLV, hm]
    exact ⟨rfl, by omega, g, _, _, hρ, rfl⟩

theorem hole_slice {b tid : Nat} {e : Ty} {xs : List (Den e)} {i j : Nat} (r : Rel P C ρ S st a w) (hm : st.m b = .hole tid e xs i j) : (ρ b = .slice none 0 0 ∧ xs = []) ∨ ∃ g c, ρ b = .slice (some ⟨g, 0, none⟩) xs.length c ∧ xs.length ≤ c := by
  have hb := r.mem b
  unfold RepBlk at hb; rw [hm] at hb
  obtain ⟨_, _, cells, h1, h2, h3, _⟩ := hb
  rcases h1.2 with ⟨e1, e2⟩ | ⟨g, cap, cur, e1, _, _, hc, _⟩
  · left
    refine ⟨e1, ?_⟩
    cases xs with
    | nil => rfl
    | cons _ _ => simp at e2
  · exact .inr ⟨g, cap, e1, hc⟩
theorem op_index_hole (hΓ : EnvOK P C.G Γ) (r : Rel P C ρ S st a w) {t e : Nat} {x i : Operand} {row er : TRow} (ho : o.op = .indexAddr t x i) (hT : Γ.T t = some row) (hk : row.kind = .sl e) (hE : Γ.T e = some er) {q : IntKind} {n : Int} (hi : operand Γ st i = .one (.int q n))
    {b : Nat} {j1 j2 : Nat} {tid : Nat} {xs : List (Den er.ty)} (hx : operand Γ st x = .one (.own b)) (hm : st.m b = .hole tid er.ty xs j1 j2) (h0 : 0 ≤ n) (h1 : n < xs.length) (h : k (.one (.rptr b n.toNat)) st = some y) : OpGoal P C o a w k y := by
  have hxv := operand_sound hΓ r x
  have hiv := operand_sound hΓ r i
  rw [hx] at hxv
  rw [hi] at hiv
  simp only [RepPV, RepLV, hm] at hxv hiv
  have hk' := (hΓ.T t row hT).kind
  rw [hk] at hk'
  rcases hole_slice r hm with ⟨_, rfl⟩ | ⟨g, c, hρ, hc⟩
  · simp at h1; omega
  · have hv : a.eval x = .slice (some ⟨g, 0, none⟩) xs.length c := hxv.2.trans hρ
    have hrun := run_indexAt (P := P) (ad := ⟨g, 0, none⟩) (cap := c) (q := q) hk' (hΓ.T e er hE) h0 h1 w
    refine op_value (v := .pointer (some ⟨g, n.toNat * er.ty.size, none⟩)) (by simp [execOp, ho, hv, hiv, hrun, Addr.add_lit]) ?_ r h
    simp only [RepPV, RepLV, hm]
    exact ⟨rfl, by omega, g, _, _, hρ, rfl⟩

theorem op_index_sub (hΓ : EnvOK P C.G Γ) (r : Rel P C ρ S st a w) {t e : Nat} {x i : Operand} {row er : TRow} (ho : o.op = .indexAddr t x i) (hT : Γ.T t = some row) (hk : row.kind = .sl e) (hE : Γ.T e = some er) {q : IntKind} {n : Int} (hi : operand Γ st i = .one (.int q n))
    {b off len : Nat} {l : Bool} {tid : Nat} {xs : List (Den er.ty)} (hx : operand Γ st x = .one (.sub b off len)) (hm : st.m b = .row l tid er.ty xs) (h0 : 0 ≤ n) (h1 : n < len) (h : k (.one (.rptr b (off + n.toNat))) st = some y) : OpGoal P C o a w k y := by
  have hxv := operand_sound hΓ r x
  have hiv := operand_sound hΓ r i
  rw [hx] at hxv
  rw [hi] at hiv
  simp only [RepPV, RepLV, hm] at hxv hiv
  obtain ⟨_, hlen, A, c, hv, hc, hA⟩ := hxv
  have hk' := (hΓ.T t row hT).kind
  rw [hk] at hk'
  obtain ⟨g, n', k', hρ, rfl⟩ := hA (by omega)
  have hrun := run_indexAt (P := P) (ad := ⟨g, off * er.ty.size, none⟩) (len := len) (cap := c) (q := q) hk' (hΓ.T e er hE) h0 (by omega) w
  refine op_value (v := .pointer (some ⟨g, (off + n.toNat) * er.ty.size, none⟩)) (by simp [execOp, ho, hv, hiv, hrun, Addr.add_lit, Nat.add_mul]) ?_ r h
  simp only [RepPV, RepLV, hm]
  exact ⟨rfl, by omega, g, _, _, hρ, rfl⟩

theorem run_indexAtA {t e : TypeId} {er : TRow} {g c len : Nat} {q : IntKind} {n : Int} (hu : P.underlying t = some (.array len e)) (hr : RowOK P e er) (h0 : 0 ≤ n) (h1 : n < len) (w : World) :
    (Instr.indexAt t (.pointer (some ⟨g, c, none⟩)) (.int q n)).run P w = .ok (.pointer (some ⟨g, c + n.toNat * er.ty.size, none⟩)) w := by
  simp [Instr.indexAt, run_underlying hu, asIntOf, h0, h1, hr.sizeOf, Instr.sureAddr, Addr.add_lit]
theorem op_index_var (hΓ : EnvOK P C.G Γ) (r : Rel P C ρ S st a w) {t e len : Nat} {x i : Operand} {row er : TRow} (ho : o.op = .indexAddr t x i) (hT : Γ.T t = some row) (hk : row.kind = .arr len e) (hE : Γ.T e = some er) {q : IntKind} {n : Int} (hi : operand Γ st i = .one (.int q n))
    {b c : Nat} (hx : operand Γ st x = .one (.vptr b c)) {l : Bool} {cs : List LV} (hm : st.m b = .var l cs) (h0 : 0 ≤ n) (h1 : n < len) (h : k (.one (.vptr b (c + n.toNat * er.ty.size))) st = some y) : OpGoal P C o a w k y := by
  have hxv := operand_sound hΓ r x
  have hiv := operand_sound hΓ r i
  rw [hx] at hxv
  rw [hi] at hiv
  simp only [RepPV, RepLV, hm] at hxv hiv
  obtain ⟨_, g1, hρ, hv⟩ := hxv
  have hk' := (hΓ.T t row hT).kind
  rw [hk] at hk'
  have hrun := run_indexAtA (P := P) (g := g1) (c := c) (q := q) hk' (hΓ.T e er hE) h0 h1 w
  refine op_value (v := .pointer (some ⟨g1, c + n.toNat * er.ty.size, none⟩)) (by simp [execOp, ho, hv, hiv, hrun]) ?_ r h
  simp only [RepPV, RepLV, hm]
  exact ⟨rfl, g1, hρ, rfl⟩
theorem op_index_str (hΓ : EnvOK P C.G Γ) (r : Rel P C ρ S st a w) {t : Nat} {x i : Operand} (ho : o.op = .index t x i) {s : ByteArray} {q : IntKind} {n : Int} (hi : operand Γ st i = .one (.int q n)) (hx : operand Γ st x = .one (.str s))
    {row : TRow} (hT : Γ.T t = some row) (hk : row.kind = .str) (h0 : 0 ≤ n) (h1 : n < s.size) (h : k (.one (.int .u8 (bt s n))) st = some y) : OpGoal P C o a w k y := by
  have hxv := operand_sound hΓ r x
  have hiv := operand_sound hΓ r i
  rw [hx] at hxv
  rw [hi] at hiv
  simp only [RepPV, RepLV] at hxv hiv
  have hk' := (hΓ.T t row hT).kind
  rw [hk] at hk'
  have hj : n.toNat < s.size := by omega
  have hg : s[n.toNat]? = some (s.data.getD n.toNat 0) := by
    rw [getElem?_pos s n.toNat hj, Array.getD_eq_getD_getElem?, Array.getElem?_eq_getElem (show n.toNat < s.data.size from hj)]
    rfl
  refine op_value (v := .int .u8 (bt s n)) ?_ (by simp only [RepPV, RepLV]) r h
  have : (Instr.index t (.string s) (.int q n)).run P w = .ok (.int .u8 (bt s n)) w := by
    unfold Instr.index
    simp [asIntOf, run_underlying hk', h0, hg, bt]
  simp [execOp, ho, hxv, hiv, this]

theorem op_index_arr (hΓ : EnvOK P C.G Γ) (r : Rel P C ρ S st a w) {t e len : Nat} {x i : Operand} (ho : o.op = .index t x i) {cs : List LV} {q : IntKind} {n : Int} (hi : operand Γ st i = .one (.int q n)) (hx : operand Γ st x = .agg cs)
    {row er : TRow} (hT : Γ.T t = some row) (hk : row.kind = .arr len e) (hE : Γ.T e = some er) (h0 : 0 ≤ n) (h1 : n < len) (hfit : n.toNat * er.ty.size + er.ty.size ≤ cs.length)
    (h : k (ofCells er.ty.agg ((cs.drop (n.toNat * er.ty.size)).take er.ty.size)) st = some y) : OpGoal P C o a w k y := by
  have hxv := operand_sound hΓ r x
  have hiv := operand_sound hΓ r i
  rw [hx] at hxv
  rw [hi] at hiv
  simp only [RepPV, RepLV] at hxv hiv
  obtain ⟨vs, hall, hv⟩ := hxv
  have hk' := (hΓ.T t row hT).kind
  rw [hk] at hk'
  have hl := hall.length
  have hus : ((vs.drop (n.toNat * er.ty.size)).take er.ty.size).length = er.ty.size := by rw [List.length_take, List.length_drop]; omega
  have h1' : er.ty.agg = false → ((vs.drop (n.toNat * er.ty.size)).take er.ty.size).length = 1 := fun hg => by rw [hus]; cases hty : er.ty <;> rw [hty] at hg <;> simp [Ty.agg] at hg <;> rfl
  refine op_value (v := valOf er.ty.agg ((vs.drop (n.toNat * er.ty.size)).take er.ty.size)) ?_ (ofCells_sound ⟨_, All2.take _ (All2.drop _ hall), rfl, h1'⟩) r h
  have : (Instr.index t (.agg vs.toArray) (.int q n)).run P w = .ok (valOf er.ty.agg ((vs.drop (n.toNat * er.ty.size)).take er.ty.size)) w := by
    cases hg : er.ty.agg with
    | true =>
      simp [Instr.index, asIntOf, run_underlying hk', h0, h1, part, (hΓ.T e er hE).isAgg, (hΓ.T e er hE).sizeOf, hg, valOf]
    | false =>
      have := h1' hg
      match hq : (vs.drop (n.toNat * er.ty.size)).take er.ty.size, this with
      | [u], _ =>
        have hu : vs[n.toNat * er.ty.size]? = some u := by
          have := getElem?_take_drop (l := vs) (o := n.toNat * er.ty.size) (n := er.ty.size) (j := 0) (v := u) (by rw [hq]; rfl)
          simpa using this
        simp [Instr.index, asIntOf, run_underlying hk', h0, h1, part, (hΓ.T e er hE).isAgg, (hΓ.T e er hE).sizeOf, hg, valOf, hu]
  simp [execOp, ho, hv, hiv, this]

theorem op_field (hΓ : EnvOK P C.G Γ) (r : Rel P C ρ S st a w) {t f off u : Nat} {x : Operand} (ho : o.op = .field t x f) {cs : List LV} (hx : operand Γ st x = .agg cs)
    {row ur : TRow} {fs : List (Nat × Nat)} (hT : Γ.T t = some row) (hk : row.kind = .st fs) (hf : fs[f]? = some (off, u)) (hU : Γ.T u = some ur) (hfit : off + ur.ty.size ≤ cs.length)
    (h : k (ofCells ur.ty.agg ((cs.drop off).take ur.ty.size)) st = some y) : OpGoal P C o a w k y := by
  have hxv := operand_sound hΓ r x
  rw [hx] at hxv
  simp only [RepPV, RepLV] at hxv
  obtain ⟨vs, hall, hv⟩ := hxv
  have hk' := (hΓ.T t row hT).kind
  rw [hk] at hk'
  obtain ⟨F, hF, hFs⟩ := hk'
  obtain ⟨fd, h1, h2, h3⟩ := fields_get hFs hf
  have hl := hall.length
  have hus : ((vs.drop off).take ur.ty.size).length = ur.ty.size := by rw [List.length_take, List.length_drop]; omega
  have h1' : ur.ty.agg = false → ((vs.drop off).take ur.ty.size).length = 1 := fun hg => by rw [hus]; cases hty : ur.ty <;> rw [hty] at hg <;> simp [Ty.agg] at hg <;> rfl
  refine op_value (v := valOf ur.ty.agg ((vs.drop off).take ur.ty.size)) ?_ (ofCells_sound ⟨_, All2.take _ (All2.drop _ hall), rfl, h1'⟩) r h
  have : (Instr.field t (.agg vs.toArray) f).run P w = .ok (valOf ur.ty.agg ((vs.drop off).take ur.ty.size)) w := by
    cases hg : ur.ty.agg with
    | true =>
      simp [Instr.field, run_underlying hF, h1, h2, h3, part, (hΓ.T u ur hU).isAgg, (hΓ.T u ur hU).sizeOf, hg, valOf, asAgg]
    | false =>
      have := h1' hg
      match hq : (vs.drop off).take ur.ty.size, this with
      | [z], _ =>
        have hu : vs[off]? = some z := by
          have := getElem?_take_drop (l := vs) (o := off) (n := ur.ty.size) (j := 0) (v := z) (by rw [hq]; rfl)
          simpa using this
        simp [Instr.field, run_underlying hF, h1, h2, h3, part, (hΓ.T u ur hU).isAgg, (hΓ.T u ur hU).sizeOf, hg, valOf, hu, asAgg]
  simp [execOp, ho, hv, this]

theorem op_extract (hΓ : EnvOK P C.G Γ) (r : Rel P C ρ S st a w) {x : Operand} {i : Nat} (ho : o.op = .extract x i) {l : List (Bool × List LV)} (hx : operand Γ st x = .tup l) {g : Bool} {cs : List LV} (hi : l[i]? = some (g, cs))
    (h : k (ofCells g cs) st = some y) : OpGoal P C o a w k y := by
  have hxv := operand_sound hΓ r x
  rw [hx] at hxv
  simp only [RepPV] at hxv
  obtain ⟨vs, hv, hall⟩ := hxv
  have aux : ∀ (l : List (Bool × List LV)) (vs : List Value) (i : Nat), All2 (fun (x : Bool × List LV) v => RepC P ρ st.m w S x.1 x.2 v) l vs → l[i]? = some (g, cs) → ∃ v, vs[i]? = some v ∧ RepC P ρ st.m w S g cs v := by
    intro l
    induction l with
    | nil => intro vs i _ h; cases h
    | cons x l ih =>
      intro vs i hall h
      match vs, hall with
      | v :: vs, ⟨h1, h2⟩ =>
        cases i with
        | zero => cases h; exact ⟨v, rfl, h1⟩
        | succ i => exact ih vs i h2 h
  obtain ⟨v, hvi, hC⟩ := aux l vs i hall hi
  refine op_value (v := v) ?_ (ofCells_sound hC) r h
  simp [execOp, ho, hv, Instr.extract, hvi]
end Go.PM

/-! PmOp4 -/
namespace Go.PM
open Go.RowKit
set_option linter.unusedVariables false
set_option linter.unusedSimpArgs false
variable {P : Program} {Γ : Env} {C : Ctx} {ρ : Nat → Value} {S : Nat → Prop} {st : St} {a : Act} {w : World}
variable {R : Type} {o : Oper} {k : PV → St → Option R} {y : R}

def RepO (P : Program) (ρ : Nat → Value) (m : Nat → Blk) (w : World) (S : Nat → Prop) : Option LV → Option Value → Prop
  | none, none => True
  | some x, some v => RepLV P ρ m w S x v
  | _, _ => False

theorem optLV_sound (hΓ : EnvOK P C.G Γ) (r : Rel P C ρ S st a w) {x : Option Operand} {l : Option LV} (h : optLV Γ st x = some l) : RepO P ρ st.m w S l (x.map a.eval) := by
  cases x with
  | none => cases h; trivial
  | some x =>
    simp only [optLV] at h
    have := operand_sound hΓ r x
    split at h
    · rename_i v hv
      cases h
      rw [hv] at this
      exact this
    · cases h

theorem sliceBounds_sound {len cap : Nat} {low high max : Option LV} {lo hi mx : Option Value} {m : Nat → Blk} {k : Int → Int → Option R} {y : R} (h : sliceBounds (len : Int) low high max k = some y)
    (hlo : RepO P ρ m w S low lo) (hhi : RepO P ρ m w S high hi) (hmx : RepO P ρ m w S max mx) (hc : len ≤ cap) (isS : Bool) :
    ∃ l h q : Nat, k l h = some y ∧ l ≤ h ∧ h ≤ len ∧ h ≤ q ∧ q ≤ cap ∧ (max = none → q = cap) ∧ (Instr.sliceBounds isS len cap lo hi mx).run P w = .ok (l, h, q) w := by
  unfold sliceBounds at h
  split at h
  · match lo, hi, mx, hlo, hhi, hmx with
    | none, none, none, _, _, _ => exact ⟨0, len, cap, h, Nat.zero_le _, Nat.le_refl _, hc, Nat.le_refl _, fun _ => rfl, by simp [Instr.sliceBounds]⟩
  · match lo, hi, mx, hlo, hhi, hmx with
    | some v, none, none, hlo, _, _ =>
      obtain ⟨h0, k0⟩ := cond_none h
      obtain ⟨h1, k1⟩ := cond_none k0
      simp only [RepO, RepLV] at hlo; subst hlo
      rename_i l
      obtain ⟨n, rfl⟩ := Int.eq_ofNat_of_zero_le h0
      exact ⟨n, len, cap, k1, by omega, Nat.le_refl _, hc, Nat.le_refl _, fun _ => rfl, by simp [Instr.sliceBounds, run_sliceBound _ _ _ _ _ h0 h1]⟩
  · match lo, hi, mx, hlo, hhi, hmx with
    | none, some v, none, _, hhi, _ =>
      obtain ⟨h0, k0⟩ := cond_none h
      obtain ⟨h1, k1⟩ := cond_none k0
      simp only [RepO, RepLV] at hhi; subst hhi
      obtain ⟨n, rfl⟩ := Int.eq_ofNat_of_zero_le h0
      exact ⟨0, n, cap, k1, by omega, by omega, by omega, Nat.le_refl _, fun _ => rfl, by simp [Instr.sliceBounds, run_sliceBound _ _ _ _ _ h0 (show (n : Int) ≤ (cap : Int) by omega)]⟩
  · match lo, hi, mx, hlo, hhi, hmx with
    | some u, some v, none, hlo, hhi, _ =>
      obtain ⟨h0, k0⟩ := cond_none h
      obtain ⟨h1, k1⟩ := cond_none k0
      obtain ⟨h2, k2⟩ := cond_none k1
      simp only [RepO, RepLV] at hhi hlo; subst hhi; subst hlo
      obtain ⟨n, rfl⟩ := Int.eq_ofNat_of_zero_le h0
      obtain ⟨q, rfl⟩ := Int.eq_ofNat_of_zero_le (Int.le_trans h0 h1)
      exact ⟨n, q, cap, k2, by omega, by omega, by omega, Nat.le_refl _, fun _ => rfl, by simp [Instr.sliceBounds, run_sliceBound _ _ _ _ _ (show (0 : Int) ≤ (q : Int) by omega) (show (q : Int) ≤ (cap : Int) by omega), run_sliceBound _ _ _ _ _ h0 h1]⟩
  · match lo, hi, mx, hlo, hhi, hmx with
    | none, some v, some u, _, hhi, hmx =>
      obtain ⟨h0, k0⟩ := cond_none h
      obtain ⟨h1, k1⟩ := cond_none k0
      obtain ⟨h2, k2⟩ := cond_none k1
      simp only [RepO, RepLV] at hhi hmx; subst hhi; subst hmx
      obtain ⟨n, rfl⟩ := Int.eq_ofNat_of_zero_le h0
      obtain ⟨q, rfl⟩ := Int.eq_ofNat_of_zero_le (Int.le_trans h0 h1)
      exact ⟨0, n, q, k2, by omega, by omega, by omega, by omega, (fun h => by cases h), by simp [Instr.sliceBounds, run_sliceBound _ _ _ _ _ (show (0 : Int) ≤ (q : Int) by omega) (show (q : Int) ≤ (cap : Int) by omega), run_sliceBound _ _ _ _ _ h0 h1]⟩
  · match lo, hi, mx, hlo, hhi, hmx with
    | some z, some v, some u, hlo, hhi, hmx =>
      obtain ⟨h0, k0⟩ := cond_none h
      obtain ⟨h1, k1⟩ := cond_none k0
      obtain ⟨h2, k2⟩ := cond_none k1
      obtain ⟨h3, k3⟩ := cond_none k2
      simp only [RepO, RepLV] at hhi hmx hlo; subst hhi; subst hmx; subst hlo
      obtain ⟨n, rfl⟩ := Int.eq_ofNat_of_zero_le h0
      obtain ⟨q, rfl⟩ := Int.eq_ofNat_of_zero_le (Int.le_trans h0 h1)
      obtain ⟨p, rfl⟩ := Int.eq_ofNat_of_zero_le (Int.le_trans (Int.le_trans h0 h1) h2)
      exact ⟨n, q, p, k3, by omega, by omega, by omega, by omega, (fun h => by cases h), by simp [Instr.sliceBounds, run_sliceBound _ _ _ _ _ (show (0 : Int) ≤ (p : Int) by omega) (show (p : Int) ≤ (cap : Int) by omega), run_sliceBound _ _ _ _ _ (show (0 : Int) ≤ (q : Int) by omega) h2, run_sliceBound _ _ _ _ _ h0 h1]⟩
  · cases h

theorem run_slice_row {t e : TypeId} {er : TRow} {A : Option Addr} {len cap : Nat} {lo hi mx : Option Value} {l h q : Nat} (hu : P.underlying t = some (.slice e)) (hr : RowOK P e er)
    (hb : (Instr.sliceBounds true len cap lo hi mx).run P w = .ok (l, h, q) w) : (Instr.sliceAt t (.slice A len cap) lo hi mx).run P w = .ok (.slice (if q = l then A else A.map (·.add (l * er.ty.size))) (h - l) (q - l)) w := by
  simp [Instr.sliceAt, Instr.slice, run_underlying hu, hb, hr.sizeOf]

theorem op_slice_data (hΓ : EnvOK P C.G Γ) (r : Rel P C ρ S st a w) {t e : Nat} {x : Operand} {lo hi mx : Option Operand} {row er : TRow} (ho : o.op = .slice t x lo hi mx) (hT : Γ.T t = some row) (hk : row.kind = .sl e) (hE : Γ.T e = some er)
    {l h' m : Option LV} (hl : optLV Γ st lo = some l) (hh : optLV Γ st hi = some h') (hm : optLV Γ st mx = some m) {xs : List (Den er.ty)} (hx : operand Γ st x = .one (.sl er.ty xs))
    (h : sliceBounds (xs.length : Int) l h' m (fun a b => k (.one (.sl er.ty ((xs.take b.toNat).drop a.toNat))) st) = some y) : OpGoal P C o a w k y := by
  have hxv := operand_sound hΓ r x
  rw [hx] at hxv
  simp only [RepPV, RepLV, RepD] at hxv
  obtain ⟨A, c, e1, hc, hrest⟩ := hxv
  have hv : a.eval x = .slice A xs.length c := by simpa using e1
  have hk' := (hΓ.T t row hT).kind
  rw [hk] at hk'
  obtain ⟨p, q, z, hkk, h1, h2, h3, h4, _, hb⟩ := sliceBounds_sound h (optLV_sound hΓ r hl) (optLV_sound hΓ r hh) (optLV_sound hΓ r hm) hc true
  have hrun := run_slice_row (A := A) hk' (hΓ.T e er hE) hb
  simp only [Int.toNat_natCast] at hkk
  refine op_value (v := .slice (if z = p then A else A.map (·.add (p * er.ty.size))) (q - p) (z - p)) (by simp [execOp, ho, hv, hrun]) ?_ r hkk
  simp only [RepPV, RepLV, RepD]
  have hlen : ((xs.take q).drop p).length = q - p := by rw [List.length_drop, List.length_take]; omega
  refine ⟨_, z - p, by rw [hlen], by omega, ?_⟩
  by_cases hpq : p = q
  · exact .inl (List.eq_nil_of_length_eq_zero (by rw [hlen]; omega))
  · rcases hrest with hnil | ⟨ad, cells, rfl, hS, hEs, hL⟩
    · subst hnil; simp at h2; omega
    · refine .inr ⟨ad.add (p * er.ty.size), (cells.take (q * er.ty.size)).drop (p * er.ty.size), by rw [if_neg (by omega)]; rfl, by rw [add_block']; exact hS, ?_, lies_drop (lies_take hL _) _⟩
      exact Es.drop (n := er.ty.size) (fun x cs h => RepD.length h) p (Es.take (n := er.ty.size) (fun x cs h => RepD.length h) q hEs)

theorem op_slice_str (hΓ : EnvOK P C.G Γ) (r : Rel P C ρ S st a w) {t : Nat} {x : Operand} {lo hi mx : Option Operand} {row : TRow} (ho : o.op = .slice t x lo hi mx) (hT : Γ.T t = some row) (hk : row.kind = .str)
    {l h' : Option LV} (hl : optLV Γ st lo = some l) (hh : optLV Γ st hi = some h') (hm : optLV Γ st mx = some none) {s : ByteArray} (hx : operand Γ st x = .one (.str s))
    (h : sliceBounds (s.size : Int) l h' none (fun a b => k (.one (.str (s.extract a.toNat b.toNat))) st) = some y) : OpGoal P C o a w k y := by
  have hxv := operand_sound hΓ r x
  rw [hx] at hxv
  simp only [RepPV, RepLV] at hxv
  have hk' := (hΓ.T t row hT).kind
  rw [hk] at hk'
  have hmm := optLV_sound hΓ r hm
  have hmn : mx.map a.eval = none := by
    cases mx with
    | none => rfl
    | some => exact hmm.elim
  obtain ⟨p, q, z, hkk, h1, h2, h3, h4, _, hb⟩ := sliceBounds_sound (cap := s.size) h (optLV_sound hΓ r hl) (optLV_sound hΓ r hh) hmm (Nat.le_refl _) false
  rw [hmn] at hb
  simp only [Int.toNat_natCast] at hkk
  refine op_value (v := .string (s.extract p q)) ?_ (by simp only [RepPV, RepLV]) r hkk
  have hmn' : mx = none := by cases mx <;> simp at hmn ⊢
  subst hmn'
  simp [execOp, ho, hxv, Instr.sliceAt, Instr.slice, run_underlying hk', hb]

theorem op_slice_own (hΓ : EnvOK P C.G Γ) (r : Rel P C ρ S st a w) {t e : Nat} {x : Operand} {lo hi mx : Option Operand} {row er : TRow} (ho : o.op = .slice t x lo hi mx) (hT : Γ.T t = some row) (hk : row.kind = .sl e) (hE : Γ.T e = some er)
    {l h' m : Option LV} (hl : optLV Γ st lo = some l) (hh : optLV Γ st hi = some h') (hmx : optLV Γ st mx = some m) {b : Nat} {lv : Bool} {tid : Nat} {xs : List (Den er.ty)} (hx : operand Γ st x = .one (.own b)) (hm : st.m b = .row lv tid er.ty xs)
    (h : sliceBounds (xs.length : Int) l h' m (fun p q => k (.one (.sub b p.toNat (q.toNat - p.toNat))) st) = some y) : OpGoal P C o a w k y := by
  have hxv := operand_sound hΓ r x
  rw [hx] at hxv
  simp only [RepPV, RepLV, hm] at hxv
  have hk' := (hΓ.T t row hT).kind
  rw [hk] at hk'
  rcases row_slice r hm with ⟨hρ, rfl⟩ | ⟨g, c, hρ, hc⟩
  · obtain ⟨p, q, z, hkk, h1, h2, h3, h4, _, hb⟩ := sliceBounds_sound (cap := 0) h (optLV_sound hΓ r hl) (optLV_sound hΓ r hh) (optLV_sound hΓ r hmx) (Nat.le_refl _) true
    have hv : a.eval x = .slice none 0 0 := hxv.2.trans hρ
    have hrun := run_slice_row (A := none) hk' (hΓ.T e er hE) hb
    rw [Option.map_none, ite_self, List.length_nil] at hrun
    simp only [Int.toNat_natCast] at hkk
    refine op_value (v := .slice none (q - p) (z - p)) (by simp [execOp, ho, hv, hrun]) ?_ r hkk
    simp only [List.length_nil] at h2
    simp only [RepPV, RepLV, hm]
    exact ⟨rfl, by simp; omega, _, _, rfl, by omega, fun h => by omega⟩
  · obtain ⟨p, q, z, hkk, h1, h2, h3, h4, _, hb⟩ := sliceBounds_sound h (optLV_sound hΓ r hl) (optLV_sound hΓ r hh) (optLV_sound hΓ r hmx) hc true
    have hv : a.eval x = .slice (some ⟨g, 0, none⟩) xs.length c := hxv.2.trans hρ
    have hrun := run_slice_row (A := some ⟨g, 0, none⟩) hk' (hΓ.T e er hE) hb
    simp only [Int.toNat_natCast] at hkk
    refine op_value (v := .slice (if z = p then some ⟨g, 0, none⟩ else Option.map (fun (ad : Addr) => ad.add (p * er.ty.size)) (some ⟨g, 0, none⟩)) (q - p) (z - p)) (by simp [execOp, ho, hv, hrun]) ?_ r hkk
    simp only [RepPV, RepLV, hm]
    refine ⟨rfl, by omega, _, _, rfl, by omega, fun h => ⟨g, _, _, hρ, ?_⟩⟩
    rw [if_neg (by omega)]
    simp [Addr.add_lit]

theorem op_slice_sub (hΓ : EnvOK P C.G Γ) (r : Rel P C ρ S st a w) {t e : Nat} {x : Operand} {lo hi mx : Option Operand} {row er : TRow} (ho : o.op = .slice t x lo hi mx) (hT : Γ.T t = some row) (hk : row.kind = .sl e) (hE : Γ.T e = some er)
    {l h' m : Option LV} (hl : optLV Γ st lo = some l) (hh : optLV Γ st hi = some h') (hmx : optLV Γ st mx = some m) {b off len : Nat} {lv : Bool} {tid : Nat} {xs : List (Den er.ty)} (hx : operand Γ st x = .one (.sub b off len)) (hm : st.m b = .row lv tid er.ty xs)
    (h : sliceBounds (len : Int) l h' m (fun p q => k (.one (.sub b (off + p.toNat) (q.toNat - p.toNat))) st) = some y) : OpGoal P C o a w k y := by
  have hxv := operand_sound hΓ r x
  rw [hx] at hxv
  simp only [RepPV, RepLV, hm] at hxv
  obtain ⟨_, hlen, A, c, hv, hc, hA⟩ := hxv
  have hk' := (hΓ.T t row hT).kind
  rw [hk] at hk'
  obtain ⟨p, q, z, hkk, h1, h2, h3, h4, _, hb⟩ := sliceBounds_sound h (optLV_sound hΓ r hl) (optLV_sound hΓ r hh) (optLV_sound hΓ r hmx) hc true
  have hrun := run_slice_row (A := A) hk' (hΓ.T e er hE) hb
  simp only [Int.toNat_natCast] at hkk
  refine op_value (v := .slice (if z = p then A else A.map (·.add (p * er.ty.size))) (q - p) (z - p)) (by simp [execOp, ho, hv, hrun]) ?_ r hkk
  simp only [RepPV, RepLV, hm]
  refine ⟨rfl, by omega, _, _, rfl, by omega, fun h => ?_⟩
  obtain ⟨g, n', k', hρ, rfl⟩ := hA (by omega)
  refine ⟨g, n', k', hρ, ?_⟩
  rw [if_neg (by omega)]
  simp [Addr.add_lit, Nat.add_mul]

theorem op_conv_int (hΓ : EnvOK P C.G Γ) (r : Rel P C ρ S st a w) {s d : Nat} {x : Operand} {sr dr : TRow} (ho : o.op = .convert s d x) (hs : Γ.T s = some sr) (hd : Γ.T d = some dr) {c0 c : IntKind} (hsk : sr.kind = .int c0) (hdk : dr.kind = .int c) {q : IntKind} {n : Int}
    (hx : operand Γ st x = .one (.int q n)) (h : k (.one (.int c (c.wrap n))) st = some y) : OpGoal P C o a w k y := by
  have hxv := operand_sound hΓ r x
  rw [hx] at hxv
  simp only [RepPV, RepLV] at hxv
  have h1 := (hΓ.T s sr hs).kind
  have h2 := (hΓ.T d dr hd).kind
  rw [hsk] at h1; rw [hdk] at h2
  exact op_value (v := .int c (c.wrap n)) (by simp [execOp, ho, hxv, convert, run_underlying h1, run_underlying h2, Conv.intToInt]) (by simp only [RepPV, RepLV]) r h

theorem op_conv_str (hΓ : EnvOK P C.G Γ) (r : Rel P C ρ S st a w) {s d : Nat} {x : Operand} {sr dr : TRow} (ho : o.op = .convert s d x) (hs : Γ.T s = some sr) (hd : Γ.T d = some dr) (hsk : sr.kind = .str) (hdk : dr.kind = .str) {z : ByteArray}
    (hx : operand Γ st x = .one (.str z)) (h : k (.one (.str z)) st = some y) : OpGoal P C o a w k y := by
  have hxv := operand_sound hΓ r x
  rw [hx] at hxv
  simp only [RepPV, RepLV] at hxv
  have h1 := (hΓ.T s sr hs).kind
  have h2 := (hΓ.T d dr hd).kind
  rw [hsk] at h1; rw [hdk] at h2
  exact op_value (v := .string z) (by simp [execOp, ho, hxv, convert, run_underlying h1, run_underlying h2]) (by simp only [RepPV, RepLV]) r h

theorem Es_int {q : IntKind} : ∀ {xs : List Int} {cs : List Value}, Es (fun (x : Int) es => es = [Value.int q x]) xs cs → cs = xs.map (Value.int q)
  | [], _, h => by simp only [Es] at h; rw [h]; rfl
  | x :: xs, _, ⟨c1, c2, e, h1, h2⟩ => by
    rw [e, h1, Es_int h2]; rfl

theorem push_foldl (xs : List Int) : ∀ acc : ByteArray, xs.foldl (fun r n => r.push (UInt8.ofNat n.toNat)) acc = ⟨(acc.data.toList ++ xs.map fun n => UInt8.ofNat n.toNat).toArray⟩ := by
  induction xs with
  | nil => intro acc; simp
  | cons x xs ih =>
    intro acc
    rw [List.foldl_cons, ih]
    congr 1
    apply Array.ext'
    simp [ByteArray.push]

theorem run_bytes {src dst e : TypeId} (h1 : P.underlying src = some (.slice e)) (h2 : P.underlying dst = some .string) (h3 : P.underlying e = some (.int .u8)) {xs : List Int} {v : Value} (hr : RepD P (.sl (.int .u8)) w S xs [v]) :
    (convert src dst v).run P w = .ok (.string (toStr xs)) w := by
  simp only [RepD] at hr
  obtain ⟨A, c, e1, hc, hrest⟩ := hr
  have hv : v = .slice A xs.length c := by simpa using e1
  subst hv
  have hto : toStr xs = xs.foldl (fun r n => r.push (UInt8.ofNat n.toNat)) ByteArray.empty := by rw [push_foldl]; simp [toStr]
  cases A with
  | none =>
    have hx : xs = [] := by
      rcases hrest with h | ⟨_, _, h, _⟩
      · exact h
      · cases h
    subst hx
    simp [convert, run_underlying h1, run_underlying h2, run_underlying h3, Conv.bytesToString, toStr]
    rfl
  | some ad =>
    have hload : (loadCells ad xs.length).run P w = .ok (xs.map (Value.int .u8)).toArray w := by
      rcases hrest with h | ⟨ad', cells, h, hS, hEs, hL⟩
      · subst h; simp [loadCells, loadCellsFrom]
      · cases h
        have := Es_int hEs
        subst this
        have := run_loadCells_list (P := P) w ad _ hL
        rwa [List.length_map] at this
    have := run_bytesToString (P := P) w ad xs.length c xs hload
    rw [hto]
    simp [convert, run_underlying h1, run_underlying h2, run_underlying h3, this]

theorem madeCells_flatten (z : Value) (vs : List Value) (h : z.cells.toList = vs) (n : Nat) : (madeCells z.cells (n * vs.length)).toList = (List.replicate n vs).flatten := by
  have hz : z.cells.size = vs.length := by rw [← h]; simp
  induction n with
  | zero => simp [madeCells]
  | succ n ih =>
    rw [List.replicate_succ', List.flatten_append, ← ih]
    apply List.ext_getElem?
    intro j
    rw [Nat.add_mul, Nat.one_mul]
    by_cases hj : j < n * vs.length
    · rw [List.getElem?_append_left (by simp [madeCells]; exact hj)]
      simp [madeCells, hj, show j < n * vs.length + vs.length by omega]
    · rw [List.getElem?_append_right (by simp [madeCells]; omega)]
      by_cases hj2 : j < n * vs.length + vs.length
      · have hmod : j % vs.length = j - n * vs.length := by
          obtain ⟨d, rfl⟩ : ∃ d, j = n * vs.length + d := ⟨j - n * vs.length, by omega⟩
          rw [Nat.add_comm, Nat.add_mul_mod_self_right, Nat.mod_eq_of_lt (by omega)]; omega
        have hlt : j - n * vs.length < z.cells.size := by omega
        simp only [madeCells, Array.toList_map, Array.toList_range, List.getElem?_map, List.getElem?_range hj2, Option.map_some, hz, hmod]
        rw [getElem!_pos z.cells (j - n * vs.length) hlt]
        simp only [List.replicate, List.flatten_cons, List.flatten_nil, List.append_nil, List.length_map, List.length_range]
        rw [← Array.getElem?_eq_getElem hlt, ← Array.getElem?_toList, h]
      · rw [List.getElem?_eq_none (by simp [madeCells]; omega), List.getElem?_eq_none (by simp [madeCells]; omega)]

theorem op_make (hΓ : EnvOK P C.G Γ) (r : Rel P C ρ S st a w) {t e id : Nat} {lo co : Operand} {row er : TRow} (ho : o.op = .makeSlice t lo co) (hsame : a.eval co = a.eval lo) (hT : Γ.T t = some row) (hk : row.kind = .sl e) (hE : Γ.T e = some er) {n : Int}
    (hn : operand Γ st lo = .one (.int .i64 n)) (hf : st.m id = .free) (hp : er.ty.plain = true) (h0 : 0 ≤ n) (hb : n * er.bytes ≤ 140737488351232) (hb1 : n ≤ 140737488351232)
    (h : k (.one (.own id)) { st with m := upd st.m id (.row true e er.ty (List.replicate n.toNat (zeroD er.ty))) } = some y) : OpGoal P C o a w k y := by
  have hnv := operand_sound hΓ r lo
  rw [hn] at hnv
  simp only [RepPV, RepLV] at hnv
  obtain ⟨i, z, hi, hz, hs, hby, hc⟩ := (hΓ.T e er hE).get
  have hk' := (hΓ.T t row hT).kind
  rw [hk] at hk'
  obtain ⟨q, rfl⟩ := Int.eq_ofNat_of_zero_le h0
  have hlen : (zeroV er.ty).length = er.ty.size := RepD.length (zeroD_sound (P := P) (w := w) (S := S) er.ty hp)
  obtain ⟨w', hrun, hown, hg⟩ := run_make_full (P := P) w w.heap.size t e i z er.ty.size hk' hi hz hs .i64 .i64 q (by rw [hby, Nat.mul_comm]; omega) (by simp only [maxLen]; omega) (Nat.le_refl _)
  have hbel : Below w.heap.size w w' := ⟨hg.os, hg.tape, hg.output, hg.size, fun b hb => hg.block b hb (by simp)⟩
  rw [← hlen, madeCells_flatten z _ hc q, hlen] at hown
  have r' := r.new (id := id) (blk := .row true e er.ty (List.replicate q (zeroD er.ty))) (v := .slice (some ⟨w.heap.size, 0, none⟩) q q) hf hbel (fun g hg => by cases hg; exact Nat.le_refl _) (by
    unfold RepBlk
    rw [upd_same, upd_same]
    refine ⟨_, by rw [List.length_replicate]; exact ownsRow_base hown (Nat.zero_le _), Es.replicate (zeroD_sound er.ty hp) q, fun h => by cases h⟩)
  refine op_value (v := .slice (some ⟨w.heap.size, 0, none⟩) q q) (by simp [execOp, ho, hsame, hnv, hrun]) ?_ r' h
  simp only [RepPV, RepLV, upd_same]
  exact ⟨rfl, trivial⟩
end Go.PM

/-! PmOp5 -/
namespace Go.PM
open Go.RowKit
set_option linter.unusedVariables false
set_option linter.unusedSimpArgs false
variable {P : Program} {Γ : Env} {C : Ctx} {ρ : Nat → Value} {S : Nat → Prop} {st : St} {a : Act} {w : World}
variable {R : Type} {o : Oper} {k : PV → St → Option R} {y : R}

theorem set_foldl (us : List Value) : ∀ (off i : Nat) (cells : List Value), off + i + us.length ≤ cells.length →
    ((us.zipIdx i).foldl (fun cs (c, j) => cs.setIfInBounds (off + j) c) cells.toArray).toList = cells.take (off + i) ++ us ++ cells.drop (off + i + us.length) := by
  induction us with
  | nil => intro off i cells h; simp
  | cons u us ih =>
    intro off i cells h
    simp only [List.zipIdx_cons, List.foldl_cons, List.length_cons] at h ⊢
    rw [show cells.toArray.setIfInBounds (off + i) u = (cells.set (off + i) u).toArray by simp]
    rw [ih off (i + 1) (cells.set (off + i) u) (by simp; omega)]
    have e := list_seg_step cells (off + i) u us (by omega)
    simpa [Nat.add_assoc] using e

theorem fill_cons {place : Nat → Option (Nat × Nat)} {cells : List Value} {i off size : Nat} {v : Value} {rest : List (Nat × Value)} (hp : place i = some (off, size)) (hs : v.cells.size = size) (hf : off + size ≤ cells.length) :
    Instr.fill place cells.toArray ((i, v) :: rest) = Instr.fill place (cells.take off ++ v.cells.toList ++ cells.drop (off + size)).toArray rest := by
  have := set_foldl v.cells.toList off 0 cells (by simp [hs]; omega)
  simp only [Nat.add_zero, Array.length_toList] at this
  rw [Instr.fill, hp]
  simp only [hs, ne_eq, not_true_eq_false, false_or, List.size_toArray]
  rw [if_neg (by simp; omega)]
  congr 1
  apply Array.ext'
  rw [← hs, ← this]
  rw [← Array.foldl_toList, Array.toList_zipIdx]

theorem partsC_sound (hΓ : EnvOK P C.G Γ) (r : Rel P C ρ S st a w) {place : Nat → Option (Nat × Ty)} {pv : Nat → Option (Nat × Nat)} (hp : ∀ i off u, place i = some (off, u) → pv i = some (off, u.size)) :
    ∀ (parts : List (Nat × Operand)) (cs cs' : List LV) (vs : List Value), partsC Γ st parts place cs = some cs' → All2 (RepLV P ρ st.m w S) cs vs →
      ∃ vs', Instr.fill pv vs.toArray (parts.map fun q => (q.1, a.eval q.2)) = some vs'.toArray ∧ All2 (RepLV P ρ st.m w S) cs' vs' := by
  intro parts
  induction parts with
  | nil => intro cs cs' vs h hall; simp only [partsC] at h; cases h; exact ⟨vs, by simp [Instr.fill], hall⟩
  | cons q parts ih =>
    obtain ⟨i, x⟩ := q
    intro cs cs' vs h hall
    simp only [partsC] at h
    split at h
    · rename_i off u g ds hpl hc
      cases hb : (g == u.agg && (Nat.beq ds.length u.size && Nat.ble (off + u.size) cs.length)) with
      | false => rw [hb] at h; cases h
      | true =>
        rw [hb] at h
        simp only [cond_true] at h
        simp only [Bool.and_eq_true, Nat.beq_eq, Nat.ble_eq] at hb
        obtain ⟨_, hl, hfit⟩ := hb
        obtain ⟨hds, _⟩ := (cells_sound (operand_sound hΓ r x) hc).cells
        have hsz : (a.eval x).cells.size = u.size := by rw [← Array.length_toList, ← hds.length, hl]
        have hall' := All2.append (All2.append (All2.take off hall) hds) (All2.drop (off + u.size) hall)
        obtain ⟨vs', h1, h2⟩ := ih _ _ _ h hall'
        refine ⟨vs', ?_, h2⟩
        rw [List.map_cons, fill_cons (hp i off u hpl) hsz (by rw [← hall.length]; exact hfit)]
        exact h1
    · cases h

theorem op_build_st (hΓ : EnvOK P C.G Γ) (r : Rel P C ρ S st a w) {t : Nat} {parts : Array (Nat × Operand)} {row : TRow} {fs : List (Nat × Nat)} (ho : o.op = .build t parts) (hT : Γ.T t = some row) (hk : row.kind = .st fs) (hall : fs.all (fun q => (Γ.T q.2).isSome) = true) {cs : List LV}
    (hp : partsC Γ st parts.toList (fun i => match fs[i]? with | some (off, u) => (match Γ.T u with | some ur => some (off, ur.ty) | none => none) | none => none) (zeroC row.ty) = some cs)
    (h : k (.agg cs) st = some y) : OpGoal P C o a w k y := by
  have hk' := (hΓ.T t row hT).kind
  rw [hk] at hk'
  obtain ⟨F, hF, hFs⟩ := hk'
  obtain ⟨z, hz, hzc⟩ := (hΓ.T t row hT).zeroValue w
  have hmapM : ∀ (l : List Field), (∀ f ∈ l, ∃ ur, Γ.T f.type = some ur) → (l.mapM fun f => Prod.mk f.offset <$> sizeOf f.type).run P w = .ok (l.map fun f => (f.offset, match Γ.T f.type with | some ur => ur.ty.size | none => 0)) w := by
    intro l
    induction l with
    | nil => intro _; simp
    | cons f l ih =>
      intro hl
      obtain ⟨ur, hur⟩ := hl f (by simp)
      have := ih (fun g hg => hl g (by simp [hg]))
      simp [List.mapM_cons, (hΓ.T f.type ur hur).sizeOf, this, hur]
  have hm := hmapM F.toList (by
    intro f hf
    have : (f.offset, f.type) ∈ fs := by rw [← hFs]; exact List.mem_map.2 ⟨f, hf, rfl⟩
    have := List.all_eq_true.1 hall _ this
    exact Option.isSome_iff_exists.1 this)
  obtain ⟨vs', h1, h2⟩ := partsC_sound hΓ r (pv := fun i => (F.toList.map fun f => (f.offset, match Γ.T f.type with | some ur => ur.ty.size | none => 0))[i]?) (by
    intro i off u hi
    cases hfi : fs[i]? with
    | none => rw [hfi] at hi; cases hi
    | some q =>
      obtain ⟨off', u'⟩ := q
      rw [hfi] at hi
      simp only at hi
      cases hu : Γ.T u' with
      | none => rw [hu] at hi; cases hi
      | some ur =>
        rw [hu] at hi
        cases hi
        rw [← hFs, List.getElem?_map] at hfi
        rw [List.getElem?_map]
        cases hF' : F.toList[i]? with
        | none => rw [hF'] at hfi; cases hfi
        | some fd =>
          rw [hF'] at hfi
          simp at hfi
          obtain ⟨h1, h2⟩ := hfi
          simp [h1, h2, hu]) _ _ _ _ hp (zeroC_sound row.ty)
  refine op_value (pv := .agg cs) (v := .agg vs'.toArray) ?_ ⟨vs', h2, rfl⟩ r h
  have hrun : (Instr.build t (parts.map fun q => (q.1, a.eval q.2))).run P w = .ok (.agg vs'.toArray) w := by
    have hzc' : z.cells = (zeroV row.ty).toArray := by rw [← hzc]
    simp only [Instr.build, Sem.run_bind, hz, Result.andThen_ok, run_underlying hF, Array.mapM_eq_mapM_toList]
    simp only [bind_pure_comp, Sem.run_map, hm, Result.andThen_ok, Array.toList_map, hzc']
    have h1' : Instr.fill (fun x => (List.map (fun f => (f.offset, match Γ.T f.type with | some ur => ur.ty.size | none => 0)) F.toList).toArray[x]?) (zeroV row.ty).toArray (List.map (fun q => (q.1, a.eval q.2)) parts.toList) = some vs'.toArray := by
      simpa using h1
    rw [h1']
    rfl
  simp only [execOp, ho]
  simp only [Sem.run_bind, hrun, Result.andThen_ok, Sem.run_pure]

theorem op_build_arr (hΓ : EnvOK P C.G Γ) (r : Rel P C ρ S st a w) {t n e : Nat} {parts : Array (Nat × Operand)} {row er : TRow} (ho : o.op = .build t parts) (hT : Γ.T t = some row) (hk : row.kind = .arr n e) (hE : Γ.T e = some er) {cs : List LV}
    (hp : partsC Γ st parts.toList (fun i => bif Nat.blt i n then some (i * er.ty.size, er.ty) else none) (zeroC row.ty) = some cs)
    (h : k (.agg cs) st = some y) : OpGoal P C o a w k y := by
  have hk' := (hΓ.T t row hT).kind
  rw [hk] at hk'
  obtain ⟨z, hz, hzc⟩ := (hΓ.T t row hT).zeroValue w
  obtain ⟨vs', h1, h2⟩ := partsC_sound hΓ r (pv := fun i => some (i * er.ty.size, er.ty.size)) (by
    intro i off u hi
    cases hb : Nat.blt i n with
    | false => rw [hb] at hi; cases hi
    | true => rw [hb] at hi; cases hi; rfl) _ _ _ _ hp (zeroC_sound row.ty)
  refine op_value (pv := .agg cs) (v := .agg vs'.toArray) ?_ ⟨vs', h2, rfl⟩ r h
  have hrun : (Instr.build t (parts.map fun q => (q.1, a.eval q.2))).run P w = .ok (.agg vs'.toArray) w := by
    have hzc' : z.cells = (zeroV row.ty).toArray := by rw [← hzc]
    simp only [Instr.build, Sem.run_bind, hz, Result.andThen_ok, run_underlying hk', (hΓ.T e er hE).sizeOf, Array.toList_map, hzc', h1]
    rfl
  simp only [execOp, ho]
  simp only [Sem.run_bind, hrun, Result.andThen_ok, Sem.run_pure]

theorem partsR_sound (hΓ : EnvOK P C.G Γ) (r : Rel P C ρ S st a w) (e : Ty) : ∀ (parts : List (Nat × Operand)) (n : Nat) (xs : List (Den e)) (fz : List Nat), partsR Γ st e parts n = some (xs, fz) →
    xs.length = parts.length ∧ (∀ b ∈ fz, isRV (st.m b)) ∧ (∀ done rest : List Value, done.length = n * e.size → rest.length = parts.length * e.size →
      Instr.fill (fun i => some (i * e.size, e.size)) (done ++ rest).toArray (parts.map fun q => (q.1, a.eval q.2)) = some (done ++ (parts.map fun q => (a.eval q.2).cells.toList).flatten).toArray) ∧
        ∀ S' : Nat → Prop, (∀ k, S k → S' k) → (∀ b ∈ fz, ∀ g, vb (ρ b) g → S' g) → Es (fun x es => RepD P e w S' x es) xs (parts.map fun q => (a.eval q.2).cells.toList).flatten := by
  intro parts
  induction parts with
  | nil =>
    intro n xs fz h
    simp only [partsR] at h; cases h
    refine ⟨rfl, by simp, fun done rest _ hr => ?_, fun _ _ _ => by simp [Es]⟩
    have : rest = [] := List.eq_nil_of_length_eq_zero (by simpa using hr)
    subst this
    simp [Instr.fill]
  | cons q parts ih =>
    obtain ⟨i, x⟩ := q
    intro n xs fz h
    simp only [partsR] at h
    cases hi : Nat.beq i n with
    | false => rw [hi] at h; cases h
    | true =>
      rw [hi] at h
      simp only [cond_true] at h
      have hi' : i = n := Nat.eq_of_beq_eq_true hi
      subst hi'
      split at h
      · rename_i g cs hc
        cases hg : (g == e.agg) with
        | false => rw [hg] at h; cases h
        | true =>
          rw [hg] at h
          simp only [cond_true] at h
          split at h
          · rename_i x1 f1 hd
            split at h
            · rename_i xs1 f2 hr
              cases h
              obtain ⟨k1, k2, k3, k4⟩ := ih _ _ _ hr
              obtain ⟨hds, _⟩ := (cells_sound (operand_sound hΓ r x) hc).cells
              obtain ⟨l1, vs1, vs2, e1, l2, l3⟩ := toDen_sound r _ _ _ _ _ _ hd hds
              have : vs2 = [] := by
                cases vs2 with
                | nil => rfl
                | cons _ _ => exact l2.elim
              subst this
              rw [List.append_nil] at e1
              have hlen : (a.eval x).cells.toList.length = e.size := by
                have := l3 (fun k => S k ∨ ∃ b ∈ f1, vb (ρ b) k) (fun k hk => .inl hk) (fun b hb g hg => .inr ⟨b, hb, hg⟩)
                rw [e1]; exact RepD.length this
              have hsz : (a.eval x).cells.size = e.size := by rw [← Array.length_toList]; exact hlen
              refine ⟨by simp [k1], fun b hb => (List.mem_append.1 hb).elim (l1 b) (k2 b), fun done rest hd1 hr1 => ?_, fun S' hS hf => ?_⟩
              · have hr2 : rest.length = parts.length * e.size + e.size := by rw [hr1, List.length_cons, Nat.add_mul, Nat.one_mul]
                have m1 := k3 (done ++ (a.eval x).cells.toList) (rest.drop e.size) (by rw [List.length_append, hd1, hlen, Nat.add_mul, Nat.one_mul]) (by rw [List.length_drop, hr2]; omega)
                rw [List.map_cons, List.map_cons, List.flatten_cons, fill_cons (off := i * e.size) rfl hsz (by rw [List.length_append, hd1, hr2]; omega)]
                rw [← List.append_assoc, ← m1]
                congr 2
                rw [← hd1, List.take_left, List.append_assoc, List.append_assoc]
                congr 2
                rw [List.drop_append, List.drop_eq_nil_of_le (by omega), List.nil_append]
                congr 1
                omega
              · rw [List.map_cons, List.flatten_cons]
                exact ⟨_, _, rfl, by rw [e1]; exact l3 S' hS (fun b hb => hf b (List.mem_append.2 (.inl hb))), k4 S' hS (fun b hb => hf b (List.mem_append.2 (.inr hb)))⟩
            · cases h
          · cases h
      · cases h

theorem run_buildSlice {t len e : Nat} {er : TRow} {parts : Array (Nat × Value)} {new : List Value} (hu : P.underlying t = some (.slice e)) (hr : RowOK P e er) (hsz : len * er.ty.size ≤ 1000)
    (hfill : ∀ cells0 : List Value, cells0.length = len * er.ty.size → Instr.fill (fun i => some (i * er.ty.size, er.ty.size)) cells0.toArray parts.toList = some new.toArray) (w : World) :
    (Instr.buildSlice t len parts).run P w = .ok (.slice (some ⟨w.heap.size, 0, none⟩) len len) (w.alloc (.cells new.toArray e)) := by
  have hno : ¬ (len * er.ty.size > 2 ^ 24) := by omega
  obtain ⟨z, hz, hzc⟩ := hr.zeroValue w
  by_cases h0 : len * er.ty.size = 0
  · have := hfill [] (by simp [h0])
    simp only [Instr.buildSlice, Sem.run_bind, run_underlying hu, Result.andThen_ok, hr.sizeOf, Sem.run_ite, if_neg hno, Sem.run_pure, if_pos h0]
    rw [show (Array.map (fun x => (#[] : Array Value)[x % (#[] : Array Value).size]!) (Array.range (len * er.ty.size))) = ([] : List Value).toArray by rw [h0]; simp, this]
    simp [newRow]
  · have := hfill ((Array.range (len * er.ty.size)).map (z.cells[· % z.cells.size]!)).toList (by simp)
    simp only [Instr.buildSlice, Sem.run_bind, run_underlying hu, Result.andThen_ok, hr.sizeOf, Sem.run_ite, if_neg hno, Sem.run_pure, if_neg h0, hz]
    rw [Array.toArray_toList] at this
    rw [this]
    simp [newRow]

theorem op_buildSlice (hΓ : EnvOK P C.G Γ) (r : Rel P C ρ S st a w) {t len e id : Nat} {parts : Array (Nat × Operand)} {row er : TRow} (ho : o.op = .buildSlice t len parts) (hT : Γ.T t = some row) (hk : row.kind = .sl e) (hE : Γ.T e = some er) (hf : st.m id = .free)
    {xs : List (Den er.ty)} {fz : List Nat} (hp : partsR Γ st er.ty parts.toList 0 = some (xs, fz)) (hl : xs.length = len) (hsz : len * er.ty.size ≤ 1000) (hpos : 1 ≤ er.ty.size)
    (h : k (.one (.own id)) { st with m := upd (still fz st.m) id (.row true e er.ty xs) } = some y) : OpGoal P C o a w k y := by
  have hk' := (hΓ.T t row hT).kind
  rw [hk] at hk'
  obtain ⟨k1, k2, k3, k4⟩ := partsR_sound hΓ r er.ty _ _ _ _ hp
  obtain ⟨S1, r1, hS1, hf1⟩ := r.stillS fz
  have hlp : parts.toList.length = len := by rw [← hl]; exact k1.symm
  obtain ⟨new, hfill, hEs⟩ : ∃ new : List Value, (∀ cells0 : List Value, cells0.length = len * er.ty.size → Instr.fill (fun i => some (i * er.ty.size, er.ty.size)) cells0.toArray (parts.toList.map fun q => (q.1, a.eval q.2)) = some new.toArray) ∧ Es (fun x es => RepD P er.ty w S1 x es) xs new :=
    ⟨_, fun cells0 hc0 => by have := k3 [] cells0 (by simp) (by rw [hc0, hlp]); simpa only [List.nil_append] using this, k4 S1 hS1 (fun b hb => hf1 b hb (by have := k2 b hb; unfold isRV at this; exact this))⟩
  have hnl : new.length = len * er.ty.size := by rw [Es.length (n := er.ty.size) (fun x cs h => RepD.length h) hEs, hl]
  have hfree : still fz st.m id = .free := by rw [still_at, hf]; split <;> rfl
  have hbel : Below w.heap.size w (w.alloc (.cells new.toArray e)) := (Below.refl _ _).alloc (Nat.le_refl _) _
  have hst : Stab w S1 (w.alloc (.cells new.toArray e)) S1 := fun b hb => ⟨hb, heap_alloc_old w _ b (r1.sb b hb)⟩
  have r' := r1.new (id := id) (blk := .row true e er.ty xs) (v := .slice (some ⟨w.heap.size, 0, none⟩) len len) hfree hbel (fun g hg => by cases hg; exact Nat.le_refl _) (by
    unfold RepBlk
    rw [upd_same, upd_same]
    refine ⟨new, ⟨by rw [hnl, hl], .inr ⟨w.heap.size, len, new.toArray, by rw [hl], Nat.zero_le _, heap_alloc_new w _, by omega, ?_, by simp [hnl], ?_⟩⟩, Es.mono (fun x cs h => RepD.mono hst h) hEs, fun h => by cases h⟩
    · have : len ≤ len * er.ty.size := Nat.le_mul_of_pos_right _ hpos
      simp only [maxLen]; omega
    · rw [hl, ← hnl]; simp)
  refine op_value (v := .slice (some ⟨w.heap.size, 0, none⟩) len len) ?_ ?_ r' h
  · have hrun := run_buildSlice (parts := parts.map fun q => (q.1, a.eval q.2)) (new := new) hk' (hΓ.T e er hE) hsz (by rw [Array.toList_map]; exact hfill) w
    simp only [execOp, ho]
    simp only [Sem.run_bind, hrun, Result.andThen_ok, Sem.run_pure]
  · simp only [RepPV, RepLV, upd_same]
    exact ⟨rfl, trivial⟩
end Go.PM

/-! PmOp6 -/
namespace Go.PM
open Go.RowKit
set_option linter.unusedVariables false
set_option linter.unusedSimpArgs false
variable {P : Program} {Γ : Env} {C : Ctx} {ρ : Nat → Value} {S : Nat → Prop} {st : St} {a : Act} {w : World}
variable {R : Type} {o : Oper} {k : PV → St → Option R} {y : R}

/-- A slice's elements, wherever they lie. -/
theorem listOf_sound (r : Rel P C ρ S st a w) {e : Ty} {x : LV} {v : Value} {xs : List (Den e)} {fz : List Nat} {rest : List LV} (h0 : toDenL st.m e x = some (xs, fz, rest)) (hr : RepLV P ρ st.m w S x v) :
    ∃ A c, v = .slice A xs.length c ∧ xs.length ≤ c ∧ (xs = [] ∨ ∃ ad cells, A = some ad ∧ Es (fun x es => RepD P e w S x es) xs cells ∧ Lies w ad cells ∧ ad.block < w.heap.size) := by
  obtain ⟨hsh, h⟩ : shallow st.m x = true ∧ toDen st.m (.sl e) [x] = some (xs, fz, rest) := by
    unfold toDenL at h0
    cases hs : shallow st.m x with
    | true => rw [hs] at h0; exact ⟨rfl, h0⟩
    | false => rw [hs] at h0; cases h0
  cases x with
  | nil =>
    simp only [toDen] at h; cases h
    simp only [RepLV] at hr
    exact ⟨none, 0, by rw [hr]; rfl, Nat.le_refl _, .inl rfl⟩
  | sl e' ys =>
    simp only [toDen] at h
    split at h
    · rename_i zs hz
      obtain ⟨he, hz⟩ := castTy_eq _ _ _ _ _ hz
      subst he; subst hz; cases h
      simp only [RepLV, RepD] at hr
      obtain ⟨A, c, e1, hc, hrest⟩ := hr
      refine ⟨A, c, by simpa using e1, hc, hrest.imp (fun h => h) ?_⟩
      rintro ⟨ad, cells, h1, hS, h2, h3⟩
      exact ⟨ad, cells, h1, h2, h3, r.sb _ hS⟩
    · cases h
  | own b =>
    simp only [toDen] at h
    cases hm : st.m b with
    | row l tid e' ys =>
      rw [hm] at h
      simp only at h
      split at h
      · rename_i zs hz
        obtain ⟨he, hz⟩ := castTy_eq _ _ _ _ _ hz
        subst he; subst hz; cases h
        simp only [RepLV, hm] at hr
        have hb := r.mem b
        unfold RepBlk at hb; rw [hm] at hb
        obtain ⟨cells, hown, hEs, _⟩ := hb
        rcases hown.2 with ⟨e1, e2⟩ | ⟨g, cap, cur, e1, _, hh, h3, _, _, h6⟩
        · have : ys = [] := List.eq_nil_of_length_eq_zero e2
          subst this
          exact ⟨none, 0, by rw [hr.2, e1]; rfl, Nat.le_refl _, .inl rfl⟩
        · refine ⟨_, cap, by rw [hr.2, e1], h3, .inr ⟨_, cells, rfl, hEs, lies_row hh 0 fun j u hu => ?_, (Array.getElem?_eq_some_iff.1 hh).1⟩⟩
          rw [Nat.zero_add]
          rw [← h6, List.getElem?_take] at hu
          split at hu
          · simpa using hu
          · cases hu
      · cases h
    | deep => simp only [shallow, hm] at hsh; cases hsh
    | _ => rw [hm] at h; cases h
  | sub b off len =>
    simp only [toDen] at h
    cases hm : st.m b with
    | row l tid e' ys =>
      rw [hm] at h
      simp only at h
      split at h
      · rename_i zs hz
        obtain ⟨he, hz⟩ := castTy_eq _ _ _ _ _ hz
        subst he; subst hz; cases h
        simp only [RepLV, hm] at hr
        obtain ⟨_, hlen, A, c, hv, hc, hA⟩ := hr
        have hb := r.mem b
        unfold RepBlk at hb; rw [hm] at hb
        obtain ⟨cells, hown, hEs, _⟩ := hb
        have hl : ((ys.drop off).take len).length = len := by rw [List.length_take, List.length_drop]; omega
        refine ⟨A, c, hv.trans (by rw [hl]), by rw [hl]; exact hc, ?_⟩
        rcases Nat.eq_zero_or_pos len with h0 | h0
        · exact .inl (List.eq_nil_of_length_eq_zero (by rw [hl]; exact h0))
        · obtain ⟨g, n, k, hρ, hA⟩ := hA h0
          refine .inr ⟨_, (cells.drop (off * e'.size)).take (len * e'.size), hA, Es.take (n := e'.size) (fun x cs h => RepD.length h) len (Es.drop (n := e'.size) (fun x cs h => RepD.length h) off hEs), ?_⟩
          rcases hown.2 with ⟨e1, _⟩ | ⟨g', cap, cur, e1, _, hh, _, _, _, h6⟩
          · rw [hρ] at e1; cases e1
          · rw [hρ] at e1; cases e1
            refine ⟨lies_row hh _ fun j u hu => ?_, (Array.getElem?_eq_some_iff.1 hh).1⟩
            have := getElem?_take_drop hu
            rw [← h6, List.getElem?_take] at this
            split at this
            · simpa using this
            · cases this
      · cases h
    | _ => rw [hm] at h; cases h
  | _ => simp only [toDen] at h; cases h

theorem op_conv_bytes (hΓ : EnvOK P C.G Γ) (r : Rel P C ρ S st a w) {s d e : Nat} {x : Operand} {sr dr er : TRow} (ho : o.op = .convert s d x) (hs : Γ.T s = some sr) (hd : Γ.T d = some dr) (hsk : sr.kind = .sl e) (hdk : dr.kind = .str) (hE : Γ.T e = some er) (hek : er.kind = .int .u8) {z : LV}
    (hx : operand Γ st x = .one z) (h : listOf Γ st (.int .u8) z (fun xs => k (.one (.str (toStr xs))) st) = some y) : OpGoal P C o a w k y := by
  have hxv := operand_sound hΓ r x
  rw [hx] at hxv
  simp only [RepPV] at hxv
  unfold listOf at h
  split at h
  · rename_i xs fz rest hto
    obtain ⟨A, c, hv, hc, hrest⟩ := listOf_sound r hto hxv
    have h1 := (hΓ.T s sr hs).kind
    have h2 := (hΓ.T d dr hd).kind
    have h3 := (hΓ.T e er hE).kind
    rw [hsk] at h1; rw [hdk] at h2; rw [hek] at h3
    have hrep : RepD P (.sl (.int .u8)) w (fun b => b < w.heap.size) xs [a.eval x] := by
      simp only [RepD]
      refine ⟨A, c, by rw [hv], hc, hrest.imp (fun h => h) ?_⟩
      rintro ⟨ad, cells, e1, e2, e3, e4⟩
      exact ⟨ad, cells, e1, e4, by simpa only [RepD] using e2, e3⟩
    have hrun := run_bytes h1 h2 h3 hrep
    exact op_value (v := .string (toStr xs)) (by simp [execOp, ho, hrun]) (by simp only [RepPV, RepLV]) r h
  · cases h

/-- Memory grows, and one block, that nothing leads to any more, may have been written. -/
theorem Rel.grown (r : Rel P C ρ S st a w) {w' : World} {row : Option Nat} (hg : w.grownBy w' row) (hrow : ∀ g, row = some g → (C.w0.heap.size ≤ g ∨ C.mx g) ∧ ¬ S g ∧ ∀ b, (st.m b).live = true → ¬ vb (ρ b) g) : Rel P C ρ S st a w' := by
  have hs : Stab w S w' S := fun b hb => ⟨hb, hg.block b (r.sb b hb) (fun e => (hrow b e.symm).2.1 hb)⟩
  have hB := r.below.size
  refine Rel.step (m' := st.m) r hs ?_ (fun b hb => Nat.lt_of_lt_of_le (r.sb b hb) hg.size) r.s1 (fun b => Ok1.same rfl rfl) (fun b => RepBlk.mono hs (r.mem b) fun hl g hgb => ?_) r.inj r.out r.loc r.mz
  · refine r.below.trans ⟨hg.os, hg.tape, hg.output, hg.size, fun k hk hx => hg.block k (by omega) (fun e => by rcases (hrow k e.symm).1 with h | h; omega; exact hx h)⟩
  · exact hg.block g (RepBlk.lt (r.mem b) hl hgb).2 (fun e => (hrow g e.symm).2.2 b hl hgb)

theorem vblk_ownBlock (v : Value) (h : ∃ A n c, v = .slice A n c) : vblk v = v.ownBlock := by
  obtain ⟨A, n, c, rfl⟩ := h
  cases A <;> rfl

/-- append: what comes of it lies in the old block, or in a new one. -/
theorem run_append (t ty e : TypeId) (i : TypeInfo) (z : Value) {base size : Nat} (ht : P.underlying t = some (.slice e)) (hi : P.info? e = some i) (hz : i.zero = some z) (hsize : i.size = size) (hzs : z.cells.size = size) {v : Value} {n : Nat} {xs : List Value} (hown : w.ownsRow base e size v n xs)
    {A : Option Addr} {m c : Nat} {news : List Value} (hl : news.length = m * size) (hA : m = 0 ∨ ∃ ad, A = some ad ∧ Lies w ad news) (h1 : ∀ u ∈ news, u.oneCell' = true) (h63 : n + m ≤ maxLen) (hbytes : (n + m) * i.bytes ≤ 140737488355328) (hbase : base ≤ w.heap.size) :
    ∃ v' w', (Builtin.append_ #[t, t] ty #[v, .slice A m c]).run P w = .ok v' w' ∧ w'.ownsRow base e size v' (n + m) (xs ++ news) ∧ w.grownBy w' v.ownBlock ∧ ∀ g, vblk v' = some g → vblk v = some g ∨ w.heap.size ≤ g := by
  subst hsize
  have hsmall : n + m ≤ 9223372036854775807 := by simp only [maxLen] at h63; omega
  have hlen : (xs ++ news).length = (n + m) * i.size := by rw [List.length_append, hown.1, hl, Nat.add_mul]
  by_cases hm : m = 0
  · subst hm
    have hn : news = [] := List.eq_nil_of_length_eq_zero (by simpa using hl)
    subst hn
    rw [List.append_nil, Nat.add_zero]
    have hgr : w.grownBy w v.ownBlock := ⟨rfl, rfl, rfl, Nat.le_refl _, fun _ _ _ => rfl⟩
    rcases hown.2 with ⟨rfl, rfl⟩ | ⟨g, cap, cur, rfl, hb, hh, hnc, hcm, hcs, htk⟩
    · refine ⟨.slice none 0 0, w, ?_, hown, hgr, fun g hg => .inl hg⟩
      cases A <;> simp [Builtin.append_, run_underlying ht, sizeOf, typeInfo, hi, Builtin.lenOf, Builtin.firstCells, loadCells, loadCellsFrom]
    · refine ⟨.slice (some ⟨g, 0, none⟩) n cap, w, ?_, hown, hgr, fun g hg => .inl hg⟩
      cases A <;> simp [Builtin.append_, run_underlying ht, sizeOf, typeInfo, hi, Builtin.lenOf, hnc, Builtin.firstCells, loadCells, loadCellsFrom, storeCells]
  · obtain ⟨ad, rfl, hL⟩ := hA.resolve_left hm
    have grown : ∀ (old : Nat), old < n + m → ∀ (row : Option Nat),
        (w.drew.alloc (.cells (xs.toArray ++ news.toArray ++ Builtin.zeroCells z.cells (grownCap w (n + m) old e - (n + m))) e)).ownsRow base e i.size (.slice (some ⟨w.heap.size, 0, none⟩) (n + m) (grownCap w (n + m) old e)) (n + m) (xs ++ news) ∧
        w.grownBy (w.drew.alloc (.cells (xs.toArray ++ news.toArray ++ Builtin.zeroCells z.cells (grownCap w (n + m) old e - (n + m))) e)) row := by
      intro old ho row
      have hge := grownCap_ge w (n + m) old e
      refine ⟨⟨hlen, .inr ⟨w.heap.size, _, _, rfl, hbase, heap_alloc_new w.drew _, hge, grownCap_le_maxLen w (n + m) old e h63, ?_, ?_⟩⟩, ⟨rfl, rfl, rfl, by simp, fun k hk _ => heap_alloc_old w.drew _ k hk⟩⟩
      · simp only [Array.size_append, List.size_toArray, size_zeroCells, hzs, hown.1, hl]
        rw [← Nat.add_mul, ← Nat.add_mul]
        congr 1
        omega
      · simp only [Array.toList_append, List.append_assoc]
        rw [← List.append_assoc, ← hlen]
        exact List.take_left
    rcases hown.2 with ⟨rfl, rfl⟩ | ⟨g, cap, cur, rfl, hbg, hg, hnc, hcm, hcs, htake⟩
    · have hx : xs = [] := List.eq_nil_of_length_eq_zero (by simpa using hown.1)
      subst hx
      have hr := run_append_nil (P := P) w t ty e i z ht hi hz ad m c news hl hL (by omega) (by omega) (by have hb := hbytes; simp only [Nat.zero_add] at hb; omega)
      have hgr := grown 0 (by omega) (Value.ownBlock (.slice none 0 0))
      simp only [Nat.zero_add, List.nil_append, Array.empty_append] at hgr ⊢
      exact ⟨_, _, hr, hgr.1, hgr.2, fun g hg => .inr (by cases hg; exact Nat.le_refl _)⟩
    · by_cases hroom : n + m ≤ cap
      · have hfit : n * i.size + news.length ≤ cur.size := by rw [hl, hcs, ← Nat.add_mul]; exact Nat.mul_le_mul_right _ hroom
        have hr := run_append_room (P := P) w t ty e i ht hi g n cap cur hg ad m c news hl hL h1 hroom hfit
        refine ⟨_, _, hr, ⟨hlen, .inr ⟨g, cap, _, rfl, hbg, setRow_heap w g cur _ e _ hg, hroom, hcm, ?_, ?_⟩⟩, ⟨rfl, rfl, rfl, by simp, fun k _ hk => setRow_other w g k _ (fun e => hk (by simp [Value.ownBlock, e]))⟩, fun g hg => .inl hg⟩
        · simp only [List.size_toArray, List.length_append, List.length_take, List.length_drop, Array.length_toList]; omega
        · rw [htake, ← hlen]; exact List.take_left
      · have holds : ∀ j u, xs[j]? = some u → w.cell? ((⟨g, 0, none⟩ : Addr).add j) = some u := hown.cells (g := g) rfl
        have hr := run_append_grow (P := P) w t ty e i z ht hi hz ⟨g, 0, none⟩ n cap xs hown.1 holds ad m c news hl hL (by omega) (by omega) (growslice_fits (by omega) hbytes)
        have hgr := grown cap (by omega) (Value.ownBlock (.slice (some ⟨g, 0, none⟩) n cap))
        exact ⟨_, _, hr, hgr.1, hgr.2, fun g hg => .inr (by cases hg; exact Nat.le_refl _)⟩

theorem Es.ones {e : Ty} : ∀ {xs : List (Den e)} {cs : List Value}, Es (fun x es => RepD P e w S x es) xs cs → ∀ u ∈ cs, u.oneCell' = true
  | [], cs, h, u, hu => by simp only [Es] at h; subst h; cases hu
  | x :: xs, _, ⟨c1, c2, e1, h1, h2⟩, u, hu => by
    subst e1
    rcases List.mem_append.1 hu with h | h
    · exact RepD.one h1 u h
    · exact Es.ones h2 u h

theorem call_builtin {b : Builtin} {args : Array Operand} {argTypes : Array TypeId} (ho : o.op = .call { callee := .builtin b, args := args, argTypes := argTypes }) (w : World) :
    (execOp a.eval o).run P w = (builtin b argTypes o.type (args.map fun | .const _ => true | _ => false) (args.map a.eval)).run P w := by
  simp [execOp, ho, resolve, invoke]; try rfl

theorem op_append (hΓ : EnvOK P C.G Γ) (r : Rel P C ρ S st a w) {s x : Operand} {t e id : Nat} {row er : TRow} (ho : o.op = .call { callee := .builtin .append, args := #[s, x], argTypes := #[t, t] }) (hT : Γ.T t = some row) (hk : row.kind = .sl e) (hE : Γ.T e = some er)
    {xv : LV} (hx : operand Γ st x = .one xv) {ys : List (Den er.ty)} {fz : List Nat} {rest : List LV} (hto : toDenL st.m er.ty xv = some (ys, fz, rest)) (hf : st.m id = .free)
    {m1 : Nat → Blk} {xs : List (Den er.ty)} (hs : (operand Γ st s = .one .nil ∧ xs = [] ∧ m1 = st.m) ∨ (∃ b, operand Γ st s = .one (.own b) ∧ st.m b = .row true e er.ty xs ∧ m1 = upd st.m b .dead) ∨
      ∃ b i u t1 yss, operand Γ st s = .one (.inn b i u) ∧ st.m b = .deep true t1 e er.ty yss none u ∧ 0 < b ∧ xs = yss.getD i [] ∧ m1 = upd st.m b (.deep true t1 e er.ty yss (some i) u))
    (hfit : (xs.length + ys.length) * er.bytes ≤ 140737488351232) (hfit2 : xs.length + ys.length ≤ 140737488351232)
    (h : k (.one (.own id)) { st with m := upd m1 id (.row true e er.ty (xs ++ ys)) } = some y) : OpGoal P C o a w k y := by
  have hxv := operand_sound hΓ r x
  have hsv := operand_sound hΓ r s
  rw [hx] at hxv
  simp only [RepPV] at hxv
  obtain ⟨A, c, hv, hc, hrest⟩ := listOf_sound r hto hxv
  have hk' := (hΓ.T t row hT).kind
  rw [hk] at hk'
  obtain ⟨i, z, hi, hz, hsz, hby, hzc⟩ := (hΓ.T e er hE).get
  have hzs : z.cells.size = er.ty.size := by
    have := (hΓ.T e er hE).info
    rw [← Array.length_toList, hzc]
    have : ∀ t : Ty, (zeroV t).length = t.size := by
      intro t
      induction t with
      | pair a b iha ihb => simp [zeroV, Ty.size, iha, ihb]
      | _ => rfl
    exact this _
  obtain ⟨news, hnl, hnA, hnE⟩ : ∃ news : List Value, news.length = ys.length * er.ty.size ∧ (ys.length = 0 ∨ ∃ ad, A = some ad ∧ Lies w ad news) ∧ Es (fun x es => RepD P er.ty w S x es) ys news := by
    rcases hrest with h0 | ⟨ad, cells, e1, e2, e3, _⟩
    · subst h0; exact ⟨[], by simp, .inl rfl, by simp [Es]⟩
    · exact ⟨cells, Es.length (n := er.ty.size) (fun x cs h => RepD.length h) e2, .inr ⟨ad, e1, e3⟩, e2⟩
  -- the row that is appended to
  have key : ∃ cells, w.ownsRow 0 e er.ty.size (a.eval s) xs.length cells ∧ Es (fun x es => RepD P er.ty w S x es) xs cells ∧ ∃ ρ1, Rel P C ρ1 S { st with m := m1 } a w ∧
      (∀ g, vb (a.eval s) g → (C.w0.heap.size ≤ g ∨ C.mx g) ∧ ¬ S g ∧ ∀ b, (m1 b).live = true → ¬ vb (ρ1 b) g) ∧ m1 id = .free ∧ ∃ A n c, a.eval s = .slice A n c := by
    rcases hs with ⟨h1, h2, h3⟩ | ⟨b, h1, h2, h3⟩ | ⟨b, j, u, t1, yss, h1, h2, hb0, hx1, h3⟩
    · subst h2; subst h3
      rw [h1] at hsv
      simp only [RepPV, RepLV] at hsv
      rw [hsv]
      exact ⟨[], World.ownsRow_nil _ _ _ _, by simp [Es], ρ, r, (fun g hg => by cases hg), hf, none, 0, 0, rfl⟩
    · subst h3
      rw [h1] at hsv
      simp only [RepPV, RepLV, h2] at hsv
      have hb := r.mem b
      unfold RepBlk at hb; rw [h2] at hb
      obtain ⟨cells, hown, hEs, _⟩ := hb
      have hlive : (st.m b).live = true := by rw [h2]; rfl
      rw [hsv.2]
      refine ⟨cells, hown, hEs, ρ, r.kill b (by rw [h2]; intro h; cases h), fun g hg => ⟨r.loc b hlive g hg, r.out b hlive g hg, fun b' hl' hg' => ?_⟩, ?_, ?_⟩
      · by_cases eb : b' = b
        · subst eb; rw [upd_same] at hl'; cases hl'
        · rw [upd_other _ _ eb] at hl'
          exact r.inj b' b eb hl' hlive g hg' hg
      · have : id ≠ b := fun e => by rw [← e, hf] at h2; cases h2
        rw [upd_other _ _ this, hf]
      · rcases row_slice r h2 with ⟨e1, _⟩ | ⟨g, c, e1, _⟩
        · exact ⟨_, _, _, e1⟩
        · exact ⟨_, _, _, e1⟩
    · subst h3
      rw [h1] at hsv
      simp only [RepPV, RepLV, h2] at hsv
      obtain ⟨_, _, hsv⟩ := hsv
      obtain ⟨hj, hin⟩ := hsv trivial trivial
      have hb := r.mem b
      unfold RepBlk at hb; rw [h2] at hb
      obtain ⟨v0, hs0, hρ, hd, _⟩ := hb
      rw [hρ] at hin
      have hin : hs0[j]? = some (a.eval s) := hin
      obtain ⟨n, cs, k1, k2⟩ := hd.inn j _ hin
      obtain ⟨x0, x1, x2, x3⟩ := k2 (by simp)
      have hx0 : xs = x0 := by rw [hx1, List.getD_eq_getElem?_getD, x1]; rfl
      subst hx0
      obtain ⟨r1, hblk⟩ := r.take hb0 h2 hρ hd hin
      refine ⟨cs, x2 ▸ k1, x3, _, r1, hblk, ?_, ownsRow_slice k1⟩
      have : id ≠ b := fun e => by rw [← e, hf] at h2; cases h2
      rw [upd_other _ _ this, hf]
  obtain ⟨cells, hown, hEs, ρ1, r1, hblk, hfree, hslice⟩ := key
  obtain ⟨v', w', hrun, hown', hg, hv'⟩ := run_append (P := P) t o.type e i z hk' hi hz hsz hzs hown (A := A) (c := c) hnl hnA (Es.ones hnE) (by simp only [maxLen]; omega) (by rw [hby]; omega) (Nat.zero_le _)
  have r2 := r1.grown hg (fun g hg' => hblk g (vb_of (by rw [vblk_ownBlock _ hslice]; exact hg')))
  have hst : Stab w S w' S := fun b hb => ⟨hb, hg.block b (r.sb b hb) (fun e => (hblk b (vb_of (by rw [vblk_ownBlock _ hslice]; exact e.symm))).2.1 hb)⟩
  obtain ⟨r3, _⟩ := r2.adopt (id := id) (blk := .row true e er.ty (xs ++ ys)) (v := v') hfree (fun g hg' => by
    rcases hv' g (vb_slice (ownsRow_slice hown') hg') with h | h
    · have h := vb_of h
      exact ⟨⟨(hblk g h).2.1, (hblk g h).2.2⟩, (hblk g h).1⟩
    · exact ⟨⟨fun hS => by have := r.sb g hS; omega, fun b hl hb => by have := (RepBlk.lt (r1.mem b) hl hb).2; omega⟩, .inl (by have := r.below.size; omega)⟩) (by
    unfold RepBlk
    rw [upd_same, upd_same]
    exact ⟨_, by rw [List.length_append]; exact hown', Es.mono (fun x cs h => RepD.mono hst h) (Es.append hEs hnE), fun h => by cases h⟩)
  refine op_value (v := v') ?_ ?_ r3 h
  · rw [call_builtin ho]
    simp only [builtin, List.map_toArray, List.map_cons, List.map_nil, hv, Sem.run_bind, hrun, Result.andThen_ok, Sem.run_pure]
  · simp only [RepPV, RepLV, upd_same]
    refine ⟨?_, trivial⟩
    rcases hown'.2 with ⟨rfl, _⟩ | ⟨_, _, _, rfl, _⟩ <;> rfl
end Go.PM
