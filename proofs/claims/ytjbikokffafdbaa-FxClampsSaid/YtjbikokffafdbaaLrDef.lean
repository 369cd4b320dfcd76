/- A local evaluator of Go code: the values of a call's own memory, block by block. Definitions alone. -/
import Derived.Calls
import Derived.Orders
namespace Go.Lr

/-- One cell's value. Pointers and slices name blocks by local numbers. -/
inductive At where
  | int (k : IntKind) (n : Int)
  | bool (b : Bool)
  | ptr (b o : Nat)
  | nilp
  | sl (b o len cap : Nat)
  | slu (b len : Nat)
  | nilsl
  | fn (f : FuncId) (caps : List (Nat × Nat))
  | opq (v : Value)

inductive V1 where
  | one (a : At)
  | agg (l : List At)

inductive LV where
  | v (x : V1)
  | tup (l : List V1)

/-- What local numbers stand for: the block, and the capacity of a slice that was appended to. -/
abbrev Env := Nat → Nat × Nat

def At.den (E : Env) : At → Value
  | .int k n => .int k n
  | .bool b => .bool b
  | .ptr b o => .pointer (some ⟨(E b).1, o, none⟩)
  | .nilp => .pointer none
  | .sl b o l c => .slice (some ⟨(E b).1, o, none⟩) l c
  | .slu b l => .slice (some ⟨(E b).1, 0, none⟩) l (E b).2
  | .nilsl => .slice none 0 0
  | .fn f caps => .func (.func f) #[] (caps.map fun p => Value.pointer (some ⟨(E p.1).1, p.2, none⟩)).toArray
  | .opq v => v

def V1.den (E : Env) : V1 → Value
  | .one a => a.den E
  | .agg l => .agg (l.map (At.den E)).toArray

def LV.den (E : Env) : LV → Value
  | .v x => x.den E
  | .tup l => .tuple (l.map (V1.den E)).toArray

/-- May it lie in one cell? -/
def At.cell : At → Bool
  | .opq (.agg _) => false
  | .opq (.tuple _) => false
  | _ => true

def allCell : List At → Bool
  | [] => true
  | a :: l => match a.cell with
    | true => allCell l
    | false => false

structure Blk where
  ty : TypeId
  fr : Nat × Nat
  es : Nat
  cells : List At

/-- The live blocks, by their local numbers. -/
abbrev Mem := List (Nat × Blk)

def getM : Mem → Nat → Option Blk
  | [], _ => none
  | (j, b) :: m, i => match Nat.beq j i with
    | true => some b
    | false => getM m i

/-- What a block becomes: other cells, or nothing that is known. -/
def setM : Mem → Nat → Option Blk → Mem
  | [], _, _ => []
  | (j, b) :: m, i, s => match Nat.beq j i with
    | true => match s with
      | some c => (j, c) :: m
      | none => m
    | false => (j, b) :: setM m i s

def setMK {β : Type} : Mem → Nat → Option Blk → (Mem → β) → β
  | [], _, _, k => k []
  | (j, b) :: m, i, s, k => match Nat.beq j i with
    | true => match s with
      | some c => k ((j, c) :: m)
      | none => k m
    | false => setMK m i s fun r => k ((j, b) :: r)

def undefL : LV := .v (.one (.opq undef))

/-- The slots, as a tree by their numbers. -/
inductive Tr where
  | nil
  | nd (v : LV) (l r : Tr)

def getT : Tr → Nat → LV
  | .nil, _ => undefL
  | .nd v _ _, 0 => v
  | .nd _ l r, i + 1 => match Nat.beq (i % 2) 0 with
    | true => getT l (i / 2)
    | false => getT r (i / 2)

def setT : Nat → Tr → Nat → LV → Tr
  | 0, t, _, _ => t
  | _ + 1, .nil, 0, v => .nd v .nil .nil
  | _ + 1, .nd _ l r, 0, v => .nd v l r
  | f + 1, .nil, i + 1, v => match Nat.beq (i % 2) 0 with
    | true => .nd undefL (setT f .nil (i / 2) v) .nil
    | false => .nd undefL .nil (setT f .nil (i / 2) v)
  | f + 1, .nd u l r, i + 1, v => match Nat.beq (i % 2) 0 with
    | true => .nd u (setT f l (i / 2) v) r
    | false => .nd u l (setT f r (i / 2) v)

/-- The same, with the way to the slot laid open ahead of what follows. -/
def setTK {β : Type} : Nat → Tr → Nat → LV → (Tr → β) → β
  | 0, t, _, _, k => k t
  | _ + 1, .nil, 0, v, k => k (.nd v .nil .nil)
  | _ + 1, .nd _ l r, 0, v, k => k (.nd v l r)
  | f + 1, .nil, i + 1, v, k => match Nat.beq (i % 2) 0 with
    | true => setTK f .nil (i / 2) v fun t => k (.nd undefL t .nil)
    | false => setTK f .nil (i / 2) v fun t => k (.nd undefL .nil t)
  | f + 1, .nd u l r, i + 1, v, k => match Nat.beq (i % 2) 0 with
    | true => setTK f l (i / 2) v fun t => k (.nd u t r)
    | false => setTK f r (i / 2) v fun t => k (.nd u l t)

/-- A closed value of a program's text. -/
def ofAtom : Value → Option At
  | .int k n => some (.int k n)
  | .bool b => some (.bool b)
  | .pointer none => some .nilp
  | .slice none 0 0 => some .nilsl
  | .string s => some (.opq (.string s))
  | .nilIface => some (.opq .nilIface)
  | .nilFunc => some (.opq .nilFunc)
  | .map none => some (.opq (.map none))
  | _ => none

def ofAtoms : List Value → Option (List At)
  | [] => some []
  | v :: l => match ofAtom v, ofAtoms l with
    | some a, some r => some (a :: r)
    | _, _ => none

def ofVal : Value → Option V1
  | .agg cs => match ofAtoms cs.toList with
    | some l => some (.agg l)
    | none => none
  | v => match ofAtom v with
    | some a => some (.one a)
    | none => none

def ev (τ : Nat → LV) : Operand → Option LV
  | .tmp t => some (τ t)
  | .const v => match ofVal v with
    | some x => some (.v x)
    | none => none
  | .func f => some (.v (.one (.fn f [])))
  | .global _ => none

def evs (τ : Nat → LV) : List Operand → Option (List LV)
  | [] => some []
  | x :: l => match ev τ x, evs τ l with
    | some v, some r => some (v :: r)
    | _, _ => none

/-- What an operation does: its value; blocks written (old numbers); blocks killed; new blocks; blocks read; what it asks. -/
structure Dl where
  val : LV
  wr : List (Nat × Option Blk)
  nw : List Blk
  rd : List Nat
  cs : List (Bool × Bool)

def Dl.pure (v : LV) : Dl := ⟨v, [], [], [], []⟩
def val1 (a : At) : Option Dl := some (.pure (.v (.one a)))

/-- The cells of a value that is stored. -/
def cellsOfV : LV → Option (List At)
  | .v (.one a) => match a.cell with
    | true => some [a]
    | false => none
  | .v (.agg l) => match allCell l with
    | true => some l
    | false => none
  | .tup _ => none

def sizeT (P : Program) (t : TypeId) : Option Nat :=
  match P.info? t with
  | some i => some i.size
  | none => none

def aggT (P : Program) (t : TypeId) : Option Bool :=
  match P.underlying t with
  | some (.struct _) => some true
  | some (.array _ _) => some true
  | some _ => some false
  | none => none

def zeroT (P : Program) (t : TypeId) : Option (List At) :=
  match P.info? t with
  | some i => match i.zero with
    | some z => match ofVal z with
      | some (.one a) => some [a]
      | some (.agg l) => some l
      | none => none
    | none => none
  | none => none

def len : List At → Nat
  | [] => 0
  | _ :: l => len l + 1

/-- n cells from o on. -/
def cut (l : List At) (o n : Nat) : Option (List At) :=
  match o, n, l with
  | 0, 0, _ => some []
  | 0, n + 1, a :: l => match cut l 0 n with
    | some r => some (a :: r)
    | none => none
  | o + 1, n, _ :: l => cut l o n
  | 0, _ + 1, [] => none
  | _ + 1, _, [] => none

/-- The cells with others laid over them from o on. -/
def lay (l : List At) (o : Nat) (vs : List At) : Option (List At) :=
  match o, vs, l with
  | 0, [], l => some l
  | 0, v :: vs, _ :: l => match lay l 0 vs with
    | some r => some (v :: r)
    | none => none
  | o + 1, vs, a :: l => match lay l o vs with
    | some r => some (a :: r)
    | none => none
  | 0, _ :: _, [] => none
  | _ + 1, _, [] => none

def atL : List At → Nat → Option At
  | [], _ => none
  | a :: _, 0 => some a
  | _ :: l, n + 1 => atL l n

def fieldAtL : List Field → Nat → Option Field
  | [], _ => none
  | a :: _, 0 => some a
  | _ :: l, n + 1 => fieldAtL l n

/-- The part of an aggregate that a type takes. -/
def partV (P : Program) (t : TypeId) (l : List At) (o : Nat) : Option V1 :=
  match aggT P t with
  | some true => match sizeT P t with
    | some n => match cut l o n with
      | some r => some (.agg r)
      | none => none
    | none => none
  | some false => match atL l o with
    | some a => some (.one a)
    | none => none
  | none => none

def isTmp0 : Operand → Bool
  | .const _ => true
  | _ => false

/-- Something asked of a number: where the operand is written in the text it is looked at; else it is told. -/
def ask (known : Bool) (b want : Bool) (k : List (Bool × Bool) → Option Dl) : Option Dl :=
  match known with
  | true => match b, want with
    | true, true => k []
    | false, false => k []
    | _, _ => none
  | false => k [(b, want)]

def kindN : IntKind → Nat
  | .i8 => 0
  | .i16 => 1
  | .i32 => 2
  | .i64 => 3
  | .u8 => 4
  | .u16 => 5
  | .u32 => 6
  | .u64 => 7

def kindEq (k l : IntKind) : Bool := Nat.beq (kindN k) (kindN l)

/-- 64 bits, with and without a sign. -/
def w64 (n : Int) : Int := (n + 9223372036854775808) % 18446744073709551616 - 9223372036854775808
def u64 (n : Int) : Int := n % 18446744073709551616

def wr (k : IntKind) (n : Int) : Int :=
  match k with
  | .i64 => w64 n
  | .u64 => u64 n
  | k => k.wrap n

def bitsN (op : BinOp) (x y : Nat) : Option Nat :=
  match op with
  | .and => some (Nat.land x y)
  | .or => some (Nat.lor x y)
  | .xor => some (Nat.xor x y)
  | _ => none

/-- Bit by bit, at 64 bits. -/
def bitsV (op : BinOp) (k : IntKind) (x y : Int) : Option Int :=
  match bitsN op (u64 x).toNat (u64 y).toNat with
  | some r => match k with
    | .u64 => some (Int.ofNat r)
    | .i64 => some (w64 (Int.ofNat r))
    | _ => none
  | none => none

def pow2 (n : Nat) : Int := Int.ofNat (Nat.pow 2 n)

def binI (op : BinOp) (k : IntKind) (a b : Int) (yc : Bool) : Option Dl :=
  match op with
  | .add => val1 (.int k (wr k (a + b)))
  | .sub => val1 (.int k (wr k (a - b)))
  | .mul => val1 (.int k (wr k (a * b)))
  | .quo => ask yc (decide (b = 0)) false fun cs => some ⟨.v (.one (.int k (wr k (a.tdiv b)))), [], [], [], cs⟩
  | .rem => ask yc (decide (b = 0)) false fun cs => some ⟨.v (.one (.int k (a.tmod b))), [], [], [], cs⟩
  | .eql => val1 (.bool (a == b))
  | .neq => val1 (.bool (a != b))
  | .lss => val1 (.bool (decide (a < b)))
  | .leq => val1 (.bool (decide (a ≤ b)))
  | .gtr => val1 (.bool (decide (a > b)))
  | .geq => val1 (.bool (decide (a ≥ b)))
  | op => match bitsV op k a b with
    | some r => val1 (.int k r)
    | none => none

def shiftI (op : BinOp) (k : IntKind) (a b : Int) (yc : Bool) : Option Dl :=
  match op with
  | .shl => ask yc (decide (b < 0)) false fun cs => some ⟨.v (.one (.int k (wr k (a * pow2 (min b.toNat k.bits))))), [], [], [], cs⟩
  | .shr => ask yc (decide (b < 0)) false fun cs => some ⟨.v (.one (.int k (a / pow2 (min b.toNat k.bits)))), [], [], [], cs⟩
  | _ => none

abbrev EqF := TypeId → V1 → V1 → Option Bool

def eqFields (P : Program) (rec : EqF) : List Field → List At → List At → Option Bool
  | [], _, _ => some true
  | f :: fs, xs, ys =>
    match f.name == "_" with
    | true => none
    | false => match partV P f.type xs f.offset, partV P f.type ys f.offset with
      | some a, some b => match rec f.type a b, eqFields P rec fs xs ys with
        | some r, some rs => some (r && rs)
        | _, _ => none
      | _, _ => none

def eqElems (P : Program) (rec : EqF) (e : TypeId) (s : Nat) : Nat → Nat → List At → List At → Option Bool
  | 0, _, _, _ => some true
  | n + 1, i, xs, ys =>
    match partV P e xs (i * s), partV P e ys (i * s) with
    | some a, some b => match rec e a b, eqElems P rec e s n (i + 1) xs ys with
      | some r, some rs => some (r && rs)
      | _, _ => none
    | _, _ => none

/-- Are two plain values of a type the same? -/
def eqV (P : Program) : Nat → EqF
  | 0, _, _, _ => none
  | d + 1, t, x, y =>
    match P.underlying t, x, y with
    | some .bool, .one (.bool a), .one (.bool b) => some (a == b)
    | some (.int _), .one (.int k a), .one (.int k' b) => match kindEq k k' with
      | true => some (a == b)
      | false => none
    | some (.struct fs), .agg xs, .agg ys => match P.stoodInHeld t with
      | true => none
      | false => eqFields P (eqV P d) (fs.toList) xs ys
    | some (.array n e), .agg xs, .agg ys => match sizeT P e with
      | some s => eqElems P (eqV P d) e s n 0 xs ys
      | none => none
    | _, _, _ => none

def isTrue : Option Bool → Bool → Option (Bool × List (Bool × Bool))
  | some d, t => some (d, [(t, d)])
  | none, true => some (true, [])
  | none, false => some (false, [])

def pickD (τ : Nat → LV) (pd : Option Bool) (c a b : Operand) : Option Dl :=
  match ev τ c with
  | some (.v (.one (.bool t))) => match isTrue pd t with
    | some (true, cs) => match ev τ a with
      | some v => some ⟨v, [], [], [], cs⟩
      | none => none
    | some (false, cs) => match ev τ b with
      | some v => some ⟨v, [], [], [], cs⟩
      | none => none
    | none => none
  | _ => none

def allocD (P : Program) (nb : Nat) (t : TypeId) : Option Dl :=
  match zeroT P t with
  | some l => some ⟨.v (.one (.ptr nb 0)), [], [⟨t, (0, 0), 0, l⟩], [], []⟩
  | none => none

def boxD (nb : Nat) (t : TypeId) (v : LV) : Option Dl :=
  match cellsOfV v with
  | some l => some ⟨.v (.one (.ptr nb 0)), [], [⟨t, (0, 0), 0, l⟩], [], []⟩
  | none => none

def loadD (P : Program) (t : TypeId) (v : LV) (g : Nat → Option Blk) : Option Dl :=
  match v with
  | .v (.one (.ptr b o)) => match g b with
    | some k => match partV P t k.cells o with
      | some x => some ⟨.v x, [], [], [b], []⟩
      | none => none
    | _ => none
  | _ => none

def storeD (P : Program) (t : TypeId) (a v : LV) (g : Nat → Option Blk) : Option Dl :=
  match a with
  | .v (.one (.ptr b o)) => match g b with
    | some ⟨ty, (0, 0), es, l⟩ => match cellsOfV v, sizeT P t with
      | some vs, some n => match Nat.beq (len vs) n, lay l o vs with
        | true, some r => some ⟨undefL, [(b, some ⟨ty, (0, 0), es, r⟩)], [], [], []⟩
        | _, _ => none
      | _, _ => none
    | _ => none
  | _ => none

def allSz (P : Program) : List Field → Bool
  | [] => true
  | f :: l => match sizeT P f.type with
    | some _ => allSz P l
    | none => false

/-- The parts of a literal, laid over its zero. -/
def fillS (P : Program) (fs : List Field) (cells : List At) : List (Nat × LV) → Option (List At)
  | [] => some cells
  | (i, v) :: rest => match fieldAtL fs i, cellsOfV v with
    | some f, some vs => match sizeT P f.type with
      | some n => match Nat.beq (len vs) n, lay cells f.offset vs with
        | true, some r => fillS P fs r rest
        | _, _ => none
      | none => none
    | _, _ => none

def fillA (n : Nat) (cells : List At) : List (Nat × LV) → Option (List At)
  | [] => some cells
  | (i, v) :: rest => match cellsOfV v with
    | some vs => match Nat.beq (len vs) n, lay cells (i * n) vs with
      | true, some r => fillA n r rest
      | _, _ => none
    | none => none

def buildD (P : Program) (t : TypeId) (parts : List (Nat × LV)) : Option Dl :=
  match zeroT P t with
  | some z => match P.underlying t with
    | some (.struct fs) => match allSz P fs.toList, fillS P fs.toList z parts with
      | true, some l => some (.pure (.v (.agg l)))
      | _, _ => none
    | some (.array _ e) => match sizeT P e with
      | some n => match fillA n z parts with
        | some l => some (.pure (.v (.agg l)))
        | none => none
      | none => none
    | _ => none
  | none => none

def repeatL (z : List At) : Nat → List At
  | 0 => []
  | n + 1 => z ++ repeatL z n

def buildSliceD (P : Program) (nb : Nat) (t : TypeId) (n : Nat) (parts : List (Nat × LV)) : Option Dl :=
  match P.underlying t with
  | some (.slice e) => match sizeT P e, zeroT P e with
    | some s, some z => match Nat.ble (n * s) 16777216, Nat.beq (len z) s, Nat.ble 1 s, fillA s (repeatL z n) parts with
      | true, true, true, some l => some ⟨.v (.one (.sl nb 0 n n)), [], [⟨e, (0, 0), 0, l⟩], [], []⟩
      | _, _, _, _ => none
    | _, _ => none
  | _ => none

def fieldAddrD (P : Program) (t : TypeId) (x : LV) (i : Nat) : Option Dl :=
  match P.underlying t, x with
  | some (.struct fs), .v (.one (.ptr b o)) => match fieldAtL fs.toList i with
    | some f => match sizeT P f.type with
      | some (_ + 1) => val1 (.ptr b (o + f.offset))
      | _ => none
    | none => none
  | _, _ => none

def fieldD (P : Program) (t : TypeId) (x : LV) (i : Nat) : Option Dl :=
  match P.underlying t, x with
  | some (.struct fs), .v (.agg l) => match fieldAtL fs.toList i with
    | some f => match partV P f.type l f.offset with
      | some v => some (.pure (.v v))
      | none => none
    | none => none
  | _, _ => none

/-- An index in its bounds, as a natural number. -/
def inB (i : Int) (n : Nat) : Option Nat :=
  match i with
  | .ofNat k => match Nat.blt k n with
    | true => some k
    | false => none
  | .negSucc _ => none

def indexAddrD (P : Program) (t : TypeId) (x ix : LV) : Option Dl :=
  match P.underlying t, x, ix with
  | some (.array n e), .v (.one (.ptr b o)), .v (.one (.int _ i)) => match inB i n, sizeT P e with
    | some k, some s => val1 (.ptr b (o + k * s))
    | _, _ => none
  | some (.slice e), .v (.one (.sl b o n _)), .v (.one (.int _ i)) => match inB i n, sizeT P e with
    | some k, some s => val1 (.ptr b (o + k * s))
    | _, _ => none
  | some (.slice e), .v (.one (.slu b n)), .v (.one (.int _ i)) => match inB i n, sizeT P e with
    | some k, some s => val1 (.ptr b (k * s))
    | _, _ => none
  | _, _, _ => none

def indexD (P : Program) (t : TypeId) (x ix : LV) : Option Dl :=
  match P.underlying t, x, ix with
  | some (.array n e), .v (.agg l), .v (.one (.int _ i)) => match inB i n, sizeT P e with
    | some k, some s => match partV P e l (k * s) with
      | some v => some (.pure (.v v))
      | none => none
    | _, _ => none
  | _, _, _ => none

def extractD (x : LV) (i : Nat) : Option Dl :=
  match x with
  | .tup l => nth l i
  | _ => none
where
  nth : List V1 → Nat → Option Dl
    | [], _ => none
    | v :: _, 0 => some (.pure (.v v))
    | _ :: l, n + 1 => nth l n

/-- A bound of a slice expression: a number that is written or known; from 0 to n. -/
def bound (v : Option LV) (dflt n : Nat) : Option Nat :=
  match v with
  | none => some dflt
  | some (.v (.one (.int _ (.ofNat k)))) => match Nat.ble k n with
    | true => some k
    | false => none
  | some _ => none

def sliceD (P : Program) (t : TypeId) (x : LV) (lo hi : Option LV) : Option Dl :=
  match P.underlying t, x with
  | some (.array n e), .v (.one (.ptr b o)) => match bound hi n n, sizeT P e with
    | some h, some s => match bound lo 0 h with
      | some l => match Nat.beq n l with
        | true => val1 (.sl b o (h - l) (n - l))
        | false => val1 (.sl b (o + l * s) (h - l) (n - l))
      | none => none
    | _, _ => none
  | some (.slice e), .v (.one (.sl b o n c)) => match bound hi n c, sizeT P e with
    | some h, some s => match bound lo 0 h with
      | some l => match Nat.beq c l with
        | true => val1 (.sl b o (h - l) (c - l))
        | false => val1 (.sl b (o + l * s) (h - l) (c - l))
      | none => none
    | _, _ => none
  | _, _ => none

def unD (op : UnOp) (x : LV) : Option Dl :=
  match op, x with
  | .neg, .v (.one (.int k n)) => val1 (.int k (wr k (0 - n)))
  | .xor, .v (.one (.int k n)) => match bitsV .xor k (-1) n with
    | some r => val1 (.int k r)
    | none => none
  | .not, .v (.one (.bool b)) => val1 (.bool (!b))
  | _, _ => none

def convD (P : Program) (t : TypeId) (u : TypeId) (x : LV) : Option Dl :=
  match P.underlying t, P.underlying u, x with
  | some _, some (.int k), .v (.one (.int _ n)) => val1 (.int k (wr k n))
  | _, _, _ => none

def ptrsOf : List LV → Option (List (Nat × Nat))
  | [] => some []
  | .v (.one (.ptr b o)) :: l => match ptrsOf l with
    | some r => some ((b, o) :: r)
    | none => none
  | _ :: _ => none

def makeFuncD (f : Fn) (first : List Operand) (caps : List LV) : Option Dl :=
  match f, first, ptrsOf caps with
  | .func f, [], some l => val1 (.fn f l)
  | _, _, _ => none

def binII (op : BinOp) (k : IntKind) (a : Int) (k' : IntKind) (b : Int) (yc : Bool) : Option Dl :=
  match op with
  | .shl => shiftI .shl k a b yc
  | .shr => shiftI .shr k a b yc
  | op => match kindEq k k' with
    | true => binI op k a b yc
    | false => none

def binEq (P : Program) (op : BinOp) (t : TypeId) (a b : V1) : Option Dl :=
  match op with
  | .eql => match P.eqGuardType P.depth t, eqV P 10000 t a b with
    | false, some r => val1 (.bool r)
    | _, _ => none
  | .neq => match P.eqGuardType P.depth t, eqV P 10000 t a b with
    | false, some r => val1 (.bool (!r))
    | _, _ => none
  | _ => none

def intOf? : LV → Option (IntKind × Int)
  | .v (.one (.int k a)) => some (k, a)
  | _ => none

def v1Of? : LV → Option V1
  | .v x => some x
  | .tup _ => none

def binD (P : Program) (op : BinOp) (t : TypeId) (x y : LV) (yc : Bool) : Option Dl :=
  match intOf? x with
  | some (k, a) => match intOf? y with
    | some (k', b) => binII op k a k' b yc
    | none => none
  | none => match v1Of? x with
    | some a => match v1Of? y with
      | some b => binEq P op t a b
      | none => none
    | none => none

def lenD (P : Program) (t : TypeId) (x : LV) : Option Dl :=
  match P.underlying t, x with
  | some (.array n _), _ => val1 (.int .i64 n)
  | some (.slice _), .v (.one (.sl _ _ n _)) => val1 (.int .i64 n)
  | some (.slice _), .v (.one (.slu _ n)) => val1 (.int .i64 n)
  | some (.slice _), .v (.one .nilsl) => val1 (.int .i64 0)
  | _, _ => none

def minMax (mx : Bool) : IntKind → Int → List LV → Option Dl
  | k, x, [] => val1 (.int k x)
  | k, x, .v (.one (.int _ y)) :: l => match mx with
    | true => minMax true k (if y > x then y else x) l
    | false => minMax false k (if y < x then y else x) l
  | _, _, _ => none

def minMaxD (mx : Bool) : List LV → Option Dl
  | .v (.one (.int k x)) :: l => minMax mx k x l
  | _ => none

def oevs (τ : Nat → LV) : Option Operand → Option (Option LV)
  | none => some none
  | some x => match ev τ x with
    | some v => some (some v)
    | none => none

def evParts (τ : Nat → LV) : List (Nat × Operand) → Option (List (Nat × LV))
  | [] => some []
  | (i, x) :: l => match ev τ x, evParts τ l with
    | some v, some r => some ((i, v) :: r)
    | _, _ => none

/-- What is told of a call: the blocks that it reads and writes, and what it makes of them. -/
structure Ans where
  val : LV
  wr : List Blk
  nw : List Blk
  cs : List (Bool × Bool)

structure Tch where
  rd : List Nat
  wr : List Nat
  go : List Blk → List Blk → Nat → Option Ans

abbrev Sum := List LV → Option Tch

def liveAll (g : Nat → Option Blk) : List Nat → Option (List Blk)
  | [] => some []
  | b :: l => match g b, liveAll g l with
    | some k, some r => some (k :: r)
    | _, _ => none

def memB : List Nat → Nat → Bool
  | [], _ => false
  | a :: l, b => match Nat.beq a b with
    | true => true
    | false => memB l b

def nodupB : List Nat → Bool
  | [] => true
  | a :: l => match memB l a with
    | true => false
    | false => nodupB l

def zipW : List Nat → List Blk → Option (List (Nat × Option Blk))
  | [], [] => some []
  | b :: l, k :: ks => match zipW l ks with
    | some r => some ((b, some k) :: r)
    | none => none
  | _, _ => none

def At.ok (p : Nat → Bool) : At → Bool
  | .ptr b _ => p b
  | .sl b _ _ _ => p b
  | .slu b _ => p b
  | .fn _ caps => caps.all fun c => p c.1
  | _ => true
def okL (p : Nat → Bool) : List At → Bool
  | [] => true
  | a :: l => match a.ok p with
    | true => okL p l
    | false => false
def V1.ok (p : Nat → Bool) : V1 → Bool
  | .one a => a.ok p
  | .agg l => okL p l
def okVs (p : Nat → Bool) : List V1 → Bool
  | [] => true
  | a :: l => match a.ok p with
    | true => okVs p l
    | false => false
def LV.ok (p : Nat → Bool) : LV → Bool
  | .v x => x.ok p
  | .tup l => okVs p l
def okBs (p : Nat → Bool) : List Blk → Bool
  | [] => true
  | b :: l => match okL p b.cells with
    | true => okBs p l
    | false => false

def lenB : List Blk → Nat
  | [] => 0
  | _ :: l => lenB l + 1

/-- May an answer name this block: one that the call touches, or a new one? -/
def mayName (t : Tch) (nb n : Nat) (i : Nat) : Bool :=
  match memB t.rd i with
  | true => true
  | false => match memB t.wr i with
    | true => true
    | false => match Nat.ble nb i with
      | true => Nat.blt i (nb + n)
      | false => false

def sumD (t : Tch) (g : Nat → Option Blk) (nb : Nat) : Option Dl :=
  match liveAll g t.rd, liveAll g t.wr, nodupB t.wr with
  | some r, some w, true => match t.go r w nb with
    | some a => match zipW t.wr a.wr with
      | some ws => match a.val.ok (mayName t nb (lenB a.nw)), okBs (mayName t nb (lenB a.nw)) a.wr, okBs (mayName t nb (lenB a.nw)) a.nw with
        | true, true, true => some ⟨a.val, ws, a.nw, t.rd ++ t.wr, a.cs⟩
        | _, _, _ => none
      | none => none
    | none => none
  | _, _, _ => none

/-- Which function is called, with which arguments. -/
def callee (τ : Nat → LV) (c : Call) : Option (FuncId × List LV) :=
  match c.callee with
  | .value f => match ev τ f, evs τ c.args.toList with
    | some (.v (.one (.fn f caps))), some args => some (f, args ++ caps.map fun p => .v (.one (.ptr p.1 p.2)))
    | _, _ => none
  | _ => none

def builtinD (P : Program) (b : Builtin) (ts : List TypeId) (args : List LV) : Option Dl :=
  match b, ts, args with
  | .len, [t], [x] => lenD P t x
  | .min, _, args => minMaxD false args
  | .max, _, args => minMaxD true args
  | _, _, _ => none

def moveD (τ : Nat → LV) (x : Operand) : Option Dl :=
  match ev τ x with
  | some v => some (.pure v)
  | none => none

def nilCheckD (v : LV) : Option Dl :=
  match v with
  | .v (.one (.ptr b o)) => val1 (.ptr b o)
  | .v (.one (.fn f caps)) => val1 (.fn f caps)
  | _ => none

def on1 (τ : Nat → LV) (x : Operand) (k : LV → Option Dl) : Option Dl :=
  match ev τ x with
  | some v => k v
  | none => none

def on2 (τ : Nat → LV) (x y : Operand) (k : LV → LV → Option Dl) : Option Dl :=
  match ev τ x with
  | some v => match ev τ y with
    | some w => k v w
    | none => none
  | none => none

def onL (τ : Nat → LV) (xs : List Operand) (k : List LV → Option Dl) : Option Dl :=
  match evs τ xs with
  | some l => k l
  | none => none

def onP (τ : Nat → LV) (xs : List (Nat × Operand)) (k : List (Nat × LV) → Option Dl) : Option Dl :=
  match evParts τ xs with
  | some l => k l
  | none => none

def slD (P : Program) (τ : Nat → LV) (t : TypeId) (x : Operand) (lo hi mx : Option Operand) : Option Dl :=
  match mx with
  | none => match oevs τ lo with
    | some l => match oevs τ hi with
      | some h => on1 τ x fun v => sliceD P t v l h
      | none => none
    | none => none
  | some _ => none

def callD (P : Program) (S : FuncId → Option Sum) (τ : Nat → LV) (g : Nat → Option Blk) (nb : Nat) (c : Call) : Option Dl :=
  match c.callee with
  | .builtin b => onL τ c.args.toList fun l => builtinD P b c.argTypes.toList l
  | _ => match callee τ c with
    | some (f, args) => match S f with
      | some s => match s args with
        | some t => sumD t g nb
        | none => none
      | none => none
    | none => none

def opD (P : Program) (S : FuncId → Option Sum) (z : Bool) (τ : Nat → LV) (g : Nat → Option Blk) (nb : Nat) (pd : Option Bool) (op : Op) : Option Dl :=
  match op with
  | .move x => moveD τ x
  | .assign x => moveD τ x
  | .pick c a b => pickD τ pd c a b
  | .alloc t => allocD P nb t
  | .box t x => on1 τ x fun v => boxD nb t v
  | .build t parts => onP τ parts.toList fun l => buildD P t l
  | .buildSlice t n parts => onP τ parts.toList fun l => buildSliceD P nb t n l
  | .load t a => on1 τ a fun v => loadD P t v g
  | .store t a x => on2 τ a x fun p v => storeD P t p v g
  | .nilCheck x => on1 τ x fun v => nilCheckD v
  | .binOp op t x y _ => on2 τ x y fun a b => binD P op t a b (z || isTmp0 y)
  | .unOp op _ x => on1 τ x fun v => unD op v
  | .convert t u x => on1 τ x fun v => convD P t u v
  | .makeFunc f first caps => onL τ caps.toList fun l => makeFuncD f first.toList l
  | .slice t x lo hi mx => slD P τ t x lo hi mx
  | .fieldAddr t x i => on1 τ x fun v => fieldAddrD P t v i
  | .field t x i => on1 τ x fun v => fieldD P t v i
  | .indexAddr t x i => on2 τ x i fun v k => indexAddrD P t v k
  | .index t x i => on2 τ x i fun v k => indexD P t v k
  | .extract x i => on1 τ x fun v => extractD v i
  | .call c => callD P S τ g nb c
  | _ => none

end Go.Lr
