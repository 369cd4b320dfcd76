/- The local evaluator: a body, its operations, its calls. Definitions alone. -/
import Derived.Test.YtjbikokffafdbaaLrDef
namespace Go.Lr

/-- How the evaluator goes about it: are numbers laid open (closed runs)? are a callee's own blocks let go? are guards and choices taken as if nothing were cut short? -/
structure Md where
  z : Bool
  y : Bool
  a : Bool := false

structure St where
  tm : Tr
  sz : Nat
  mem : Mem
  nb : Nat
  dec : List (Option Bool)
  cs : List (Bool × Bool)

def takeD : List (Option Bool) → Option Bool × List (Option Bool)
  | [] => (none, [])
  | d :: l => (d, l)

def putAll (m : Mem) : List (Nat × Option Blk) → Mem
  | [] => m
  | (i, s) :: l => putAll (setM m i s) l

def newAll (m : Mem) (nb : Nat) : List Blk → Mem
  | [] => m
  | b :: l => newAll ((nb, b) :: m) (nb + 1) l

/-- A list with its length laid open ahead of what follows (for the kernel's sake: nothing else). -/
def forceL {α β : Type} : List α → (List α → β) → β
  | [], k => k []
  | x :: l, k => forceL l fun r => k (x :: r)

def forceN {β : Type} : Nat → (Nat → β) → β
  | 0, k => k 0
  | n + 1, k => k (n + 1)

def forceI {β : Type} : Int → (Int → β) → β
  | .ofNat n, k => forceN n fun m => k (.ofNat m)
  | .negSucc n, k => forceN n fun m => k (.negSucc m)

def forceB {β : Type} : Bool → (Bool → β) → β
  | true, k => k true
  | false, k => k false

def forceA {β : Type} : At → (At → β) → β
  | .int i n, k => forceI n fun m => k (.int i m)
  | .bool b, k => forceB b fun c => k (.bool c)
  | a, k => k a

def forceAs {β : Type} : List At → (List At → β) → β
  | [], k => k []
  | a :: l, k => forceA a fun a => forceAs l fun r => k (a :: r)

def forceV1 {β : Type} : V1 → (V1 → β) → β
  | .one a, k => forceA a fun a => k (.one a)
  | .agg l, k => forceAs l fun r => k (.agg r)

def forceVs {β : Type} : List V1 → (List V1 → β) → β
  | [], k => k []
  | a :: l, k => forceV1 a fun a => forceVs l fun r => k (a :: r)

def forceV {β : Type} (z : Bool) (v : LV) (k : LV → β) : β :=
  match z with
  | false => k v
  | true => match v with
    | .v x => forceV1 x fun y => k (.v y)
    | .tup l => forceVs l fun r => k (.tup r)

def putDK {β : Type} (s : St) (dst : Option Tmp) (v : LV) (k : Tr → Option β) : Option β :=
  match dst with
  | some d => match Nat.blt d s.sz with
    | true => setTK 16 s.tm d v k
    | false => none
  | none => k s.tm

def putAllK {β : Type} : Mem → List (Nat × Option Blk) → (Mem → β) → β
  | m, [], k => k m
  | m, (i, s) :: l, k => setMK m i s fun m => putAllK m l k

def newAllK {β : Type} : Mem → Nat → List Blk → (Mem → Nat → β) → β
  | m, nb, [], k => k m nb
  | m, nb, b :: l, k => forceN (nb + 1) fun nb' => newAllK ((nb, b) :: m) nb' l k

/-- What is asked, laid before what was asked; in a closed run it is looked at at once. -/
def csK {β : Type} : Bool → List (Bool × Bool) → List (Bool × Bool) → (List (Bool × Bool) → Option β) → Option β
  | _, [], old, k => k old
  | false, c :: l, old, k => csK false l old fun r => k (c :: r)
  | true, (true, true) :: l, old, k => csK true l old k
  | true, (false, false) :: l, old, k => csK true l old k
  | true, (true, false) :: _, _, _ => none
  | true, (false, true) :: _, _, _ => none

/-- The state behind an operation. -/
def appK {β : Type} (z : Md) (s : St) (dst : Option Tmp) (d : Dl) (dec : List (Option Bool)) (cs : List (Bool × Bool)) (k : St → Option β) : Option β :=
  forceV z.z d.val fun v => putDK s dst v fun tm => putAllK s.mem d.wr fun mem => newAllK mem s.nb d.nw fun mem nb =>
    csK z.z d.cs s.cs fun c1 => csK z.z cs c1 fun c2 => k ⟨tm, s.sz, mem, nb, dec, c2⟩

/-- The blocks that lay before a call. -/
def dropM (nb : Nat) : Mem → Mem
  | [] => []
  | (i, b) :: m => match Nat.blt i nb with
    | true => (i, b) :: dropM nb m
    | false => dropM nb m

def backM {β : Type} (y : Bool) (nb : Nat) (v : LV) (m : Mem) (k : Mem → β) : β :=
  match y with
  | false => k m
  | true => match v.ok fun i => Nat.blt i nb with
    | true => forceL (dropM nb m) k
    | false => k m

/-- The slot that an operation's guard looks at. -/
def guardTmp (all : List Oper) (j : Nat) : Option Tmp :=
  match all[j]? with
  | some o => o.dst
  | none => none

/-- Is the operation carried out? (what was decided, what it asks) -/
def wants (all : List Oper) (τ : Nat → LV) (o : Oper) (gd : Option Bool) : Option (Bool × List (Bool × Bool)) :=
  match o.guard with
  | none => some (true, [])
  | some (j, want) => match guardTmp all j with
    | some t => match τ t with
      | .v (.one (.bool b)) => match isTrue gd b with
        | some (c, cs) => some (c == want, cs)
        | none => none
      | .v (.one (.opq (.tuple _))) => some (false, [])
      | _ => none
    | none => none

def isPick : Op → Bool
  | .pick _ _ _ => true
  | _ => false

/-- The decisions that an operation takes, off the list: its guard's, its pick's. -/
def decsL (o : Oper) (dec : List (Option Bool)) : Option Bool × Option Bool × List (Option Bool) :=
  match o.guard with
  | none => match isPick o.op with
    | true => match takeD dec with
      | (p, r) => (none, p, r)
    | false => (none, none, dec)
  | some _ => match takeD dec with
    | (gd, r) => match isPick o.op with
      | true => match takeD r with
        | (p, r') => (gd, p, r')
      | false => (gd, none, r)

/-- What would carry out all; at an 'or' the list is asked. -/
def orD (dec : List (Option Bool)) : Option Bool × List (Option Bool) :=
  match dec with
  | [] => (some false, [])
  | d :: l => (d, l)

def autoG (o : Oper) (dec : List (Option Bool)) : Option Bool × List (Option Bool) :=
  match o.guard with
  | some (_, true) => (some true, dec)
  | some (_, false) => orD dec
  | none => (none, dec)

def autoD (o : Oper) (dec : List (Option Bool)) : Option Bool × List (Option Bool) :=
  match o.op with
  | .pick _ _ (.const (.bool false)) => (some true, dec)
  | .pick _ (.const (.bool true)) _ => orD dec
  | _ => (none, dec)

/-- Off the list; or whatever lets every operation be carried out. -/
def decs (z : Md) (o : Oper) (dec : List (Option Bool)) : Option Bool × Option Bool × List (Option Bool) :=
  match z.a with
  | false => decsL o dec
  | true => match autoG o dec with
    | (g, d1) => match autoD o d1 with
      | (p, d2) => (g, p, d2)

def oneVs : List LV → Option (List V1)
  | [] => some []
  | .v x :: l => match oneVs l with
    | some r => some (x :: r)
    | none => none
  | .tup _ :: _ => none

def resVal (P : Program) (τ : Nat → LV) (m : Mem) : ResultVar → Option LV
  | .tmp t => some (τ t)
  | .cell a t => match loadD P t (τ a) (getM m) with
    | some d => some d.val
    | none => none

def resVals (P : Program) (τ : Nat → LV) (m : Mem) : List ResultVar → Option (List LV)
  | [] => some []
  | r :: l => match resVal P τ m r, resVals P τ m l with
    | some v, some vs => some (v :: vs)
    | _, _ => none

def resultsD (P : Program) (rs : List ResultVar) (τ : Nat → LV) (m : Mem) : Option LV :=
  match resVals P τ m rs with
  | some [v] => some v
  | some vs => match oneVs vs with
    | some l => some (.tup l)
    | none => none
  | none => none

inductive Ex where
  | normal
  | exit (id : Nat)
  | ret

inductive Cmd where
  | code (c : Code)
  | ops (all rest : List Oper)
  | body (f : FuncId) (args : List LV)

inductive Out where
  | ex (e : Ex)
  | val (v : LV)

/-- One prepared operation of a region that draws: its decisions, its new blocks' first number, what it does. -/
structure Rec where
  o : Oper
  gd : Option Bool
  pd : Option Bool
  nb : Nat
  gcs : List (Bool × Bool)
  d : Dl

def skipD : Dl := .pure undefL

/-- An operation's step: not wanted: its slot is cleared. -/
def stepD (P : Program) (S : FuncId → Option Sum) (z : Md) (all : List Oper) (τ : Nat → LV) (g : Nat → Option Blk) (nb : Nat) (gd pd : Option Bool) (o : Oper) : Option (Dl × List (Bool × Bool)) :=
  match wants all τ o gd with
  | some (true, cs) => match opD P S z.z τ g nb pd o.op with
    | some d => some (d, cs)
    | none => none
  | some (false, cs) => some (skipD, cs)
  | none => none

/-- In the text's order; the records, the last one first. -/
def drawSeq (P : Program) (S : FuncId → Option Sum) (z : Md) (all : List Oper) : List Oper → St → List Rec → Option (St × List Rec)
  | [], s, acc => some (s, acc)
  | o :: rest, s, acc =>
    match decs z o s.dec with
    | (gd, pd, dec) => match stepD P S z all (getT s.tm) (getM s.mem) s.nb gd pd o with
      | some (d, cs) => appK z s o.dst d dec cs fun s' => drawSeq P S z all rest s' (⟨o, gd, pd, s.nb, cs, d⟩ :: acc)
      | none => none

def opTmps : List Operand → List Tmp
  | [] => []
  | .tmp t :: l => t :: opTmps l
  | _ :: l => opTmps l

def Rec.rT (all : List Oper) (r : Rec) : List Tmp :=
  match r.o.guard with
  | some (j, _) => match guardTmp all j with
    | some t => t :: opTmps r.o.op.operands.toList
    | none => opTmps r.o.op.operands.toList
  | none => opTmps r.o.op.operands.toList

def optMem : Option Tmp → List Tmp → Bool
  | some t, l => memB l t
  | none, _ => false

def optEq : Option Tmp → Option Tmp → Bool
  | some a, some b => Nat.beq a b
  | _, _ => false

def keys : List (Nat × Option Blk) → List Nat
  | [] => []
  | (i, _) :: l => i :: keys l

def news (nb : Nat) : List Blk → List Nat
  | [] => []
  | _ :: l => nb :: news (nb + 1) l

def Rec.wB (r : Rec) : List Nat := keys r.d.wr ++ news r.nb r.d.nw

def anyMem : List Nat → List Nat → Bool
  | [], _ => false
  | a :: l, m => match memB m a with
    | true => true
    | false => anyMem l m

/-- Does it matter which of the two goes first? -/
def conf (all : List Oper) (x y : Rec) : Bool :=
  optMem x.o.dst (y.rT all) || optMem y.o.dst (x.rT all) || optEq x.o.dst y.o.dst ||
    anyMem x.wB (y.d.rd ++ y.wB) || anyMem y.wB (x.d.rd ++ x.wB)

/-- What must go ahead of an operation: bit by bit. -/
def preMask (masks : List Nat) : List Edge → Nat
  | [] => 0
  | e :: l => match Region.binds .any e with
    | true => (1 <<< e.on) ||| masks.getD e.on 0 ||| preMask masks l
    | false => preMask masks l

def masksOf : List Oper → List Nat → List Nat
  | [], acc => acc
  | o :: l, acc => masksOf l (acc ++ [preMask acc o.after.toList])

/-- The records so far (the text's order) against one more. -/
def freeOf (all : List Oper) (mask : Nat) (y : Rec) : Nat → List Rec → Bool
  | _, [] => true
  | i, x :: l => match conf all x y with
    | true => match mask.testBit i with
      | true => freeOf all mask y (i + 1) l
      | false => false
    | false => freeOf all mask y (i + 1) l

def freeAll (all : List Oper) (masks : List Nat) : Nat → List Rec → List Rec → Bool
  | _, _, [] => true
  | j, done, y :: l => match freeOf all (masks.getD j 0) y 0 done with
    | true => freeAll all masks (j + 1) (done ++ [y]) l
    | false => false

def edgesDown : Nat → List Edge → Bool
  | _, [] => true
  | j, e :: l => match Region.binds .any e with
    | true => match Nat.blt e.on j with
      | true => edgesDown j l
      | false => false
    | false => edgesDown j l

def opsDown : Nat → List Oper → Bool
  | _, [] => true
  | j, o :: l => match edgesDown j o.after.toList with
    | true => opsDown (j + 1) l
    | false => false

def revR : List Rec → List Rec → List Rec
  | [], acc => acc
  | r :: l, acc => revR l (r :: acc)

def drawRun (P : Program) (S : FuncId → Option Sum) (z : Md) (all : List Oper) (s : St) : Option St :=
  match drawSeq P S z all all s [] with
  | some (s', acc) => match freeAll all (masksOf all []) 0 [] (revR acc []), opsDown 0 all with
    | true, true => some s'
    | _, _ => none
  | none => none

def lenL : List LV → Nat
  | [] => 0
  | _ :: l => lenL l + 1

def argsT : Tr → Nat → List LV → Tr
  | t, _, [] => t
  | t, i, v :: l => argsT (setT 16 t i v) (i + 1) l

def argsTK {β : Type} : Tr → Nat → List LV → (Tr → β) → β
  | t, _, [], k => k t
  | t, i, v :: l, k => setTK 16 t i v fun t => argsTK t (i + 1) l k

/-- A call that is walked into: of a function that is not told of. -/
def inlined (S : FuncId → Option Sum) (τ : Nat → LV) (op : Op) : Option (FuncId × List LV) :=
  match op with
  | .call c => match callee τ c with
    | some (f, args) => match S f with
      | some _ => none
      | none => some (f, args)
    | none => none
  | _ => none

abbrev Go1 := Cmd → St → Option (Out × St)

def condStep (z : Md) (rec : Go1) (c : Operand) (a b : Code) (s : St) : Option (Out × St) :=
  match ev (getT s.tm) c with
  | some (.v (.one (.bool t))) => match takeD s.dec with
    | (d, dec) => match isTrue d t with
      | some (true, cs) => csK z.z cs s.cs fun c1 => rec (.code a) ⟨s.tm, s.sz, s.mem, s.nb, dec, c1⟩
      | some (false, cs) => csK z.z cs s.cs fun c1 => rec (.code b) ⟨s.tm, s.sz, s.mem, s.nb, dec, c1⟩
      | none => none
  | _ => none

def seqStep (rec : Go1) (b : Code) : Option (Out × St) → Option (Out × St)
  | some (.ex .normal, s') => rec (.code b) s'
  | r => r

def blockStep (id : Nat) : Option (Out × St) → Option (Out × St)
  | some (.ex (.exit i), s') => match Nat.beq i id with
    | true => some (.ex .normal, s')
    | false => some (.ex (.exit i), s')
  | r => r

def drawStep : Option St → Option (Out × St)
  | some s' => some (.ex .normal, s')
  | none => none

def codeStep (P : Program) (S : FuncId → Option Sum) (z : Md) (rec : Go1) (c : Code) (s : St) : Option (Out × St) :=
  match c with
  | .skip => some (.ex .normal, s)
  | .region _ ops draw => match draw with
    | false => rec (.ops ops.toList ops.toList) s
    | true => drawStep (drawRun P S z ops.toList s)
  | .seq a b => seqStep rec b (rec (.code a) s)
  | .cond c a b => condStep z rec c a b s
  | .block id a => blockStep id (rec (.code a) s)
  | .loop a => seqStep rec (.loop a) (rec (.code a) s)
  | .exit id => some (.ex (.exit id), s)
  | .ret => some (.ex .ret, s)
  | _ => none

def inlStep (z : Md) (rec : Go1) (all rest : List Oper) (o : Oper) (nb : Nat) : Option (Out × St) → Option (Out × St)
  | some (.val v, s') => forceV z.z v fun v => putDK s' o.dst v fun tm => backM z.y nb v s'.mem fun m => rec (.ops all rest) ⟨tm, s'.sz, m, s'.nb, s'.dec, s'.cs⟩
  | _ => none

def doStep (P : Program) (S : FuncId → Option Sum) (z : Md) (rec : Go1) (all rest : List Oper) (o : Oper) (s : St) (pd : Option Bool) (dec : List (Option Bool)) (cs : List (Bool × Bool)) : Option (Out × St) :=
  match inlined S (getT s.tm) o.op with
  | some (f, args) => csK z.z cs s.cs fun c1 => inlStep z rec all rest o s.nb (rec (.body f args) ⟨s.tm, s.sz, s.mem, s.nb, dec, c1⟩)
  | none => match opD P S z.z (getT s.tm) (getM s.mem) s.nb pd o.op with
    | some d => appK z s o.dst d dec cs fun s' => rec (.ops all rest) s'
    | none => none

def opsStep (P : Program) (S : FuncId → Option Sum) (z : Md) (rec : Go1) (all : List Oper) (l : List Oper) (s : St) : Option (Out × St) :=
  match l with
  | [] => some (.ex .normal, s)
  | o :: rest => match decs z o s.dec with
    | (gd, pd, dec) => match wants all (getT s.tm) o gd with
      | some (false, cs) => appK z s o.dst skipD dec cs fun s' => rec (.ops all rest) s'
      | some (true, cs) => doStep P S z rec all rest o s pd dec cs
      | none => none

def endStep (P : Program) (fn : Func) (s : St) : Option (Out × St) → Option (Out × St)
  | some (.ex .normal, s') => match resultsD P fn.results.toList (getT s'.tm) s'.mem with
    | some v => some (.val v, ⟨s.tm, s.sz, s'.mem, s'.nb, s'.dec, s'.cs⟩)
    | none => none
  | some (.ex .ret, s') => match resultsD P fn.results.toList (getT s'.tm) s'.mem with
    | some v => some (.val v, ⟨s.tm, s.sz, s'.mem, s'.nb, s'.dec, s'.cs⟩)
    | none => none
  | _ => none

def bodyStep (P : Program) (rec : Go1) (f : FuncId) (args : List LV) (s : St) : Option (Out × St) :=
  match P.funcs[f]? with
  | some fn => match fn.body with
    | some c => match Nat.ble (lenL args) fn.ntmps, Nat.ble fn.ntmps 60000 with
      | true, true => argsTK .nil 0 args fun tm => endStep P fn s (rec (.code c) ⟨tm, fn.ntmps, s.mem, s.nb, s.dec, s.cs⟩)
      | _, _ => none
    | none => none
  | none => none

def step1 (P : Program) (S : FuncId → Option Sum) (z : Md) (rec : Go1) (c : Cmd) (s : St) : Option (Out × St) :=
  match c with
  | .code c => codeStep P S z rec c s
  | .ops all l => opsStep P S z rec all l s
  | .body f args => bodyStep P rec f args s

def exec (P : Program) (S : FuncId → Option Sum) (z : Md) : Nat → Cmd → St → Option (Out × St)
  | 0, _, _ => none
  | n + 1, c, s => step1 P S z (exec P S z n) c s

/-- A call in a memory of its own. -/
def runF (P : Program) (S : FuncId → Option Sum) (z : Md) (n : Nat) (f : FuncId) (args : List LV) (m : Mem) (nb : Nat) (dec : List (Option Bool)) : Option (LV × Mem × Nat × List (Bool × Bool)) :=
  match exec P S z n (.body f args) ⟨.nil, 0, m, nb, dec, []⟩ with
  | some (.val v, s) => some (v, s.mem, s.nb, s.cs)
  | _ => none

end Go.Lr
