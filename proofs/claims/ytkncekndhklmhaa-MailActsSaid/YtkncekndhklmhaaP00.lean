import Derived.Calls
import Derived.KernelRfl
import Derived.Laws.Sem
import Derived.Laws.World
import Derived.Laws.Cells
import Derived.Laws.Rows
import Derived.Laws.Append
import Derived.Laws.Entries
import Derived.Laws.StructEq
/- A part of the proof of a law: steps of the program on plain data, and plain facts about them; no condition. -/
set_option linter.unusedVariables false
set_option linter.unusedSimpArgs false
section
namespace Go.Ax

/-- Data that nobody changes any more. -/
inductive D where
  | lit (v : Value)
  | sl (sz : Nat) (rows : List (List D))

/-- What a temporary or a cell holds, seen from one activation. -/
inductive AV where
  | d (x : D)
  | agg (cs : List AV)
  | tup (vs : List AV)
  | sv (id ver sz off len : Nat)
  | ptr (id ver row col : Nat)
  | fp (cells : List D)
  | clo (f : FuncId) (caps : List AV)
  | top

inductive AObj where
  | box (cells : List AV)
  | arr (sz : Nat) (rows : List (List D))
  | fro (sz : Nat) (rows : List (List D))
  | dead

def AObj.owned : AObj → Bool
  | .box _ => true
  | .arr _ _ => true
  | _ => false

abbrev D.int (n : Int) : D := .lit (.int .i64 n)
abbrev D.bool (b : Bool) : D := .lit (.bool b)
abbrev AV.int (n : Int) : AV := .d (.lit (.int .i64 n))
abbrev AV.bool (b : Bool) : AV := .d (.lit (.bool b))

inductive TK where
  | int (k : IntKind)
  | bool
  | str
  | slice (e : Nat)
  | struct (fs : List (Nat × Nat))      -- type and offset
  | array (n e : Nat)
  | ptr (e : Nat)
  | other

structure TI where
  kind : TK
  size : Nat
  bytes : Nat
  zero : List D
  norm : List Nat := []        -- of each cell that is a slice: how many cells its elements have; else 0

def TK.agg : TK → Bool
  | .struct _ => true
  | .array _ _ => true
  | _ => false

/-- The function summaries: which arguments are handed over (else a slice is frozen), and what comes of it. -/
structure Fn where
  own : List Bool
  F : List AV → List AObj → Option (AV × List (Nat × AObj))

structure Env where
  T : Nat → Option TI
  S : FuncId → Option Fn
  eqs : Nat → Option Nat        -- types whose values are compared cell by cell, so many integers
  N : Nat                         -- temporaries
  cap0 : Nat → Option Nat := fun _ => none      -- capacities of what came in, in rows
  ovl : Nat → Bool := fun _ => false            -- 'slices.overlaps'

/-! ### reading the local heap, with a record of what was touched -/

abbrev Lk := Nat → Option (Nat × AObj)
abbrev M (α : Type) := Lk → Option (α × List Nat)
def M.pure {α : Type} (a : α) : M α := fun _ => some (a, [])
def M.bind {α β : Type} (m : M α) (f : α → M β) : M β := fun h =>
  match m h with
  | none => none
  | some (a, l) =>
    match f a h with
    | none => none
    | some (b, l') => some (b, l ++ l')
def M.fail {α : Type} : M α := fun _ => none
def M.lift {α : Type} (o : Option α) : M α := fun _ =>
  match o with
  | none => none
  | some a => some (a, [])
def look (id : Nat) : M (Nat × AObj) := fun h =>
  match h id with
  | none => none
  | some x => some (x, [id])
def M.need (b : Bool) : M Unit := fun _ => match b with | true => some ((), []) | false => none

instance : Monad M where
  pure := M.pure
  bind := M.bind

abbrev Heap := List (Nat × Nat × AObj)
def hget : Heap → Nat → Option (Nat × AObj)
  | [], _ => none
  | (j, v, o) :: r, i => if j = i then some (v, o) else hget r i
def hset (id ver : Nat) (o : AObj) : Heap → Heap
  | [] => [(id, ver, o)]
  | (j, v, p) :: r => if j = id then (id, ver, o) :: r else (j, v, p) :: hset id ver o r
def hputs : Heap → Heap → Heap
  | [], h => h
  | (id, ver, o) :: r, h => hputs r (hset id ver o h)

def inIds (id : Nat) : Heap → Bool
  | [] => false
  | (j, _, _) :: r => if j = id then true else inIds id r

abbrev Tm := List (Nat × AV)
def tget : Tm → Nat → Option AV
  | [], _ => none
  | (j, v) :: r, i => if j = i then some v else tget r i
def tset (i : Nat) (v : AV) : Tm → Tm
  | [] => [(i, v)]
  | (j, u) :: r => if i < j then (i, v) :: (j, u) :: r else if j = i then (i, v) :: r else (j, u) :: tset i v r

def one : Value → Bool
  | .agg _ => false
  | .tuple _ => false
  | _ => true

def constAV : Value → Option AV
  | .agg cs => match cs.toList.all one with
    | true => some (.agg (cs.toList.map fun c => .d (.lit c)))
    | false => none
  | .tuple _ => none
  | v => some (.d (.lit v))

def evalO (tm : Tm) : Operand → Option AV
  | .tmp t => tget tm t
  | .const v => constAV v
  | .func f => some (.clo f [])
  | .global _ => none

/-! ### renaming of references -/
mutual
def AV.mapRef (g : Nat → Nat → Option (Nat × Nat)) : AV → AV
  | .d x => .d x
  | .agg cs => .agg (mapRefs g cs)
  | .tup vs => .tup (mapRefs g vs)
  | .sv id ver sz off len => match g id ver with | some (i, v) => .sv i v sz off len | none => .top
  | .ptr id ver row col => match g id ver with | some (i, v) => .ptr i v row col | none => .top
  | .fp cells => .fp cells
  | .clo f caps => .clo f (mapRefs g caps)
  | .top => .top
def mapRefs (g : Nat → Nat → Option (Nat × Nat)) : List AV → List AV
  | [] => []
  | c :: r => c.mapRef g :: mapRefs g r
end

def AObj.mapRef (g : Nat → Nat → Option (Nat × Nat)) : AObj → AObj
  | .box cells => .box (mapRefs g cells)
  | .arr sz rows => .arr sz rows
  | .fro sz rows => .fro sz rows
  | .dead => .dead

mutual
def AV.refs : AV → List (Nat × Nat)
  | .agg cs => refsL cs
  | .tup vs => refsL vs
  | .sv id ver _ _ _ => [(id, ver)]
  | .ptr id ver _ _ => [(id, ver)]
  | .clo _ caps => refsL caps
  | .d _ => []
  | .fp _ => []
  | .top => []
def refsL : List AV → List (Nat × Nat)
  | [] => []
  | c :: r => c.refs ++ refsL r
end

def AObj.refs : AObj → List (Nat × Nat)
  | .box cells => refsL cells
  | _ => []

/-! ### freezing -/

/-- A cell's value as data; an owned array that is met is frozen. -/
def cellD : AV → M (D × Heap)
  | .d x => pure (x, [])
  | .sv id ver sz off len => do
    let (v, o) ← look id
    M.need (decide (v = ver))
    match o with
    | .arr _ rows => do
      M.need (decide (off + len ≤ rows.length))
      pure (.sl sz ((rows.drop off).take len), [(id, ver, .fro sz rows)])
    | .fro _ rows => do
      M.need (decide (off + len ≤ rows.length))
      pure (.sl sz ((rows.drop off).take len), [])
    | _ => M.fail
  | _ => M.fail

def cellsD : List AV → M (List D × Heap)
  | [] => pure ([], [])
  | c :: r => do
    let (x, w) ← cellD c
    let (xs, w') ← cellsD r
    pure (x :: xs, w ++ w')

/-- the nil slice as a slice without elements -/
def D.norm (n : Nat) : D → D
  | .lit (.slice none 0 0) => match n with | 0 => .lit (.slice none 0 0) | k + 1 => .sl (k + 1) []
  | x => x
def normD : List Nat → List D → List D
  | n :: ns, x :: xs => x.norm n :: normD ns xs
  | _, xs => xs
def AV.norm1 (n : Nat) : AV → AV
  | .d x => .d (x.norm n)
  | v => v
def normAs : List Nat → List AV → List AV
  | n :: ns, x :: xs => x.norm1 n :: normAs ns xs
  | _, xs => xs
def AV.norm (ns : List Nat) : AV → AV
  | .agg cs => .agg (normAs ns cs)
  | v => match ns with | [n] => v.norm1 n | _ => v

/-- is it one cell's? -/
def AV.cell : AV → Bool
  | .agg _ => false
  | .tup _ => false
  | .top => false
  | _ => true
def AV.known : AV → Bool
  | .top => false
  | _ => true
def allCell : List AV → Bool
  | [] => true
  | c :: r => match c.cell with | true => allCell r | false => false

def AV.cells : AV → List AV
  | .agg cs => cs
  | v => [v]

/-- an argument that is not handed over: its slices are frozen. -/
def freezeArg : AV → M (AV × Heap)
  | .sv id ver sz off len => do
    let (x, w) ← cellD (.sv id ver sz off len)
    pure (.d x, w)
  | .agg cs => do
    let (xs, w) ← freezeCells cs
    pure (.agg xs, w)
  | v => pure (v, [])
where freezeCells : List AV → M (List AV × Heap)
  | [] => pure ([], [])
  | .sv id ver sz off len :: r => do
    let (x, w) ← cellD (.sv id ver sz off len)
    let (xs, w') ← freezeCells r
    pure (.d x :: xs, w ++ w')
  | c :: r => do
    let (xs, w') ← freezeCells r
    pure (c :: xs, w')

def freezeArgs : List Bool → List AV → M (List AV × Heap)
  | _, [] => pure ([], [])
  | true :: bs, a :: r => do
    let (xs, w) ← freezeArgs bs r
    pure (a :: xs, w)
  | [], a :: r => do
    let (x, w) ← freezeArg a
    let (xs, w') ← freezeArgs [] r
    pure (x :: xs, w ++ w')
  | false :: bs, a :: r => do
    let (x, w) ← freezeArg a
    let (xs, w') ← freezeArgs bs r
    pure (x :: xs, w ++ w')

/-! ### calls -/

/-- the objects that are reached from references -/
def collect : Nat → List (Nat × Nat) → Heap → M Heap
  | _, [], acc => pure acc
  | 0, _ :: _, _ => M.fail
  | n + 1, (id, ver) :: todo, acc =>
    match inIds id acc with
    | true => collect n todo acc
    | false => do
      let (v, o) ← look id
      match decide (v = ver) with
      | true => collect n (todo ++ o.refs) (acc ++ [(id, v, o)])
      | false => collect n todo acc

/-- a reference of the caller's as the callee's: the place in the list. -/
def locRef (j : Nat) : Heap → Nat → Nat → Option (Nat × Nat)
  | [], _, _ => none
  | (i, v, _) :: r, id, ver => if i = id then (if v = ver then some (j, 0) else none) else locRef (j + 1) r id ver

def backRef (base : Nat) : Heap → Nat → Nat → Option (Nat × Nat)
  | [], j, v => some (base + j, v)
  | (i, v0, _) :: _, 0, v => some (i, v0 + v)
  | _ :: r, j + 1, v => backRef base r j v

def backObjs (g : Nat → Nat → Option (Nat × Nat)) : Nat → List (Nat × AObj) → Heap
  | _, [] => []
  | j, (v, o) :: r => match g j v with
    | some (i, u) => (i, u, o.mapRef g) :: backObjs g (j + 1) r
    | none => backObjs g (j + 1) r

def normArgs (E : Env) : List Nat → List AV → List AV
  | t :: ts, a :: r => (match E.T t with | some ti => a.norm ti.norm | none => a) :: normArgs E ts r
  | _, r => r

def callM (E : Env) (base : Nat) (f : FuncId) (args : List AV) : M (AV × Heap) := do
  let fn ← M.lift (E.S f)
  let (args1, wr) ← freezeArgs fn.own args
  let L ← collect 64 (refsL args1) []
  let (r, objs) ← M.lift (fn.F (mapRefs (locRef 0 L) args1) (L.map fun x => x.2.2.mapRef (locRef 0 L)))
  M.need (decide (L.length ≤ objs.length ∧ objs.length ≤ L.length + 16))
  M.need (L.all fun x => !inIds x.1 wr)
  pure (r.mapRef (backRef base L), wr ++ backObjs (backRef base L) 0 objs)

/-! ### operations -/

def binV (op : BinOp) (x y : Value) : Option Value :=
  match x, y with
  | .int k a, .int k' b =>
    match op with
    | .shl => match decide (0 ≤ b) with | true => some (.int k (k.wrap (a * 2 ^ (min b.toNat k.bits)))) | false => none
    | .shr => match decide (0 ≤ b) with | true => some (.int k (a.fdiv (2 ^ (min b.toNat k.bits)))) | false => none
    | _ =>
    match decide (k = k') with
    | false => none
    | true =>
    match op with
    | .add => some (.int k (k.wrap (a + b)))
    | .sub => some (.int k (k.wrap (a - b)))
    | .mul => some (.int k (k.wrap (a * b)))
    | .quo => match decide (b = 0) with | true => none | false => some (.int k (k.wrap (a.tdiv b)))
    | .rem => match decide (b = 0) with | true => none | false => some (.int k (a.tmod b))
    | .eql => some (.bool (a == b))
    | .neq => some (.bool (a != b))
    | .lss => some (.bool (decide (a < b)))
    | .leq => some (.bool (decide (a ≤ b)))
    | .gtr => some (.bool (decide (b < a)))
    | .geq => some (.bool (decide (b ≤ a)))
    | .and => some (.int k (k.wrap ((BitVec.ofInt k.bits a &&& BitVec.ofInt k.bits b).toNat)))
    | .or => some (.int k (k.wrap ((BitVec.ofInt k.bits a ||| BitVec.ofInt k.bits b).toNat)))
    | .xor => some (.int k (k.wrap ((BitVec.ofInt k.bits a ^^^ BitVec.ofInt k.bits b).toNat)))
    | .andNot => some (.int k (k.wrap ((BitVec.ofInt k.bits a &&& ~~~(BitVec.ofInt k.bits b)).toNat)))
    | _ => none
  | _, _ => none

def intsEq : Nat → List AV → List AV → Option Bool
  | 0, [], [] => some true
  | n + 1, .d (.lit (.int .i64 a)) :: r, .d (.lit (.int .i64 b)) :: s =>
    match intsEq n r s with
    | some t => some (a == b && t)
    | none => none
  | _, _, _ => none

def binA (E : Env) (op : BinOp) (ty : Nat) (x y : AV) : Option AV :=
  match x, y with
  | .d (.lit (.bool a)), .d (.lit (.bool b)) =>
    match E.T ty with
    | some { kind := .bool, .. } =>
      match op with
      | .eql => some (.d (.lit (.bool (a == b))))
      | .neq => some (.d (.lit (.bool (a != b))))
      | _ => none
    | _ => none
  | .d (.lit v), .d (.lit u) =>
    match binV op v u with
    | some r => some (.d (.lit r))
    | none => none
  | .agg cs, .agg ds =>
    match E.eqs ty with
    | none => none
    | some n =>
      match intsEq n cs ds with
      | none => none
      | some b =>
        match op with
        | .eql => some (.bool b)
        | .neq => some (.bool !b)
        | _ => none
  | _, _ => none

def splice : List AV → Nat → List AV → Option (List AV)
  | cs, 0, [] => some cs
  | _ :: r, 0, v :: vs => match splice r 0 vs with | some x => some (v :: x) | none => none
  | [], _, _ => none
  | c :: r, n + 1, vs => match splice r n vs with | some x => some (c :: x) | none => none

def spliceD : List D → Nat → List D → Option (List D)
  | cs, 0, [] => some cs
  | _ :: r, 0, v :: vs => match spliceD r 0 vs with | some x => some (v :: x) | none => none
  | [], _, _ => none
  | c :: r, n + 1, vs => match spliceD r n vs with | some x => some (c :: x) | none => none

/-- parts of a struct or an array value -/
def fills (place : Nat → Option (Nat × Nat)) : List (Nat × AV) → List AV → Option (List AV)
  | [], cs => some cs
  | (i, v) :: r, cs =>
    match place i with
    | none => none
    | some (off, size) =>
      match decide (v.cells.length = size) with
      | false => none
      | true =>
        match splice cs off v.cells with
        | none => none
        | some cs' => fills place r cs'

/-- rows of a slice that is listed -/
def fillRows : List (Nat × List D) → List (List D) → Option (List (List D))
  | [], rows => some rows
  | (i, r) :: rest, rows => match decide (i < rows.length) with
    | true => fillRows rest (rows.set i r)
    | false => none

def partsD (sz : Nat) (ns : List Nat) : List (Nat × AV) → M (List (Nat × List D) × Heap)
  | [] => pure ([], [])
  | (i, v) :: r => do
    let (xs, w) ← cellsD v.cells
    M.need (decide (xs.length = sz))
    let (ys, w') ← partsD sz ns r
    pure ((i, normD ns xs) :: ys, w ++ w')

def takeN {α : Type} : Nat → List α → Option (List α)
  | 0, _ => some []
  | _ + 1, [] => none
  | n + 1, c :: r => match takeN n r with | some x => some (c :: x) | none => none

def asOne (agg : Bool) (cs : List AV) : Option AV :=
  match agg with
  | true => some (.agg cs)
  | false => match cs with | [c] => some c | _ => none

def asInt64 : AV → Option Int
  | .d (.lit (.int _ n)) => some n
  | _ => none

def loadA (ti : TI) : AV → M AV
  | .ptr id ver row col => do
    let (v, o) ← look id
    M.need (decide (v = ver))
    match o with
    | .box cells => do
      M.need (decide (row = 0))
      let cs ← M.lift (takeN ti.size (cells.drop col))
      M.lift (asOne ti.kind.agg cs)
    | .arr _ rows => do
      let r ← M.lift rows[row]?
      let cs ← M.lift (takeN ti.size (r.drop col))
      M.lift (asOne ti.kind.agg (cs.map .d))
    | .fro _ rows => do
      let r ← M.lift rows[row]?
      let cs ← M.lift (takeN ti.size (r.drop col))
      M.lift (asOne ti.kind.agg (cs.map .d))
    | .dead => M.fail
  | .fp cells => do
    let cs ← M.lift (takeN ti.size cells)
    M.lift (asOne ti.kind.agg (cs.map .d))
  | _ => M.fail

def storeA (ti : TI) (x : AV) : AV → M Heap
  | .ptr id ver row col => do
    let (v, o) ← look id
    M.need (decide (v = ver))
    M.need (decide (x.cells.length = ti.size))
    M.need (allCell x.cells)
    match o with
    | .box cells => do
      M.need (decide (row = 0))
      let cs ← M.lift (splice cells col x.cells)
      pure [(id, ver, .box cs)]
    | .arr sz rows => do
      let (xs, w) ← cellsD x.cells
      M.need (!inIds id w)
      let r ← M.lift rows[row]?
      let r' ← M.lift (spliceD r col (normD ti.norm xs))
      pure (w ++ [(id, ver, .arr sz (rows.set row r'))])
    | _ => M.fail
  | _ => M.fail

/-- the rows of what is appended -/
def rowsOf (sz : Nat) : AV → M (List (List D))
  | .d (.sl sz' rows) => do
    M.need (decide (sz' = sz))
    pure rows
  | .d (.lit (.slice none 0 0)) => pure []
  | .sv id ver sz' off len => do
    M.need (decide (sz' = sz))
    let (v, o) ← look id
    M.need (decide (v = ver))
    match o with
    | .arr _ rows => do
      M.need (decide (off + len ≤ rows.length))
      pure ((rows.drop off).take len)
    | .fro _ rows => do
      M.need (decide (off + len ≤ rows.length))
      pure ((rows.drop off).take len)
    | _ => M.fail
  | _ => M.fail

def sumLen : Nat := 16777216      -- rows that a slice may have

def appendA (ti : TI) (base : Nat) (s x : AV) : M (AV × Heap) := do
  let rows2 ← rowsOf ti.size x
  M.need (decide (ti.bytes ≤ 4096 ∧ ti.size ≠ 0))
  match s with
  | .d (.lit (.slice none 0 0)) =>
    match rows2 with
    | [] => pure (s, [])
    | _ => do
      M.need (decide (rows2.length ≤ sumLen))
      pure (.sv base 0 ti.size 0 rows2.length, [(base, 0, .arr ti.size rows2)])
  | .sv id ver sz off len => do
    M.need (decide (sz = ti.size))
    let (v, o) ← look id
    M.need (decide (v = ver))
    match o with
    | .arr _ rows => do
      match decide (off + len = rows.length) with
      | true => do
        M.need (decide (len + rows2.length ≤ sumLen))
        pure (.sv id (ver + 1) sz 0 (len + rows2.length), [(id, ver + 1, .arr sz (rows.drop off ++ rows2))])
      | false => do
        M.need (decide (off + len + rows2.length ≤ rows.length))
        pure (.sv id ver sz off (len + rows2.length), [(id, ver, .arr sz (rows.take (off + len) ++ rows2 ++ rows.drop (off + len + rows2.length)))])
    | _ => M.fail
  | _ => M.fail

def lenA : AV → Option Int
  | .d (.sl _ rows) => some rows.length
  | .d (.lit (.slice _ n _)) => some n
  | .sv _ _ _ _ len => some len
  | _ => none

def optInt : Option AV → Option (Option Int)
  | none => some none
  | some v => match asInt64 v with | some n => some (some n) | none => none

/-- bounds of x[l:h] where the length is 'len' and nothing behind it is asked for -/
def bounds (len : Nat) (lo hi : Option Int) : Option (Nat × Nat) :=
  match (match hi with | some h => h | none => (len : Int)), (match lo with | some l => l | none => 0) with
  | h, l => match decide (0 ≤ l ∧ l ≤ h ∧ h ≤ len) with
    | true => some (l.toNat, h.toNat)
    | false => none

def sliceA (size : Nat) (x : AV) (lo hi : Option Int) : Option AV :=
  match x with
  | .sv id ver sz off len => match decide (sz = size) with
    | false => none
    | true => match bounds len lo hi with
      | some (l, h) => some (.sv id ver sz (off + l) (h - l))
      | none => none
  | .d (.sl sz rows) => match decide (sz = size) with
    | false => none
    | true => match bounds rows.length lo hi with
      | some (l, h) => some (.d (.sl sz ((rows.drop l).take (h - l))))
      | none => none
  | .d (.lit (.slice none 0 0)) => match bounds 0 lo hi with
    | some _ => some x
    | none => none
  | _ => none

def indexS (size : Nat) (x : AV) (i : Int) : Option AV :=
  match x with
  | .sv id ver sz off len => match decide (sz = size ∧ 0 ≤ i ∧ i < len) with
    | true => some (.ptr id ver (off + i.toNat) 0)
    | false => none
  | .d (.sl sz rows) => match decide (sz = size ∧ 0 ≤ i) with
    | false => none
    | true => match rows[i.toNat]? with
      | some r => some (.fp r)
      | none => none
  | _ => none

def indexArr (n size : Nat) (x : AV) (i : Int) : Option AV :=
  match x with
  | .ptr id ver row col => match decide (0 ≤ i ∧ i < n) with
      | true => some (.ptr id ver row (col + i.toNat * size))
      | false => none
  | _ => none

def evals (ρ : Operand → Option AV) : List Operand → Option (List AV)
  | [] => some []
  | x :: r => match ρ x with
    | none => none
    | some v => match evals ρ r with
      | none => none
      | some vs => some (v :: vs)

def evalParts (ρ : Operand → Option AV) : List (Nat × Operand) → Option (List (Nat × AV))
  | [] => some []
  | (i, x) :: r => match ρ x with
    | none => none
    | some v => match evalParts ρ r with
      | none => none
      | some vs => some ((i, v) :: vs)

def maxs : List AV → Option AV
  | [x] => some x
  | .d (.lit (.int .i64 a)) :: .d (.lit (.int .i64 b)) :: r => maxs (.d (.lit (.int .i64 (if b > a then b else a))) :: r)
  | _ => none
  termination_by l => l.length
def mins : List AV → Option AV
  | [x] => some x
  | .d (.lit (.int .i64 a)) :: .d (.lit (.int .i64 b)) :: r => mins (.d (.lit (.int .i64 (if b < a then b else a))) :: r)
  | _ => none
  termination_by l => l.length

def elemOf (E : Env) (ty : Nat) : Option (Nat × TI) :=
  match E.T ty with
  | some { kind := .slice e, .. } => match E.T e with | some ti => some (e, ti) | none => none
  | _ => none

inductive LenTy where
  | slice (t : Nat)
  | other
def sliceTy (E : Env) (tys : List Nat) : Option LenTy :=
  match tys with
  | [t] => match E.T t with
    | some { kind := .slice _, .. } => some (.slice t)
    | _ => none
  | _ => none

def builtinA (E : Env) (base : Nat) (b : Builtin) (tys : List Nat) (args : List AV) : M (AV × Heap) :=
  match b, args with
  | .len, [x] => do
    let _ ← M.lift (sliceTy E tys)
    let n ← M.lift (lenA x)
    pure (.int n, [])
  | .max, xs => do
    let v ← M.lift (maxs xs)
    pure (v, [])
  | .min, xs => do
    let v ← M.lift (mins xs)
    pure (v, [])
  | .append, [s, x] => do
    let (_, ti) ← M.lift (elemOf E (tys.getD 0 0))
    M.need (decide (tys = [tys.getD 0 0, tys.getD 0 0]))
    appendA ti base s x
  | _, _ => M.fail

def placeOf (E : Env) (fs : List (Nat × Nat)) (i : Nat) : Option (Nat × Nat) :=
  match fs[i]? with
  | none => none
  | some (ft, off) =>
    match E.T ft with
    | some fi => some (off, fi.size)
    | none => none

def convA (s t : TK) (v : AV) : Option AV :=
  match s, t, v with
  | .int _, .int k, .d (.lit (.int _ n)) => some (.d (.lit (.int k (k.wrap n))))
  | _, _, _ => none

/-- one operation: the value of its slot, and what becomes of the objects -/
def evalOp0 (E : Env) (base : Nat) (ρ : Operand → Option AV) (o : Op) : M (AV × Heap) :=
  match o with
  | .move x => do
    let v ← M.lift (ρ x)
    pure (v, [])
  | .assign x => do
    let v ← M.lift (ρ x)
    pure (v, [])
  | .pick c a b => do
    let v ← M.lift (ρ c)
    match v with
    | .d (.lit (.bool true)) => do
      let u ← M.lift (ρ a)
      pure (u, [])
    | .d (.lit (.bool false)) => do
      let u ← M.lift (ρ b)
      pure (u, [])
    | _ => M.fail
  | .alloc t => do
    let ti ← M.lift (E.T t)
    pure (.ptr base 0 0 0, [(base, 0, .box (ti.zero.map .d))])
  | .box _ x => do
    let v ← M.lift (ρ x)
    M.need v.known
    pure (.ptr base 0 0 0, [(base, 0, .box v.cells)])
  | .build t parts => do
    let ti ← M.lift (E.T t)
    let ps ← M.lift (evalParts ρ parts.toList)
    M.need (ps.all fun x => x.2.known)
    match ti.kind with
    | .struct fs => do
      M.need (fs.all fun x => (E.T x.1).isSome)
      let cs ← M.lift (fills (placeOf E fs) ps (ti.zero.map .d))
      pure (.agg cs, [])
    | .array _ e => do
      let ei ← M.lift (E.T e)
      let cs ← M.lift (fills (fun i => some (i * ei.size, ei.size)) ps (ti.zero.map .d))
      pure (.agg cs, [])
    | _ => M.fail
  | .buildSlice t len parts => do
    let (_, ei) ← M.lift (elemOf E t)
    M.need (decide (len * ei.size ≤ 65536))
    let ps ← M.lift (evalParts ρ parts.toList)
    M.need (ps.all fun x => x.2.known)
    let (rs, w) ← partsD ei.size ei.norm ps
    let rows ← M.lift (fillRows rs (List.replicate len (normD ei.norm ei.zero)))
    pure (.sv base 0 ei.size 0 len, w ++ [(base, 0, .arr ei.size rows)])
  | .load t a => do
    let ti ← M.lift (E.T t)
    let v ← M.lift (ρ a)
    let x ← loadA ti v
    pure (x, [])
  | .store t a x => do
    let ti ← M.lift (E.T t)
    let v ← M.lift (ρ a)
    let u ← M.lift (ρ x)
    let w ← storeA ti u v
    pure (.top, w)
  | .nilCheck x => do
    let v ← M.lift (ρ x)
    match v with
    | .ptr _ _ _ _ => pure (v, [])
    | .fp _ => pure (v, [])
    | _ => M.fail
  | .binOp op ty x y _ => do
    let v ← M.lift (ρ x)
    let u ← M.lift (ρ y)
    let r ← M.lift (binA E op ty v u)
    pure (r, [])
  | .unOp op _ x => do
    let v ← M.lift (ρ x)
    match op, v with
    | .not, .d (.lit (.bool b)) => pure (.bool !b, [])
    | .neg, .d (.lit (.int k n)) => pure (.d (.lit (.int k (k.wrap (0 - n)))), [])
    | _, _ => M.fail
  | .convert s t x => do
    let si ← M.lift (E.T s)
    let ti ← M.lift (E.T t)
    let v ← M.lift (ρ x)
    let r ← M.lift (convA si.kind ti.kind v)
    pure (r, [])
  | .makeFunc fn first captured => do
    let cs ← M.lift (evals ρ captured.toList)
    match fn, first.toList with
    | .func f, [] => pure (.clo f cs, [])
    | _, _ => M.fail
  | .makeSlice t len cap => do
    let (_, ei) ← M.lift (elemOf E t)
    let l ← M.lift (ρ len)
    let c ← M.lift (ρ cap)
    let n ← M.lift (asInt64 l)
    let m ← M.lift (asInt64 c)
    M.need (decide (0 ≤ n ∧ n ≤ m ∧ m ≤ sumLen))
    M.need (decide (ei.bytes ≤ 4096))
    pure (.sv base 0 ei.size 0 n.toNat, [(base, 0, .arr ei.size (List.replicate n.toNat (normD ei.norm ei.zero)))])
  | .slice t x lo hi mx => do
    let (_, ei) ← M.lift (elemOf E t)
    let v ← M.lift (ρ x)
    let l ← M.lift (match lo with | none => some none | some y => match ρ y with | none => none | some z => optInt (some z))
    let h ← M.lift (match hi with | none => some none | some y => match ρ y with | none => none | some z => optInt (some z))
    match mx with
    | none => do
      let r ← M.lift (sliceA ei.size v l h)
      pure (r, [])
    | some _ => M.fail
  | .fieldAddr t x f => do
    let ti ← M.lift (E.T t)
    let v ← M.lift (ρ x)
    match ti.kind with
    | .struct fs => do
      let (ft, off) ← M.lift fs[f]?
      let fi ← M.lift (E.T ft)
      M.need (decide (fi.size ≠ 0))
      match v with
      | .ptr id ver row col => pure (.ptr id ver row (col + off), [])
      | .fp cells => pure (.fp (cells.drop off), [])
      | _ => M.fail
    | _ => M.fail
  | .field t x f => do
    let ti ← M.lift (E.T t)
    let v ← M.lift (ρ x)
    match ti.kind, v with
    | .struct fs, .agg cs => do
      let (ft, off) ← M.lift fs[f]?
      let fi ← M.lift (E.T ft)
      let xs ← M.lift (takeN fi.size (cs.drop off))
      let r ← M.lift (asOne fi.kind.agg xs)
      pure (r, [])
    | _, _ => M.fail
  | .indexAddr t x i => do
    let ti ← M.lift (E.T t)
    let v ← M.lift (ρ x)
    let j ← M.lift (ρ i)
    let n ← M.lift (asInt64 j)
    match ti.kind with
    | .slice e => do
      let ei ← M.lift (E.T e)
      let r ← M.lift (indexS ei.size v n)
      pure (r, [])
    | .array m e => do
      let ei ← M.lift (E.T e)
      let r ← M.lift (indexArr m ei.size v n)
      pure (r, [])
    | _ => M.fail
  | .extract x i => do
    let v ← M.lift (ρ x)
    match v with
    | .tup vs => do
      let r ← M.lift vs[i]?
      pure (r, [])
    | _ => M.fail
  | .call c => do
    let args ← M.lift (evals ρ c.args.toList)
    match c.callee with
    | .builtin b => builtinA E base b c.argTypes.toList args
    | .value f => do
      let v ← M.lift (ρ f)
      match v with
      | .clo g caps => callM E base g (normArgs E c.argTypes.toList args ++ caps)
      | _ => M.fail
    | .invoke _ _ => M.fail
  | _ => M.fail

/-! ### further operations -/
def rowsK (sz k : Nat) : AV → M (List (List D))
  | .d (.sl sz' rows) => do
    M.need (decide (sz' = sz ∧ k ≤ rows.length))
    pure (rows.take k)
  | .sv id ver sz' off _ => do
    M.need (decide (sz' = sz))
    let (v, o) ← look id
    M.need (decide (v = ver))
    match o with
    | .arr _ rows => do
      M.need (decide (off + k ≤ rows.length))
      pure ((rows.drop off).take k)
    | .fro _ rows => do
      M.need (decide (off + k ≤ rows.length))
      pure ((rows.drop off).take k)
    | _ => M.fail
  | _ => M.fail

def lenS : AV → Option Int
  | .d (.sl _ rows) => some rows.length
  | .sv _ _ _ _ len => some len
  | _ => none

def intAt (ρ : Operand → Option AV) (x : Option Operand) : Option (Option Int) :=
  match x with
  | none => some none
  | some y => match ρ y with | none => none | some z => optInt (some z)

/-- is the operation one of the further ones? -/
def isX (E : Env) (ρ : Operand → Option AV) : Op → Bool
  | .slice _ _ _ _ (some _) => true
  | .slice _ x _ _ none => match ρ x with | some (.sv _ _ _ _ _) => true | _ => false
  | .binOp _ _ _ y _ => match ρ y with | some (.d (.lit (.slice _ _ _))) => true | _ => false
  | .call c => match c.callee with
    | .builtin .cap => true
    | .builtin .copy => true
    | .builtin .clear => true
    | .builtin .append => match c.args.toList.map ρ with
      | [_, some (.d (.lit (.int _ _)))] => true
      | [_, some (.d (.lit (.slice (some _) _ _)))] => true
      | _ => false
    | .value (.func f) => E.ovl f
    | _ => false
  | _ => false

def nilCmp (op : BinOp) (b : Bool) : Option AV :=
  match op with
  | .eql => some (.d (.lit (.bool b)))
  | .neq => some (.d (.lit (.bool !b)))
  | _ => none

def nilEq (op : BinOp) (x y : AV) : Option AV :=
  match x, y with
  | .d (.sl _ (_ :: _)), .d (.lit (.slice none 0 0)) => nilCmp op false
  | .d (.lit (.slice a _ _)), .d (.lit (.slice none 0 0)) => nilCmp op a.isNone
  | _, _ => none

def overlapA (x y : AV) : M (AV × Heap) :=
  match x, y with
  | .d (.sl sz (_ :: _)), .sv id ver sz' off len => do
    M.need (decide (sz = sz' ∧ sz ≠ 0 ∧ len ≠ 0))
    let (v, o) ← look id
    M.need (decide (v = ver))
    match o with
    | .arr _ _ => pure (.bool false, [])
    | _ => M.fail
  | _, _ => M.fail

def clearA (ei : TI) (x : AV) : M (AV × Heap) :=
  match x with
  | .sv id ver sz off len => do
    M.need (decide (sz = ei.size))
    let (v, o) ← look id
    M.need (decide (v = ver))
    match o with
    | .arr _ rows => do
      M.need (decide (len ≠ 0 ∧ off + len ≤ rows.length))
      pure (.tup [], [(id, ver, .arr sz (rows.take off ++ List.replicate len (normD ei.norm ei.zero) ++ rows.drop (off + len)))])
    | _ => M.fail
  | _ => M.fail

def copyA (ei : TI) (x y : AV) : M (AV × Heap) :=
  match x with
  | .sv id ver sz off len => do
    let n ← M.lift (lenS y)
    M.need (decide (0 ≤ n))
    let src ← rowsK ei.size (min n.toNat len) y
    M.need (decide (sz = ei.size))
    let (v, o) ← look id
    M.need (decide (v = ver))
    match o with
    | .arr _ rows => do
      M.need (decide (len ≠ 0 ∧ off ≤ rows.length))
      pure (.int (min n.toNat len : Nat), [(id, ver, .arr sz (rows.take off ++ src ++ rows.drop (off + src.length)))])
    | _ => M.fail
  | _ => M.fail

def appendZ (E : Env) (ei : TI) (base : Nat) (x y : AV) : M (AV × Heap) :=
  match x, y with
  | .sv id 0 sz off len, .d (.lit (.int .i64 k)) => do
    M.need (decide (sz = ei.size ∧ ei.size ≠ 0 ∧ ei.bytes ≤ 4096 ∧ 0 ≤ k))
    let c ← M.lift (E.cap0 id)
    let (v, o) ← look id
    M.need (decide (v = 0))
    match o with
    | .arr _ rows => do
      M.need (decide (off + len ≤ rows.length ∧ off ≤ c ∧ c - off < len + k.toNat ∧ len + k.toNat ≤ sumLen))
      pure (.sv base 0 sz 0 (len + k.toNat), [(base, 0, .arr sz ((rows.drop off).take len ++ List.replicate k.toNat (normD ei.norm ei.zero)))])
    | _ => M.fail
  | _, _ => M.fail

def capR (id ver : Nat) : M Nat := do
  let (v, o) ← look id
  M.need (decide (v = ver))
  match o with
  | .arr _ rows => pure rows.length
  | _ => M.fail
def capM (E : Env) (id ver : Nat) : M Nat :=
  match E.cap0 id with
  | some c => if ver = 0 then pure c else capR id ver
  | none => capR id ver

def sliceBig (E : Env) (size : Nat) (x : AV) (lo hi : Option Int) : M (AV × Heap) :=
  match x with
  | .sv id ver sz off len => do
    M.need (decide (sz = size ∧ size ≠ 0))
    M.need (decide (0 ≤ lo.getD 0 ∧ lo.getD 0 ≤ hi.getD len))
    let mx ← capM E id ver
    M.need (decide ((off : Int) + hi.getD len ≤ mx))
    pure (.sv id ver sz (off + (lo.getD 0).toNat) (hi.getD len - lo.getD 0).toNat, [])
  | _ => M.fail

def capX (E : Env) (x : AV) : M (AV × Heap) :=
  match x with
  | .sv id ver sz off _ => do
    let n ← M.lift (E.cap0 id)
    M.need (decide (ver = 0 ∧ sz ≠ 0 ∧ off ≤ n))
    pure (.int (n - off : Nat), [])
  | _ => M.fail

def isEmptyLit : AV → Bool
  | .d (.lit (.slice (some _) 0 _)) => true
  | _ => false

def isSv : AV → Bool
  | .sv _ _ _ _ _ => true
  | _ => false

def sameTys (tys : List Nat) : Bool := decide (tys = [tys.getD 0 0, tys.getD 0 0])

def builtinX (E : Env) (base : Nat) (b : Builtin) (tys : List Nat) (args : List AV) : M (AV × Heap) :=
  match b, args with
  | .cap, [x] => do
    let (_, _) ← M.lift (elemOf E (tys.getD 0 0))
    M.need (decide (tys = [tys.getD 0 0]))
    capX E x
  | .copy, [x, y] => do
    let (_, ei) ← M.lift (elemOf E (tys.getD 0 0))
    M.need (sameTys tys)
    copyA ei x y
  | .clear, [x] => do
    let (_, ei) ← M.lift (elemOf E (tys.getD 0 0))
    M.need (decide (tys = [tys.getD 0 0]))
    clearA ei x
  | .append, [x, y] => do
    let (_, ei) ← M.lift (elemOf E (tys.getD 0 0))
    match isEmptyLit y with
    | true => do
      M.need (sameTys tys && isSv x)
      pure (x, [])
    | false => do
      M.need (decide (tys = [tys.getD 0 0, tys.getD 1 0]))
      let ti ← M.lift (E.T (tys.getD 1 0))
      match ti.kind with
      | .int _ => appendZ E ei base x y
      | _ => M.fail
  | _, _ => M.fail

def overX (E : Env) (f : Operand) (args : List AV) : M (AV × Heap) :=
  match f with
  | .func f =>
    match args with
    | [x, y] => do
      M.need (E.ovl f)
      overlapA x y
    | _ => M.fail
  | _ => M.fail

def evalX (E : Env) (base : Nat) (ρ : Operand → Option AV) (o : Op) : M (AV × Heap) :=
  match o with
  | .slice t x lo hi (some mx) => do
    let (_, _) ← M.lift (elemOf E t)
    let v ← M.lift (ρ x)
    let l ← M.lift (intAt ρ lo)
    let h ← M.lift (intAt ρ hi)
    let m ← M.lift (intAt ρ (some mx))
    let n ← M.lift (lenS v)
    match l, h, m with
    | some l, some h, some m => do
      M.need (decide (0 ≤ l ∧ l ≤ h ∧ h ≤ m ∧ m ≤ n))
      pure (.top, [])
    | _, _, _ => M.fail
  | .slice t x lo hi none => do
    let (_, ei) ← M.lift (elemOf E t)
    let v ← M.lift (ρ x)
    let l ← M.lift (intAt ρ lo)
    let h ← M.lift (intAt ρ hi)
    match sliceA ei.size v l h with
    | some r => pure (r, [])
    | none => sliceBig E ei.size v l h
  | .binOp op ty x y _ => do
    let v ← M.lift (ρ x)
    let u ← M.lift (ρ y)
    let (_, _) ← M.lift (elemOf E ty)
    let r ← M.lift (nilEq op v u)
    pure (r, [])
  | .call c => do
    let args ← M.lift (evals ρ c.args.toList)
    match c.callee with
    | .builtin b => builtinX E base b c.argTypes.toList args
    | .value f => overX E f args
    | .invoke _ _ => M.fail
  | _ => M.fail

def evalOp (E : Env) (base : Nat) (ρ : Operand → Option AV) (o : Op) : M (AV × Heap) :=
  match isX E ρ o with
  | true => evalX E base ρ o
  | false => evalOp0 E base ρ o

/-! ### regions -/

/-- what a guard asks: the slot of the operation that it names -/
def guardOf (ops : List Oper) (tm : Tm) (j : Nat) : Option Bool :=
  match ops[j]? with
  | some { dst := some t, .. } => match tget tm t with
    | some (.d (.lit (.bool b))) => some b
    | _ => none
  | _ => none

def putD (N : Nat) (dst : Option Tmp) (v : AV) (tm : Tm) : Option Tm :=
  match dst with
  | none => some tm
  | some t => match decide (t < N) with
    | true => some (tset t v tm)
    | false => none

structure LogE where
  i : Nat
  reads : List Nat
  writes : List Nat

def step1 (E : Env) (nxt i : Nat) (o : Oper) (tm : Tm) (hp : Heap) : Option (Tm × Heap × LogE) :=
  match evalOp E (nxt + 32 * i) (evalO tm) o.op (hget hp) with
  | none => none
  | some ((v, w), l) => match putD E.N o.dst v tm with
    | none => none
    | some tm' => some (tm', hputs w hp, ⟨i, l, w.map (·.1)⟩)

/-- the operations of a region in the order of the text -/
def ops1 (E : Env) (nxt : Nat) (all : List Oper) : Nat → List Oper → Tm → Heap → List LogE → (Tm → Heap → List LogE → Prop) → Prop
  | _, [], tm, hp, log, K => K tm hp log
  | i, o :: r, tm, hp, log, K =>
    match o.guard with
    | none => match step1 E nxt i o tm hp with
      | none => False
      | some (tm', hp', e) => ops1 E nxt all (i + 1) r tm' hp' (e :: log) K
    | some (j, want) => match guardOf all tm j with
      | none => False
      | some b => if b = want then
            match step1 E nxt i o tm hp with
            | none => False
            | some (tm', hp', e) => ops1 E nxt all (i + 1) r tm' hp' (e :: log) K
          else match putD E.N o.dst .top tm with
            | none => False
            | some tm' => ops1 E nxt all (i + 1) r tm' hp log K

structure ASt where
  tm : Tm
  hp : Heap
  nxt : Nat

inductive AItem where
  | code (c : Code)
  | blk (id : Nat)
  | lop (c : Code)

def exitTo (id : Nat) : List AItem → Option (List AItem)
  | [] => none
  | .blk j :: k => if id = j then some k else exitTo id k
  | _ :: k => exitTo id k

end Go.Ax
end
section
namespace Go.Ax

structure Place where
  blk : Nat
  base : Nat
  sz : Nat
  size : Nat
  virt : Bool

abbrev Beta := Nat → Nat → Option Place
abbrev CellSet := Nat → Nat → Prop
abbrev at_ (b o : Nat) : Addr := ⟨b, o, none⟩

theorem at_add (b o n : Nat) : (at_ b o).add n = at_ b (o + n) := by
  unfold Addr.add
  by_cases h : n = 0 <;> simp [h, at_]

inductive FR (w : World) (S : CellSet) : Value → D → Prop
  | lit (v : Value) (h1 : one v = true) : FR w S v (.lit v)
  | nil (sz : Nat) : FR w S (.slice none 0 0) (.sl sz [])
  | sl (a : Addr) (len cap sz : Nat) (rows : List (List D)) (x : Nat → Nat → Value)
      (hl : len = rows.length) (hc : len ≤ cap) (ha : rows ≠ [] → a = at_ a.block a.off)
      (hr : ∀ r ∈ rows, r.length = sz)
      (hs : ∀ i j r d, rows[i]? = some r → r[j]? = some d →
        S a.block (a.off + (i * sz + j)) ∧ w.cell? (at_ a.block (a.off + (i * sz + j))) = some (x i j))
      (hx : ∀ i j r d, rows[i]? = some r → r[j]? = some d → FR w S (x i j) d) :
      FR w S (.slice (some a) len cap) (.sl sz rows)

inductive AR (β : Beta) (w : World) (S : CellSet) : Value → AV → Prop
  | d (v : Value) (x : D) (h : FR w S v x) : AR β w S v (.d x)
  | agg (vs : Array Value) (cs : List AV) (hn : vs.size = cs.length)
      (h : ∀ (i : Nat) v c, vs[i]? = some v → cs[i]? = some c → AR β w S v c) : AR β w S (.agg vs) (.agg cs)
  | tup (vs : Array Value) (cs : List AV) (hn : vs.size = cs.length)
      (h : ∀ (i : Nat) v c, vs[i]? = some v → cs[i]? = some c → AR β w S v c) : AR β w S (.tuple vs) (.tup cs)
  | sv (id ver sz off len cap : Nat) (a : Addr) (p : Place) (hp : β id ver = some p) (hv : p.virt = false) (hz : p.sz = sz)
      (hc : len ≤ cap) (hb : p.base + (off + cap) * sz = p.size) (ha : cap ≠ 0 → a = at_ p.blk (p.base + off * sz)) :
      AR β w S (.slice (some a) len cap) (.sv id ver sz off len)
  | svn (id ver sz off : Nat) (p : Place) (hp : β id ver = some p) (hv : p.virt = true) (hz : p.sz = sz) :
      AR β w S (.slice none 0 0) (.sv id ver sz off 0)
  | ptr (id ver row col : Nat) (p : Place) (hp : β id ver = some p) (hv : p.virt = false) :
      AR β w S (.pointer (some (at_ p.blk (p.base + row * p.sz + col)))) (.ptr id ver row col)
  | fp (cells : List D) (b o : Nat) (x : Nat → Value)
      (hs : ∀ (j : Nat) d, cells[j]? = some d → S b (o + j) ∧ w.cell? (at_ b (o + j)) = some (x j))
      (hx : ∀ (j : Nat) d, cells[j]? = some d → FR w S (x j) d) :
      AR β w S (.pointer (some (at_ b o))) (.fp cells)
  | clo (f : FuncId) (vs : Array Value) (cs : List AV) (hn : vs.size = cs.length)
      (h : ∀ (i : Nat) v c, vs[i]? = some v → cs[i]? = some c → AR β w S v c) : AR β w S (.func (.func f) #[] vs) (.clo f cs)
  | top (v : Value) : AR β w S v .top

def Keeps (w w' : World) (S : CellSet) : Prop := ∀ b k, S b k → w'.cell? (at_ b k) = w.cell? (at_ b k)
def Incl (S S' : CellSet) : Prop := ∀ b k, S b k → S' b k
def BIncl (β β' : Beta) : Prop := ∀ id ver p, β id ver = some p → β' id ver = some p

theorem FR.mono {w w' : World} {S S' : CellSet} (hk : Keeps w w' S) (hi : Incl S S') {v : Value} {x : D} (h : FR w S v x) : FR w' S' v x := by
  induction h with
  | lit v h1 => exact .lit v h1
  | nil sz => exact .nil sz
  | sl a len cap sz rows x hl hc ha hr hs hx ih =>
    exact .sl a len cap sz rows x hl hc ha hr (fun i j r d h1 h2 => ⟨hi _ _ (hs i j r d h1 h2).1, (hk _ _ (hs i j r d h1 h2).1).trans (hs i j r d h1 h2).2⟩) ih

theorem AR.mono {β β' : Beta} {w w' : World} {S S' : CellSet} (hβ : BIncl β β') (hk : Keeps w w' S) (hi : Incl S S') {v : Value} {x : AV} (h : AR β w S v x) : AR β' w' S' v x := by
  induction h with
  | d v x h => exact .d v x (h.mono hk hi)
  | agg vs cs hn h ih => exact .agg vs cs hn ih
  | tup vs cs hn h ih => exact .tup vs cs hn ih
  | sv id ver sz off len cap a p hp hv hz hc hb ha => exact .sv id ver sz off len cap a p (hβ _ _ _ hp) hv hz hc hb ha
  | svn id ver sz off p hp hv hz => exact .svn id ver sz off p (hβ _ _ _ hp) hv hz
  | ptr id ver row col p hp hv => exact .ptr id ver row col p (hβ _ _ _ hp) hv
  | fp cells b o x hs hx => exact .fp cells b o x (fun j d h => ⟨hi _ _ (hs j d h).1, (hk _ _ (hs j d h).1).trans (hs j d h).2⟩) (fun j d h => (hx j d h).mono hk hi)
  | clo f vs cs hn h ih => exact .clo f vs cs hn ih
  | top v => exact .top v

def OR (β : Beta) (w : World) (S : CellSet) (id ver : Nat) : AObj → Prop
  | .box cells => ∃ p c t, β id ver = some p ∧ p.virt = false ∧ p.base = 0 ∧ p.size = cells.length ∧ w.heap[p.blk]? = some (.cells c t (0, 0)) ∧ c.size = cells.length ∧
      ∀ (i : Nat) v a, c[i]? = some v → cells[i]? = some a → AR β w S v a
  | .arr sz rows => ∃ p, β id ver = some p ∧ p.sz = sz ∧ (∀ r ∈ rows, r.length = sz) ∧ (p.virt = true → rows = []) ∧
      (p.virt = false → ∃ c t, w.heap[p.blk]? = some (.cells c t (0, 0)) ∧ c.size = p.size ∧ p.base + rows.length * sz ≤ p.size ∧
        ∀ (i j : Nat) r d, rows[i]? = some r → r[j]? = some d → ∃ v, c[p.base + (i * sz + j)]? = some v ∧ FR w S v d)
  | .fro sz rows => ∃ p, β id ver = some p ∧ p.sz = sz ∧ (∀ r ∈ rows, r.length = sz) ∧ (p.virt = true → rows = []) ∧
      ∀ (i j : Nat) r d, rows[i]? = some r → r[j]? = some d → S p.blk (p.base + (i * sz + j)) ∧ ∃ v, w.cell? (at_ p.blk (p.base + (i * sz + j))) = some v ∧ FR w S v d
  | .dead => True

structure HR (β : Beta) (w : World) (S : CellSet) (hp : Heap) (Fr : Nat → Prop) : Prop where
  obj : ∀ id ver o, hget hp id = some (ver, o) → OR β w S id ver o
  new : ∀ id, Fr id → hget hp id = none ∧ ∀ ver, β id ver = none
  ver : ∀ id ver o, hget hp id = some (ver, o) → ∀ v, ver < v → β id v = none
  own : ∀ id ver o p, hget hp id = some (ver, o) → o.owned = true → β id ver = some p → p.virt = false → ∀ k, ¬ S p.blk k
  inj : ∀ id ver o p id' ver' o' p', hget hp id = some (ver, o) → o.owned = true → β id ver = some p → p.virt = false →
    hget hp id' = some (ver', o') → o'.owned = true → β id' ver' = some p' → p'.virt = false → id ≠ id' → p.blk ≠ p'.blk
  low : ∀ b k, S b k → b < w.heap.size

structure Ent where
  w0 : World
  S0 : CellSet
  own0 : Nat → Prop
  β0 : Nat → Option Place

structure FrameR (en : Ent) (β : Beta) (w : World) (S : CellSet) (hp : Heap) : Prop where
  blocks : ∀ b, b < en.w0.heap.size → ¬ en.own0 b → w.heap[b]? = en.w0.heap[b]?
  size : en.w0.heap.size ≤ w.heap.size
  sub : ∀ b k, en.S0 b k → S b k
  fresh : ∀ b k, S b k → en.S0 b k ∨ en.w0.heap.size ≤ b ∨ en.own0 b
  ownf : ∀ id ver o p, hget hp id = some (ver, o) → o.owned = true → β id ver = some p → p.virt = false → en.w0.heap.size ≤ p.blk ∨ en.own0 p.blk
  out : w.output = en.w0.output ∧ w.os = en.w0.os
  beta0 : ∀ j p, en.β0 j = some p → β j 0 = some p

def TR (β : Beta) (w : World) (S : CellSet) (tm : Tm) (tmps : Array Value) : Prop :=
  ∀ t v, tget tm t = some v → AR β w S (tmps.getD t undef) v

structure Inv (en : Ent) (N : Nat) (β : Beta) (S : CellSet) (st : ASt) (a : Act) (w : World) : Prop where
  tm : TR β w S st.tm a.tmps
  hr : HR β w S st.hp (fun id => st.nxt ≤ id)
  fr : FrameR en β w S st.hp
  size : a.tmps.size = N
  defers : a.defers = []

/-! ### small facts about assoc lists -/

theorem hget_hset (h : Heap) (id ver : Nat) (o : AObj) (i : Nat) : hget (hset id ver o h) i = if i = id then some (ver, o) else hget h i := by
  induction h with
  | nil =>
    simp only [hset, hget]
    by_cases e : i = id
    · simp [e]
    · simp [e, Ne.symm e]
  | cons x r ih =>
    obtain ⟨j, v, p⟩ := x
    simp only [hset]
    by_cases e : j = id
    · subst e
      simp only [if_true, hget]
      by_cases e2 : i = j
      · simp [e2]
      · simp [e2, Ne.symm e2]
    · simp only [if_neg e, hget, ih]
      by_cases e2 : i = id
      · subst e2; simp [e]
      · simp [e2]

theorem tget_tset_same (m : Tm) (t : Nat) (v : AV) : tget (tset t v m) t = some v := by
  induction m with
  | nil => simp [tset, tget]
  | cons x r ih =>
    obtain ⟨j, w⟩ := x
    simp only [tset]
    split
    · simp [tget]
    · split
      · simp [tget]
      · rename_i h1 h2
        simp only [tget, if_neg h2]
        exact ih

theorem tget_tset_ne (m : Tm) (t : Nat) (v : AV) (i : Nat) (h : i ≠ t) : tget (tset t v m) i = tget m i := by
  induction m with
  | nil => simp [tset, tget, Ne.symm h]
  | cons x r ih =>
    obtain ⟨j, w⟩ := x
    simp only [tset]
    split
    · simp [tget, Ne.symm h]
    · split
      · rename_i h2
        subst h2
        simp [tget, Ne.symm h]
      · simp only [tget, ih]

end Go.Ax
end
section
namespace Go.Ax

structure Hv (en : Ent) (Fr : Nat → Prop) (β : Beta) (S : CellSet) (w : World) (hp : Heap) : Prop where
  hr : HR β w S hp Fr
  fr : FrameR en β w S hp

/-- the block of an owned object -/
def Mine (β : Beta) (hp : Heap) (id : Nat) (b : Nat) : Prop :=
  ∃ ver o p, hget hp id = some (ver, o) ∧ o.owned = true ∧ β id ver = some p ∧ p.virt = false ∧ p.blk = b

theorem Hv.weakFr {en Fr Fr' β S w hp} (h : Hv en Fr β S w hp) (hf : ∀ i, Fr' i → Fr i) : Hv en Fr' β S w hp :=
  ⟨⟨h.hr.obj, fun i hi => h.hr.new i (hf i hi), h.hr.ver, h.hr.own, h.hr.inj, h.hr.low⟩, h.fr⟩

theorem OR.mono {β β' : Beta} {w w' : World} {S S' : CellSet} {id ver : Nat} {o : AObj} (hβ : BIncl β β') (hk : Keeps w w' S) (hi : Incl S S')
    (hb : o.owned = true → ∀ p, β id ver = some p → p.virt = false → w'.heap[p.blk]? = w.heap[p.blk]?) (h : OR β w S id ver o) : OR β' w' S' id ver o := by
  cases o with
  | box cells =>
    obtain ⟨p, c, t, h1, h2, h3, h4, h5, h6, h7⟩ := h
    exact ⟨p, c, t, hβ _ _ _ h1, h2, h3, h4, (hb rfl p h1 h2).trans h5, h6, fun i v a hv ha => (h7 i v a hv ha).mono hβ hk hi⟩
  | arr sz rows =>
    obtain ⟨p, h1, h2, h3, h4, h5⟩ := h
    refine ⟨p, hβ _ _ _ h1, h2, h3, h4, fun hv => ?_⟩
    obtain ⟨c, t, g1, g2, g3, g4⟩ := h5 hv
    refine ⟨c, t, (hb rfl p h1 hv).trans g1, g2, g3, fun i j r d hr hd => ?_⟩
    obtain ⟨v, e1, e2⟩ := g4 i j r d hr hd
    exact ⟨v, e1, e2.mono hk hi⟩
  | fro sz rows =>
    obtain ⟨p, h1, h2, h3, h4, h5⟩ := h
    refine ⟨p, hβ _ _ _ h1, h2, h3, h4, fun i j r d hr hd => ?_⟩
    obtain ⟨g1, v, g2, g3⟩ := h5 i j r d hr hd
    exact ⟨hi _ _ g1, v, (hk _ _ g1).trans g2, g3.mono hk hi⟩
  | dead => trivial

theorem cell?_block {w w' : World} {b : Nat} (h : w'.heap[b]? = w.heap[b]?) (k : Nat) : w'.cell? (at_ b k) = w.cell? (at_ b k) := by
  simp only [World.cell?, at_, h]

theorem Hv.keeps {en Fr β S w hp id} {w' : World} (h : Hv en Fr β S w hp) (hblk : ∀ b, b < w.heap.size → ¬ Mine β hp id b → w'.heap[b]? = w.heap[b]?) : Keeps w w' S := by
  intro b k hs
  refine cell?_block (hblk b (h.hr.low b k hs) ?_) k
  rintro ⟨ver, o, p, h1, h2, h3, h4, rfl⟩
  exact h.hr.own _ _ _ _ h1 h2 h3 h4 k hs

theorem Hv.mine_lt {en Fr β S w hp id b} (h : Hv en Fr β S w hp) (hm : Mine β hp id b) : b < w.heap.size := by
  obtain ⟨ver, o, p, h1, h2, h3, h4, rfl⟩ := hm
  have ho := h.hr.obj _ _ _ h1
  cases o with
  | box cells =>
    obtain ⟨p', c, t, g1, g2, g3, g4, g5, g6, g7⟩ := ho
    rw [h3] at g1; cases g1
    exact (Array.getElem?_eq_some_iff.1 g5).1
  | arr sz rows =>
    obtain ⟨p', g1, g2, g3, g4, g5⟩ := ho
    rw [h3] at g1; cases g1
    obtain ⟨c, t, e1, _⟩ := g5 h4
    exact (Array.getElem?_eq_some_iff.1 e1).1
  | fro sz rows => simp [AObj.owned] at h2
  | dead => simp [AObj.owned] at h2

/-- THE MASTER STEP: one object is put, the world turns at its own block or at new ones. -/
theorem Hv.put {en : Ent} {Fr Fr' : Nat → Prop} {β β' : Beta} {S S' : CellSet} {w w' : World} {hp : Heap} (h : Hv en Fr β S w hp) (id ver' : Nat) (o' : AObj)
    (hβ : BIncl β β') (hβn : ∀ i v, i ≠ id → β' i v = β i v) (hver : ∀ v, ver' < v → β' id v = none)
    (hblk : ∀ b, b < w.heap.size → ¬ Mine β hp id b → w'.heap[b]? = w.heap[b]?) (hsz : w.heap.size ≤ w'.heap.size)
    (hS : Incl S S') (hSn : ∀ b k, S' b k → S b k ∨ ((w.heap.size ≤ b ∨ Mine β hp id b) ∧ b < w'.heap.size))
    (hOR : OR β' w' S' id ver' o')
    (hown : o'.owned = true → ∀ p, β' id ver' = some p → p.virt = false → (Mine β hp id p.blk ∨ w.heap.size ≤ p.blk) ∧ ∀ k, ¬ S' p.blk k)
    (hout : w'.output = w.output ∧ w'.os = w.os) (hFr : ∀ i, Fr' i → Fr i ∧ i ≠ id) :
    Hv en Fr' β' S' w' (hset id ver' o' hp) ∧ Keeps w w' S := by
  have hk := h.keeps hblk
  -- another owned object's block is not ours
  have hoth : ∀ i v o p, i ≠ id → hget hp i = some (v, o) → o.owned = true → β i v = some p → p.virt = false → p.blk < w.heap.size ∧ ¬ Mine β hp id p.blk := by
    intro i v o p hi h1 h2 h3 h4
    refine ⟨h.mine_lt ⟨v, o, p, h1, h2, h3, h4, rfl⟩, ?_⟩
    rintro ⟨ver, o2, p2, g1, g2, g3, g4, g5⟩
    exact h.hr.inj _ _ _ _ _ _ _ _ h1 h2 h3 h4 g1 g2 g3 g4 hi g5.symm
  have hget' : ∀ i v o, hget (hset id ver' o' hp) i = some (v, o) → (i = id ∧ v = ver' ∧ o = o') ∨ (i ≠ id ∧ hget hp i = some (v, o)) := by
    intro i v o he
    rw [hget_hset] at he
    by_cases e : i = id
    · simp only [e, if_true, Option.some.injEq, Prod.mk.injEq] at he
      exact .inl ⟨e, he.1.symm, he.2.symm⟩
    · rw [if_neg e] at he; exact .inr ⟨e, he⟩
  refine ⟨⟨⟨?_, ?_, ?_, ?_, ?_, ?_⟩, ⟨?_, ?_, ?_, ?_, ?_, ?_, ?_⟩⟩, hk⟩
  · intro i v o he
    rcases hget' i v o he with ⟨rfl, rfl, rfl⟩ | ⟨hi, he⟩
    · exact hOR
    · refine (h.hr.obj _ _ _ he).mono hβ hk hS (fun ho p hp1 hp2 => ?_)
      have := hoth i v o p hi he ho hp1 hp2
      exact hblk _ this.1 this.2
  · intro i hi
    obtain ⟨h1, h2⟩ := hFr i hi
    refine ⟨?_, fun v => ?_⟩
    · rw [hget_hset, if_neg h2]; exact (h.hr.new i h1).1
    · rw [hβn i v h2]; exact (h.hr.new i h1).2 v
  · intro i v o he u hu
    rcases hget' i v o he with ⟨rfl, rfl, rfl⟩ | ⟨hi, he⟩
    · exact hver u hu
    · rw [hβn i u hi]; exact h.hr.ver _ _ _ he u hu
  · intro i v o p he ho hp1 hp2 k hs
    rcases hget' i v o he with ⟨rfl, rfl, rfl⟩ | ⟨hi, he⟩
    · exact (hown ho p hp1 hp2).2 k hs
    · rw [hβn i v hi] at hp1
      have hx := hoth i v o p hi he ho hp1 hp2
      rcases hSn _ _ hs with hs | ⟨hs | hs, _⟩
      · exact h.hr.own _ _ _ _ he ho hp1 hp2 k hs
      · omega
      · exact hx.2 hs
  · intro i v o p i' v' o2 p' he ho hp1 hp2 he' ho' hp1' hp2' hne
    rcases hget' i v o he with ⟨rfl, rfl, rfl⟩ | ⟨hi, he⟩
    · rcases hget' i' v' o2 he' with ⟨rfl, rfl, rfl⟩ | ⟨hi', he'⟩
      · exact absurd rfl hne
      · rw [hβn i' v' hi'] at hp1'
        have hx := hoth i' v' o2 p' hi' he' ho' hp1' hp2'
        intro e
        rcases (hown ho p hp1 hp2).1 with hm | hm
        · rw [e] at hm; exact hx.2 hm
        · omega
    · rw [hβn i v hi] at hp1
      have hx := hoth i v o p hi he ho hp1 hp2
      rcases hget' i' v' o2 he' with ⟨rfl, rfl, rfl⟩ | ⟨hi', he'⟩
      · intro e
        rcases (hown ho' p' hp1' hp2').1 with hm | hm
        · rw [← e] at hm; exact hx.2 hm
        · omega
      · rw [hβn i' v' hi'] at hp1'
        exact h.hr.inj _ _ _ _ _ _ _ _ he ho hp1 hp2 he' ho' hp1' hp2' hne
  · intro b k hs
    rcases hSn _ _ hs with hs | ⟨_, hs⟩
    · exact Nat.lt_of_lt_of_le (h.hr.low _ _ hs) hsz
    · exact hs
  · intro b hb ho
    have hlt : b < w.heap.size := Nat.lt_of_lt_of_le hb h.fr.size
    by_cases hm : Mine β hp id b
    · obtain ⟨ver, o, p, g1, g2, g3, g4, rfl⟩ := hm
      rcases h.fr.ownf _ _ _ _ g1 g2 g3 g4 with hx | hx
      · omega
      · exact absurd hx ho
    · exact (hblk b hlt hm).trans (h.fr.blocks b hb ho)
  · exact Nat.le_trans h.fr.size hsz
  · exact fun b k hs => hS _ _ (h.fr.sub b k hs)
  · intro b k hs
    rcases hSn _ _ hs with hs | ⟨hs | hs, _⟩
    · exact h.fr.fresh b k hs
    · exact .inr (.inl (Nat.le_trans h.fr.size hs))
    · obtain ⟨ver, o, p, g1, g2, g3, g4, rfl⟩ := hs
      exact .inr (h.fr.ownf _ _ _ _ g1 g2 g3 g4)
  · intro i v o p he ho hp1 hp2
    rcases hget' i v o he with ⟨rfl, rfl, rfl⟩ | ⟨hi, he⟩
    · rcases (hown ho p hp1 hp2).1 with ⟨ver, o2, p2, g1, g2, g3, g4, g5⟩ | hm
      · rw [← g5]; exact h.fr.ownf _ _ _ _ g1 g2 g3 g4
      · exact .inl (Nat.le_trans h.fr.size hm)
    · rw [hβn i v hi] at hp1
      exact h.fr.ownf _ _ _ _ he ho hp1 hp2
  · exact ⟨hout.1.trans h.fr.out.1, hout.2.trans h.fr.out.2⟩
  · exact fun j p hj => hβ _ _ _ (h.fr.beta0 j p hj)

/-- a draw changes nothing that is seen -/
theorem Hv.same {en : Ent} {Fr : Nat → Prop} {β : Beta} {S : CellSet} {w w' : World} {hp : Heap} (h : Hv en Fr β S w hp) (hh : w'.heap = w.heap)
    (hout : w'.output = w.output ∧ w'.os = w.os) : Hv en Fr β S w' hp := by
  have hk : Keeps w w' S := fun b k _ => by simp only [World.cell?, hh]
  refine ⟨⟨fun i v o he => (h.hr.obj i v o he).mono (fun _ _ _ h => h) hk (fun _ _ h => h) (fun _ _ _ _ => by rw [hh]), h.hr.new, h.hr.ver, h.hr.own, h.hr.inj, ?_⟩, ?_⟩
  · intro b k hs; rw [hh]; exact h.hr.low b k hs
  · exact ⟨fun b h1 h2 => by rw [hh]; exact h.fr.blocks b h1 h2, by rw [hh]; exact h.fr.size, h.fr.sub, h.fr.fresh, h.fr.ownf, ⟨hout.1.trans h.fr.out.1, hout.2.trans h.fr.out.2⟩, h.fr.beta0⟩

end Go.Ax
end
section
namespace Go.Ax
set_option linter.unusedSimpArgs false
set_option linter.unusedVariables false

/-! ### lists -/
theorem takeN_spec {α : Type} : ∀ (n : Nat) (l r : List α), takeN n l = some r → r = l.take n ∧ n ≤ l.length
  | 0, l, r, h => by simp [takeN] at h; simp [← h]
  | n + 1, [], r, h => by simp [takeN] at h
  | n + 1, c :: l, r, h => by
    simp only [takeN] at h
    cases e : takeN n l with
    | none => rw [e] at h; simp at h
    | some x =>
      rw [e] at h
      have := takeN_spec n l x e
      simp at h
      subst h
      simp [this.1, this.2]

theorem splice_spec : ∀ (cs : List AV) (off : Nat) (vs r : List AV), splice cs off vs = some r →
    r.length = cs.length ∧ off + vs.length ≤ cs.length ∧ ∀ i : Nat, r[i]? = if off ≤ i ∧ i < off + vs.length then vs[i - off]? else cs[i]?
  | [], 0, [], r, h => by simp [splice] at h; subst h; simp
  | [], 0, v :: vs, r, h => by simp [splice] at h
  | [], n + 1, vs, r, h => by simp [splice] at h
  | c :: cs, 0, [], r, h => by simp [splice] at h; subst h; simp
  | c :: cs, 0, v :: vs, r, h => by
    simp only [splice] at h
    cases e : splice cs 0 vs with
    | none => rw [e] at h; simp at h
    | some x =>
      rw [e] at h
      obtain ⟨h1, h2, h3⟩ := splice_spec cs 0 vs x e
      simp at h
      subst h
      refine ⟨by simp [h1], by simp at h2 ⊢; omega, fun i => ?_⟩
      cases i with
      | zero => simp
      | succ i =>
        have := h3 i
        simp at this ⊢
        rw [this]
  | c :: cs, n + 1, vs, r, h => by
    simp only [splice] at h
    cases e : splice cs n vs with
    | none => rw [e] at h; simp at h
    | some x =>
      rw [e] at h
      obtain ⟨h1, h2, h3⟩ := splice_spec cs n vs x e
      simp at h
      subst h
      refine ⟨by simp [h1], by simp; omega, fun i => ?_⟩
      cases i with
      | zero => simp
      | succ i =>
        have := h3 i
        simp
        rw [this]
        by_cases hc : n ≤ i ∧ i < n + vs.length
        · rw [if_pos hc, if_pos (by omega)]
        · rw [if_neg hc, if_neg (by omega)]

theorem spliceD_spec : ∀ (cs : List D) (off : Nat) (vs r : List D), spliceD cs off vs = some r →
    r.length = cs.length ∧ off + vs.length ≤ cs.length ∧ ∀ i : Nat, r[i]? = if off ≤ i ∧ i < off + vs.length then vs[i - off]? else cs[i]?
  | [], 0, [], r, h => by simp [spliceD] at h; subst h; simp
  | [], 0, v :: vs, r, h => by simp [spliceD] at h
  | [], n + 1, vs, r, h => by simp [spliceD] at h
  | c :: cs, 0, [], r, h => by simp [spliceD] at h; subst h; simp
  | c :: cs, 0, v :: vs, r, h => by
    simp only [spliceD] at h
    cases e : spliceD cs 0 vs with
    | none => rw [e] at h; simp at h
    | some x =>
      rw [e] at h
      obtain ⟨h1, h2, h3⟩ := spliceD_spec cs 0 vs x e
      simp at h
      subst h
      refine ⟨by simp [h1], by simp at h2 ⊢; omega, fun i => ?_⟩
      cases i with
      | zero => simp
      | succ i =>
        have := h3 i
        simp at this ⊢
        rw [this]
  | c :: cs, n + 1, vs, r, h => by
    simp only [spliceD] at h
    cases e : spliceD cs n vs with
    | none => rw [e] at h; simp at h
    | some x =>
      rw [e] at h
      obtain ⟨h1, h2, h3⟩ := spliceD_spec cs n vs x e
      simp at h
      subst h
      refine ⟨by simp [h1], by simp; omega, fun i => ?_⟩
      cases i with
      | zero => simp
      | succ i =>
        have := h3 i
        simp
        rw [this]
        by_cases hc : n ≤ i ∧ i < n + vs.length
        · rw [if_pos hc, if_pos (by omega)]
        · rw [if_neg hc, if_neg (by omega)]

/-! ### types -/
def KOk : TK → TypeDesc → Prop
  | .int k, d => d = .int k
  | .bool, d => d = .bool
  | .str, d => d = .string
  | .slice e, d => d = .slice e
  | .struct fs, d => ∃ fields, d = .struct fields ∧ fields.toList.map (fun f => (f.type, f.offset)) = fs
  | .array n e, d => d = .array n e
  | .ptr e, d => d = .pointer e
  | .other, d => (match d with | .struct _ => false | .array _ _ => false | _ => true) = true

structure TOk (P : Program) (t : Nat) (ti : TI) : Prop where
  info : ∃ i z, P.info? t = some i ∧ i.size = ti.size ∧ i.bytes = ti.bytes ∧ i.zero = some z ∧
    ∃ zs : List Value, z.cells = zs.toArray ∧ ti.zero = zs.map D.lit ∧ zs.all one = true ∧ zs.length = ti.size
  und : ∃ d, P.underlying t = some d ∧ KOk ti.kind d

section run
variable {P : Program} {w : World}

theorem run_isAgg {t : Nat} {ti : TI} (h : TOk P t ti) : (isAgg t).run P w = .ok ti.kind.agg w := by
  obtain ⟨d, h1, h2⟩ := h.und
  unfold isAgg
  rw [Sem.run_bind, run_underlying h1]
  cases hk : ti.kind <;> rw [hk] at h2 <;> simp only [KOk] at h2
  case struct fs => obtain ⟨f, rfl, _⟩ := h2; simp [TK.agg]
  case other => cases d <;> simp_all [TK.agg]
  all_goals subst h2; simp [TK.agg]

theorem run_sizeOf' {t : Nat} {ti : TI} (h : TOk P t ti) : (sizeOf t).run P w = .ok ti.size w := by
  obtain ⟨i, z, h1, h2, _⟩ := h.info
  simp [sizeOf, typeInfo, h1, h2]

theorem run_typeInfo {t : Nat} {ti : TI} (h : TOk P t ti) : ∃ i, (typeInfo t).run P w = .ok i w ∧ i.bytes = ti.bytes := by
  obtain ⟨i, z, h1, h2, h3, _⟩ := h.info
  exact ⟨i, by simp [typeInfo, h1], h3⟩

theorem run_zeroValue {t : Nat} {ti : TI} (h : TOk P t ti) : ∃ z zs, (zeroValue t).run P w = .ok z w ∧ z.cells = List.toArray zs ∧ ti.zero = zs.map D.lit ∧ zs.all one = true ∧ zs.length = ti.size := by
  obtain ⟨i, z, h1, h2, h3, h4, zs, h5, h6, h7, h8⟩ := h.info
  exact ⟨z, zs, by simp [zeroValue, typeInfo, h1, h4], h5, h6, h7, h8⟩

theorem run_loadVar {t : Nat} {ti : TI} (h : TOk P t ti) (b o : Nat) (vs : List Value) (hn : vs.length = ti.size)
    (hc : ∀ j v, vs[j]? = some v → w.cell? (at_ b (o + j)) = some v) :
    (ti.kind.agg = true → (loadVar t (at_ b o)).run P w = .ok (.agg vs.toArray) w) ∧
    (ti.kind.agg = false → ∀ v, vs[0]? = some v → (loadVar t (at_ b o)).run P w = .ok v w) := by
  constructor
  · intro ha
    have := run_loadCells_list (P := P) w (at_ b o) vs (fun j v hv => by rw [at_add]; exact hc j v hv)
    simp [loadVar, run_isAgg h, ha, run_sizeOf' h, ← hn, this]
  · intro ha v hv
    have := hc 0 v hv
    simp at this
    simp [loadVar, run_isAgg h, ha, this]

/-- a row of stores into one block -/
theorem run_storeCells (b o : Nat) (t : TypeId) : ∀ (vs : List Value) (i : Nat) (c : Array Value) (w : World), w.heap[b]? = some (.cells c t (0, 0)) → (∀ v ∈ vs, one v = true) →
    o + i + vs.length ≤ c.size →
    ∃ w' c', (storeCells (at_ b o) vs i).run P w = .ok () w' ∧ w'.heap[b]? = some (.cells c' t (0, 0)) ∧ c'.size = c.size ∧
      (∀ k, c'[k]? = if o + i ≤ k ∧ k < o + i + vs.length then vs[k - (o + i)]? else c[k]?) ∧
      (∀ k, k ≠ b → w'.heap[k]? = w.heap[k]?) ∧ w'.heap.size = w.heap.size ∧ w'.output = w.output ∧ w'.os = w.os
  | [], i, c, w, hb, hv, hl => ⟨w, c, by simp [storeCells], hb, rfl, fun k => by rw [if_neg (by simp only [List.length_nil]; omega)], fun _ _ => rfl, rfl, rfl, rfl⟩
  | v :: vs, i, c, w, hb, hv, hl => by
    have h1 : one v = true := hv v (by simp)
    have hc : w.cell? (at_ b (o + i)) = c[o + i]? := cell_of_row w b (o + i) c t (0, 0) hb
    have hlt : o + i < c.size := by simp at hl; omega
    rw [Array.getElem?_eq_getElem hlt] at hc
    have hst : (store (at_ b (o + i)) v).run P w = .ok () (w.setCell (at_ b (o + i)) v) := by
      rw [run_store P w (at_ b (o + i)) v .plain (by cases v <;> simp_all [one, Value.oneCell']), hc]
      have hf := frozen_of_row w b (o + i) c t hb
      simp [at_, hf]
    have hb' := heap_setCell_same w b (o + i) c t v hb
    obtain ⟨w', c', e1, e2, e3, e4, e5, e6, e7, e8⟩ := run_storeCells b o t vs (i + 1) (c.setIfInBounds (o + i) v) (w.setCell (at_ b (o + i)) v) hb' (fun u hu => hv u (by simp [hu])) (by simp at hl ⊢; omega)
    refine ⟨w', c', ?_, e2, by simpa using e3, fun k => ?_, fun k hk => ?_, by simpa using e6, by rw [e7]; rfl, by rw [e8]; rfl⟩
    · simp only [storeCells, Sem.run_bind, at_add, hst, Result.andThen_ok, e1]
    · rw [e4 k]
      simp only [List.length_cons]
      by_cases hk : o + (i + 1) ≤ k ∧ k < o + (i + 1) + vs.length
      · rw [if_pos hk, if_pos (by omega), show k - (o + i) = (k - (o + (i + 1))) + 1 by omega]; simp
      · rw [if_neg hk]
        by_cases hk2 : k = o + i
        · subst hk2
          rw [if_pos (by omega)]
          simp [hlt]
        · rw [if_neg (by omega), Array.getElem?_setIfInBounds_ne (by omega)]
    · rw [e5 k hk, heap_setCell_other w (at_ b (o + i)) k v hk]
end run

/-! ### values -/
theorem FR.one {w S v x} (h : FR w S v x) : one v = true := by
  cases h with
  | lit v h1 => exact h1
  | nil sz => rfl
  | sl => rfl

theorem AR.one {β w S v a} (h : AR β w S v a) (hc : a.cell = true) : Ax.one v = true := by
  cases h with
  | d v x h => exact h.one
  | agg => simp [AV.cell] at hc
  | tup => simp [AV.cell] at hc
  | top => simp [AV.cell] at hc
  | sv => rfl
  | svn => rfl
  | ptr => rfl
  | fp => rfl
  | clo => rfl

theorem cells_one {v : Value} (h : one v = true) : v.cells = #[v] := by
  cases v <;> simp_all [one, Value.cells]

theorem AR.cells {β w S v a} (h : AR β w S v a) (hk : a.known = true) : v.cells.size = a.cells.length ∧ ∀ (i : Nat) x c, v.cells[i]? = some x → a.cells[i]? = some c → AR β w S x c := by
  have single : ∀ {v : Value} {a : AV}, AR β w S v a → v.cells = #[v] → a.cells = [a] → v.cells.size = a.cells.length ∧ ∀ (i : Nat) x c, v.cells[i]? = some x → a.cells[i]? = some c → AR β w S x c := by
    intro v a h h1 h2
    rw [h1, h2]
    refine ⟨rfl, fun i x c hx hc => ?_⟩
    cases i with
    | zero => simp at hx hc; subst hx; subst hc; exact h
    | succ i => simp at hx
  cases h with
  | agg vs cs hn h => exact ⟨hn, h⟩
  | top => simp [AV.known] at hk
  | d v x hx => exact single (.d v x hx) (cells_one hx.one) rfl
  | tup vs cs hn hh => exact single (.tup vs cs hn hh) rfl rfl
  | sv _ _ _ _ _ _ _ _ h1 h2 h3 h4 h5 h6 => exact single (.sv _ _ _ _ _ _ _ _ h1 h2 h3 h4 h5 h6) rfl rfl
  | svn _ _ _ _ _ h1 h2 h3 => exact single (.svn _ _ _ _ _ h1 h2 h3) rfl rfl
  | ptr _ _ _ _ _ h1 h2 => exact single (.ptr _ _ _ _ _ h1 h2) rfl rfl
  | fp _ _ _ _ h1 h2 => exact single (.fp _ _ _ _ h1 h2) rfl rfl
  | clo f vs cs hn hh => exact single (.clo f vs cs hn hh) rfl rfl

theorem constAV_sound {β w S v a} (h : constAV v = some a) : AR β w S v a := by
  unfold constAV at h
  split at h
  · rename_i cs
    split at h
    · rename_i hall
      simp at h
      subst h
      refine .agg _ _ (by simp) (fun i v c h1 h2 => ?_)
      simp at h2
      obtain ⟨u, h3, rfl⟩ := h2
      have : v = u := by simpa [h1] using h3
      subst this
      refine .d _ _ (.lit _ ?_)
      simp at hall
      obtain ⟨hi, hv⟩ := Array.getElem?_eq_some_iff.1 h1
      exact hv ▸ hall i hi
    · simp at h
  · simp at h
  · rename_i h1 h2
    simp at h
    subst h
    refine .d _ _ (.lit _ ?_)
    cases v <;> simp_all [Ax.one]

end Go.Ax
end
section
namespace Go.Ax
set_option linter.unusedSimpArgs false
set_option linter.unusedVariables false

/-! ### the reading monad, backwards -/
theorem M.bind_some {α β : Type} {m : M α} {f : α → M β} {h : Lk} {r : β × List Nat} :
    (m >>= f) h = some r ↔ ∃ a l1 b l2, m h = some (a, l1) ∧ f a h = some (b, l2) ∧ r = (b, l1 ++ l2) := by
  show M.bind m f h = some r ↔ _
  unfold M.bind
  constructor
  · intro e
    split at e
    · simp at e
    · rename_i a l h1
      split at e
      · simp at e
      · rename_i b l' h2
        exact ⟨a, l, b, l', h1, h2, by simpa using e.symm⟩
  · rintro ⟨a, l1, b, l2, h1, h2, rfl⟩
    simp [h1, h2]
theorem M.pure_some {α : Type} {a : α} {h : Lk} {r : α × List Nat} : (pure a : M α) h = some r ↔ r = (a, []) := by
  show some (a, []) = some r ↔ _
  simp [eq_comm]
theorem M.lift_some {α : Type} {o : Option α} {h : Lk} {r : α × List Nat} : M.lift o h = some r ↔ o = some r.1 ∧ r.2 = [] := by
  unfold M.lift
  cases o with
  | none => simp
  | some a => obtain ⟨x, y⟩ := r; simp [eq_comm]
theorem M.need_some {b : Bool} {h : Lk} {r : Unit × List Nat} : M.need b h = some r ↔ b = true ∧ r.2 = [] := by
  unfold M.need
  cases b with
  | false => simp
  | true => obtain ⟨x, y⟩ := r; simp [eq_comm]
theorem M.fail_some {α : Type} {h : Lk} {r : α × List Nat} : (M.fail : M α) h = some r ↔ False := by
  simp [M.fail]
theorem look_some {id : Nat} {h : Lk} {r : (Nat × AObj) × List Nat} : look id h = some r ↔ h id = some r.1 ∧ r.2 = [id] := by
  unfold look
  cases h id with
  | none => simp
  | some a => obtain ⟨x, y⟩ := r; simp [eq_comm]

theorem BIncl.refl (β : Beta) : BIncl β β := fun _ _ _ h => h
theorem BIncl.trans {a b c : Beta} (h : BIncl a b) (k : BIncl b c) : BIncl a c := fun _ _ _ x => k _ _ _ (h _ _ _ x)
theorem Incl.refl (S : CellSet) : Incl S S := fun _ _ h => h
theorem Incl.trans {a b c : CellSet} (h : Incl a b) (k : Incl b c) : Incl a c := fun _ _ x => k _ _ (h _ _ x)
theorem Keeps.refl (w : World) (S : CellSet) : Keeps w w S := fun _ _ _ => rfl
theorem Keeps.trans {a b c : World} {S S' : CellSet} (h : Keeps a b S) (k : Keeps b c S') (hi : Incl S S') : Keeps a c S :=
  fun x y hs => (k x y (hi _ _ hs)).trans (h x y hs)

theorem FR.up {w S S' v x} (h : FR w S v x) (hi : Incl S S') : FR w S' v x := h.mono (Keeps.refl w S) hi
theorem AR.up {β w S S' v x} (h : AR β w S v x) (hi : Incl S S') : AR β w S' v x := h.mono (BIncl.refl β) (Keeps.refl w S) hi

/-! ### freezing -/
theorem freeze_obj {en Fr β S w hp id ver sz rows} (h : Hv en Fr β S w hp) (hg : hget hp id = some (ver, .arr sz rows)) :
    ∃ S', Hv en Fr β S' w (hset id ver (.fro sz rows) hp) ∧ Incl S S' := by
  have ho := h.hr.obj _ _ _ hg
  obtain ⟨p, h1, h2, h3, h4, h5⟩ := ho
  refine ⟨fun b k => S b k ∨ (p.virt = false ∧ b = p.blk ∧ k < p.size), ?_, fun b k hs => .inl hs⟩
  have hi : Incl S (fun b k => S b k ∨ (p.virt = false ∧ b = p.blk ∧ k < p.size)) := fun b k hs => .inl hs
  refine (h.put (Fr' := Fr) id ver (.fro sz rows) (BIncl.refl β) (fun _ _ _ => rfl) (h.hr.ver _ _ _ hg) (fun _ _ _ => rfl) (Nat.le_refl _) hi ?_ ?_ ?_ ⟨rfl, rfl⟩ ?_).1
  · rintro b k (hs | ⟨hv, rfl, hk⟩)
    · exact .inl hs
    · refine .inr ⟨.inr ⟨ver, _, p, hg, rfl, h1, hv, rfl⟩, ?_⟩
      obtain ⟨c, t, g1, _⟩ := h5 hv
      exact (Array.getElem?_eq_some_iff.1 g1).1
  · refine ⟨p, h1, h2, h3, h4, fun i j r d hr hd => ?_⟩
    cases hv : p.virt with
    | true => rw [h4 hv] at hr; simp at hr
    | false =>
      obtain ⟨c, t, g1, g2, g3, g4⟩ := h5 hv
      obtain ⟨v, e1, e2⟩ := g4 i j r d hr hd
      have hlt := (Array.getElem?_eq_some_iff.1 e1).1
      refine ⟨.inr ⟨rfl, rfl, by omega⟩, v, ?_, e2.up (fun b k hs => .inl hs)⟩
      rw [cell_of_row w p.blk _ c t (0, 0) g1]
      exact e1
  · intro ho; simp [AObj.owned] at ho
  · intro i hf
    refine ⟨hf, fun e => ?_⟩
    subst e
    rw [(h.hr.new _ hf).1] at hg
    simp at hg

theorem fro_again {en Fr β S w hp id ver sz rows} (h : Hv en Fr β S w hp) (hg : hget hp id = some (ver, .fro sz rows)) :
    Hv en Fr β S w (hset id ver (.fro sz rows) hp) := by
  refine (h.put (Fr' := Fr) id ver (.fro sz rows) (BIncl.refl β) (fun _ _ _ => rfl) (h.hr.ver _ _ _ hg) (fun _ _ _ => rfl) (Nat.le_refl _) (Incl.refl S) (fun b k hs => .inl hs) (h.hr.obj _ _ _ hg) ?_ ⟨rfl, rfl⟩ ?_).1
  · intro ho; simp [AObj.owned] at ho
  · intro i hf
    refine ⟨hf, fun e => ?_⟩
    subst e
    rw [(h.hr.new _ hf).1] at hg
    simp at hg

theorem drop_take_get {α : Type} {rows : List α} {off len i : Nat} {r : α} (h : ((rows.drop off).take len)[i]? = some r) : i < len ∧ rows[off + i]? = some r := by
  rw [List.getElem?_take] at h
  split at h
  · rename_i hi
    exact ⟨hi, by simpa [List.getElem?_drop] using h⟩
  · simp at h

theorem sv_fro {en Fr β S w hp id ver sz sz' off len rows v} (h : Hv en Fr β S w hp) (hg : hget hp id = some (ver, .fro sz' rows))
    (ha : AR β w S v (.sv id ver sz off len)) (hl : off + len ≤ rows.length) : sz' = sz ∧ FR w S v (.sl sz ((rows.drop off).take len)) := by
  obtain ⟨p, h1, h2, h3, h4, h5⟩ := h.hr.obj _ _ _ hg
  cases ha with
  | sv _ _ _ _ _ cap a q hp hv hz hc hb haa =>
    rw [h1] at hp; cases hp
    have e : sz' = sz := h2.symm.trans hz
    subst e
    refine ⟨rfl, ?_⟩
    have hlen : ((rows.drop off).take len).length = len := by simp; omega
    refine .sl a len cap sz' _ (fun i j => (w.cell? (at_ p.blk (p.base + ((off + i) * sz' + j)))).getD undef) hlen.symm hc ?_ ?_ ?_ ?_
    · intro hne
      have : len ≠ 0 := by intro e; subst e; simp at hne
      rw [haa (by omega)]
    · intro r hr
      exact h3 r (List.mem_of_mem_drop (List.mem_of_mem_take hr))
    · intro i j r d hr hd
      obtain ⟨hi, hr'⟩ := drop_take_get hr
      have hae := haa (by omega)
      obtain ⟨g1, u, g2, g3⟩ := h5 (off + i) j r d hr' hd
      subst hae
      have e : p.base + off * sz' + (i * sz' + j) = p.base + ((off + i) * sz' + j) := by rw [Nat.add_mul]; omega
      simp only [at_] at *
      rw [e]
      exact ⟨g1, by rw [g2]; simp⟩
    · intro i j r d hr hd
      obtain ⟨hi, hr'⟩ := drop_take_get hr
      obtain ⟨g1, u, g2, g3⟩ := h5 (off + i) j r d hr' hd
      rw [g2]; exact g3
  | svn _ _ _ _ q hp hv hz =>
    rw [h1] at hp; cases hp
    exact ⟨h2.symm.trans hz, by simpa using FR.nil sz⟩

theorem sv_arr_sz {en Fr β S w hp id ver sz sz' off len rows v} (h : Hv en Fr β S w hp) (hg : hget hp id = some (ver, .arr sz' rows))
    (ha : AR β w S v (.sv id ver sz off len)) : sz' = sz := by
  obtain ⟨p, h1, h2, h3, h4, h5⟩ := h.hr.obj _ _ _ hg
  cases ha with
  | sv _ _ _ _ _ cap a q hp hv hz hc hb haa => rw [h1] at hp; cases hp; exact h2.symm.trans hz
  | svn _ _ _ _ q hp hv hz => rw [h1] at hp; cases hp; exact h2.symm.trans hz

/-- the heap as it was, but that some arrays have been frozen. -/
def Frz (hp hp1 : Heap) : Prop := ∀ id ver o, hget hp id = some (ver, o) → hget hp1 id = some (ver, o) ∨ ∃ sz rows, o = .arr sz rows ∧ hget hp1 id = some (ver, .fro sz rows)

theorem Frz.refl (hp : Heap) : Frz hp hp := fun _ _ _ h => .inl h

theorem Frz.set {hp hp1 id ver sz rows} (h : Frz hp hp1) (hg : hget hp id = some (ver, .arr sz rows) ∨ hget hp id = some (ver, .fro sz rows)) : Frz hp (hset id ver (.fro sz rows) hp1) := by
  intro i v o hi
  rw [hget_hset]
  by_cases e : i = id
  · subst e
    simp only [if_true]
    rcases hg with hg | hg
    · rw [hg] at hi; cases hi; exact .inr ⟨sz, rows, rfl, rfl⟩
    · rw [hg] at hi; cases hi; exact .inl rfl
  · rw [if_neg e]; exact h i v o hi

theorem hputs_append : ∀ (a b : Heap) (h : Heap), hputs (a ++ b) h = hputs b (hputs a h)
  | [], b, h => rfl
  | (id, ver, o) :: a, b, h => by simp only [List.cons_append, hputs]; exact hputs_append a b _

theorem cellD_sound {en Fr β S w hp hp1 v c x wr l} (h : Hv en Fr β S w hp1) (hf : Frz hp hp1) (he : cellD c (hget hp) = some ((x, wr), l)) (ha : AR β w S v c) :
    ∃ S', Hv en Fr β S' w (hputs wr hp1) ∧ Incl S S' ∧ FR w S' v x ∧ Frz hp (hputs wr hp1) := by
  cases c with
  | d y =>
    simp only [cellD, M.pure_some, Prod.mk.injEq] at he
    obtain ⟨⟨rfl, rfl⟩, _⟩ := he
    cases ha with
    | d _ _ ha => exact ⟨S, h, Incl.refl S, ha, hf⟩
  | sv id ver sz off len =>
    simp only [cellD, M.bind_some, look_some, M.need_some, Prod.exists, decide_eq_true_eq] at he
    obtain ⟨v1, o, l1, b1, w1, l2, ⟨h1, h2⟩, ⟨_, l3, b2, w2, l4, ⟨h3, h4⟩, h5, h6⟩, h7⟩ := he
    subst h3
    cases o with
    | box => simp [M.fail] at h5
    | dead => simp [M.fail] at h5
    | arr sz' rows =>
      simp only [M.bind_some, M.need_some, M.pure_some, decide_eq_true_eq, Prod.exists] at h5
      obtain ⟨_, l5, b3, w3, l6, ⟨h8, h9⟩, h10, h11⟩ := h5
      simp only [Prod.mk.injEq] at h10 h11 h6 h7
      obtain ⟨⟨rfl, rfl⟩, _⟩ := h10
      obtain ⟨⟨rfl, rfl⟩, _⟩ := h11
      obtain ⟨⟨rfl, rfl⟩, _⟩ := h6
      obtain ⟨⟨rfl, rfl⟩, _⟩ := h7
      rcases hf _ _ _ h1 with hg | ⟨sz2, rows2, e, hg⟩
      · have es := sv_arr_sz h hg ha
        subst es
        obtain ⟨S', g1, g2⟩ := freeze_obj h hg
        refine ⟨S', g1, g2, ?_, hf.set (.inl h1)⟩
        exact (sv_fro (v := v) g1 (by rw [hget_hset]; simp; rfl) (ha.up g2) h8).2
      · cases e
        obtain ⟨es, hfr⟩ := sv_fro h hg ha h8
        subst es
        exact ⟨S, fro_again h hg, Incl.refl S, hfr, hf.set (.inl h1)⟩
    | fro sz' rows =>
      simp only [M.bind_some, M.need_some, M.pure_some, decide_eq_true_eq, Prod.exists] at h5
      obtain ⟨_, l5, b3, w3, l6, ⟨h8, h9⟩, h10, h11⟩ := h5
      simp only [Prod.mk.injEq] at h10 h11 h6 h7
      obtain ⟨⟨rfl, rfl⟩, _⟩ := h10
      obtain ⟨⟨rfl, rfl⟩, _⟩ := h11
      obtain ⟨⟨rfl, rfl⟩, _⟩ := h6
      obtain ⟨⟨rfl, rfl⟩, _⟩ := h7
      rcases hf _ _ _ h1 with hg | ⟨sz2, rows2, e, hg⟩
      · exact ⟨S, h, Incl.refl S, (sv_fro h hg ha h8).2, hf⟩
      · cases e
  | agg => simp [cellD, M.fail] at he
  | tup => simp [cellD, M.fail] at he
  | ptr => simp [cellD, M.fail] at he
  | fp => simp [cellD, M.fail] at he
  | clo => simp [cellD, M.fail] at he
  | top => simp [cellD, M.fail] at he

end Go.Ax
end
section
namespace Go.Ax
set_option linter.unusedSimpArgs false
set_option linter.unusedVariables false

def ARs (β : Beta) (w : World) (S : CellSet) (vs : List Value) (cs : List AV) : Prop :=
  vs.length = cs.length ∧ ∀ (i : Nat) v c, vs[i]? = some v → cs[i]? = some c → AR β w S v c
def FRs (w : World) (S : CellSet) (vs : List Value) (cs : List D) : Prop :=
  vs.length = cs.length ∧ ∀ (i : Nat) v c, vs[i]? = some v → cs[i]? = some c → FR w S v c

theorem ARs.nil {β w S} : ARs β w S [] [] := ⟨rfl, fun i v c h => by simp at h⟩
theorem ARs.cons_iff {β w S v vs c cs} : ARs β w S (v :: vs) (c :: cs) ↔ AR β w S v c ∧ ARs β w S vs cs := by
  constructor
  · rintro ⟨h1, h2⟩
    exact ⟨h2 0 v c rfl rfl, by simpa using h1, fun i v c hv hc => h2 (i + 1) v c (by simpa using hv) (by simpa using hc)⟩
  · rintro ⟨h0, h1, h2⟩
    refine ⟨by simp [h1], fun i u d hu hd => ?_⟩
    cases i with
    | zero => simp at hu hd; subst hu; subst hd; exact h0
    | succ i => exact h2 i u d (by simpa using hu) (by simpa using hd)
theorem FRs.nil {w S} : FRs w S [] [] := ⟨rfl, fun i v c h => by simp at h⟩
theorem FRs.cons_iff {w S v vs c cs} : FRs w S (v :: vs) (c :: cs) ↔ FR w S v c ∧ FRs w S vs cs := by
  constructor
  · rintro ⟨h1, h2⟩
    exact ⟨h2 0 v c rfl rfl, by simpa using h1, fun i v c hv hc => h2 (i + 1) v c (by simpa using hv) (by simpa using hc)⟩
  · rintro ⟨h0, h1, h2⟩
    refine ⟨by simp [h1], fun i u d hu hd => ?_⟩
    cases i with
    | zero => simp at hu hd; subst hu; subst hd; exact h0
    | succ i => exact h2 i u d (by simpa using hu) (by simpa using hd)
theorem ARs.inv_cons {β w S vs c cs} (h : ARs β w S vs (c :: cs)) : ∃ v vs', vs = v :: vs' ∧ AR β w S v c ∧ ARs β w S vs' cs := by
  cases vs with
  | nil => simp [ARs] at h
  | cons v vs => exact ⟨v, vs, rfl, ARs.cons_iff.1 h⟩
theorem ARs.inv_nil {β w S vs} (h : ARs β w S vs []) : vs = [] := by
  have := h.1; simpa using this
theorem ARs.append {β w S a b c d} (h : ARs β w S a c) (k : ARs β w S b d) : ARs β w S (a ++ b) (c ++ d) := by
  refine ⟨by simp [h.1, k.1], fun i v x hv hx => ?_⟩
  by_cases hi : i < a.length
  · rw [List.getElem?_append_left hi] at hv
    rw [List.getElem?_append_left (by rw [← h.1]; exact hi)] at hx
    exact h.2 i v x hv hx
  · rw [List.getElem?_append_right (by omega)] at hv
    rw [List.getElem?_append_right (by rw [← h.1]; omega), ← h.1] at hx
    exact k.2 _ v x hv hx
theorem ARs.mono {β β' w w' S S' vs cs} (h : ARs β w S vs cs) (hβ : BIncl β β') (hk : Keeps w w' S) (hi : Incl S S') : ARs β' w' S' vs cs :=
  ⟨h.1, fun i v c a b => (h.2 i v c a b).mono hβ hk hi⟩
theorem ARs.up {β w S S' vs cs} (h : ARs β w S vs cs) (hi : Incl S S') : ARs β w S' vs cs := ⟨h.1, fun i v c a b => (h.2 i v c a b).up hi⟩
theorem FRs.up {w S S' vs cs} (h : FRs w S vs cs) (hi : Incl S S') : FRs w S' vs cs := ⟨h.1, fun i v c a b => (h.2 i v c a b).up hi⟩
theorem FRs.toAR {β w S vs cs} (h : FRs w S vs cs) : ARs β w S vs (cs.map .d) := by
  refine ⟨by simp [h.1], fun i v c hv hc => ?_⟩
  simp at hc
  obtain ⟨d, hd, rfl⟩ := hc
  exact .d v d (h.2 i v d hv hd)
theorem AR.cellsL {β w S v a} (h : AR β w S v a) (hk : a.known = true) : ARs β w S v.cells.toList a.cells := by
  obtain ⟨h1, h2⟩ := h.cells hk
  exact ⟨by simpa using h1, fun i x c hx hc => h2 i x c (by simpa using hx) hc⟩
theorem ARs.agg {β w S vs cs} (h : ARs β w S vs cs) : AR β w S (.agg vs.toArray) (.agg cs) :=
  .agg _ _ (by simpa using h.1) (fun i v c hv hc => h.2 i v c (by simpa using hv) hc)
theorem ARs.drop {β w S vs cs} (h : ARs β w S vs cs) (n : Nat) : ARs β w S (vs.drop n) (cs.drop n) :=
  ⟨by simp [h.1], fun i v c hv hc => h.2 (n + i) v c (by simpa using hv) (by simpa using hc)⟩
theorem ARs.take {β w S vs cs} (h : ARs β w S vs cs) (n : Nat) : ARs β w S (vs.take n) (cs.take n) := by
  refine ⟨by simp [h.1], fun i v c hv hc => ?_⟩
  rw [List.getElem?_take] at hv hc
  split at hv
  · simp_all; exact h.2 i v c hv hc
  · simp at hv

theorem cellsD_sound {en Fr β w hp} : ∀ (cs : List AV) (vs : List Value) (S : CellSet) (hp1 : Heap) (xs : List D) (wr : Heap) (l : List Nat), Hv en Fr β S w hp1 → Frz hp hp1 →
    cellsD cs (hget hp) = some ((xs, wr), l) → ARs β w S vs cs →
    ∃ S', Hv en Fr β S' w (hputs wr hp1) ∧ Incl S S' ∧ FRs w S' vs xs ∧ Frz hp (hputs wr hp1)
  | [], vs, S, hp1, xs, wr, l, h, hf, he, ha => by
    simp only [cellsD, M.pure_some, Prod.mk.injEq] at he
    obtain ⟨⟨rfl, rfl⟩, _⟩ := he
    rw [ha.inv_nil]
    exact ⟨S, h, Incl.refl S, FRs.nil, hf⟩
  | c :: cs, vs, S, hp1, xs, wr, l, h, hf, he, ha => by
    obtain ⟨v, vs', rfl, ha1, ha2⟩ := ha.inv_cons
    simp only [cellsD, M.bind_some, M.pure_some, Prod.exists, Prod.mk.injEq] at he
    obtain ⟨x, w1, l1, a2, b2, l2, h1, ⟨y, w2, l3, a3, b3, l4, h2, ⟨⟨rfl, rfl⟩, _⟩, ⟨rfl, rfl⟩, _⟩, ⟨rfl, rfl⟩, _⟩ := he
    obtain ⟨S1, g1, g2, g3, g4⟩ := cellD_sound h hf h1 ha1
    obtain ⟨S2, k1, k2, k3, k4⟩ := cellsD_sound cs vs' S1 _ y w2 l3 g1 g4 h2 (ha2.up g2)
    exact ⟨S2, by rw [hputs_append]; exact k1, g2.trans k2, FRs.cons_iff.2 ⟨g3.up k2, k3⟩, by rw [hputs_append]; exact k4⟩

theorem FR.norm {w S v x} (h : FR w S v x) (n : Nat) : FR w S v (x.norm n) := by
  unfold D.norm
  split
  · split
    · exact h
    · cases h with
      | lit _ _ => exact .nil _
  · exact h
theorem FRs.norm {w S} : ∀ (ns : List Nat) (vs : List Value) (xs : List D), FRs w S vs xs → FRs w S vs (normD ns xs)
  | [], vs, xs, h => by simpa [normD] using h
  | n :: ns, vs, [], h => by simpa [normD] using h
  | n :: ns, [], x :: xs, h => by simp [FRs] at h
  | n :: ns, v :: vs, x :: xs, h => by
    obtain ⟨h1, h2⟩ := FRs.cons_iff.1 h
    exact FRs.cons_iff.2 ⟨h1.norm n, FRs.norm ns vs xs h2⟩
theorem AR.norm1 {β w S v a} (h : AR β w S v a) (n : Nat) : AR β w S v (a.norm1 n) := by
  unfold AV.norm1
  split
  · cases h with
    | d _ _ h => exact .d _ _ (h.norm n)
  · exact h
theorem ARs.norm {β w S} : ∀ (ns : List Nat) (vs : List Value) (xs : List AV), ARs β w S vs xs → ARs β w S vs (normAs ns xs)
  | [], vs, xs, h => by simpa [normAs] using h
  | n :: ns, vs, [], h => by simpa [normAs] using h
  | n :: ns, [], x :: xs, h => by simp [ARs] at h
  | n :: ns, v :: vs, x :: xs, h => by
    obtain ⟨h1, h2⟩ := ARs.cons_iff.1 h
    exact ARs.cons_iff.2 ⟨h1.norm1 n, ARs.norm ns vs xs h2⟩
theorem AR.norm {β w S v a} (h : AR β w S v a) (ns : List Nat) : AR β w S v (a.norm ns) := by
  unfold AV.norm
  split
  · cases h with
    | agg vs cs hn hh =>
      have := (ARs.norm ns vs.toList _ ⟨by simpa using hn, fun i v c hv hc => hh i v c (by simpa using hv) hc⟩).agg
      simpa using this
  · split
    · exact h.norm1 _
    · exact h
theorem normArgs_sound {β w S} (E : Env) : ∀ (ts : List Nat) (vs : List Value) (cs : List AV), ARs β w S vs cs → ARs β w S vs (normArgs E ts cs)
  | [], vs, cs, h => by simpa [normArgs] using h
  | t :: ts, vs, [], h => by simpa [normArgs] using h
  | t :: ts, vs, c :: cs, h => by
    obtain ⟨v, vs', rfl, h1, h2⟩ := h.inv_cons
    simp only [normArgs]
    refine ARs.cons_iff.2 ⟨?_, normArgs_sound E ts vs' cs h2⟩
    split
    · exact h1.norm _
    · exact h1

theorem freezeCells_sound {en Fr β w hp} : ∀ (cs : List AV) (vs : List Value) (S : CellSet) (hp1 : Heap) (xs : List AV) (wr : Heap) (l : List Nat), Hv en Fr β S w hp1 → Frz hp hp1 →
    freezeArg.freezeCells cs (hget hp) = some ((xs, wr), l) → ARs β w S vs cs →
    ∃ S', Hv en Fr β S' w (hputs wr hp1) ∧ Incl S S' ∧ ARs β w S' vs xs ∧ Frz hp (hputs wr hp1)
  | [], vs, S, hp1, xs, wr, l, h, hf, he, ha => by
    simp only [freezeArg.freezeCells, M.pure_some, Prod.mk.injEq] at he
    obtain ⟨⟨rfl, rfl⟩, _⟩ := he
    rw [ha.inv_nil]
    exact ⟨S, h, Incl.refl S, ARs.nil, hf⟩
  | c :: cs, vs, S, hp1, xs, wr, l, h, hf, he, ha => by
    obtain ⟨v, vs', rfl, ha1, ha2⟩ := ha.inv_cons
    by_cases hs : ∃ id ver sz off len, c = .sv id ver sz off len
    · obtain ⟨id, ver, sz, off, len, rfl⟩ := hs
      simp only [freezeArg.freezeCells, M.bind_some, M.pure_some, Prod.exists, Prod.mk.injEq] at he
      obtain ⟨x, w1, l1, a2, b2, l2, h1, ⟨y, w2, l3, a3, b3, l4, h2, ⟨⟨rfl, rfl⟩, _⟩, ⟨rfl, rfl⟩, _⟩, ⟨rfl, rfl⟩, _⟩ := he
      obtain ⟨S1, g1, g2, g3, g4⟩ := cellD_sound h hf h1 ha1
      obtain ⟨S2, k1, k2, k3, k4⟩ := freezeCells_sound cs vs' S1 _ y w2 l3 g1 g4 h2 (ha2.up g2)
      exact ⟨S2, by rw [hputs_append]; exact k1, g2.trans k2, ARs.cons_iff.2 ⟨.d _ _ (g3.up k2), k3⟩, by rw [hputs_append]; exact k4⟩
    · have he' : ((do let (xs, w') ← freezeArg.freezeCells cs; pure (c :: xs, w')) : M (List AV × Heap)) (hget hp) = some ((xs, wr), l) := by
        rw [← he]
        cases c <;> first | rfl | (exfalso; exact hs ⟨_, _, _, _, _, rfl⟩)
      simp only [M.bind_some, M.pure_some, Prod.exists, Prod.mk.injEq] at he'
      obtain ⟨y, w2, l3, a3, b3, l4, h2, ⟨⟨rfl, rfl⟩, _⟩, ⟨rfl, rfl⟩, _⟩ := he'
      obtain ⟨S2, k1, k2, k3, k4⟩ := freezeCells_sound cs vs' S _ _ _ _ h hf h2 ha2
      exact ⟨S2, k1, k2, ARs.cons_iff.2 ⟨ha1.up k2, k3⟩, k4⟩

theorem freezeArg_sound {en Fr β S w hp hp1 v c x wr l} (h : Hv en Fr β S w hp1) (hf : Frz hp hp1) (he : freezeArg c (hget hp) = some ((x, wr), l)) (ha : AR β w S v c) :
    ∃ S', Hv en Fr β S' w (hputs wr hp1) ∧ Incl S S' ∧ AR β w S' v x ∧ Frz hp (hputs wr hp1) := by
  by_cases hs : ∃ id ver sz off len, c = .sv id ver sz off len
  · obtain ⟨id, ver, sz, off, len, rfl⟩ := hs
    simp only [freezeArg, M.bind_some, M.pure_some, Prod.exists, Prod.mk.injEq] at he
    obtain ⟨y, w2, l3, a3, b3, l4, h1, ⟨⟨rfl, rfl⟩, _⟩, ⟨rfl, rfl⟩, _⟩ := he
    obtain ⟨S1, g1, g2, g3, g4⟩ := cellD_sound h hf h1 ha
    exact ⟨S1, g1, g2, .d _ _ g3, g4⟩
  · by_cases ha' : ∃ cs, c = .agg cs
    · obtain ⟨cs, rfl⟩ := ha'
      simp only [freezeArg, M.bind_some, M.pure_some, Prod.exists, Prod.mk.injEq] at he
      obtain ⟨y, w2, l3, a3, b3, l4, h1, ⟨⟨rfl, rfl⟩, _⟩, ⟨rfl, rfl⟩, _⟩ := he
      cases ha with
      | agg vs _ hn hh =>
        obtain ⟨S1, g1, g2, g3, g4⟩ := freezeCells_sound cs vs.toList S hp1 _ _ _ h hf h1 ⟨by simpa using hn, fun i v c hv hc => hh i v c (by simpa using hv) hc⟩
        exact ⟨S1, g1, g2, by simpa using g3.agg, g4⟩
    · have he' : some ((c, ([] : Heap)), ([] : List Nat)) = some ((x, wr), l) := by
        rw [← he]
        cases c <;> first | rfl | (exfalso; exact hs ⟨_, _, _, _, _, rfl⟩) | (exfalso; exact ha' ⟨_, rfl⟩)
      simp only [Option.some.injEq, Prod.mk.injEq] at he'
      obtain ⟨⟨rfl, rfl⟩, _⟩ := he'
      exact ⟨S, h, Incl.refl S, ha, hf⟩

theorem freezeArgs_sound {en Fr β w hp} : ∀ (bs : List Bool) (cs : List AV) (vs : List Value) (S : CellSet) (hp1 : Heap) (xs : List AV) (wr : Heap) (l : List Nat), Hv en Fr β S w hp1 → Frz hp hp1 →
    freezeArgs bs cs (hget hp) = some ((xs, wr), l) → ARs β w S vs cs →
    ∃ S', Hv en Fr β S' w (hputs wr hp1) ∧ Incl S S' ∧ ARs β w S' vs xs ∧ Frz hp (hputs wr hp1)
  | bs, [], vs, S, hp1, xs, wr, l, h, hf, he, ha => by
    simp only [freezeArgs, M.pure_some, Prod.mk.injEq] at he
    obtain ⟨⟨rfl, rfl⟩, _⟩ := he
    rw [ha.inv_nil]
    exact ⟨S, h, Incl.refl S, ARs.nil, hf⟩
  | true :: bs, c :: cs, vs, S, hp1, xs, wr, l, h, hf, he, ha => by
    obtain ⟨v, vs', rfl, ha1, ha2⟩ := ha.inv_cons
    simp only [freezeArgs, M.bind_some, M.pure_some, Prod.exists, Prod.mk.injEq] at he
    obtain ⟨y, w2, l3, a3, b3, l4, h1, ⟨⟨rfl, rfl⟩, _⟩, ⟨rfl, rfl⟩, _⟩ := he
    obtain ⟨S2, k1, k2, k3, k4⟩ := freezeArgs_sound bs cs vs' S _ _ _ _ h hf h1 ha2
    exact ⟨S2, k1, k2, ARs.cons_iff.2 ⟨ha1.up k2, k3⟩, k4⟩
  | [], c :: cs, vs, S, hp1, xs, wr, l, h, hf, he, ha => by
    obtain ⟨v, vs', rfl, ha1, ha2⟩ := ha.inv_cons
    simp only [freezeArgs, M.bind_some, M.pure_some, Prod.exists, Prod.mk.injEq] at he
    obtain ⟨x, w1, l1, a2, b2, l2, h1, ⟨y, w2, l3, a3, b3, l4, h2, ⟨⟨rfl, rfl⟩, _⟩, ⟨rfl, rfl⟩, _⟩, ⟨rfl, rfl⟩, _⟩ := he
    obtain ⟨S1, g1, g2, g3, g4⟩ := freezeArg_sound h hf h1 ha1
    obtain ⟨S2, k1, k2, k3, k4⟩ := freezeArgs_sound [] cs vs' S1 _ y w2 l3 g1 g4 h2 (ha2.up g2)
    exact ⟨S2, by rw [hputs_append]; exact k1, g2.trans k2, ARs.cons_iff.2 ⟨g3.up k2, k3⟩, by rw [hputs_append]; exact k4⟩
  | false :: bs, c :: cs, vs, S, hp1, xs, wr, l, h, hf, he, ha => by
    obtain ⟨v, vs', rfl, ha1, ha2⟩ := ha.inv_cons
    simp only [freezeArgs, M.bind_some, M.pure_some, Prod.exists, Prod.mk.injEq] at he
    obtain ⟨x, w1, l1, a2, b2, l2, h1, ⟨y, w2, l3, a3, b3, l4, h2, ⟨⟨rfl, rfl⟩, _⟩, ⟨rfl, rfl⟩, _⟩, ⟨rfl, rfl⟩, _⟩ := he
    obtain ⟨S1, g1, g2, g3, g4⟩ := freezeArg_sound h hf h1 ha1
    obtain ⟨S2, k1, k2, k3, k4⟩ := freezeArgs_sound bs cs vs' S1 _ y w2 l3 g1 g4 h2 (ha2.up g2)
    exact ⟨S2, by rw [hputs_append]; exact k1, g2.trans k2, ARs.cons_iff.2 ⟨g3.up k2, k3⟩, by rw [hputs_append]; exact k4⟩

end Go.Ax
end
section
namespace Go.Ax
set_option linter.unusedSimpArgs false
set_option linter.unusedVariables false

def upd (β : Beta) (id ver : Nat) (p : Place) : Beta := fun i v => if i = id ∧ v = ver then some p else β i v
theorem upd_same (β : Beta) (id ver : Nat) (p : Place) : upd β id ver p id ver = some p := by simp [upd]
theorem upd_incl {β : Beta} {id ver : Nat} (p : Place) (h : β id ver = none) : BIncl β (upd β id ver p) := by
  intro i v q hq
  unfold upd
  by_cases e : i = id ∧ v = ver
  · obtain ⟨rfl, rfl⟩ := e; rw [h] at hq; simp at hq
  · rw [if_neg e]; exact hq
theorem upd_ne {β : Beta} {id ver : Nat} (p : Place) {i v : Nat} (h : i ≠ id) : upd β id ver p i v = β i v := by
  unfold upd; rw [if_neg (fun e => h e.1)]

def Less (Fr : Nat → Prop) (base : Nat) : Nat → Prop := fun i => Fr i ∧ ¬ (base ≤ i ∧ i < base + 32)

theorem heap_alloc_any (w : World) (o : Obj) (b : Nat) (h : b < w.heap.size) : (w.alloc o).heap[b]? = w.heap[b]? := heap_alloc_old w o b h

theorem no_mine {en Fr β S w hp id} (h : Hv en Fr β S w hp) (hf : Fr id) (b : Nat) : ¬ Mine β hp id b := by
  rintro ⟨ver, o, p, h1, _⟩
  rw [(h.hr.new id hf).1] at h1
  simp at h1

theorem new_box {en Fr β S w hp id} (h : Hv en Fr β S w hp) (hf : Fr id) (t : TypeId) (c : Array Value) (cells : List AV) (hc : ARs β w S c.toList cells) :
    ∃ β', Hv en (fun i => Fr i ∧ i ≠ id) β' S (w.alloc (.cells c t)) (hset id 0 (.box cells) hp) ∧ BIncl β β' ∧ Keeps w (w.alloc (.cells c t)) S ∧
      AR β' (w.alloc (.cells c t)) S (.pointer (some (at_ w.heap.size 0))) (.ptr id 0 0 0) := by
  have hnew := (h.hr.new id hf).2
  have hb : BIncl β (upd β id 0 ⟨w.heap.size, 0, 0, cells.length, false⟩) := upd_incl _ (hnew 0)
  have hblk : ∀ b, b < w.heap.size → ¬ Mine β hp id b → (w.alloc (.cells c t)).heap[b]? = w.heap[b]? := fun b hb _ => heap_alloc_any w _ b hb
  have hk := h.keeps hblk
  obtain ⟨g1, g2⟩ := h.put (Fr' := fun i => Fr i ∧ i ≠ id) (S' := S) (w' := w.alloc (.cells c t)) id 0 (.box cells) hb (fun i v hi => upd_ne _ hi)
    (fun v hv => by simp [upd, hnew v]; omega) hblk (by simp) (Incl.refl S) (fun b k hs => .inl hs)
    (by
      refine ⟨_, c, t, upd_same _ _ _ _, rfl, rfl, rfl, heap_alloc_new w _, by simpa using hc.1, fun i v a hv ha => ?_⟩
      exact (hc.2 i v a (by simpa using hv) ha).mono hb hk (Incl.refl S))
    (by
      intro _ p hp1 hp2
      rw [upd_same] at hp1; cases hp1
      exact ⟨.inr (Nat.le_refl _), fun k hs => Nat.lt_irrefl _ (h.hr.low _ _ hs)⟩)
    ⟨rfl, rfl⟩ (fun i hi => hi)
  refine ⟨_, g1, hb, hk, ?_⟩
  exact AR.ptr id 0 0 0 ⟨w.heap.size, 0, 0, cells.length, false⟩ (upd_same _ _ _ _) rfl

theorem new_arr {en Fr β S w hp id} (h : Hv en Fr β S w hp) (hf : Fr id) (t : TypeId) (c : Array Value) (sz : Nat) (rows : List (List D)) (len cap : Nat)
    (hl : len = rows.length) (hcap : len ≤ cap) (hsz : cap * sz = c.size) (hr : ∀ r ∈ rows, r.length = sz)
    (hc : ∀ (i j : Nat) r d, rows[i]? = some r → r[j]? = some d → ∃ v, c[i * sz + j]? = some v ∧ FR w S v d) :
    ∃ β', Hv en (fun i => Fr i ∧ i ≠ id) β' S (w.alloc (.cells c t)) (hset id 0 (.arr sz rows) hp) ∧ BIncl β β' ∧ Keeps w (w.alloc (.cells c t)) S ∧
      AR β' (w.alloc (.cells c t)) S (.slice (some (at_ w.heap.size 0)) len cap) (.sv id 0 sz 0 len) := by
  have hnew := (h.hr.new id hf).2
  have hb : BIncl β (upd β id 0 ⟨w.heap.size, 0, sz, c.size, false⟩) := upd_incl _ (hnew 0)
  have hblk : ∀ b, b < w.heap.size → ¬ Mine β hp id b → (w.alloc (.cells c t)).heap[b]? = w.heap[b]? := fun b hb _ => heap_alloc_any w _ b hb
  have hk := h.keeps hblk
  have hle : rows.length * sz ≤ c.size := Nat.le_trans (Nat.mul_le_mul_right _ (by omega)) (Nat.le_of_eq hsz)
  obtain ⟨g1, g2⟩ := h.put (Fr' := fun i => Fr i ∧ i ≠ id) (S' := S) (w' := w.alloc (.cells c t)) id 0 (.arr sz rows) hb (fun i v hi => upd_ne _ hi)
    (fun v hv => by simp [upd, hnew v]; omega) hblk (by simp) (Incl.refl S) (fun b k hs => .inl hs)
    (by
      refine ⟨_, upd_same _ _ _ _, rfl, hr, by simp, fun _ => ⟨c, t, heap_alloc_new w _, rfl, by simpa using hle, fun i j r d h1 h2 => ?_⟩⟩
      obtain ⟨v, e1, e2⟩ := hc i j r d h1 h2
      exact ⟨v, by simpa using e1, e2.mono hk (Incl.refl S)⟩)
    (by
      intro _ p hp1 hp2
      rw [upd_same] at hp1; cases hp1
      exact ⟨.inr (Nat.le_refl _), fun k hs => Nat.lt_irrefl _ (h.hr.low _ _ hs)⟩)
    ⟨rfl, rfl⟩ (fun i hi => hi)
  refine ⟨_, g1, hb, hk, ?_⟩
  exact AR.sv id 0 sz 0 len cap _ ⟨w.heap.size, 0, sz, c.size, false⟩ (upd_same _ _ _ _) rfl rfl hcap (by simpa using hsz) (fun _ => by simp)

structure EqOk (P : Program) (t n : Nat) : Prop where
  guard : P.eqGuardType P.depth t = false
  eq : ∀ (xs ys : List Int) (w : World), xs.length = n → ys.length = n →
    (Op.equal t (.agg (xs.map (Value.int .i64)).toArray) (.agg (ys.map (Value.int .i64)).toArray)).run P w = .ok (decide (xs = ys)) w

structure TyOk (P : Program) (E : Env) : Prop where
  ty : ∀ t ti, E.T t = some ti → TOk P t ti
  eq : ∀ t n, E.eqs t = some n → EqOk P t n

/-- what an operation that is no call of ours comes to -/
def OpRes (P : Program) (en : Ent) (Fr : Nat → Prop) (base : Nat) (β : Beta) (S : CellSet) (w : World) (hp : Heap) (sem : Sem Next) (v : AV) (wr : Heap) : Prop :=
  ∃ β' S' w' val, (sem.run P w = .ok (.value val) w' ∨ (sem.run P w = .ok .skip w' ∧ val = undef)) ∧ AR β' w' S' val v ∧
    Hv en (Less Fr base) β' S' w' (hputs wr hp) ∧ BIncl β β' ∧ Incl S S' ∧ Keeps w w' S

theorem OpRes.pure {P en Fr base β S w hp sem v val} (h : Hv en Fr β S w hp) (hr : sem.run P w = .ok (.value val) w) (ha : AR β w S val v) :
    OpRes P en Fr base β S w hp sem v [] :=
  ⟨β, S, w, val, .inl hr, ha, h.weakFr (fun i hi => hi.1), BIncl.refl β, Incl.refl S, Keeps.refl w S⟩

theorem Hv.less {en Fr β S w hp id base} (h : Hv en (fun i => Fr i ∧ i ≠ id) β S w hp) (hb : base ≤ id) (hb2 : id < base + 32) : Hv en (Less Fr base) β S w hp :=
  h.weakFr (fun i hi => ⟨hi.1, fun e => hi.2 ⟨by omega, by omega⟩⟩)

section ops
variable {P : Program} {E : Env} {en : Ent} {Fr : Nat → Prop} {β : Beta} {S : CellSet} {w : World} {hp : Heap} {base : Nat}
variable {ρc : Operand → Value} {ρ : Operand → Option AV}

theorem evals_sound (hρ : ∀ x v, ρ x = some v → AR β w S (ρc x) v) : ∀ (l : List Operand) (cs : List AV), evals ρ l = some cs → ARs β w S (l.map ρc) cs
  | [], cs, h => by simp [evals] at h; subst h; exact ARs.nil
  | x :: l, cs, h => by
    simp only [evals] at h
    cases h1 : ρ x with
    | none => rw [h1] at h; simp at h
    | some v =>
      rw [h1] at h
      cases h2 : evals ρ l with
      | none => rw [h2] at h; simp at h
      | some vs =>
        rw [h2] at h
        simp at h
        subst h
        exact ARs.cons_iff.2 ⟨hρ x v h1, evals_sound hρ l vs h2⟩

/-- parts: the same places, the values as seen -/
inductive Parts (β : Beta) (w : World) (S : CellSet) : List (Nat × Value) → List (Nat × AV) → Prop
  | nil : Parts β w S [] []
  | cons {i v a vs as} (h : AR β w S v a) (k : Parts β w S vs as) : Parts β w S ((i, v) :: vs) ((i, a) :: as)

theorem evalParts_sound (hρ : ∀ x v, ρ x = some v → AR β w S (ρc x) v) : ∀ (l : List (Nat × Operand)) (cs : List (Nat × AV)), evalParts ρ l = some cs →
    Parts β w S (l.map fun x => (x.1, ρc x.2)) cs
  | [], cs, h => by simp [evalParts] at h; subst h; exact .nil
  | (i, x) :: l, cs, h => by
    simp only [evalParts] at h
    cases h1 : ρ x with
    | none => rw [h1] at h; simp at h
    | some v =>
      rw [h1] at h
      cases h2 : evalParts ρ l with
      | none => rw [h2] at h; simp at h
      | some vs =>
        rw [h2] at h
        simp at h
        subst h
        exact .cons (hρ x v h1) (evalParts_sound hρ l vs h2)

theorem fold_set (off : Nat) : ∀ (vs : List Value) (k : Nat) (cells : Array Value), off + k + vs.length ≤ cells.size →
    ((vs.zipIdx k).foldl (fun cs (x : Value × Nat) => cs.setIfInBounds (off + x.2) x.1) cells).size = cells.size ∧
    ∀ i : Nat, ((vs.zipIdx k).foldl (fun cs (x : Value × Nat) => cs.setIfInBounds (off + x.2) x.1) cells)[i]? =
      if off + k ≤ i ∧ i < off + k + vs.length then vs[i - (off + k)]? else cells[i]?
  | [], k, cells, h => by simp; intro i h1 h2; omega
  | v :: vs, k, cells, h => by
    simp only [List.zipIdx_cons, List.foldl_cons]
    obtain ⟨h1, h2⟩ := fold_set off vs (k + 1) (cells.setIfInBounds (off + k) v) (by simp at h ⊢; omega)
    refine ⟨by rw [h1]; simp, fun i => ?_⟩
    rw [h2 i]
    simp only [List.length_cons] at h ⊢
    by_cases hi : off + (k + 1) ≤ i ∧ i < off + (k + 1) + vs.length
    · rw [if_pos hi, if_pos (by omega), show i - (off + k) = (i - (off + (k + 1))) + 1 by omega]; simp
    · rw [if_neg hi]
      by_cases he : i = off + k
      · subst he
        rw [if_pos (by omega)]
        have : off + k < cells.size := by omega
        simp [this]
      · rw [if_neg (by omega), Array.getElem?_setIfInBounds_ne (by omega)]

theorem foldl_arr (off : Nat) (vs cells : Array Value) :
    vs.zipIdx.foldl (fun cs (x : Value × Nat) => cs.setIfInBounds (off + x.2) x.1) cells = ((vs.toList.zipIdx 0).foldl (fun cs (x : Value × Nat) => cs.setIfInBounds (off + x.2) x.1) cells) := by
  rw [← Array.foldl_toList]
  congr 1
  simp

theorem fills_sound {place pl : Nat → Option (Nat × Nat)} (hpl : ∀ i x, place i = some x → pl i = some x) : ∀ (vs : List (Nat × Value)) (ps : List (Nat × AV)) (c : Array Value) (cs r : List AV),
    Parts β w S vs ps → ARs β w S c.toList cs → fills place ps cs = some r → (∀ x ∈ ps, x.2.known = true) →
    ∃ c', Instr.fill pl c vs = some c' ∧ ARs β w S c'.toList r
  | _, _, c, cs, r, .nil, hc, h, hkn => by simp [fills] at h; subst h; exact ⟨c, rfl, hc⟩
  | _, _, c, cs, r, .cons (i := i) (v := v) (a := a) (vs := vs) (as := as) ha hk, hc, h, hkn => by
    simp only [fills] at h
    cases h1 : place i with
    | none => rw [h1] at h; simp at h
    | some x =>
      obtain ⟨off, size⟩ := x
      rw [h1] at h
      simp only at h
      cases h2 : decide (a.cells.length = size) with
      | false => rw [h2] at h; simp at h
      | true =>
        rw [h2] at h
        simp only at h
        simp at h2
        cases h3 : splice cs off a.cells with
        | none => rw [h3] at h; simp at h
        | some cs' =>
          rw [h3] at h
          simp only at h
          obtain ⟨s1, s2, s3⟩ := splice_spec _ _ _ _ h3
          have hac := ha.cellsL (hkn (i, a) (by simp))
          have hlen : v.cells.size = size := by rw [← h2]; simpa using hac.1
          have hcs : c.size = cs.length := by simpa using hc.1
          have hvl : v.cells.toList.length = a.cells.length := hac.1
          obtain ⟨f1, f2⟩ := fold_set off v.cells.toList 0 c (by simp at hvl ⊢; omega)
          rw [← foldl_arr] at f1 f2
          have hc2 : ARs β w S (v.cells.zipIdx.foldl (fun cs (x : Value × Nat) => cs.setIfInBounds (off + x.2) x.1) c).toList cs' := by
            refine ⟨by rw [Array.length_toList, f1, hcs, s1], fun k u d hu hd => ?_⟩
            have hu' : (v.cells.zipIdx.foldl (fun cs (x : Value × Nat) => cs.setIfInBounds (off + x.2) x.1) c)[k]? = some u := by simpa using hu
            rw [f2 k] at hu'
            rw [s3 k] at hd
            have hvl2 : v.cells.toList.length = a.cells.length := hac.1
            simp only [Nat.add_zero, hvl2] at hu'
            by_cases hk2 : off ≤ k ∧ k < off + a.cells.length
            · rw [if_pos hk2] at hd hu'
              exact hac.2 _ u d hu' hd
            · rw [if_neg hk2] at hd hu'
              exact hc.2 k u d (by simpa using hu') hd
          obtain ⟨c', e1, e2⟩ := fills_sound hpl vs as _ cs' r hk hc2 h (fun x hx => hkn x (by simp [hx]))
          refine ⟨c', ?_, e2⟩
          simp only [Instr.fill, hpl _ _ h1]
          rw [if_neg (by simp at hvl ⊢; omega)]
          exact e1
end ops

end Go.Ax
end
section
namespace Go.Ax
set_option linter.unusedSimpArgs false
set_option linter.unusedVariables false

section ops
variable {P : Program} {E : Env} {en : Ent} {Fr : Nat → Prop} {β : Beta} {S : CellSet} {w : World} {hp : Heap} {base : Nat}
variable {ρc : Operand → Value} {ρ : Operand → Option AV}

theorem op_move (h : Hv en Fr β S w hp) (hρ : ∀ x v, ρ x = some v → AR β w S (ρc x) v) {x : Operand} {v : AV} {wr : Heap} {l : List Nat} {o : Oper} (ho : o.op = .move x)
    (he : evalOp0 E base ρ (.move x) (hget hp) = some ((v, wr), l)) : OpRes P en Fr base β S w hp (execOp ρc o) v wr := by
  simp only [evalOp0, M.bind_some, M.lift_some, M.pure_some, Prod.exists, Prod.mk.injEq] at he
  obtain ⟨a, l1, v', wr', l2, ⟨h1, _⟩, ⟨⟨rfl, rfl⟩, _⟩, ⟨⟨rfl, rfl⟩, _⟩⟩ := he
  exact OpRes.pure h (val := ρc x) (by simp [execOp, ho]) (hρ x _ h1)

theorem op_assign (h : Hv en Fr β S w hp) (hρ : ∀ x v, ρ x = some v → AR β w S (ρc x) v) {x : Operand} {v : AV} {wr : Heap} {l : List Nat} {o : Oper} (ho : o.op = .assign x)
    (he : evalOp0 E base ρ (.assign x) (hget hp) = some ((v, wr), l)) : OpRes P en Fr base β S w hp (execOp ρc o) v wr := by
  simp only [evalOp0, M.bind_some, M.lift_some, M.pure_some, Prod.exists, Prod.mk.injEq] at he
  obtain ⟨a, l1, v', wr', l2, ⟨h1, _⟩, ⟨⟨rfl, rfl⟩, _⟩, ⟨⟨rfl, rfl⟩, _⟩⟩ := he
  exact OpRes.pure h (val := ρc x) (by simp [execOp, ho]) (hρ x _ h1)

theorem AR.lit_inv {β w S v u} (h : AR β w S v (.d (.lit u))) : v = u := by
  cases h with
  | d _ _ h => cases h with | lit _ _ => rfl

theorem op_pick (h : Hv en Fr β S w hp) (hρ : ∀ x v, ρ x = some v → AR β w S (ρc x) v) {c x y : Operand} {v : AV} {wr : Heap} {l : List Nat} {o : Oper} (ho : o.op = .pick c x y)
    (he : evalOp0 E base ρ (.pick c x y) (hget hp) = some ((v, wr), l)) : OpRes P en Fr base β S w hp (execOp ρc o) v wr := by
  simp only [evalOp0, M.bind_some, M.lift_some, Prod.exists, Prod.mk.injEq] at he
  obtain ⟨a, l1, v', wr', l2, ⟨h1, _⟩, h2, ⟨rfl, rfl⟩, _⟩ := he
  have ha := hρ c _ h1
  split at h2
  · simp only [M.bind_some, M.lift_some, M.pure_some, Prod.exists, Prod.mk.injEq] at h2
    obtain ⟨b, l3, v3, wr3, l4, ⟨h3, _⟩, ⟨⟨rfl, rfl⟩, _⟩, ⟨⟨rfl, rfl⟩, _⟩⟩ := h2
    exact OpRes.pure h (val := ρc x) (by simp [execOp, ho, ha.lit_inv, asBool]) (hρ x _ h3)
  · simp only [M.bind_some, M.lift_some, M.pure_some, Prod.exists, Prod.mk.injEq] at h2
    obtain ⟨b, l3, v3, wr3, l4, ⟨h3, _⟩, ⟨⟨rfl, rfl⟩, _⟩, ⟨⟨rfl, rfl⟩, _⟩⟩ := h2
    exact OpRes.pure h (val := ρc y) (by simp [execOp, ho, ha.lit_inv, asBool]) (hρ y _ h3)
  · simp [M.fail] at h2

theorem run_newVar (t : TypeId) (v : Value) : (newVar t v).run P w = .ok (at_ w.heap.size 0) (w.alloc (.cells v.cells t)) := by
  simp [newVar, newRow, at_]

theorem lits_AR {β w S} {zs : List Value} (h : zs.all one = true) : ARs β w S zs ((zs.map D.lit).map AV.d) := by
  refine ⟨by simp, fun i v c hv hc => ?_⟩
  simp at hc
  obtain ⟨u, hu, rfl⟩ := hc
  rw [hv] at hu; cases hu
  simp at h
  exact .d _ _ (.lit _ (h v (List.mem_of_getElem? hv)))

theorem lits_FR {w S} {zs : List Value} (h : zs.all one = true) : FRs w S zs (zs.map D.lit) := by
  refine ⟨by simp, fun i v c hv hc => ?_⟩
  simp at hc
  obtain ⟨u, hu, rfl⟩ := hc
  rw [hv] at hu; cases hu
  simp at h
  exact .lit _ (h v (List.mem_of_getElem? hv))

theorem op_alloc (hT : TyOk P E) (h : Hv en Fr β S w hp) (hFr : Fr base) {t : TypeId} {v : AV} {wr : Heap} {l : List Nat} {o : Oper} (ho : o.op = .alloc t)
    (he : evalOp0 E base ρ (.alloc t) (hget hp) = some ((v, wr), l)) : OpRes P en Fr base β S w hp (execOp ρc o) v wr := by
  simp only [evalOp0, M.bind_some, M.lift_some, M.pure_some, Prod.exists, Prod.mk.injEq] at he
  obtain ⟨ti, l1, v', wr', l2, ⟨h1, _⟩, ⟨⟨rfl, rfl⟩, _⟩, ⟨⟨rfl, rfl⟩, _⟩⟩ := he
  obtain ⟨z, zs, z1, z2, z3, z4, z5⟩ := run_zeroValue (w := w) (hT.ty _ _ h1)
  have hz : ARs β w S z.cells.toList (ti.zero.map AV.d) := by rw [z2, z3]; exact lits_AR z4
  obtain ⟨β', g1, g2, g3, g4⟩ := new_box h hFr t z.cells _ hz
  refine ⟨β', S, _, _, .inl ?_, g4, g1.less (Nat.le_refl _) (by omega), g2, Incl.refl S, g3⟩
  simp [execOp, ho, Instr.alloc, z1, run_newVar]

theorem op_box (h : Hv en Fr β S w hp) (hρ : ∀ x v, ρ x = some v → AR β w S (ρc x) v) (hFr : Fr base) {t : TypeId} {x : Operand} {v : AV} {wr : Heap} {l : List Nat} {o : Oper} (ho : o.op = .box t x)
    (he : evalOp0 E base ρ (.box t x) (hget hp) = some ((v, wr), l)) : OpRes P en Fr base β S w hp (execOp ρc o) v wr := by
  simp only [evalOp0, M.bind_some, M.lift_some, M.need_some, M.pure_some, Prod.exists, Prod.mk.injEq] at he
  obtain ⟨a, l1, v', wr', l2, ⟨h1, _⟩, ⟨_, l3, v3, wr3, l4, ⟨h2, _⟩, ⟨⟨rfl, rfl⟩, _⟩, ⟨⟨rfl, rfl⟩, _⟩⟩, ⟨⟨rfl, rfl⟩, _⟩⟩ := he
  obtain ⟨β', g1, g2, g3, g4⟩ := new_box h hFr t (ρc x).cells _ ((hρ x _ h1).cellsL h2)
  refine ⟨β', S, _, _, .inl ?_, g4, g1.less (Nat.le_refl _) (by omega), g2, Incl.refl S, g3⟩
  simp [execOp, ho, Instr.box, run_newVar]

theorem op_nilCheck (h : Hv en Fr β S w hp) (hρ : ∀ x v, ρ x = some v → AR β w S (ρc x) v) {x : Operand} {v : AV} {wr : Heap} {l : List Nat} {o : Oper} (ho : o.op = .nilCheck x)
    (he : evalOp0 E base ρ (.nilCheck x) (hget hp) = some ((v, wr), l)) : OpRes P en Fr base β S w hp (execOp ρc o) v wr := by
  simp only [evalOp0, M.bind_some, M.lift_some, Prod.exists, Prod.mk.injEq] at he
  obtain ⟨a, l1, v', wr', l2, ⟨h1, _⟩, h2, ⟨rfl, rfl⟩, _⟩ := he
  have ha := hρ x _ h1
  split at h2
  · simp only [pure, M.pure, Option.some.injEq, Prod.mk.injEq] at h2
    obtain ⟨⟨rfl, rfl⟩, _⟩ := h2
    cases hx : ρc x <;> rw [hx] at ha <;> cases ha
    exact OpRes.pure h (val := ρc x) (by simp [execOp, ho, hx]) (hρ x _ h1)
  · simp only [pure, M.pure, Option.some.injEq, Prod.mk.injEq] at h2
    obtain ⟨⟨rfl, rfl⟩, _⟩ := h2
    cases hx : ρc x <;> rw [hx] at ha <;> cases ha
    exact OpRes.pure h (val := ρc x) (by simp [execOp, ho, hx]) (hρ x _ h1)
  · simp [M.fail] at h2

theorem AR.lit {β w S v} (h : Ax.one v = true) : AR β w S v (.d (.lit v)) := .d _ _ (.lit _ h)

theorem op_makeFunc (h : Hv en Fr β S w hp) (hρ : ∀ x v, ρ x = some v → AR β w S (ρc x) v) {fn : Go.Fn} {first caps : Array Operand} {v : AV} {wr : Heap} {l : List Nat} {o : Oper} (ho : o.op = .makeFunc fn first caps)
    (he : evalOp0 E base ρ (.makeFunc fn first caps) (hget hp) = some ((v, wr), l)) : OpRes P en Fr base β S w hp (execOp ρc o) v wr := by
  simp only [evalOp0, M.bind_some, M.lift_some, Prod.exists, Prod.mk.injEq] at he
  obtain ⟨a, l1, v', wr', l2, ⟨h1, _⟩, h2, ⟨rfl, rfl⟩, _⟩ := he
  have hc := evals_sound hρ _ _ h1
  cases fn with
  | func f =>
    cases e1 : first.toList with
    | nil =>
      rw [e1] at h2
      simp only [pure, M.pure, Option.some.injEq, Prod.mk.injEq] at h2
      obtain ⟨⟨rfl, rfl⟩, _⟩ := h2
      have e2 : first = #[] := by simpa using e1
      subst e2
      refine OpRes.pure h (val := .func (.func f) #[] (caps.map ρc)) (by simp [execOp, ho, Instr.makeFunc]) ?_
      exact .clo f _ _ (by simpa using hc.1) (fun i v c hv hcc => hc.2 i v c (by simpa using hv) hcc)
    | cons x r => rw [e1] at h2; simp [M.fail] at h2
  | method => simp [M.fail] at h2
  | methodOf => simp [M.fail] at h2
  | via => simp [M.fail] at h2
  | yield => simp [M.fail] at h2

theorem op_extract (h : Hv en Fr β S w hp) (hρ : ∀ x v, ρ x = some v → AR β w S (ρc x) v) {x : Operand} {i : Nat} {v : AV} {wr : Heap} {l : List Nat} {o : Oper} (ho : o.op = .extract x i)
    (he : evalOp0 E base ρ (.extract x i) (hget hp) = some ((v, wr), l)) : OpRes P en Fr base β S w hp (execOp ρc o) v wr := by
  simp only [evalOp0, M.bind_some, M.lift_some, Prod.exists, Prod.mk.injEq] at he
  obtain ⟨a, l1, v', wr', l2, ⟨h1, _⟩, h2, ⟨rfl, rfl⟩, _⟩ := he
  have ha := hρ x _ h1
  split at h2
  · rename_i cs
    simp only [M.bind_some, M.lift_some, M.pure_some, Prod.exists, Prod.mk.injEq] at h2
    obtain ⟨b, l3, v3, wr3, l4, ⟨h3, _⟩, ⟨⟨rfl, rfl⟩, _⟩, ⟨⟨rfl, rfl⟩, _⟩⟩ := h2
    generalize hx : ρc x = vx at ha
    cases ha with
    | tup vs _ hn hh =>
      have hlt : i < vs.size := by rw [hn]; exact (List.getElem?_eq_some_iff.1 h3).1
      have hv : vs[i]? = some vs[i] := Array.getElem?_eq_getElem hlt
      exact OpRes.pure h (val := vs[i]) (by simp [execOp, ho, Instr.extract, hx, hv]) (hh i _ _ hv h3)
  · simp [M.fail] at h2

/-! loads -/
theorem loadA_sound (hT : TyOk P E) (h : Hv en Fr β S w hp) {t : TypeId} {ti : TI} (ht : E.T t = some ti) {v : Value} {a x : AV} {l : List Nat} (ha : AR β w S v a)
    (he : loadA ti a (hget hp) = some (x, l)) : ∃ val, (Instr.loadAt t v).run P w = .ok val w ∧ AR β w S val x := by
  have key : ∀ (b o : Nat) (vs : List Value) (cs : List AV), vs.length = ti.size → (∀ j u, vs[j]? = some u → w.cell? (at_ b (o + j)) = some u) → ARs β w S vs cs → asOne ti.kind.agg cs = some x →
      ∃ val, (Instr.loadAt t (.pointer (some (at_ b o)))).run P w = .ok val w ∧ AR β w S val x := by
    intro b o vs cs hn hc hvc hx
    obtain ⟨r1, r2⟩ := run_loadVar (w := w) (hT.ty _ _ ht) b o vs hn hc
    cases hk : ti.kind.agg with
    | true =>
      rw [hk] at hx
      simp [asOne] at hx
      subst hx
      exact ⟨_, by simp only [Instr.loadAt, Instr.sureAddr, Sem.run_bind, Sem.run_pure, Result.andThen_ok]; exact r1 hk, hvc.agg⟩
    | false =>
      rw [hk] at hx
      simp only [asOne] at hx
      split at hx
      · rename_i c
        simp at hx
        subst hx
        obtain ⟨v0, vs', rfl, e1, e2⟩ := hvc.inv_cons
        exact ⟨v0, by simp only [Instr.loadAt, Instr.sureAddr, Sem.run_bind, Sem.run_pure, Result.andThen_ok]; exact r2 hk v0 rfl, e1⟩
      · simp at hx
  -- a row of data behind an address
  have rowKey : ∀ (b o : Nat) (r : List D) (cs : List D), (∀ (j : Nat) d, r[j]? = some d → ∃ u, w.cell? (at_ b (o + j)) = some u ∧ FR w S u d) → takeN ti.size r = some cs → asOne ti.kind.agg (cs.map .d) = some x →
      ∃ val, (Instr.loadAt t (.pointer (some (at_ b o)))).run P w = .ok val w ∧ AR β w S val x := by
    intro b o r cs hr hcs hx
    obtain ⟨e1, e2⟩ := takeN_spec _ _ _ hcs
    have hex : ∀ n, n ≤ r.length → ∃ vs : List Value, vs.length = n ∧ (∀ j u, vs[j]? = some u → w.cell? (at_ b (o + j)) = some u) ∧ FRs w S vs (r.take n) := by
      intro n
      induction n with
      | zero => intro _; exact ⟨[], rfl, by simp, by simpa using FRs.nil⟩
      | succ n ih =>
        intro hn
        obtain ⟨vs, v1, v2, v3⟩ := ih (by omega)
        have hlt : n < r.length := by omega
        obtain ⟨u, u1, u2⟩ := hr n r[n] (List.getElem?_eq_getElem hlt)
        refine ⟨vs ++ [u], by simp [v1], ?_, ?_⟩
        · intro j y hy
          by_cases hj : j < vs.length
          · rw [List.getElem?_append_left hj] at hy; exact v2 j y hy
          · rw [List.getElem?_append_right (by omega)] at hy
            have : j = vs.length := by
              have := (List.getElem?_eq_some_iff.1 hy).1; simp at this; omega
            subst this
            simp at hy
            subst hy
            rw [v1]; exact u1
        · refine ⟨by simp [v1]; omega, fun j y d hy hd => ?_⟩
          rw [List.take_succ_eq_append_getElem hlt] at hd
          have hlen : (r.take n).length = n := by simp; omega
          by_cases hj : j < n
          · rw [List.getElem?_append_left (by omega)] at hy
            rw [List.getElem?_append_left (by omega)] at hd
            exact v3.2 j y d hy hd
          · rw [List.getElem?_append_right (by omega)] at hy
            rw [List.getElem?_append_right (by omega)] at hd
            have : j = n := by
              have := (List.getElem?_eq_some_iff.1 hy).1; simp at this; omega
            subst this
            simp [v1] at hy
            simp [hlen] at hd
            subst hy; subst hd; exact u2
    obtain ⟨vs, v1, v2, v3⟩ := hex ti.size e2
    rw [← e1] at v3
    exact key b o vs _ v1 v2 v3.toAR hx
  cases a with
  | ptr id ver row col =>
    simp only [loadA, M.bind_some, look_some, M.need_some, Prod.exists, decide_eq_true_eq] at he
    obtain ⟨v1, ob, l1, x1, l2, ⟨h1, _⟩, ⟨_, l3, x2, l4, ⟨h2, _⟩, h3, e3⟩, e4⟩ := he
    subst h2
    simp only [Prod.mk.injEq] at e3 e4
    obtain ⟨rfl, _⟩ := e3
    obtain ⟨rfl, _⟩ := e4
    cases ha with
    | ptr _ _ _ _ p hp1 hv =>
    have hob := h.hr.obj _ _ _ h1
    cases ob with
    | dead => simp [M.fail] at h3
    | box cells =>
      simp only [M.bind_some, M.need_some, M.lift_some, Prod.exists, decide_eq_true_eq] at h3
      obtain ⟨_, l5, y, l6, ⟨rfl, _⟩, ⟨cs, l7, y2, l8, ⟨h4, _⟩, ⟨h5, _⟩, e5⟩, e6⟩ := h3
      simp only [Prod.mk.injEq] at e5 e6
      obtain ⟨rfl, _⟩ := e5
      obtain ⟨rfl, _⟩ := e6
      obtain ⟨p', c, t', b1, b2, b3, b4, b5, b6, b7⟩ := hob
      rw [hp1] at b1; cases b1
      obtain ⟨t1, t2⟩ := takeN_spec _ _ _ h4
      simp at t2
      have hARs : ARs β w S c.toList cells := ⟨by simpa using b6, fun i v a hv ha => b7 i v a (by simpa using hv) ha⟩
      have hA2 := (hARs.drop col).take ti.size
      rw [← t1] at hA2
      have hb0 : p.base + 0 * p.sz + col = col := by simp [b3]
      rw [hb0]
      refine key p.blk col ((c.toList.drop col).take ti.size) _ (by simp; omega) (fun j u hu => ?_) hA2 h5
      rw [cell_of_row w p.blk _ c t' (0, 0) b5]
      rw [List.getElem?_take] at hu
      split at hu
      · simpa using hu
      · simp at hu
    | arr sz rows =>
      simp only [M.bind_some, M.lift_some, Prod.exists] at h3
      obtain ⟨r, l5, y, l6, ⟨h4, _⟩, ⟨cs, l7, y2, l8, ⟨h5, _⟩, ⟨h6, _⟩, e5⟩, e6⟩ := h3
      simp only [Prod.mk.injEq] at e5 e6
      obtain ⟨rfl, _⟩ := e5
      obtain ⟨rfl, _⟩ := e6
      obtain ⟨p', b1, b2, b3, b4, b5⟩ := hob
      rw [hp1] at b1; cases b1
      obtain ⟨c, t', c1, c2, c3, c4⟩ := b5 hv
      refine rowKey p.blk _ (r.drop col) _ (fun j d hd => ?_) h5 h6
      obtain ⟨u, u1, u2⟩ := c4 row (col + j) r d h4 (by simpa using hd)
      refine ⟨u, ?_, u2⟩
      rw [cell_of_row w p.blk _ c t' (0, 0) c1, ← u1, b2]
      congr 1; omega
    | fro sz rows =>
      simp only [M.bind_some, M.lift_some, Prod.exists] at h3
      obtain ⟨r, l5, y, l6, ⟨h4, _⟩, ⟨cs, l7, y2, l8, ⟨h5, _⟩, ⟨h6, _⟩, e5⟩, e6⟩ := h3
      simp only [Prod.mk.injEq] at e5 e6
      obtain ⟨rfl, _⟩ := e5
      obtain ⟨rfl, _⟩ := e6
      obtain ⟨p', b1, b2, b3, b4, b5⟩ := hob
      rw [hp1] at b1; cases b1
      refine rowKey p.blk _ (r.drop col) _ (fun j d hd => ?_) h5 h6
      obtain ⟨g1, u, u1, u2⟩ := b5 row (col + j) r d h4 (by simpa using hd)
      refine ⟨u, ?_, u2⟩
      rw [← u1, b2]
      congr 2; omega
  | fp cells =>
    simp only [loadA, M.bind_some, M.lift_some, Prod.exists] at he
    obtain ⟨cs, l7, y2, l8, ⟨h5, _⟩, ⟨h6, _⟩, e5⟩ := he
    simp only [Prod.mk.injEq] at e5
    obtain ⟨rfl, _⟩ := e5
    cases ha with
    | fp _ b o xx hs hx => exact rowKey b o cells _ (fun j d hd => ⟨xx j, (hs j d hd).2, hx j d hd⟩) h5 h6
  | d => simp [loadA, M.fail] at he
  | agg => simp [loadA, M.fail] at he
  | tup => simp [loadA, M.fail] at he
  | sv => simp [loadA, M.fail] at he
  | clo => simp [loadA, M.fail] at he
  | top => simp [loadA, M.fail] at he

theorem op_load (hT : TyOk P E) (h : Hv en Fr β S w hp) (hρ : ∀ x v, ρ x = some v → AR β w S (ρc x) v) {t : TypeId} {x : Operand} {v : AV} {wr : Heap} {l : List Nat} {o : Oper} (ho : o.op = .load t x)
    (he : evalOp0 E base ρ (.load t x) (hget hp) = some ((v, wr), l)) : OpRes P en Fr base β S w hp (execOp ρc o) v wr := by
  simp only [evalOp0, M.bind_some, M.lift_some, M.pure_some, Prod.exists, Prod.mk.injEq] at he
  obtain ⟨ti, l1, v', wr', l2, ⟨h1, _⟩, ⟨a, l3, v3, wr3, l4, ⟨h2, _⟩, ⟨y, l5, v5, wr5, l6, h3, ⟨⟨rfl, rfl⟩, _⟩, ⟨⟨rfl, rfl⟩, _⟩⟩, ⟨⟨rfl, rfl⟩, _⟩⟩, ⟨⟨rfl, rfl⟩, _⟩⟩ := he
  obtain ⟨val, r1, r2⟩ := loadA_sound hT h h1 (hρ x _ h2) h3
  exact OpRes.pure h (val := val) (by simp [execOp, ho, r1]) r2

end ops
end Go.Ax
end
