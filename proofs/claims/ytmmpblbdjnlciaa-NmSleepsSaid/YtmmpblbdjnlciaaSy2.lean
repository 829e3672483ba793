/-
  SYMBOLIC STATES, over any program, part 2: what an operation makes of what is known ('ev'), and how far a walk goes by itself ('arun').
-/
import Derived.Test.YtmmpblbdjnlciaaSy1
namespace Go.Sy
open Go.RowKit

/-- What the walk asks of a type. -/
inductive TD : Type where
  | int (k : IntKind) | bool | str
  | slice (e : TypeId)
  | arr (n : Nat) (e : TypeId)
  | struct (fs : List (TypeId × Nat))
  | ptr (e : TypeId)
  | oth

structure Ty where
  td : TD
  size : Nat
  bytes : Nat
  zero : List DV

abbrev Tab := List (TypeId × Ty)

def TD.agg : TD → Bool
  | .arr .. | .struct .. => true
  | _ => false

/-- nth, take, put: by plain recursion, so that they work themselves out. -/
def nth {α : Type} : List α → Nat → Option α
  | [], _ => none
  | x :: _, 0 => some x
  | _ :: l, n + 1 => nth l n

def takeK {α R : Type} : Nat → List α → (Option (List α) → R) → R
  | 0, _, k => k (some [])
  | _ + 1, [], k => k none
  | n + 1, x :: l, k => takeK n l fun o => match o with | some l' => k (some (x :: l')) | none => k none

def dropK {α R : Type} : Nat → List α → (Option (List α) → R) → R
  | 0, l, k => k (some l)
  | _ + 1, [], k => k none
  | n + 1, _ :: l, k => dropK n l k

/-- xs with ys laid over it from j on. -/
def putK {α R : Type} : Nat → List α → List α → (Option (List α) → R) → R
  | 0, ys, xs, k => overK ys xs k
  | _ + 1, _, [], k => k none
  | n + 1, ys, x :: xs, k => putK n ys xs fun o => match o with | some l => k (some (x :: l)) | none => k none
where
  overK {α R : Type} : List α → List α → (Option (List α) → R) → R
    | [], xs, k => k (some xs)
    | _ :: _, [], k => k none
    | y :: ys, _ :: xs, k => overK ys xs fun o => match o with | some l => k (some (y :: l)) | none => k none

/-- A constant's cells. -/
def cstCell : Value → SV
  | .slice none 0 0 => .d .nil
  | .func f a b => match a.toList, b.toList with
    | [], [] => .fn f [] []
    | _, _ => .d (.v (.func f a b))
  | x => .d (.v x)

/-- A deep value, a function's in the form in which it can be called. -/
def sd : DV → SV
  | .v x => cstCell x
  | x => .d x

def mapK {α β R : Type} (f : α → β) : List α → (List β → R) → R
  | [], k => k []
  | x :: l, k => mapK f l fun l' => k (f x :: l')

def cst : Value → SV
  | .agg cs => mapK cstCell cs.toList fun l => .agg l
  | x => cstCell x

/-- A truth value that is told, as any other one. -/
def strip : SV → SV
  | .lit b => .b b
  | x => x

def opd (s : St) : Operand → Option SV
  | .tmp t => match aget t s.tmps with
    | some x => some (strip x)
    | none => none
  | .const v => some (cst v)
  | .func f => some (.fn (.func f) [] [])
  | .global _ => none

def opdR (s : St) : Operand → Option SV
  | .tmp t => aget t s.tmps
  | .const (.bool b) => some (.lit b)
  | o => opd s o

/-- May it lie in a cell as it is? -/
def isCell : SV → Bool
  | .d (.v (.agg _)) | .d (.v (.tuple _)) | .agg _ | .tup _ => false
  | _ => true

def allCells : List SV → Bool
  | [] => true
  | x :: l => bif isCell x then allCells l else false

def cellsOf : SV → Option (List SV)
  | .agg cs => some cs
  | .d (.v (.agg _)) | .d (.v (.tuple _)) | .tup _ => none
  | x => some [x]

def lenK {α : Type} : List α → Nat
  | [] => 0
  | _ :: l => Nat.succ (lenK l)

inductive EvR : Type where
  | val (x : SV) (ob : Prop)
  | box (cs : List SV)
  | row (e : TypeId) (k : Nat) (xs : List (List SV)) (n : Nat)
  | set (id : Nat) (cs : List SV)
  | stop

/-- The range of int. -/
def in64 (x : Int) : Prop := -9223372036854775808 ≤ x ∧ x ≤ 9223372036854775807

def evInt (op : BinOp) (k : IntKind) (x y : Int) : EvR :=
  match op with
  | .add => match k with | .i64 => .val (.i (x + y)) (in64 (x + y)) | _ => .val (.d (.v (.int k (k.wrap (x + y))))) True
  | .sub => match k with | .i64 => .val (.i (x - y)) (in64 (x - y)) | _ => .val (.d (.v (.int k (k.wrap (x - y))))) True
  | .mul => match k with | .i64 => .val (.i (x * y)) (in64 (x * y)) | _ => .val (.d (.v (.int k (k.wrap (x * y))))) True
  | .quo => match k with | .i64 => .val (.i (x.tdiv y)) (y ≠ 0 ∧ in64 (x.tdiv y)) | _ => .val (.d (.v (.int k (k.wrap (x.tdiv y))))) (y ≠ 0)
  | .rem => .val (.d (.v (.int k (x.tmod y)))) (y ≠ 0)
  | .and => .val (.d (.v (.int k (k.wrap (BitVec.ofInt k.bits x &&& BitVec.ofInt k.bits y).toNat)))) True
  | .or => .val (.d (.v (.int k (k.wrap (BitVec.ofInt k.bits x ||| BitVec.ofInt k.bits y).toNat)))) True
  | .xor => .val (.d (.v (.int k (k.wrap (BitVec.ofInt k.bits x ^^^ BitVec.ofInt k.bits y).toNat)))) True
  | .andNot => .val (.d (.v (.int k (k.wrap (BitVec.ofInt k.bits x &&& ~~~ BitVec.ofInt k.bits y).toNat)))) True
  | .shl => .val (.d (.v (.int k (k.wrap (x * 2 ^ (min y.toNat k.bits)))))) (0 ≤ y)
  | .shr => .val (.d (.v (.int k (x.fdiv (2 ^ (min y.toNat k.bits)))))) (0 ≤ y)
  | .eql => .val (.b (x == y)) True
  | .neq => .val (.b (x != y)) True
  | .lss => .val (.b (decide (x < y))) True
  | .leq => .val (.b (decide (x ≤ y))) True
  | .gtr => .val (.b (decide (x > y))) True
  | .geq => .val (.b (decide (x ≥ y))) True

def evStr (op : BinOp) (x y : ByteArray) : EvR :=
  match op with
  | .add => .val (.s (x ++ y)) (x.size + y.size ≤ 9223372036854775807)
  | .eql => .val (.b (x.toList == y.toList)) True
  | .neq => .val (.b (!(x.toList == y.toList))) True
  | _ => .stop

def kn : IntKind → Nat
  | .i8 => 0 | .i16 => 1 | .i32 => 2 | .i64 => 3 | .u8 => 4 | .u16 => 5 | .u32 => 6 | .u64 => 7

/-- Are two rows of plain cells the same? -/
def eq1 : SV → SV → Option Bool
  | .d (.v (.int k a)), .d (.v (.int k' b)) => bif Nat.beq (kn k) (kn k') then some (a == b) else none
  | .d (.v (.bool a)), .d (.v (.bool b)) => some (a == b)
  | .d (.v (.string a)), .d (.v (.string b)) => some (a.toList == b.toList)
  | _, _ => none

def eqCells : List SV → List SV → Option Bool
  | [], [] => some true
  | x :: l, y :: m => match eq1 x y, eqCells l m with
    | some a, some b => some (a && b)
    | _, _ => none
  | _, _ => none

def isShift : BinOp → Bool
  | .shl | .shr => true
  | _ => false

def evBin (T : Tab) (op : BinOp) (t : TypeId) (x y : SV) : EvR :=
  match x, y with
  | .d (.v (.int k a)), .d (.v (.int k' b)) => bif (isShift op || Nat.beq (kn k) (kn k')) then evInt op k a b else .stop
  | .d (.v (.string a)), .d (.v (.string b)) => evStr op a b
  | .d (.v (.bool a)), .d (.v (.bool b)) => match aget t T with
    | some ⟨.bool, _, _, _⟩ => match op with | .eql => .val (.b (a == b)) True | .neq => .val (.b (!(a == b))) True | _ => .stop
    | _ => .stop
  | x, .d .nil => match aget t T with
    | some ⟨.slice _, _, _, _⟩ => match x with
      | .d .nil => match op with | .eql => .val (.b true) True | .neq => .val (.b false) True | _ => .stop
      | .d (.sl _ xs) => match op with | .eql => .val (.b false) (xs ≠ []) | .neq => .val (.b true) (xs ≠ []) | _ => .stop
      | .own _ _ _ n _ => match op with | .eql => .val (.b false) (n ≠ 0) | .neq => .val (.b true) (n ≠ 0) | _ => .stop
      | _ => .stop
    | _ => .stop
  | _, _ => .stop

def evUn (op : UnOp) (x : SV) : EvR :=
  match op, x with
  | .neg, .d (.v (.int k a)) => evInt .sub k 0 a
  | .xor, .d (.v (.int k a)) => evInt .xor k (if k.signed then -1 else k.max) a
  | .not, .d (.v (.bool b)) => .val (.b (!b)) True
  | _, _ => .stop

def evConv (T : Tab) (src dst : TypeId) (x : SV) : EvR :=
  match aget src T with
  | none => .stop
  | some _ =>
  match aget dst T, x with
  | some ⟨.int k, _, _, _⟩, .d (.v (.int _ a)) => match k with | .i64 => .val (.i a) (in64 a) | _ => .val (.d (.v (.int k (k.wrap a)))) True
  | some ⟨.str, _, _, _⟩, .d (.v (.string a)) => .val (.s a) True
  | _, _ => .stop

/-- A byte of a text. -/
def byteAt (s : ByteArray) (i : Int) : Int := ((s.data.toList.getD i.toNat 0).toNat : Int)

def optI (s : St) : Option Operand → Option (Option Int)
  | none => some none
  | some o => match opd s o with
    | some (.d (.v (.int _ a))) => some (some a)
    | _ => none

def evSlice (T : Tab) (s : St) (t : TypeId) (x : SV) (lo hi mx : Option Operand) : EvR :=
  match mx with
  | some _ => .stop
  | none =>
    match optI s lo, optI s hi with
    | some l, some h =>
      match x with
      | .d (.v (.string a)) => match aget t T with
        | some ⟨.str, _, _, _⟩ => .val (.s (a.extract (l.getD 0).toNat (h.getD a.size).toNat)) (0 ≤ l.getD 0 ∧ l.getD 0 ≤ h.getD a.size ∧ h.getD a.size ≤ a.size)
        | _ => .stop
      | .d (.sl k xs) =>
        match aget t T with
        | some ⟨.slice e, _, _, _⟩ => match aget e T with
          | some y => bif Nat.beq k y.size then .val (.d (.sl k ((xs.take (h.getD xs.length).toNat).drop (l.getD 0).toNat))) (0 ≤ l.getD 0 ∧ l.getD 0 ≤ h.getD xs.length ∧ h.getD xs.length ≤ xs.length) else .stop
          | none => .stop
        | _ => .stop
      | .d .nil => match aget t T with
        | some ⟨.slice e, _, _, _⟩ => match aget e T with
          | some _ => .val (.d .nil) (l.getD 0 = 0 ∧ h.getD 0 = 0)
          | none => .stop
        | _ => .stop
      | .own id k lo n C =>
        match aget t T with
        | some ⟨.slice e, _, _, _⟩ => match aget e T with
          | some y => bif Nat.beq k y.size then .val (.own id k (lo + (l.getD 0).toNat) ((h.getD n).toNat - (l.getD 0).toNat) C) (0 ≤ l.getD 0 ∧ l.getD 0 ≤ h.getD n ∧ h.getD n ≤ n) else .stop
          | none => .stop
        | _ => .stop
      | _ => .stop
    | _, _ => .stop

def evField (T : Tab) (t : TypeId) (f : Nat) (k : Nat → Nat → Bool → EvR) : EvR :=
  match aget t T with
  | some ⟨.struct fs, _, _, _⟩ => match nth fs f with
    | some (ft, off) => match aget ft T with
      | some y => k off y.size y.td.agg
      | none => .stop
    | none => .stop
  | _ => .stop

def part1 (agg : Bool) (size off : Nat) (cs : List SV) : EvR :=
  match agg with
  | true => dropK off cs fun o => match o with
    | some l => takeK size l fun o => match o with
      | some l => .val (.agg l) True
      | none => .stop
    | none => .stop
  | false => match nth cs off with
    | some x => .val x True
    | none => .stop

def evLoad (T : Tab) (s : St) (t : TypeId) (a : SV) : EvR :=
  match aget t T with
  | some y => match a with
    | .ptr id j => match aget id s.heap with
      | some (.box cs) => part1 y.td.agg y.size j cs
      | _ => .stop
    | .ip cs => mapK sd cs fun cs => part1 y.td.agg y.size 0 cs
    | _ => .stop
  | none => .stop

def evStore (T : Tab) (s : St) (t : TypeId) (a x : SV) : EvR :=
  match aget t T with
  | some y => match a, cellsOf x with
    | .ptr id j, some vs => bif Nat.beq (lenK vs) y.size then (bif allCells vs then (match aget id s.heap with
      | some (.box cs) => putK j vs cs fun o => match o with
        | some cs' => .set id cs'
        | none => .stop
      | _ => .stop) else .stop) else .stop
    | _, _ => .stop
  | none => .stop

/-- The parts of a literal laid into its cells. -/
def fillK (s : St) (place : Nat → Option (Nat × Nat)) : List (Nat × Operand) → List SV → (List SV → EvR) → EvR
  | [], cs, k => k cs
  | (i, o) :: l, cs, k =>
    match place i, opd s o with
    | some (off, size), some x => match cellsOf x with
      | some vs => bif Nat.beq (lenK vs) size then putK off vs cs (fun o => match o with
        | some cs' => fillK s place l cs' k
        | none => .stop) else .stop
      | none => .stop
    | _, _ => .stop

def structPlace (T : Tab) (fs : List (TypeId × Nat)) (i : Nat) : Option (Nat × Nat) :=
  match nth fs i with
  | some (t, off) => match aget t T with
    | some y => some (off, y.size)
    | none => none
  | none => none

def evBuild (T : Tab) (s : St) (t : TypeId) (parts : List (Nat × Operand)) : EvR :=
  match aget t T with
  | some y => match y.td with
    | .struct fs => mapK SV.d y.zero fun z => fillK s (structPlace T fs) parts z fun cs => .val (.agg cs) True
    | .arr _ e => match aget e T with
      | some z => mapK SV.d y.zero fun z' => fillK s (fun i => some (i * z.size, z.size)) parts z' fun cs => .val (.agg cs) True
      | none => .stop
    | _ => .stop
  | none => .stop

def opsK (s : St) : List Operand → (Option (List SV) → EvR) → EvR
  | [], k => k (some [])
  | o :: l, k => match opd s o with
    | some x => opsK s l fun r => match r with | some l' => k (some (x :: l')) | none => k none
    | none => k none

/-- A literal of a slice: each element given, one behind the other. -/
def rowK (s : St) (size : Nat) : Nat → List (Nat × Operand) → (Option (List (List SV)) → EvR) → EvR
  | _, [], k => k (some [])
  | i, (j, o) :: l, k =>
    bif Nat.beq i j then (match opd s o with
      | some x => match cellsOf x with
        | some vs => bif Nat.beq (lenK vs) size then (bif allCells vs then rowK s size (i + 1) l (fun r => match r with | some l' => k (some (vs :: l')) | none => k none) else k none) else k none
        | none => k none
      | none => k none) else k none

def evLen (T : Tab) (t : TypeId) (x : SV) : EvR :=
  match aget t T with
  | some ⟨.str, _, _, _⟩ => match x with
    | .d (.v (.string a)) => .val (.i a.size) True
    | _ => .stop
  | some ⟨.slice _, _, _, _⟩ => match x with
    | .d (.sl _ xs) => .val (.i xs.length) True
    | .d .nil => .val (.i 0) True
    | .own _ _ _ n _ => .val (.i n) True
    | _ => .stop
  | some ⟨.arr n _, _, _, _⟩ => .val (.i n) True
  | _ => .stop

def evMin (x y : SV) : EvR :=
  match x, y with
  | .d (.v (.int k a)), .d (.v (.int _ b)) => .val (.d (.v (.int k (if b < a then b else a)))) True
  | _, _ => .stop
def evMax (x y : SV) : EvR :=
  match x, y with
  | .d (.v (.int k a)), .d (.v (.int _ b)) => .val (.d (.v (.int k (if b > a then b else a)))) True
  | _, _ => .stop

def evCall (T : Tab) (s : St) (c : Call) : EvR :=
  match c.callee with
  | .builtin b => match b, c.args.toList with
    | .len, [x] => match c.argTypes.toList, opd s x with | [t], some v => evLen T t v | _, _ => .stop
    | .min, [x, y] => match opd s x, opd s y with | some v, some u => evMin v u | _, _ => .stop
    | .max, [x, y] => match opd s x, opd s y with | some v, some u => evMax v u | _, _ => .stop
    | _, _ => .stop
  | _ => .stop

def ev (T : Tab) (s : St) (o : Op) : EvR :=
  match o with
  | .move x | .assign x => match opdR s x with | some v => .val v True | none => .stop
  | .pick (.tmp t) x y => match aget t s.tmps with
    | some (.lit true) => match opdR s x with | some v => .val v True | none => .stop
    | some (.lit false) => match opdR s y with | some v => .val v True | none => .stop
    | _ => .stop
  | .alloc t => match aget t T with | some y => mapK SV.d y.zero fun z => .box z | none => .stop
  | .box _ x => match opd s x with
    | some v => match cellsOf v with | some cs => bif allCells cs then .box cs else .stop | none => .stop
    | none => .stop
  | .build t ps => evBuild T s t ps.toList
  | .buildSlice t n ps => match aget t T with
    | some ⟨.slice e, _, _, _⟩ => match aget e T with
      | some y => bif (Nat.beq (lenK ps.toList) n && (Nat.ble (n * y.size) 16777216 && Nat.ble n 16777216)) then rowK s y.size 0 ps.toList (fun r => match r with | some xs => .row e y.size xs n | none => .stop) else .stop
      | none => .stop
    | _ => .stop
  | .load t a => match opd s a with | some x => evLoad T s t x | none => .stop
  | .store t a x => match opd s a, opd s x with | some p, some v => evStore T s t p v | _, _ => .stop
  | .nilCheck x => match opd s x with
    | some (.ptr id j) => .val (.ptr id j) True
    | some (.ip cs) => .val (.ip cs) True
    | some (.pel id k i j) => .val (.pel id k i j) True
    | some (.fn (.func f) a b) => .val (.fn (.func f) a b) True
    | _ => .stop
  | .binOp op t x y _ => match opd s x, opd s y with | some v, some u => evBin T op t v u | _, _ => .stop
  | .unOp op _ x => match opd s x with | some v => evUn op v | none => .stop
  | .convert u t x => match opd s x with | some v => evConv T u t v | none => .stop
  | .makeFunc f a b => opsK s a.toList fun r => match r with
    | some l => opsK s b.toList fun r => match r with | some m => .val (.fn f l m) True | none => .stop
    | none => .stop
  | .slice t x lo hi mx => match opd s x with | some v => evSlice T s t v lo hi mx | none => .stop
  | .fieldAddr t x f => match opd s x with
    | some (.ptr id j) => evField T t f fun off size _ => match size with | 0 => .stop | _ + 1 => .val (.ptr id (j + off)) True
    | some (.pel id k i j) => evField T t f fun off size _ => match size with | 0 => .stop | _ + 1 => .val (.pel id k i (j + off)) True
    | some (.ip cs) => evField T t f fun off size _ => match size with | 0 => .stop | _ + 1 => dropK off cs fun o => match o with | some cs' => .val (.ip cs') True | none => .stop
    | _ => .stop
  | .field t x f => match opd s x with
    | some (.agg cs) => evField T t f fun off size agg => part1 agg size off cs
    | _ => .stop
  | .extract t i => match opd s t with
    | some (.tup cs) => match nth cs i with | some x => .val x True | none => .stop
    | _ => .stop
  | .index t x ix => match aget t T with
    | some ⟨.str, _, _, _⟩ => match opd s x, opd s ix with
      | some (.d (.v (.string a))), some (.d (.v (.int _ i))) => .val (.d (.v (.int .u8 (byteAt a i)))) (0 ≤ i ∧ i < a.size)
      | _, _ => .stop
    | _ => .stop
  | .call c => evCall T s c
  | _ => .stop

/-! ### The walk by itself -/
inductive It : Type where
  | code (c : Code)
  | blk (id : Nat)
  | ops (all : Array Oper) (rest : List Oper)
  | inv (Φ : Act → World → Prop)

def It.exitTo (id : Nat) : List It → Option (List It)
  | [] => none
  | .blk i :: k => bif Nat.beq i id then some k else It.exitTo id k
  | _ :: k => It.exitTo id k

def St.put (s : St) (dst : Option Tmp) (x : SV) : St :=
  match dst with
  | some d => ⟨(d, x) :: s.tmps, s.heap, s.next⟩
  | none => s

def undefS : SV := .d (.v undef)

structure Out where
  k : List It
  s : St
  ob : Prop

inductive Gd : Type where
  | ask (d : Nat) (b : Bool) | told (d : Nat) (b : Bool) | no (d : Nat) | bad
def guardS (all : Array Oper) (tm : List (Nat × SV)) (j : Nat) : Gd :=
  match nth all.toList j with
  | some ⟨some d, _, _, _, _, _⟩ => match aget d tm with
    | some (.d (.v (.bool b))) => .ask d b
    | some (.lit b) => .told d b
    | some (.d (.v (.tuple _))) => .no d
    | _ => .bad
  | _ => .bad

/-- Worked out as far as its outer form. -/
def forceK {R : Type} (x : SV) (k : SV → R) : R :=
  match x with
  | .d (.v z) => k (.d (.v z))
  | .d .nil => k (.d .nil)
  | .d (.sl n xs) => k (.d (.sl n xs))
  | .ptr i j => k (.ptr i j)
  | .pel i n j l => k (.pel i n j l)
  | .own i n l m c => k (.own i n l m c)
  | .ip cs => k (.ip cs)
  | .agg cs => k (.agg cs)
  | .tup cs => k (.tup cs)
  | .fn f a b => k (.fn f a b)
  | .lit b => k (.lit b)

theorem forceK_eq {R : Type} (x : SV) (k : SV → R) : forceK x k = k x := by
  unfold forceK
  split <;> rfl

def arun (T : Tab) (N : Nat) : Nat → List It → List (Nat × SV) → List (Nat × Blk) → Nat → Prop → Out
  | 0, k, tm, hp, nx, ob => ⟨k, ⟨tm, hp, nx⟩, ob⟩
  | n + 1, k, tm, hp, nx, ob =>
    match k with
    | [] => ⟨[], ⟨tm, hp, nx⟩, ob⟩
    | .inv Φ :: k => ⟨.inv Φ :: k, ⟨tm, hp, nx⟩, ob⟩
    | .blk _ :: k => arun T N n k tm hp nx ob
    | .ops _ [] :: k => arun T N n k tm hp nx ob
    | .ops all (⟨dst, op, ty, pos, after, some (j, w)⟩ :: rest) :: k =>
      match guardS all tm j with
      | .no _ => match dst with
        | some d => bif Nat.blt d N then arun T N n (.ops all rest :: k) ((d, undefS) :: tm) hp nx ob else ⟨.ops all (⟨dst, op, ty, pos, after, some (j, w)⟩ :: rest) :: k, ⟨tm, hp, nx⟩, ob⟩
        | none => arun T N n (.ops all rest :: k) tm hp nx ob
      | .told _ b => bif (bif b then w else !w) then arun T N n (.ops all (⟨dst, op, ty, pos, after, none⟩ :: rest) :: k) tm hp nx ob else (match dst with
        | some d => bif Nat.blt d N then arun T N n (.ops all rest :: k) ((d, undefS) :: tm) hp nx ob else ⟨.ops all (⟨dst, op, ty, pos, after, some (j, w)⟩ :: rest) :: k, ⟨tm, hp, nx⟩, ob⟩
        | none => arun T N n (.ops all rest :: k) tm hp nx ob)
      | _ => ⟨.ops all (⟨dst, op, ty, pos, after, some (j, w)⟩ :: rest) :: k, ⟨tm, hp, nx⟩, ob⟩
    | .ops all (⟨dst, op, ty, pos, after, none⟩ :: rest) :: k =>
      match dst with
      | none => match ev T ⟨tm, hp, nx⟩ op with
        | .set id cs => arun T N n (.ops all rest :: k) tm ((id, .box cs) :: hp) nx ob
        | .val _ p => arun T N n (.ops all rest :: k) tm hp nx (p ∧ ob)
        | _ => ⟨.ops all (⟨dst, op, ty, pos, after, none⟩ :: rest) :: k, ⟨tm, hp, nx⟩, ob⟩
      | some d => bif Nat.blt d N then (match ev T ⟨tm, hp, nx⟩ op with
        | .val x p => forceK x fun x => arun T N n (.ops all rest :: k) ((d, x) :: tm) hp nx (p ∧ ob)
        | .box cs => arun T N n (.ops all rest :: k) ((d, .ptr nx 0) :: tm) ((nx, .box cs) :: hp) (Nat.succ nx) ob
        | .row e k' xs m => arun T N n (.ops all rest :: k) ((d, .own nx k' 0 m m) :: tm) ((nx, .row e false k' xs m) :: hp) (Nat.succ nx) ob
        | .set id cs => arun T N n (.ops all rest :: k) ((d, undefS) :: tm) ((id, .box cs) :: hp) nx ob
        | .stop => ⟨.ops all (⟨dst, op, ty, pos, after, none⟩ :: rest) :: k, ⟨tm, hp, nx⟩, ob⟩)
        else ⟨.ops all (⟨dst, op, ty, pos, after, none⟩ :: rest) :: k, ⟨tm, hp, nx⟩, ob⟩
    | .code .skip :: k => arun T N n k tm hp nx ob
    | .code (.label _) :: k => arun T N n k tm hp nx ob
    | .code (.seq a b) :: k => arun T N n (.code a :: .code b :: k) tm hp nx ob
    | .code (.block id c) :: k => arun T N n (.code c :: .blk id :: k) tm hp nx ob
    | .code (.exit id) :: k => match It.exitTo id k with | some k' => arun T N n k' tm hp nx ob | none => ⟨.code (.exit id) :: k, ⟨tm, hp, nx⟩, ob⟩
    | .code (.region _ ops false) :: k => arun T N n (.ops ops ops.toList :: k) tm hp nx ob
    | .code (.cond (.tmp t) x y) :: k => match aget t tm with
      | some (.lit b) => bif b then arun T N n (.code x :: k) tm hp nx ob else arun T N n (.code y :: k) tm hp nx ob
      | _ => ⟨.code (.cond (.tmp t) x y) :: k, ⟨tm, hp, nx⟩, ob⟩
    | .code c :: k => ⟨.code c :: k, ⟨tm, hp, nx⟩, ob⟩

end Go.Sy
