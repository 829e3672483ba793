/-
  SYMBOLIC STATES, over any program, part 1: values as a walk knows them ('SV'), what they say of memory ('Den'), the state of a walk ('St', 'Inv').
-/
import Derived.WalkKit
import Derived.WalkLawsBesides
import Derived.WalkSpells
import Derived.OpenShut
import Derived.Lib.SmallJoins
namespace Go.Sy
open Go.RowKit

/-- A value that hangs on no memory that this call may write. -/
inductive DV : Type where
  | v (x : Value)
  | nil
  | sl (k : Nat) (xs : List (List DV))

inductive SV : Type where
  | d (x : DV)
  | ptr (id j : Nat)
  | pel (id k i j : Nat)
  | own (id k lo n C : Nat)
  | ip (cs : List DV)
  | agg (cs : List SV)
  | tup (cs : List SV)
  | fn (f : Fn) (first caps : List SV)
  | lit (b : Bool)

abbrev SV.i (n : Int) : SV := .d (.v (.int .i64 n))
abbrev SV.b (x : Bool) : SV := .d (.v (.bool x))
abbrev SV.s (x : ByteArray) : SV := .d (.v (.string x))

def plus (a : Addr) (n : Nat) : Addr := a.add n

/-- What a deep value says of a value in a world; its memory lies in blocks that are 'ok'. -/
inductive DDen (ok : Nat → Prop) (w : World) : DV → Value → Prop where
  | v (x : Value) : DDen ok w (.v x) x
  | nil : DDen ok w .nil (.slice none 0 0)
  | slNil (k : Nat) : DDen ok w (.sl k []) (.slice none 0 0)
  | sl (k : Nat) (xs : List (List DV)) (a : Addr) (cap : Nat) (h1 : xs.length ≤ cap) (h2 : cap ≤ maxLen) (h3 : ∀ (i : Nat) (e : List DV), xs[i]? = some e → e.length = k)
      (h4 : ∀ (i : Nat) (e : List DV) (j : Nat) (c : DV), xs[i]? = some e → e[j]? = some c → ok a.block ∧ ∃ u, w.cell? (a.add (i * k + j)) = some u)
      (h5 : ∀ (i : Nat) (e : List DV) (j : Nat) (c : DV) (u : Value), xs[i]? = some e → e[j]? = some c → w.cell? (a.add (i * k + j)) = some u → DDen ok w c u) :
      DDen ok w (.sl k xs) (.slice (some a) xs.length cap)

inductive Den (μ : Nat → Option Nat) (ok : Nat → Prop) (w : World) : SV → Value → Prop where
  | d {x y} (h : DDen ok w x y) : Den μ ok w (.d x) y
  | ptr {id j b} (h : μ id = some b) : Den μ ok w (.ptr id j) (.pointer (some ⟨b, j, none⟩))
  | pel {id k i j b} (h : μ id = some b) : Den μ ok w (.pel id k i j) (.pointer (some ⟨b, i * k + j, none⟩))
  | own {id k lo n C b} (h : μ id = some b) (h1 : lo + n ≤ C) (h2 : C ≤ maxLen) : Den μ ok w (.own id k lo n C) (.slice (some ⟨b, lo * k, none⟩) n (C - lo))
  | ip {cs} (a : Addr) (h4 : ∀ (j : Nat) (c : DV), cs[j]? = some c → ok a.block ∧ ∃ u, w.cell? (a.add j) = some u ∧ DDen ok w c u) : Den μ ok w (.ip cs) (.pointer (some a))
  | agg {cs : List SV} (vs : Array Value) (h : vs.size = cs.length) (h1 : ∀ (j : Nat) c u, cs[j]? = some c → vs[j]? = some u → Den μ ok w c u) : Den μ ok w (.agg cs) (.agg vs)
  | tup {cs : List SV} (vs : Array Value) (h : vs.size = cs.length) (h1 : ∀ (j : Nat) c u, cs[j]? = some c → vs[j]? = some u → Den μ ok w c u) : Den μ ok w (.tup cs) (.tuple vs)
  | fn {f cs ds} (vs us : Array Value) (h : vs.size = cs.length) (h1 : ∀ (j : Nat) c u, cs[j]? = some c → vs[j]? = some u → Den μ ok w c u)
      (h2 : us.size = ds.length) (h3 : ∀ (j : Nat) c u, ds[j]? = some c → us[j]? = some u → Den μ ok w c u) : Den μ ok w (.fn f cs ds) (.func f vs us)
  | lit (b : Bool) : Den μ ok w (.lit b) (.bool b)
  | ownNil (a : Option Addr) (id k lo : Nat) : Den μ ok w (.own id k lo 0 lo) (.slice a 0 0)

theorem cell_of {w w' : World} {a : Addr} (h : w'.heap[a.block]? = w.heap[a.block]?) : w'.cell? a = w.cell? a := World.cell?_of_block (w := w) h

theorem add_block (a : Addr) (n : Nat) : (a.add n).block = a.block := by unfold Addr.add; split <;> rfl

theorem DDen.mono {ok ok' : Nat → Prop} {w w' : World} (hk : ∀ b, ok b → ok' b) (hw : ∀ b, ok b → w'.heap[b]? = w.heap[b]?) {x : DV} {y : Value} (h : DDen ok w x y) : DDen ok' w' x y := by
  induction h with
  | v x => exact .v x
  | nil => exact .nil
  | slNil k => exact .slNil k
  | sl k xs a cap h1 h2 h3 h4 h5 ih =>
    have hc : ∀ (i : Nat) (e : List DV) (j : Nat) (c : DV), xs[i]? = some e → e[j]? = some c → w'.cell? (a.add (i * k + j)) = w.cell? (a.add (i * k + j)) := fun i e j c he hc => by
      obtain ⟨ho, _⟩ := h4 i e j c he hc
      exact cell_of (by rw [add_block]; exact hw _ ho)
    refine .sl k xs a cap h1 h2 h3 (fun i e j c he hj => ?_) (fun i e j c u he hj hu => ?_)
    · obtain ⟨ho, u, hu⟩ := h4 i e j c he hj
      exact ⟨hk _ ho, u, (hc i e j c he hj).trans hu⟩
    · rw [hc i e j c he hj] at hu
      exact ih i e j c u he hj hu

theorem Den.mono {μ μ' : Nat → Option Nat} {ok ok' : Nat → Prop} {w w' : World} (hm : ∀ i b, μ i = some b → μ' i = some b) (hk : ∀ b, ok b → ok' b) (hw : ∀ b, ok b → w'.heap[b]? = w.heap[b]?)
    {x : SV} {y : Value} (h : Den μ ok w x y) : Den μ' ok' w' x y := by
  induction h with
  | d h => exact .d (h.mono hk hw)
  | ptr h => exact .ptr (hm _ _ h)
  | pel h => exact .pel (hm _ _ h)
  | own h h1 h2 => exact .own (hm _ _ h) h1 h2
  | ip a h4 =>
    refine .ip a fun j c hj => ?_
    obtain ⟨ho, u, hu, hd⟩ := h4 j c hj
    exact ⟨hk _ ho, u, (cell_of (by rw [add_block]; exact hw _ ho)).trans hu, hd.mono hk hw⟩
  | agg vs h h1 ih => exact .agg vs h ih
  | tup vs h h1 ih => exact .tup vs h ih
  | fn vs us h h1 h2 h3 ih1 ih2 => exact .fn vs us h ih1 h2 ih2
  | lit b => exact .lit b
  | ownNil a id k lo => exact .ownNil a id k lo

/-- A block that the walk owns: a variable (its cells), or a slice's row (of elements of type e, k cells each; room for C of them; fz: it bears a mark behind its end). -/
inductive Blk : Type where
  | box (cs : List SV)
  | row (e : TypeId) (fz : Bool) (k : Nat) (xs : List (List SV)) (C : Nat)

def DenB (μ : Nat → Option Nat) (ok : Nat → Prop) (w : World) (b : Nat) : Blk → Prop
  | .box cs => ∃ (c : Array Value) (T : TypeId) (z : Nat × Nat), w.heap[b]? = some (.cells c T z) ∧ (∀ j, j < c.size → ¬ (z.1 ≤ j ∧ j < z.2)) ∧ c.size = cs.length ∧ ∀ (j : Nat) x u, cs[j]? = some x → c[j]? = some u → Den μ ok w x u
  | .row T fz k xs C => ∃ (c : Array Value) (z : Nat × Nat), w.heap[b]? = some (.cells c T z) ∧ (fz = false → z = (0, 0)) ∧ (∀ j, j < c.size → ¬ (z.1 ≤ j ∧ j < z.2)) ∧ c.size = C * k ∧ xs.length ≤ C ∧ (∀ (i : Nat) (e : List SV), xs[i]? = some e → e.length = k) ∧
      ∀ (i : Nat) (e : List SV) (j : Nat) (x : SV) (u : Value), xs[i]? = some e → e[j]? = some x → c[i * k + j]? = some u → Den μ ok w x u

theorem DenB.mono {μ μ' : Nat → Option Nat} {ok ok' : Nat → Prop} {w w' : World} (hm : ∀ i b, μ i = some b → μ' i = some b) (hk : ∀ b, ok b → ok' b) (hw : ∀ b, ok b → w'.heap[b]? = w.heap[b]?)
    {b : Nat} {B : Blk} (hb : w'.heap[b]? = w.heap[b]?) (h : DenB μ ok w b B) : DenB μ' ok' w' b B := by
  cases B with
  | box cs =>
    obtain ⟨c, T, z, h1, hz, h2, h3⟩ := h
    exact ⟨c, T, z, hb.trans h1, hz, h2, fun j x u hx hu => (h3 j x u hx hu).mono hm hk hw⟩
  | row T fz k xs C =>
    obtain ⟨c, z, h1, hf, hz, h2, h3, h4, h5⟩ := h
    exact ⟨c, z, hb.trans h1, hf, hz, h2, h3, h4, fun i e j x u he hx hu => (h5 i e j x u he hx hu).mono hm hk hw⟩

/-- A row that is nil, or of no room: no block need bear it. -/
def Blk.ghost : Blk → Prop
  | .row _ _ _ [] 0 => True
  | _ => False

/-! ### The state of a walk -/
def aget {α : Type} (t : Nat) : List (Nat × α) → Option α
  | [] => none
  | (k, x) :: l => bif Nat.beq t k then some x else aget t l

def aset {α : Type} (t : Nat) (x : α) : List (Nat × α) → List (Nat × α)
  | [] => [(t, x)]
  | (k, y) :: l => bif Nat.beq t k then (t, x) :: l else (k, y) :: aset t x l

def adel {α : Type} (t : Nat) : List (Nat × α) → List (Nat × α)
  | [] => []
  | (k, y) :: l => bif Nat.beq t k then adel t l else (k, y) :: adel t l

theorem beq_ne {t k : Nat} (h : t ≠ k) : Nat.beq t k = false := by
  cases h' : Nat.beq t k
  · rfl
  · exact absurd (Nat.eq_of_beq_eq_true h') h
theorem beq_eq (t : Nat) : Nat.beq t t = true := Nat.beq_refl t

theorem aget_aset {α : Type} (t u : Nat) (x : α) (l : List (Nat × α)) : aget u (aset t x l) = if u = t then some x else aget u l := by
  induction l with
  | nil =>
    by_cases h : u = t
    · subst h; simp [aset, aget, beq_eq]
    · simp [aset, aget, h, beq_ne h]
  | cons p l ih =>
    obtain ⟨k, y⟩ := p
    by_cases h1 : t = k
    · subst h1
      by_cases h : u = t
      · subst h; simp [aset, aget, beq_eq]
      · simp [aset, aget, h, beq_eq, beq_ne h]
    · by_cases h2 : u = k
      · subst h2
        have : ¬ u = t := fun e => h1 e.symm
        simp [aset, aget, beq_ne h1, this, beq_eq]
      · simp [aset, aget, beq_ne h1, beq_ne h2, ih]

theorem aget_adel {α : Type} (t u : Nat) (l : List (Nat × α)) : aget u (adel t l) = if u = t then none else aget u l := by
  induction l with
  | nil => simp [adel, aget]
  | cons p l ih =>
    obtain ⟨k, y⟩ := p
    by_cases h1 : t = k
    · subst h1
      by_cases h : u = t
      · subst h; simp [adel, ih, beq_eq]
      · simp [adel, aget, h, ih, beq_eq, beq_ne h]
    · by_cases h2 : u = k
      · subst h2
        have : ¬ u = t := fun e => h1 e.symm
        simp [adel, aget, beq_ne h1, this, beq_eq]
      · simp [adel, aget, beq_ne h1, beq_ne h2, ih]

structure St where
  tmps : List (Nat × SV)
  heap : List (Nat × Blk)
  next : Nat

/-- What a call stands in: its text, the world that it was entered in, what of it may be written, and what is asked of its end. -/
structure Cx where
  P : Program
  fn : Func
  w0 : World
  μ0 : Nat → Option Nat
  ok0 : Nat → Prop
  F : Nat → Prop
  Post : SV → List (Nat × Blk) → Nat → Prop
  R : Exit → Act → World → Prop := fun _ _ _ => False

structure HInv (cx : Cx) (μ : Nat → Option Nat) (ok : Nat → Prop) (h : List (Nat × Blk)) (n : Nat) (w : World) : Prop where
  mu : ∀ i b, cx.μ0 i = some b → μ i = some b
  fresh : ∀ i, n ≤ i → μ i = none
  sub : ∀ b, cx.ok0 b → ok b
  lt : ∀ b, ok b → b < w.heap.size
  okNew : ∀ b, ok b → cx.ok0 b ∨ cx.w0.heap.size ≤ b ∨ cx.F b
  own : ∀ i B, aget i h = some B → (B.ghost ∧ μ i = none) ∨ ∃ b, μ i = some b ∧ b < w.heap.size ∧ ¬ ok b ∧ (cx.w0.heap.size ≤ b ∨ cx.F b) ∧ DenB μ ok w b B
  inj : ∀ i j B C b, aget i h = some B → aget j h = some C → μ i = some b → μ j = some b → i = j
  frame : ∀ b, b < cx.w0.heap.size → ¬ cx.F b → w.heap[b]? = cx.w0.heap[b]?
  size : cx.w0.heap.size ≤ w.heap.size
  os : w.os = cx.w0.os
  tape : w.tape = cx.w0.tape
  output : w.output = cx.w0.output

structure Inv (cx : Cx) (s : St) (a : Act) (w : World) : Prop where
  defers : a.defers = []
  size : a.tmps.size = cx.fn.ntmps
  all : ∃ μ ok, HInv cx μ ok s.heap s.next w ∧ ∀ t x, aget t s.tmps = some x → Den μ ok w x (a.tmps.getD t undef)

end Go.Sy

/-
  SYMBOLIC STATES, over any program, part 2: what an operation makes of what is known ('ev'), and how far a walk goes by itself ('arun').
-/
namespace Go.Sy
open Go.RowKit

/-- What the walk asks of a type. -/
inductive TD : Type where
  | int (k : IntKind) | bool | str
  | slice (e : TypeId)
  | arr (n : Nat) (e : TypeId)
  | struct (fs : List (TypeId × Nat))
  | ptr (e : TypeId)
  | oth

structure Ty where
  td : TD
  size : Nat
  bytes : Nat
  zero : List DV

abbrev Tab := List (TypeId × Ty)

def TD.agg : TD → Bool
  | .arr .. | .struct .. => true
  | _ => false

/-- nth, take, put: by plain recursion, so that they work themselves out. -/
def nth {α : Type} : List α → Nat → Option α
  | [], _ => none
  | x :: _, 0 => some x
  | _ :: l, n + 1 => nth l n

def takeK {α R : Type} : Nat → List α → (Option (List α) → R) → R
  | 0, _, k => k (some [])
  | _ + 1, [], k => k none
  | n + 1, x :: l, k => takeK n l fun o => match o with | some l' => k (some (x :: l')) | none => k none

def dropK {α R : Type} : Nat → List α → (Option (List α) → R) → R
  | 0, l, k => k (some l)
  | _ + 1, [], k => k none
  | n + 1, _ :: l, k => dropK n l k

/-- xs with ys laid over it from j on. -/
def putK {α R : Type} : Nat → List α → List α → (Option (List α) → R) → R
  | 0, ys, xs, k => overK ys xs k
  | _ + 1, _, [], k => k none
  | n + 1, ys, x :: xs, k => putK n ys xs fun o => match o with | some l => k (some (x :: l)) | none => k none
where
  overK {α R : Type} : List α → List α → (Option (List α) → R) → R
    | [], xs, k => k (some xs)
    | _ :: _, [], k => k none
    | y :: ys, _ :: xs, k => overK ys xs fun o => match o with | some l => k (some (y :: l)) | none => k none

/-- A constant's cells. -/
def cstCell : Value → SV
  | .slice none 0 0 => .d .nil
  | .func f a b => match a.toList, b.toList with
    | [], [] => .fn f [] []
    | _, _ => .d (.v (.func f a b))
  | x => .d (.v x)

/-- A deep value, a function's in the form in which it can be called. -/
def sd : DV → SV
  | .v x => cstCell x
  | x => .d x

def mapK {α β R : Type} (f : α → β) : List α → (List β → R) → R
  | [], k => k []
  | x :: l, k => mapK f l fun l' => k (f x :: l')

def cst : Value → SV
  | .agg cs => mapK cstCell cs.toList fun l => .agg l
  | x => cstCell x

/-- A truth value that is told, as any other one. -/
def strip : SV → SV
  | .lit b => .b b
  | x => x

def opd (s : St) : Operand → Option SV
  | .tmp t => match aget t s.tmps with
    | some x => some (strip x)
    | none => none
  | .const v => some (cst v)
  | .func f => some (.fn (.func f) [] [])
  | .global _ => none

def opdR (s : St) : Operand → Option SV
  | .tmp t => aget t s.tmps
  | .const (.bool b) => some (.lit b)
  | o => opd s o

/-- May it lie in a cell as it is? -/
def isCell : SV → Bool
  | .d (.v (.agg _)) | .d (.v (.tuple _)) | .agg _ | .tup _ => false
  | _ => true

def allCells : List SV → Bool
  | [] => true
  | x :: l => bif isCell x then allCells l else false

def cellsOf : SV → Option (List SV)
  | .agg cs => some cs
  | .d (.v (.agg _)) | .d (.v (.tuple _)) | .tup _ => none
  | x => some [x]

def lenK {α : Type} : List α → Nat
  | [] => 0
  | _ :: l => Nat.succ (lenK l)

inductive EvR : Type where
  | val (x : SV) (ob : Prop)
  | box (cs : List SV)
  | row (e : TypeId) (k : Nat) (xs : List (List SV)) (n : Nat)
  | set (id : Nat) (cs : List SV)
  | stop

/-- The range of int. -/
def in64 (x : Int) : Prop := -9223372036854775808 ≤ x ∧ x ≤ 9223372036854775807

def evInt (op : BinOp) (k : IntKind) (x y : Int) : EvR :=
  match op with
  | .add => match k with | .i64 => .val (.i (x + y)) (in64 (x + y)) | _ => .val (.d (.v (.int k (k.wrap (x + y))))) True
  | .sub => match k with | .i64 => .val (.i (x - y)) (in64 (x - y)) | _ => .val (.d (.v (.int k (k.wrap (x - y))))) True
  | .mul => match k with | .i64 => .val (.i (x * y)) (in64 (x * y)) | _ => .val (.d (.v (.int k (k.wrap (x * y))))) True
  | .quo => match k with | .i64 => .val (.i (x.tdiv y)) (y ≠ 0 ∧ in64 (x.tdiv y)) | _ => .val (.d (.v (.int k (k.wrap (x.tdiv y))))) (y ≠ 0)
  | .rem => .val (.d (.v (.int k (x.tmod y)))) (y ≠ 0)
  | .and => .val (.d (.v (.int k (k.wrap (BitVec.ofInt k.bits x &&& BitVec.ofInt k.bits y).toNat)))) True
  | .or => .val (.d (.v (.int k (k.wrap (BitVec.ofInt k.bits x ||| BitVec.ofInt k.bits y).toNat)))) True
  | .xor => .val (.d (.v (.int k (k.wrap (BitVec.ofInt k.bits x ^^^ BitVec.ofInt k.bits y).toNat)))) True
  | .andNot => .val (.d (.v (.int k (k.wrap (BitVec.ofInt k.bits x &&& ~~~ BitVec.ofInt k.bits y).toNat)))) True
  | .shl => .val (.d (.v (.int k (k.wrap (x * 2 ^ (min y.toNat k.bits)))))) (0 ≤ y)
  | .shr => .val (.d (.v (.int k (x.fdiv (2 ^ (min y.toNat k.bits)))))) (0 ≤ y)
  | .eql => .val (.b (x == y)) True
  | .neq => .val (.b (x != y)) True
  | .lss => .val (.b (decide (x < y))) True
  | .leq => .val (.b (decide (x ≤ y))) True
  | .gtr => .val (.b (decide (x > y))) True
  | .geq => .val (.b (decide (x ≥ y))) True

def evStr (op : BinOp) (x y : ByteArray) : EvR :=
  match op with
  | .add => .val (.s (x ++ y)) (x.size + y.size ≤ 9223372036854775807)
  | .eql => .val (.b (x.toList == y.toList)) True
  | .neq => .val (.b (!(x.toList == y.toList))) True
  | _ => .stop

def kn : IntKind → Nat
  | .i8 => 0 | .i16 => 1 | .i32 => 2 | .i64 => 3 | .u8 => 4 | .u16 => 5 | .u32 => 6 | .u64 => 7

/-- Are two rows of plain cells the same? -/
def eq1 : SV → SV → Option Bool
  | .d (.v (.int k a)), .d (.v (.int k' b)) => bif Nat.beq (kn k) (kn k') then some (a == b) else none
  | .d (.v (.bool a)), .d (.v (.bool b)) => some (a == b)
  | .d (.v (.string a)), .d (.v (.string b)) => some (a.toList == b.toList)
  | _, _ => none

def eqCells : List SV → List SV → Option Bool
  | [], [] => some true
  | x :: l, y :: m => match eq1 x y, eqCells l m with
    | some a, some b => some (a && b)
    | _, _ => none
  | _, _ => none

def isShift : BinOp → Bool
  | .shl | .shr => true
  | _ => false

def evBin (T : Tab) (op : BinOp) (t : TypeId) (x y : SV) : EvR :=
  match x, y with
  | .d (.v (.int k a)), .d (.v (.int k' b)) => bif (isShift op || Nat.beq (kn k) (kn k')) then evInt op k a b else .stop
  | .d (.v (.string a)), .d (.v (.string b)) => evStr op a b
  | .d (.v (.bool a)), .d (.v (.bool b)) => match aget t T with
    | some ⟨.bool, _, _, _⟩ => match op with | .eql => .val (.b (a == b)) True | .neq => .val (.b (!(a == b))) True | _ => .stop
    | _ => .stop
  | x, .d .nil => match aget t T with
    | some ⟨.slice _, _, _, _⟩ => match x with
      | .d .nil => match op with | .eql => .val (.b true) True | .neq => .val (.b false) True | _ => .stop
      | .d (.sl _ xs) => match op with | .eql => .val (.b false) (xs ≠ []) | .neq => .val (.b true) (xs ≠ []) | _ => .stop
      | .own _ _ _ n _ => match op with | .eql => .val (.b false) (n ≠ 0) | .neq => .val (.b true) (n ≠ 0) | _ => .stop
      | _ => .stop
    | _ => .stop
  | _, _ => .stop

def evUn (op : UnOp) (x : SV) : EvR :=
  match op, x with
  | .neg, .d (.v (.int k a)) => evInt .sub k 0 a
  | .xor, .d (.v (.int k a)) => evInt .xor k (if k.signed then -1 else k.max) a
  | .not, .d (.v (.bool b)) => .val (.b (!b)) True
  | _, _ => .stop

def evConv (T : Tab) (src dst : TypeId) (x : SV) : EvR :=
  match aget src T with
  | none => .stop
  | some _ =>
  match aget dst T, x with
  | some ⟨.int k, _, _, _⟩, .d (.v (.int _ a)) => match k with | .i64 => .val (.i a) (in64 a) | _ => .val (.d (.v (.int k (k.wrap a)))) True
  | some ⟨.str, _, _, _⟩, .d (.v (.string a)) => .val (.s a) True
  | _, _ => .stop

/-- A byte of a text. -/
def byteAt (s : ByteArray) (i : Int) : Int := ((s.data.toList.getD i.toNat 0).toNat : Int)

def optI (s : St) : Option Operand → Option (Option Int)
  | none => some none
  | some o => match opd s o with
    | some (.d (.v (.int _ a))) => some (some a)
    | _ => none

def evSlice (T : Tab) (s : St) (t : TypeId) (x : SV) (lo hi mx : Option Operand) : EvR :=
  match mx with
  | some _ => .stop
  | none =>
    match optI s lo, optI s hi with
    | some l, some h =>
      match x with
      | .d (.v (.string a)) => match aget t T with
        | some ⟨.str, _, _, _⟩ => .val (.s (a.extract (l.getD 0).toNat (h.getD a.size).toNat)) (0 ≤ l.getD 0 ∧ l.getD 0 ≤ h.getD a.size ∧ h.getD a.size ≤ a.size)
        | _ => .stop
      | .d (.sl k xs) =>
        match aget t T with
        | some ⟨.slice e, _, _, _⟩ => match aget e T with
          | some y => bif Nat.beq k y.size then .val (.d (.sl k ((xs.take (h.getD xs.length).toNat).drop (l.getD 0).toNat))) (0 ≤ l.getD 0 ∧ l.getD 0 ≤ h.getD xs.length ∧ h.getD xs.length ≤ xs.length) else .stop
          | none => .stop
        | _ => .stop
      | .d .nil => match aget t T with
        | some ⟨.slice e, _, _, _⟩ => match aget e T with
          | some _ => .val (.d .nil) (l.getD 0 = 0 ∧ h.getD 0 = 0)
          | none => .stop
        | _ => .stop
      | .own id k lo n C =>
        match aget t T with
        | some ⟨.slice e, _, _, _⟩ => match aget e T with
          | some y => bif Nat.beq k y.size then .val (.own id k (lo + (l.getD 0).toNat) ((h.getD n).toNat - (l.getD 0).toNat) C) (0 ≤ l.getD 0 ∧ l.getD 0 ≤ h.getD n ∧ h.getD n ≤ n) else .stop
          | none => .stop
        | _ => .stop
      | _ => .stop
    | _, _ => .stop

def evField (T : Tab) (t : TypeId) (f : Nat) (k : Nat → Nat → Bool → EvR) : EvR :=
  match aget t T with
  | some ⟨.struct fs, _, _, _⟩ => match nth fs f with
    | some (ft, off) => match aget ft T with
      | some y => k off y.size y.td.agg
      | none => .stop
    | none => .stop
  | _ => .stop

def part1 (agg : Bool) (size off : Nat) (cs : List SV) : EvR :=
  match agg with
  | true => dropK off cs fun o => match o with
    | some l => takeK size l fun o => match o with
      | some l => .val (.agg l) True
      | none => .stop
    | none => .stop
  | false => match nth cs off with
    | some x => .val x True
    | none => .stop

def evLoad (T : Tab) (s : St) (t : TypeId) (a : SV) : EvR :=
  match aget t T with
  | some y => match a with
    | .ptr id j => match aget id s.heap with
      | some (.box cs) => part1 y.td.agg y.size j cs
      | _ => .stop
    | .ip cs => mapK sd cs fun cs => part1 y.td.agg y.size 0 cs
    | _ => .stop
  | none => .stop

def evStore (T : Tab) (s : St) (t : TypeId) (a x : SV) : EvR :=
  match aget t T with
  | some y => match a, cellsOf x with
    | .ptr id j, some vs => bif Nat.beq (lenK vs) y.size then (bif allCells vs then (match aget id s.heap with
      | some (.box cs) => putK j vs cs fun o => match o with
        | some cs' => .set id cs'
        | none => .stop
      | _ => .stop) else .stop) else .stop
    | _, _ => .stop
  | none => .stop

/-- The parts of a literal laid into its cells. -/
def fillK (s : St) (place : Nat → Option (Nat × Nat)) : List (Nat × Operand) → List SV → (List SV → EvR) → EvR
  | [], cs, k => k cs
  | (i, o) :: l, cs, k =>
    match place i, opd s o with
    | some (off, size), some x => match cellsOf x with
      | some vs => bif Nat.beq (lenK vs) size then putK off vs cs (fun o => match o with
        | some cs' => fillK s place l cs' k
        | none => .stop) else .stop
      | none => .stop
    | _, _ => .stop

def structPlace (T : Tab) (fs : List (TypeId × Nat)) (i : Nat) : Option (Nat × Nat) :=
  match nth fs i with
  | some (t, off) => match aget t T with
    | some y => some (off, y.size)
    | none => none
  | none => none

def evBuild (T : Tab) (s : St) (t : TypeId) (parts : List (Nat × Operand)) : EvR :=
  match aget t T with
  | some y => match y.td with
    | .struct fs => mapK SV.d y.zero fun z => fillK s (structPlace T fs) parts z fun cs => .val (.agg cs) True
    | .arr _ e => match aget e T with
      | some z => mapK SV.d y.zero fun z' => fillK s (fun i => some (i * z.size, z.size)) parts z' fun cs => .val (.agg cs) True
      | none => .stop
    | _ => .stop
  | none => .stop

def opsK (s : St) : List Operand → (Option (List SV) → EvR) → EvR
  | [], k => k (some [])
  | o :: l, k => match opd s o with
    | some x => opsK s l fun r => match r with | some l' => k (some (x :: l')) | none => k none
    | none => k none

/-- A literal of a slice: each element given, one behind the other. -/
def rowK (s : St) (size : Nat) : Nat → List (Nat × Operand) → (Option (List (List SV)) → EvR) → EvR
  | _, [], k => k (some [])
  | i, (j, o) :: l, k =>
    bif Nat.beq i j then (match opd s o with
      | some x => match cellsOf x with
        | some vs => bif Nat.beq (lenK vs) size then (bif allCells vs then rowK s size (i + 1) l (fun r => match r with | some l' => k (some (vs :: l')) | none => k none) else k none) else k none
        | none => k none
      | none => k none) else k none

def evLen (T : Tab) (t : TypeId) (x : SV) : EvR :=
  match aget t T with
  | some ⟨.str, _, _, _⟩ => match x with
    | .d (.v (.string a)) => .val (.i a.size) True
    | _ => .stop
  | some ⟨.slice _, _, _, _⟩ => match x with
    | .d (.sl _ xs) => .val (.i xs.length) True
    | .d .nil => .val (.i 0) True
    | .own _ _ _ n _ => .val (.i n) True
    | _ => .stop
  | some ⟨.arr n _, _, _, _⟩ => .val (.i n) True
  | _ => .stop

def evMin (x y : SV) : EvR :=
  match x, y with
  | .d (.v (.int k a)), .d (.v (.int _ b)) => .val (.d (.v (.int k (if b < a then b else a)))) True
  | _, _ => .stop
def evMax (x y : SV) : EvR :=
  match x, y with
  | .d (.v (.int k a)), .d (.v (.int _ b)) => .val (.d (.v (.int k (if b > a then b else a)))) True
  | _, _ => .stop

def evCall (T : Tab) (s : St) (c : Call) : EvR :=
  match c.callee with
  | .builtin b => match b, c.args.toList with
    | .len, [x] => match c.argTypes.toList, opd s x with | [t], some v => evLen T t v | _, _ => .stop
    | .min, [x, y] => match opd s x, opd s y with | some v, some u => evMin v u | _, _ => .stop
    | .max, [x, y] => match opd s x, opd s y with | some v, some u => evMax v u | _, _ => .stop
    | _, _ => .stop
  | _ => .stop

def ev (T : Tab) (s : St) (o : Op) : EvR :=
  match o with
  | .move x | .assign x => match opdR s x with | some v => .val v True | none => .stop
  | .pick (.tmp t) x y => match aget t s.tmps with
    | some (.lit true) => match opdR s x with | some v => .val v True | none => .stop
    | some (.lit false) => match opdR s y with | some v => .val v True | none => .stop
    | _ => .stop
  | .alloc t => match aget t T with | some y => mapK SV.d y.zero fun z => .box z | none => .stop
  | .box _ x => match opd s x with
    | some v => match cellsOf v with | some cs => bif allCells cs then .box cs else .stop | none => .stop
    | none => .stop
  | .build t ps => evBuild T s t ps.toList
  | .buildSlice t n ps => match aget t T with
    | some ⟨.slice e, _, _, _⟩ => match aget e T with
      | some y => bif (Nat.beq (lenK ps.toList) n && (Nat.ble (n * y.size) 16777216 && Nat.ble n 16777216)) then rowK s y.size 0 ps.toList (fun r => match r with | some xs => .row e y.size xs n | none => .stop) else .stop
      | none => .stop
    | _ => .stop
  | .load t a => match opd s a with | some x => evLoad T s t x | none => .stop
  | .store t a x => match opd s a, opd s x with | some p, some v => evStore T s t p v | _, _ => .stop
  | .nilCheck x => match opd s x with
    | some (.ptr id j) => .val (.ptr id j) True
    | some (.ip cs) => .val (.ip cs) True
    | some (.pel id k i j) => .val (.pel id k i j) True
    | some (.fn (.func f) a b) => .val (.fn (.func f) a b) True
    | _ => .stop
  | .binOp op t x y _ => match opd s x, opd s y with | some v, some u => evBin T op t v u | _, _ => .stop
  | .unOp op _ x => match opd s x with | some v => evUn op v | none => .stop
  | .convert u t x => match opd s x with | some v => evConv T u t v | none => .stop
  | .makeFunc f a b => opsK s a.toList fun r => match r with
    | some l => opsK s b.toList fun r => match r with | some m => .val (.fn f l m) True | none => .stop
    | none => .stop
  | .slice t x lo hi mx => match opd s x with | some v => evSlice T s t v lo hi mx | none => .stop
  | .fieldAddr t x f => match opd s x with
    | some (.ptr id j) => evField T t f fun off size _ => match size with | 0 => .stop | _ + 1 => .val (.ptr id (j + off)) True
    | some (.pel id k i j) => evField T t f fun off size _ => match size with | 0 => .stop | _ + 1 => .val (.pel id k i (j + off)) True
    | some (.ip cs) => evField T t f fun off size _ => match size with | 0 => .stop | _ + 1 => dropK off cs fun o => match o with | some cs' => .val (.ip cs') True | none => .stop
    | _ => .stop
  | .field t x f => match opd s x with
    | some (.agg cs) => evField T t f fun off size agg => part1 agg size off cs
    | _ => .stop
  | .extract t i => match opd s t with
    | some (.tup cs) => match nth cs i with | some x => .val x True | none => .stop
    | _ => .stop
  | .index t x ix => match aget t T with
    | some ⟨.str, _, _, _⟩ => match opd s x, opd s ix with
      | some (.d (.v (.string a))), some (.d (.v (.int _ i))) => .val (.d (.v (.int .u8 (byteAt a i)))) (0 ≤ i ∧ i < a.size)
      | _, _ => .stop
    | _ => .stop
  | .call c => evCall T s c
  | _ => .stop

/-! ### The walk by itself -/
inductive It : Type where
  | code (c : Code)
  | blk (id : Nat)
  | ops (all : Array Oper) (rest : List Oper)
  | inv (Φ : Act → World → Prop)

def It.exitTo (id : Nat) : List It → Option (List It)
  | [] => none
  | .blk i :: k => bif Nat.beq i id then some k else It.exitTo id k
  | _ :: k => It.exitTo id k

def St.put (s : St) (dst : Option Tmp) (x : SV) : St :=
  match dst with
  | some d => ⟨(d, x) :: s.tmps, s.heap, s.next⟩
  | none => s

def undefS : SV := .d (.v undef)

structure Out where
  k : List It
  s : St
  ob : Prop

inductive Gd : Type where
  | ask (d : Nat) (b : Bool) | told (d : Nat) (b : Bool) | no (d : Nat) | bad
def guardS (all : Array Oper) (tm : List (Nat × SV)) (j : Nat) : Gd :=
  match nth all.toList j with
  | some ⟨some d, _, _, _, _, _⟩ => match aget d tm with
    | some (.d (.v (.bool b))) => .ask d b
    | some (.lit b) => .told d b
    | some (.d (.v (.tuple _))) => .no d
    | _ => .bad
  | _ => .bad

/-- Worked out as far as its outer form. -/
def forceK {R : Type} (x : SV) (k : SV → R) : R :=
  match x with
  | .d (.v z) => k (.d (.v z))
  | .d .nil => k (.d .nil)
  | .d (.sl n xs) => k (.d (.sl n xs))
  | .ptr i j => k (.ptr i j)
  | .pel i n j l => k (.pel i n j l)
  | .own i n l m c => k (.own i n l m c)
  | .ip cs => k (.ip cs)
  | .agg cs => k (.agg cs)
  | .tup cs => k (.tup cs)
  | .fn f a b => k (.fn f a b)
  | .lit b => k (.lit b)

theorem forceK_eq {R : Type} (x : SV) (k : SV → R) : forceK x k = k x := by
  unfold forceK
  split <;> rfl

def arun (T : Tab) (N : Nat) : Nat → List It → List (Nat × SV) → List (Nat × Blk) → Nat → Prop → Out
  | 0, k, tm, hp, nx, ob => ⟨k, ⟨tm, hp, nx⟩, ob⟩
  | n + 1, k, tm, hp, nx, ob =>
    match k with
    | [] => ⟨[], ⟨tm, hp, nx⟩, ob⟩
    | .inv Φ :: k => ⟨.inv Φ :: k, ⟨tm, hp, nx⟩, ob⟩
    | .blk _ :: k => arun T N n k tm hp nx ob
    | .ops _ [] :: k => arun T N n k tm hp nx ob
    | .ops all (⟨dst, op, ty, pos, after, some (j, w)⟩ :: rest) :: k =>
      match guardS all tm j with
      | .no _ => match dst with
        | some d => bif Nat.blt d N then arun T N n (.ops all rest :: k) ((d, undefS) :: tm) hp nx ob else ⟨.ops all (⟨dst, op, ty, pos, after, some (j, w)⟩ :: rest) :: k, ⟨tm, hp, nx⟩, ob⟩
        | none => arun T N n (.ops all rest :: k) tm hp nx ob
      | .told _ b => bif (bif b then w else !w) then arun T N n (.ops all (⟨dst, op, ty, pos, after, none⟩ :: rest) :: k) tm hp nx ob else (match dst with
        | some d => bif Nat.blt d N then arun T N n (.ops all rest :: k) ((d, undefS) :: tm) hp nx ob else ⟨.ops all (⟨dst, op, ty, pos, after, some (j, w)⟩ :: rest) :: k, ⟨tm, hp, nx⟩, ob⟩
        | none => arun T N n (.ops all rest :: k) tm hp nx ob)
      | _ => ⟨.ops all (⟨dst, op, ty, pos, after, some (j, w)⟩ :: rest) :: k, ⟨tm, hp, nx⟩, ob⟩
    | .ops all (⟨dst, op, ty, pos, after, none⟩ :: rest) :: k =>
      match dst with
      | none => match ev T ⟨tm, hp, nx⟩ op with
        | .set id cs => arun T N n (.ops all rest :: k) tm ((id, .box cs) :: hp) nx ob
        | .val _ p => arun T N n (.ops all rest :: k) tm hp nx (p ∧ ob)
        | _ => ⟨.ops all (⟨dst, op, ty, pos, after, none⟩ :: rest) :: k, ⟨tm, hp, nx⟩, ob⟩
      | some d => bif Nat.blt d N then (match ev T ⟨tm, hp, nx⟩ op with
        | .val x p => forceK x fun x => arun T N n (.ops all rest :: k) ((d, x) :: tm) hp nx (p ∧ ob)
        | .box cs => arun T N n (.ops all rest :: k) ((d, .ptr nx 0) :: tm) ((nx, .box cs) :: hp) (Nat.succ nx) ob
        | .row e k' xs m => arun T N n (.ops all rest :: k) ((d, .own nx k' 0 m m) :: tm) ((nx, .row e false k' xs m) :: hp) (Nat.succ nx) ob
        | .set id cs => arun T N n (.ops all rest :: k) ((d, undefS) :: tm) ((id, .box cs) :: hp) nx ob
        | .stop => ⟨.ops all (⟨dst, op, ty, pos, after, none⟩ :: rest) :: k, ⟨tm, hp, nx⟩, ob⟩)
        else ⟨.ops all (⟨dst, op, ty, pos, after, none⟩ :: rest) :: k, ⟨tm, hp, nx⟩, ob⟩
    | .code .skip :: k => arun T N n k tm hp nx ob
    | .code (.label _) :: k => arun T N n k tm hp nx ob
    | .code (.seq a b) :: k => arun T N n (.code a :: .code b :: k) tm hp nx ob
    | .code (.block id c) :: k => arun T N n (.code c :: .blk id :: k) tm hp nx ob
    | .code (.exit id) :: k => match It.exitTo id k with | some k' => arun T N n k' tm hp nx ob | none => ⟨.code (.exit id) :: k, ⟨tm, hp, nx⟩, ob⟩
    | .code (.region _ ops false) :: k => arun T N n (.ops ops ops.toList :: k) tm hp nx ob
    | .code (.cond (.tmp t) x y) :: k => match aget t tm with
      | some (.lit b) => bif b then arun T N n (.code x :: k) tm hp nx ob else arun T N n (.code y :: k) tm hp nx ob
      | _ => ⟨.code (.cond (.tmp t) x y) :: k, ⟨tm, hp, nx⟩, ob⟩
    | .code c :: k => ⟨.code c :: k, ⟨tm, hp, nx⟩, ob⟩

end Go.Sy

/-
  SYMBOLIC STATES, over any program, part 3: the laws under 'ev': lists by continuation, loads, stores, types.
-/
namespace Go.Sy
open Go.RowKit

theorem mapK_eq {α β R : Type} (f : α → β) (l : List α) (k : List β → R) : mapK f l k = k (l.map f) := by
  induction l generalizing k with
  | nil => rfl
  | cons x l ih => simp only [mapK, ih, List.map_cons]

theorem nth_eq {α : Type} (l : List α) (n : Nat) : nth l n = l[n]? := by
  induction l generalizing n with
  | nil => cases n <;> rfl
  | cons x l ih => cases n with
    | zero => rfl
    | succ n => simp [nth, ih]

theorem lenK_eq {α : Type} (l : List α) : lenK l = l.length := by
  induction l with
  | nil => rfl
  | cons x l ih => simp [lenK, ih]

def tk {α : Type} (n : Nat) (l : List α) : Option (List α) := if n ≤ l.length then some (l.take n) else none

theorem takeK_eq {α R : Type} (n : Nat) (l : List α) (k : Option (List α) → R) : takeK n l k = k (tk n l) := by
  induction n generalizing l k with
  | zero => simp [takeK, tk]
  | succ n ih => cases l with
    | nil => simp [takeK, tk]
    | cons x l =>
      simp only [takeK, ih, tk, List.length_cons, Nat.add_le_add_iff_right, List.take_succ_cons]
      by_cases h : n ≤ l.length
      · simp only [if_pos h]
      · simp only [if_neg h]

def dk {α : Type} (n : Nat) (l : List α) : Option (List α) := if n ≤ l.length then some (l.drop n) else none

theorem dropK_eq {α R : Type} (n : Nat) (l : List α) (k : Option (List α) → R) : dropK n l k = k (dk n l) := by
  induction n generalizing l k with
  | zero => simp [dropK, dk]
  | succ n ih => cases l with
    | nil => simp [dropK, dk]
    | cons x l => simp only [dropK, ih, dk, List.length_cons, Nat.add_le_add_iff_right, List.drop_succ_cons]

/-- xs with ys laid over it from n on. -/
def laid {α : Type} : Nat → List α → List α → Option (List α)
  | 0, [], xs => some xs
  | 0, _ :: _, [] => none
  | 0, y :: ys, _ :: xs => (laid 0 ys xs).map (y :: ·)
  | _ + 1, _, [] => none
  | n + 1, ys, x :: xs => (laid n ys xs).map (x :: ·)

theorem overK_eq {α R : Type} (ys xs : List α) (k : Option (List α) → R) : putK.overK ys xs k = k (laid 0 ys xs) := by
  induction ys generalizing xs k with
  | nil => cases xs <;> simp [putK.overK, laid]
  | cons y ys ih => cases xs with
    | nil => simp [putK.overK, laid]
    | cons x xs =>
      simp only [putK.overK, ih, laid]
      cases laid 0 ys xs <;> rfl

theorem putK_eq {α R : Type} (n : Nat) (ys xs : List α) (k : Option (List α) → R) : putK n ys xs k = k (laid n ys xs) := by
  induction n generalizing xs k with
  | zero => simp only [putK, overK_eq]
  | succ n ih => cases xs with
    | nil => cases ys <;> simp [putK, laid]
    | cons x xs =>
      simp only [putK, ih, laid]
      cases laid n ys xs <;> rfl

theorem laid_spec {α : Type} (n : Nat) (ys xs zs : List α) (h : laid n ys xs = some zs) :
    zs.length = xs.length ∧ n + ys.length ≤ xs.length ∧ ∀ i, zs[i]? = if i < n then xs[i]? else if i < n + ys.length then ys[i - n]? else xs[i]? := by
  induction n generalizing xs zs with
  | zero =>
    induction ys generalizing xs zs with
    | nil =>
      cases xs <;> simp [laid] at h <;> subst h <;> simp
    | cons y ys ih =>
      cases xs with
      | nil => simp [laid] at h
      | cons x xs =>
        simp only [laid, Option.map_eq_some_iff] at h
        obtain ⟨l, hl, rfl⟩ := h
        obtain ⟨h1, h2, h3⟩ := ih xs l hl
        refine ⟨by simp [h1], by simp at h2 ⊢; omega, fun i => ?_⟩
        cases i with
        | zero => simp
        | succ i =>
          have := h3 i
          simp only [Nat.not_lt_zero, if_false, Nat.zero_add, Nat.sub_zero] at this
          simp only [List.getElem?_cons_succ, Nat.not_lt_zero, if_false, List.length_cons, Nat.zero_add, Nat.add_lt_add_iff_right, Nat.sub_zero, this]
  | succ n ih =>
    cases xs with
    | nil => simp [laid] at h
    | cons x xs =>
      simp only [laid, Option.map_eq_some_iff] at h
      obtain ⟨l, hl, rfl⟩ := h
      obtain ⟨h1, h2, h3⟩ := ih xs l hl
      refine ⟨by simp [h1], by simp; omega, fun i => ?_⟩
      cases i with
      | zero => simp
      | succ i =>
        have := h3 i
        simp only [List.getElem?_cons_succ, Nat.add_lt_add_iff_right, this]
        have e : i + 1 < n + 1 + ys.length ↔ i < n + ys.length := by omega
        have e2 : i + 1 - (n + 1) = i - n := by omega
        simp only [e, e2]

/-! ### Types -/
def dvCell : DV → Option Value
  | .v x => some x
  | .nil => some (.slice none 0 0)
  | .sl _ _ => none

structure TyOk (P : Program) (t : TypeId) (y : Ty) : Prop where
  info : ∃ i z, P.info? t = some i ∧ i.size = y.size ∧ i.bytes = y.bytes ∧ i.zero = some z ∧ z.cells.toList.map some = y.zero.map dvCell
  zlen : y.zero.length = y.size
  one : y.td.agg = false → y.size = 1
  td : match y.td with
    | .int k => P.underlying t = some (.int k)
    | .bool => P.underlying t = some .bool
    | .str => P.underlying t = some .string
    | .slice e => P.underlying t = some (.slice e)
    | .arr n e => P.underlying t = some (.array n e)
    | .struct fs => ∃ F : Array Field, P.underlying t = some (.struct F) ∧ F.toList.map (fun f => (f.type, f.offset)) = fs ∧ (F.toList.all fun f => (P.info? f.type).isSome) = true
    | .ptr e => P.underlying t = some (.pointer e)
    | .oth => ∃ D, P.underlying t = some D ∧ (∀ F, D ≠ .struct F) ∧ (∀ n e, D ≠ .array n e)

def TabOk (P : Program) (T : Tab) : Prop := ∀ t y, aget t T = some y → TyOk P t y

section
variable {P : Program} {T : Tab} {w : World}

theorem TyOk.isAgg {t : TypeId} {y : Ty} (h : TyOk P t y) : (isAgg t).run P w = .ok y.td.agg w := by
  have := h.td
  cases e : y.td <;> rw [e] at this <;> simp only at this
  all_goals first
    | (unfold Go.isAgg; simp [run_underlying this, TD.agg]; done)
    | (obtain ⟨F, hF, _⟩ := this; unfold Go.isAgg; simp [run_underlying hF, TD.agg]; done)
    | (obtain ⟨D, hD, h1, h2⟩ := this; unfold Go.isAgg; simp only [Sem.run_bind, run_underlying hD, Result.andThen_ok]; cases D <;> first | rfl | exact absurd rfl (h1 _) | exact absurd rfl (h2 _ _))

theorem TyOk.sizeOf {t : TypeId} {y : Ty} (h : TyOk P t y) : (sizeOf t).run P w = .ok y.size w := by
  obtain ⟨i, z, h1, h2, _⟩ := h.info
  simp [Go.sizeOf, typeInfo, h1, h2]

theorem TyOk.zeroValue {t : TypeId} {y : Ty} (h : TyOk P t y) : ∃ z, (zeroValue t).run P w = .ok z w ∧ z.cells.toList.map some = y.zero.map dvCell := by
  obtain ⟨i, z, h1, _, _, h3, h4⟩ := h.info
  exact ⟨z, by simp [Go.zeroValue, typeInfo, h1, h3], h4⟩

theorem add_add' (b j i : Nat) : (⟨b, j, none⟩ : Addr).add i = ⟨b, j + i, none⟩ := by
  unfold Addr.add
  split
  · subst_vars; rfl
  · rfl

/-- A load of a whole variable, cell by cell. -/
theorem run_loadVar {t : TypeId} {y : Ty} (h : TyOk P t y) (a : Addr) (vs : List Value) (hl : vs.length = y.size) (hc : ∀ j v, vs[j]? = some v → w.cell? (a.add j) = some v) (hagg : y.td.agg = true) :
    (loadVar t a).run P w = .ok (.agg vs.toArray) w := by
  simp only [loadVar, Sem.run_bind, h.isAgg, Result.andThen_ok, hagg, if_true, h.sizeOf]
  rw [← hl, run_loadCells_list w a vs hc]
  rfl

theorem run_loadVar1 {t : TypeId} {y : Ty} (h : TyOk P t y) (a : Addr) (v : Value) (hc : w.cell? a = some v) (hagg : y.td.agg = false) :
    (loadVar t a).run P w = .ok v w := by
  simp only [loadVar, Sem.run_bind, h.isAgg, Result.andThen_ok, hagg, Bool.false_eq_true, if_false]
  simp [run_load, hc]

/-- w' is w but for block b. -/
structure Upd (w w' : World) (b : Nat) : Prop where
  other : ∀ b', b' ≠ b → w'.heap[b']? = w.heap[b']?
  size : w'.heap.size = w.heap.size
  os : w'.os = w.os
  tape : w'.tape = w.tape
  output : w'.output = w.output

theorem Upd.refl (w : World) (b : Nat) : Upd w w b := ⟨fun _ _ => rfl, rfl, rfl, rfl, rfl⟩
theorem Upd.trans {a b c : World} {k : Nat} (h : Upd a b k) (h' : Upd b c k) : Upd a c k :=
  ⟨fun b' hb => (h'.other b' hb).trans (h.other b' hb), h'.size.trans h.size, h'.os.trans h.os, h'.tape.trans h.tape, h'.output.trans h.output⟩
theorem Upd.setCell (w : World) (a : Addr) (v : Value) : Upd w (w.setCell a v) a.block :=
  ⟨fun b' hb => Below.heap_setCell w a v b' hb, by simp, rfl, rfl, rfl⟩

theorem run_storeCells (P : Program) (b j0 : Nat) (T : TypeId) (z : Nat × Nat) : ∀ (vs : List Value) (i : Nat) (w : World) (c : Array Value), w.heap[b]? = some (.cells c T z) → (∀ j, j < c.size → ¬ (z.1 ≤ j ∧ j < z.2)) →
    j0 + i + vs.length ≤ c.size → (∀ v ∈ vs, v.oneCell' = true) →
    ∃ w' c', (storeCells ⟨b, j0, none⟩ vs i).run P w = .ok () w' ∧ w'.heap[b]? = some (.cells c' T z) ∧ c'.size = c.size ∧ Upd w w' b ∧
      ∀ m, c'[m]? = if m < j0 + i then c[m]? else if m < j0 + i + vs.length then vs[m - (j0 + i)]? else c[m]?
  | [], i, w, c, hw, hz, hl, hv => by
    refine ⟨w, c, rfl, hw, rfl, Upd.refl _ _, fun m => ?_⟩
    by_cases h : m < j0 + i
    · rw [if_pos h]
    · rw [if_neg h, if_neg (by simpa using h)]
  | v :: vs, i, w, c, hw, hz, hl, hv => by
    simp only [List.length_cons] at hl
    have hlt : j0 + i < c.size := by omega
    have hc : w.cell? ⟨b, j0 + i, none⟩ = some c[j0 + i] := by
      simp [World.cell?, hw, hlt]
    have hf : w.frozen? ⟨b, j0 + i, none⟩ = false := by
      have := hz _ hlt
      simp only [World.frozen?, hw]
      simpa using this
    have h1 := Joins.block_setCell hw (i := j0 + i) v
    obtain ⟨w', c', r1, r2, r3, r4, r5⟩ := run_storeCells P b j0 T z vs (i + 1) (w.setCell ⟨b, j0 + i, none⟩ v) (c.setIfInBounds (j0 + i) v) h1 (by simpa using hz) (by simp; omega) (fun u hu => hv u (by simp [hu]))
    refine ⟨w', c', ?_, r2, by simpa using r3, (Upd.setCell w ⟨b, j0 + i, none⟩ v).trans r4, fun m => ?_⟩
    · simp only [storeCells, Sem.run_bind, add_add', run_store P w _ v .plain (hv v (by simp)), hc, hf, Bool.false_eq_true, if_false, Result.andThen_ok]
      exact r1
    · rw [r5 m]
      simp only [List.length_cons]
      by_cases h1 : m < j0 + i
      · rw [if_pos (by omega), if_pos h1, Array.getElem?_setIfInBounds_ne (by omega)]
      · by_cases h2 : m = j0 + i
        · subst h2
          rw [if_pos (by omega), if_neg h1, if_pos (by omega)]
          simp [hlt]
        · rw [if_neg (by omega), if_neg h1]
          by_cases h3 : m < j0 + i + (vs.length + 1)
          · rw [if_pos (by omega), if_pos h3]
            have e : m - (j0 + i) = (m - (j0 + (i + 1))) + 1 := by omega
            rw [e, List.getElem?_cons_succ]
          · rw [if_neg (by omega), if_neg h3, Array.getElem?_setIfInBounds_ne (by omega)]

theorem run_storeVar {t : TypeId} {y : Ty} (h : TyOk P t y) {b j : Nat} {T : TypeId} {z : Nat × Nat} {c : Array Value} (v : Value) (hw : w.heap[b]? = some (.cells c T z)) (hz : ∀ j, j < c.size → ¬ (z.1 ≤ j ∧ j < z.2))
    (hs : v.cells.size = y.size) (hl : j + y.size ≤ c.size) (hv : ∀ u ∈ v.cells.toList, u.oneCell' = true) :
    ∃ w' c', (storeVar t ⟨b, j, none⟩ v).run P w = .ok () w' ∧ w'.heap[b]? = some (.cells c' T z) ∧ c'.size = c.size ∧ Upd w w' b ∧
      ∀ m, c'[m]? = if m < j then c[m]? else if m < j + y.size then v.cells[m - j]? else c[m]? := by
  obtain ⟨w', c', r1, r2, r3, r4, r5⟩ := run_storeCells P b j T z v.cells.toList 0 w c hw hz (by simp [hs]; omega) hv
  refine ⟨w', c', ?_, r2, r3, r4, fun m => ?_⟩
  · simp only [storeVar, Sem.run_bind, h.sizeOf, Result.andThen_ok, hs, ne_eq, not_true_eq_false, if_false, Sem.run_pure]
    exact r1
  · have := r5 m
    simp only [Nat.add_zero, Array.length_toList, hs, Array.getElem?_toList] at this
    exact this

end
end Go.Sy

/-
  SYMBOLIC STATES, over any program, part 4: 'ev' tells the truth.
-/
namespace Go.Sy
open Go.RowKit

section
variable {P : Program} {T : Tab} {μ : Nat → Option Nat} {ok : Nat → Prop} {s : St} {a : Act} {w : World}

def VOk (P : Program) (μ : Nat → Option Nat) (ok : Nat → Prop) (w : World) (m : Sem Value) : EvR → Prop
  | .val x p => p → ∃ y, m.run P w = .ok y w ∧ Den μ ok w x y
  | .stop => True
  | _ => False

theorem VOk.lit {m : Sem Value} {x : Value} {p : Prop} (h : p → m.run P w = .ok x w) : VOk P μ ok w m (.val (.d (.v x)) p) := fun hp => ⟨x, h hp, .d (.v x)⟩

theorem cstCell_den (x : Value) : Den μ ok w (cstCell x) x := by
  unfold cstCell
  split
  · exact .d .nil
  · split
    · rename_i h1 h2
      obtain ⟨l⟩ := ‹Array Value›
      obtain ⟨m⟩ := ‹Array Value›
      simp at h1 h2
      subst h1 h2
      exact .fn #[] #[] rfl (by simp) rfl (by simp)
    · exact .d (.v _)
  · exact .d (.v _)

theorem sd_den {x : DV} {y : Value} (h : DDen ok w x y) : Den μ ok w (sd x) y := by
  unfold sd
  split
  · cases h; exact cstCell_den _
  · exact .d h

theorem cst_den (x : Value) : Den μ ok w (cst x) x := by
  unfold cst
  split
  · rename_i cs
    rw [mapK_eq]
    refine .agg cs (by simp) fun j c u hc hu => ?_
    rw [List.getElem?_map, Array.getElem?_toList, hu] at hc
    simp at hc
    subst hc
    exact cstCell_den u
  · exact cstCell_den _

theorem strip_den {x : SV} {y : Value} (h : Den μ ok w x y) : Den μ ok w (strip x) y := by
  unfold strip
  split
  · cases h; exact .d (.v _)
  · exact h

theorem opd_den (hd : ∀ t x, aget t s.tmps = some x → Den μ ok w x (a.tmps.getD t undef)) {x : Operand} {v : SV} (h : opd s x = some v) : Den μ ok w v (a.eval x) := by
  cases x with
  | tmp t =>
    simp only [opd] at h
    cases e : aget t s.tmps with
    | none => rw [e] at h; cases h
    | some y =>
      rw [e] at h
      cases h
      exact strip_den (hd t y e)
  | const c => simp only [opd, Option.some.injEq] at h; subst h; exact cst_den c
  | global g => simp [opd] at h
  | func f => simp only [opd, Option.some.injEq] at h; subst h; exact .fn #[] #[] rfl (by simp) rfl (by simp)

theorem opdR_den (hd : ∀ t x, aget t s.tmps = some x → Den μ ok w x (a.tmps.getD t undef)) {x : Operand} {v : SV} (h : opdR s x = some v) : Den μ ok w v (a.eval x) := by
  unfold opdR at h
  split at h
  · exact hd _ v h
  · cases h; exact .lit _
  · exact opd_den hd h

/-! inversion -/
theorem Den.int {k : IntKind} {n : Int} {y : Value} (h : Den μ ok w (.d (.v (.int k n))) y) : y = .int k n := by
  cases h with | d h => cases h; rfl
theorem Den.vv {x y : Value} (h : Den μ ok w (.d (.v x)) y) : y = x := by
  cases h with | d h => cases h; rfl
theorem Den.nil' {y : Value} (h : Den μ ok w (.d .nil) y) : y = .slice none 0 0 := by
  cases h with | d h => cases h; rfl

theorem run_eqGuard_none (op : BinOp) (t : TypeId) (x y : Operand) (u v : Value) (hu : ∀ cs, u ≠ .agg cs) (hn : u ≠ .nilIface) : (eqGuard op t x y u v).run P w = .ok () w := by
  unfold eqGuard
  cases op <;> (simp only [Bool.not_true, Bool.not_false, if_true, Bool.false_eq_true, if_false]; first | rfl | (split <;> first | exact absurd rfl hn | exact absurd rfl (hu _) | rfl))

theorem evShift_ok (op : BinOp) (t : TypeId) (k k' : IntKind) (x y : Int) (hk : isShift op = true) : VOk P μ ok w (binOp op t (.int k x) (.int k' y)) (evInt op k x y) := by
  cases op <;> first | (cases hk; done) | skip
  all_goals
    refine fun hp => ⟨_, ?_, .d (.v _)⟩
    simp only [binOp, Op.shift, if_neg (Int.not_lt.2 hp), Sem.run_pure]

theorem evInt_ok (op : BinOp) (t : TypeId) (k k' : IntKind) (x y : Int) (hk : k = k') : VOk P μ ok w (binOp op t (.int k x) (.int k' y)) (evInt op k x y) := by
  subst hk
  cases op <;> simp only [evInt]
  all_goals first
    | (cases k <;> first
        | (refine fun hp => ⟨_, ?_, .d (.v _)⟩; simp only [binOp, ne_eq, not_true_eq_false, if_false, Op.intArith, Sem.run_pure, IntWalk.i64_in _ hp]; done)
        | (refine fun hp => ⟨_, ?_, .d (.v _)⟩; simp only [binOp, ne_eq, not_true_eq_false, if_false, Op.intArith, Sem.run_pure]; done)
        | (refine fun hp => ⟨_, ?_, .d (.v _)⟩; simp only [binOp, ne_eq, not_true_eq_false, if_false, Op.intDiv, if_neg hp.1, Sem.run_pure, IntWalk.i64_in _ hp.2]; done)
        | (refine fun hp => ⟨_, ?_, .d (.v _)⟩; simp only [binOp, ne_eq, not_true_eq_false, if_false, Op.intDiv, if_neg hp, Sem.run_pure]; done))
    | (refine fun hp => ⟨_, ?_, .d (.v _)⟩; simp only [binOp, ne_eq, not_true_eq_false, if_false, Op.intDiv, if_neg hp, Sem.run_pure]; done)
    | (refine fun hp => ⟨_, ?_, .d (.v _)⟩; simp only [binOp, ne_eq, not_true_eq_false, if_false, Op.intBits, Sem.run_pure]; done)
    | (refine fun hp => ⟨_, ?_, .d (.v _)⟩; simp only [binOp, ne_eq, not_true_eq_false, if_false, Op.intCmp, Sem.run_pure]; done)
    | (refine fun hp => ⟨_, ?_, .d (.v _)⟩; simp only [binOp, Op.shift, if_neg (Int.not_lt.2 hp), Sem.run_pure]; done)

theorem evStr_ok (op : BinOp) (t : TypeId) (x y : ByteArray) : VOk P μ ok w (binOp op t (.string x) (.string y)) (evStr op x y) := by
  cases op <;> simp only [evStr] <;> first | trivial | skip
  · refine fun hp => ⟨_, ?_, .d (.v _)⟩
    have h : ¬ ((x.size + y.size : Nat) : Int) > IntKind.i64.max := by
      have : IntKind.i64.max = 9223372036854775807 := by decide
      rw [this]; omega
    simp only [binOp, Op.stringOp, if_neg h, Sem.run_pure]
  all_goals
    refine fun hp => ⟨_, ?_, .d (.v _)⟩
    simp only [binOp, Op.stringOp, Sem.run_pure]

theorem slOf {k : Nat} {xs : List (List DV)} {y : Value} (h : DDen ok w (.sl k xs) y) : (xs = [] ∧ y = .slice none 0 0) ∨
    ∃ a cap, y = .slice (some a) xs.length cap ∧ xs.length ≤ cap ∧ cap ≤ maxLen ∧ (∀ (i : Nat) (e : List DV), xs[i]? = some e → e.length = k) ∧
      (∀ (i : Nat) (e : List DV) (j : Nat) (c : DV), xs[i]? = some e → e[j]? = some c → ok a.block ∧ ∃ u, w.cell? (a.add (i * k + j)) = some u ∧ DDen ok w c u) := by
  cases h with
  | slNil => exact .inl ⟨rfl, rfl⟩
  | sl _ _ a cap h1 h2 h3 h4 h5 =>
    refine .inr ⟨a, cap, rfl, h1, h2, h3, fun i e j c he hj => ?_⟩
    obtain ⟨ho, u, hu⟩ := h4 i e j c he hj
    exact ⟨ho, u, hu, h5 i e j c u he hj hu⟩

theorem kn_inj {k k' : IntKind} (h : Nat.beq (kn k) (kn k') = true) : k = k' := by
  cases k <;> cases k' <;> first | rfl | cases h

theorem evBin_ok (hT : TabOk P T) (op : BinOp) (t : TypeId) (x y : SV) (u v : Value) (hx : Den μ ok w x u) (hy : Den μ ok w y v) (p q : Operand) :
    VOk P μ ok w (do eqGuard op t p q u v; binOp op t u v) (evBin T op t x y) := by
  have key : ∀ r, VOk P μ ok w (binOp op t u v) r → (∀ cs, u ≠ .agg cs) → u ≠ .nilIface → VOk P μ ok w (do eqGuard op t p q u v; binOp op t u v) r := by
    intro r hr h1 h2
    cases r with
    | val x p =>
      intro hp
      obtain ⟨y, h3, h4⟩ := hr hp
      exact ⟨y, by rw [Sem.run_bind, run_eqGuard_none _ _ _ _ _ _ h1 h2]; exact h3, h4⟩
    | _ => exact hr
  unfold evBin
  split
  · rename_i k a k' b
    obtain rfl := hx.int
    obtain rfl := hy.int
    refine key _ ?_ (by simp) (by simp)
    cases h1 : (isShift op || Nat.beq (kn k) (kn k'))
    · trivial
    · simp only [Bool.or_eq_true] at h1
      rcases h1 with h1 | h1
      · exact evShift_ok _ _ _ _ _ _ h1
      · exact evInt_ok _ _ _ _ _ _ (kn_inj h1)
  · obtain rfl := hx.vv
    obtain rfl := hy.vv
    exact key _ (evStr_ok _ _ _ _) (by simp) (by simp)
  · obtain rfl := hx.vv
    obtain rfl := hy.vv
    refine key _ ?_ (by simp) (by simp)
    split
    · rename_i ht
      have hb : P.underlying t = some .bool := (hT _ _ ht).td
      split
      · exact VOk.lit fun _ => by simp [binOp, Op.equal, Op.maxDepth, run_equalIn_bool' w _ _ _ _ hb]
      · exact VOk.lit fun _ => by simp [binOp, Op.equal, Op.maxDepth, run_equalIn_bool' w _ _ _ _ hb]
      · trivial
    · trivial
  · obtain rfl := hy.nil'
    split
    · rename_i e _ _ _ ht
      have hb : P.underlying t = some (.slice e) := (hT _ _ ht).td
      split
      · obtain rfl := hx.nil'
        refine key _ ?_ (by simp) (by simp)
        split
        · exact VOk.lit fun _ => by simp [Lib.run_eql_slice_nil w _ _ none 0 0 0 0 hb]
        · exact VOk.lit fun _ => by simp [run_neq_slice_nil_any w _ _ none 0 0 0 0 hb]
        · trivial
      · cases hx with | d hx =>
        rcases slOf hx with ⟨rfl, rfl⟩ | ⟨a, cap, rfl, _⟩
        · refine key _ ?_ (by simp) (by simp)
          split
          · exact fun h => absurd rfl h
          · exact fun h => absurd rfl h
          · trivial
        · refine key _ ?_ (by simp) (by simp)
          split
          · exact VOk.lit fun _ => by simp [Lib.run_eql_slice_nil w _ _ (some a) _ _ 0 0 hb]
          · exact VOk.lit fun _ => by simp [run_neq_slice_nil_any w _ _ (some a) _ _ 0 0 hb]
          · trivial
      · cases hx with
        | own h h1 h2 =>
          refine key _ ?_ (by simp) (by simp)
          split
          · exact VOk.lit fun _ => by simp [Lib.run_eql_slice_nil w _ _ (some _) _ _ 0 0 hb]
          · exact VOk.lit fun _ => by simp [run_neq_slice_nil_any w _ _ (some _) _ _ 0 0 hb]
          · trivial
        | ownNil _ _ _ _ =>
          refine key _ ?_ (by simp) (by simp)
          split
          · exact fun h => absurd rfl h
          · exact fun h => absurd rfl h
          · trivial
      · trivial
    · trivial
  · trivial

theorem evUn_ok (op : UnOp) (x : SV) (u : Value) (hx : Den μ ok w x u) : VOk P μ ok w (Op.unary op u) (evUn op x) := by
  unfold evUn
  split
  · rename_i k n
    obtain rfl := hx.int
    have := evInt_ok (P := P) (μ := μ) (ok := ok) (w := w) .sub 0 k k 0 n rfl
    simpa only [binOp, Op.unary, ne_eq, not_true_eq_false, if_false] using this
  · rename_i k n
    obtain rfl := hx.int
    have := evInt_ok (P := P) (μ := μ) (ok := ok) (w := w) .xor 0 k k (if k.signed then -1 else k.max) n rfl
    simpa only [binOp, Op.unary, ne_eq, not_true_eq_false, if_false] using this
  · obtain rfl := hx.vv
    exact VOk.lit fun _ => by simp [Op.unary]
  · trivial

theorem TyOk.und {t : TypeId} {y : Ty} (h : TyOk P t y) : ∃ D, P.underlying t = some D := by
  have := h.td
  cases e : y.td <;> rw [e] at this <;> simp only at this
  all_goals first
    | exact ⟨_, this⟩
    | (obtain ⟨F, hF, _⟩ := this; exact ⟨_, hF⟩)

theorem evConv_ok (hT : TabOk P T) (src dst : TypeId) (x : SV) (u : Value) (hx : Den μ ok w x u) : VOk P μ ok w (convert src dst u) (evConv T src dst x) := by
  unfold evConv
  split
  · trivial
  · rename_i y1 h1
    obtain ⟨D, hD⟩ := (hT _ _ h1).und
    split
    · rename_i k _ _ _ _ a ht
      have hb : P.underlying dst = some (.int k) := (hT _ _ ht).td
      obtain rfl := hx.int
      have e : ∀ n k', (convert src dst (.int k' n)).run P w = .ok (.int k (k.wrap n)) w := fun n k' => by
        simp only [convert, Sem.run_bind, run_underlying hD, run_underlying hb, Result.andThen_ok]
        cases D <;> simp [Conv.intToInt]
      split
      · refine fun hp => ⟨_, e _ _, ?_⟩
        rw [IntWalk.i64_in _ hp]
        exact .d (.v _)
      · exact VOk.lit fun _ => e _ _
    · rename_i ht
      have hb : P.underlying dst = some .string := (hT _ _ ht).td
      obtain rfl := hx.vv
      exact VOk.lit fun _ => by
        simp only [convert, Sem.run_bind, run_underlying hD, run_underlying hb, Result.andThen_ok]
        cases D <;> simp
    · trivial

/-! slicing -/
def IsI (o : Option Value) (l : Option Int) : Prop := (o = none ∧ l = none) ∨ ∃ k n, o = some (.int k n) ∧ l = some n

theorem optI_is (hd : ∀ t x, aget t s.tmps = some x → Den μ ok w x (a.tmps.getD t undef)) {o : Option Operand} {l : Option Int} (h : optI s o = some l) : IsI (o.map a.eval) l := by
  cases o with
  | none => simp only [optI, Option.some.injEq] at h; exact .inl ⟨rfl, h.symm⟩
  | some o =>
    simp only [optI] at h
    split at h
    · rename_i k n ho
      simp at h
      exact .inr ⟨k, n, by rw [Option.map_some, (opd_den hd ho).int], h.symm⟩
    · cases h

theorem run_bound (k : IntKind) (i : Int) (y : Nat) (code : BoundsCode) (h0 : 0 ≤ i) (h1 : i ≤ y) : (Instr.sliceBound (.int k i) y code).run P w = .ok i.toNat w := by
  simp only [Instr.sliceBound, asIntOf, Sem.run_bind, Sem.run_pure, Result.andThen_ok]
  rw [if_pos ⟨h0, h1⟩]
  rfl

theorem bounds_ok (isSlice : Bool) (len cap : Nat) (hle : len ≤ cap) (lo hi : Option Value) (l h : Option Int) (hl : IsI lo l) (hh : IsI hi h) (h0 : 0 ≤ l.getD 0) (h1 : l.getD 0 ≤ h.getD len) (h2 : h.getD len ≤ len) :
    (Instr.sliceBounds isSlice len cap lo hi none).run P w = .ok ((l.getD 0).toNat, (h.getD len).toNat, cap) w := by
  rcases hl with ⟨rfl, rfl⟩ | ⟨k, n, rfl, rfl⟩ <;> rcases hh with ⟨rfl, rfl⟩ | ⟨k', m, rfl, rfl⟩ <;> simp only [Option.getD_none, Option.getD_some] at h0 h1 h2 ⊢
  · simp [Instr.sliceBounds]
  · simp only [Instr.sliceBounds, Sem.run_bind, Sem.run_pure, Result.andThen_ok]
    rw [run_bound _ _ _ _ (by omega) (by omega)]
    simp
  · simp only [Instr.sliceBounds, Sem.run_bind, Sem.run_pure, Result.andThen_ok]
    rw [run_bound _ _ _ _ (by omega) (by omega)]
    simp
  · simp only [Instr.sliceBounds, Sem.run_bind, Sem.run_pure, Result.andThen_ok]
    rw [run_bound _ _ _ _ (by omega) (by omega)]
    simp only [Result.andThen_ok]
    rw [run_bound _ _ _ _ (by omega) (by omega)]
    simp

theorem run_sliceAt_str (t : TypeId) (hb : P.underlying t = some .string) (x : ByteArray) (lo hi : Option Value) (l h : Option Int) (hl : IsI lo l) (hh : IsI hi h) (h0 : 0 ≤ l.getD 0) (h1 : l.getD 0 ≤ h.getD x.size) (h2 : h.getD x.size ≤ x.size) :
    (Instr.sliceAt t (.string x) lo hi none).run P w = .ok (.string (x.extract (l.getD 0).toNat (h.getD x.size).toNat)) w := by
  simp only [Instr.sliceAt, Instr.slice, Sem.run_bind, run_underlying hb, Result.andThen_ok]
  simp only [Option.isSome_none, Bool.false_eq_true, if_false, Sem.run_bind, Sem.run_pure, Result.andThen_ok, bounds_ok false x.size x.size (Nat.le_refl _) lo hi l h hl hh h0 h1 h2]

theorem run_sliceAt_sl (hT : TabOk P T) (t e : TypeId) (y : Ty) (hb : P.underlying t = some (.slice e)) (he : aget e T = some y) (a0 : Option Addr) (len cap : Nat) (hle : len ≤ cap) (lo hi : Option Value) (l h : Option Int) (hl : IsI lo l) (hh : IsI hi h)
    (h0 : 0 ≤ l.getD 0) (h1 : l.getD 0 ≤ h.getD len) (h2 : h.getD len ≤ len) :
    (Instr.sliceAt t (.slice a0 len cap) lo hi none).run P w = .ok (.slice (if cap = (l.getD 0).toNat then a0 else a0.map (·.add ((l.getD 0).toNat * y.size))) ((h.getD len).toNat - (l.getD 0).toNat) (cap - (l.getD 0).toNat)) w := by
  simp only [Instr.sliceAt, Instr.slice, Sem.run_bind, run_underlying hb, Result.andThen_ok]
  simp only [Sem.run_bind, Sem.run_pure, Result.andThen_ok, bounds_ok true len cap hle lo hi l h hl hh h0 h1 h2, (hT _ _ he).sizeOf]

theorem sl_cut {k : Nat} {xs : List (List DV)} {a : Addr} {cap : Nat} (h1 : xs.length ≤ cap) (h2 : cap ≤ maxLen) (h3 : ∀ (i : Nat) (e : List DV), xs[i]? = some e → e.length = k)
    (h4 : ∀ (i : Nat) (e : List DV) (j : Nat) (c : DV), xs[i]? = some e → e[j]? = some c → ok a.block ∧ ∃ u, w.cell? (a.add (i * k + j)) = some u ∧ DDen ok w c u) (l h : Nat) (hl : l ≤ h) (hh : h ≤ xs.length) :
    DDen ok w (.sl k ((xs.take h).drop l)) (.slice (if cap = l then some a else (some a).map (·.add (l * k))) (h - l) (cap - l)) := by
  have hlen : ((xs.take h).drop l).length = h - l := by simp; omega
  by_cases hc : cap = l
  · rw [if_pos hc]
    have e : (xs.take h).drop l = [] := List.eq_nil_of_length_eq_zero (by omega)
    rw [e]
    have := DDen.sl (ok := ok) (w := w) k [] a (cap - l) (by simp) (by omega) (by simp) (by simp) (by simp)
    have e2 : h - l = 0 := by omega
    rw [e2]
    exact this
  · rw [if_neg hc, Option.map_some]
    have key : ∀ (i : Nat) (e : List DV), ((xs.take h).drop l)[i]? = some e → xs[l + i]? = some e := by
      intro i e he
      rw [List.getElem?_drop, List.getElem?_take] at he
      split at he
      · exact he
      · cases he
    have hadd : ∀ i j, (a.add (l * k)).add (i * k + j) = a.add ((l + i) * k + j) := by
      intro i j
      rw [Addr.add_add, Nat.add_mul, Nat.add_assoc]
    have := DDen.sl (ok := ok) (w := w) k ((xs.take h).drop l) (a.add (l * k)) (cap - l) (by omega) (by omega) (fun i e he => h3 _ e (key i e he))
      (fun i e j c he hj => by
        obtain ⟨ho, u, hu, _⟩ := h4 _ e j c (key i e he) hj
        exact ⟨by rw [add_block]; exact ho, u, by rw [hadd]; exact hu⟩)
      (fun i e j c u he hj hu => by
        obtain ⟨_, u', hu', hd'⟩ := h4 _ e j c (key i e he) hj
        rw [hadd, hu'] at hu
        cases hu
        exact hd')
    rw [hlen] at this
    exact this

theorem evSlice_ok (hT : TabOk P T) (hd : ∀ t x, aget t s.tmps = some x → Den μ ok w x (a.tmps.getD t undef)) (t : TypeId) (x : SV) (u : Value) (hx : Den μ ok w x u) (lo hi mx : Option Operand) :
    VOk P μ ok w (Instr.sliceAt t u (lo.map a.eval) (hi.map a.eval) (mx.map a.eval)) (evSlice T s t x lo hi mx) := by
  unfold evSlice
  split
  · trivial
  · split
    · rename_i l h hl hh
      have Hl := optI_is hd hl
      have Hh := optI_is hd hh
      split
      · obtain rfl := hx.vv
        split
        · rename_i ht
          exact VOk.lit fun hp => run_sliceAt_str t (hT _ _ ht).td _ _ _ _ _ Hl Hh hp.1 hp.2.1 hp.2.2
        · trivial
      · rename_i k xs
        split
        · rename_i e _ _ _ ht
          split
          · rename_i y he
            cases hk : Nat.beq k y.size
            · trivial
            · obtain rfl := Nat.eq_of_beq_eq_true hk
              refine fun hp => ?_
              cases hx with | d hx =>
              rcases slOf hx with ⟨rfl, rfl⟩ | ⟨a0, cap, rfl, h1, h2, h3, h4⟩
              · have e1 : (l.getD 0).toNat = 0 := by have := hp.1; have := hp.2.1; have := hp.2.2; simp at *; omega
                have h3 : h.getD ((0 : Nat) : Int) ≤ ((0 : Nat) : Int) := hp.2.2
                have e2 : (h.getD ((0 : Nat) : Int)).toNat = 0 := by omega
                refine ⟨_, run_sliceAt_sl hT t e y (hT _ _ ht).td he none 0 0 (Nat.le_refl _) _ _ _ _ Hl Hh hp.1 (by simpa using hp.2.1) (by simpa using hp.2.2), .d ?_⟩
                rw [e1, e2]
                simp
                exact .slNil _
              · refine ⟨_, run_sliceAt_sl hT t e y (hT _ _ ht).td he (some a0) xs.length cap h1 _ _ _ _ Hl Hh hp.1 hp.2.1 hp.2.2, .d ?_⟩
                exact sl_cut h1 h2 h3 h4 _ _ (by have := hp.1; have := hp.2.1; omega) (by have := hp.2.2; omega)
          · trivial
        · trivial
      · split
        · rename_i e _ _ _ ht
          split
          · rename_i y he
            obtain rfl := hx.nil'
            refine fun hp => ⟨_, run_sliceAt_sl hT t e y (hT _ _ ht).td he none 0 0 (Nat.le_refl _) _ _ _ _ Hl Hh (by rw [hp.1]; exact Int.le_refl 0) (by rw [hp.1]; have := hp.2; simp at this ⊢; omega) (by have := hp.2; simp at this ⊢; omega), .d ?_⟩
            have e1 : (l.getD 0).toNat = 0 := by rw [hp.1]; rfl
            have e2 : (h.getD (0 : Nat)).toNat = 0 := by have := hp.2; simp at this ⊢; omega
            rw [e1, e2]
            simp
            exact .nil
          · trivial
        · trivial
      · rename_i id k lo0 n C
        split
        · rename_i e _ _ _ ht
          split
          · rename_i y he
            cases hk : Nat.beq k y.size
            · trivial
            · obtain rfl := Nat.eq_of_beq_eq_true hk
              refine fun hp => ?_
              cases hx with
              | own hb g1 g2 =>
                rename_i b
                refine ⟨_, run_sliceAt_sl hT t e y (hT _ _ ht).td he (some ⟨b, lo0 * y.size, none⟩) n (C - lo0) (by omega) _ _ _ _ Hl Hh hp.1 hp.2.1 hp.2.2, ?_⟩
                have p1 := hp.1
                have p2 := hp.2.1
                have p3 := hp.2.2
                generalize l.getD 0 = L at p1 p2 ⊢
                generalize h.getD (n : Int) = H at p2 p3 ⊢
                by_cases hc : C - lo0 = L.toNat
                · rw [if_pos hc]
                  have e1 : H.toNat - L.toNat = 0 := by omega
                  have e2 : C = lo0 + L.toNat := by omega
                  rw [e1, hc, Nat.sub_self]
                  subst e2
                  exact .ownNil _ _ _ _
                · rw [if_neg hc, Option.map_some, add_add']
                  have := Den.own (μ := μ) (ok := ok) (w := w) (id := id) (k := y.size) (lo := lo0 + L.toNat) (n := H.toNat - L.toNat) (C := C) (b := b) hb (by omega) g2
                  rw [Nat.add_mul, show C - (lo0 + L.toNat) = C - lo0 - L.toNat by omega] at this
                  exact this
              | ownNil a0 _ _ _ =>
                refine ⟨_, run_sliceAt_sl hT t e y (hT _ _ ht).td he a0 0 0 (by omega) _ _ _ _ Hl Hh hp.1 (by simpa using hp.2.1) (by simpa using hp.2.2), ?_⟩
                have p1 := hp.1
                have p2 := hp.2.1
                have p3 := hp.2.2
                have e1 : (l.getD 0).toNat = 0 := by omega
                have e2 : (h.getD ((0 : Nat) : Int)).toNat = 0 := by omega
                rw [e1, e2]
                simp
                exact .ownNil _ _ _ _
          · trivial
        · trivial
      · trivial
    · trivial

/-! parts of aggregates -/
theorem part1_spec (agg : Bool) (size off : Nat) (cs : List SV) : part1 agg size off cs = .stop ∨ (agg = true ∧ off + size ≤ cs.length ∧ part1 agg size off cs = .val (.agg ((cs.drop off).take size)) True) ∨
    (agg = false ∧ ∃ x, cs[off]? = some x ∧ part1 agg size off cs = .val x True) := by
  cases agg with
  | true =>
    have e : part1 true size off cs = match dk off cs with | some l => (match tk size l with | some l => EvR.val (.agg l) True | none => .stop) | none => .stop := by first | (simp only [part1, dropK_eq, takeK_eq]; done) | (simp only [part1, dropK_eq, takeK_eq]; rfl)
    rw [e]
    unfold dk tk
    by_cases h1 : off ≤ cs.length
    · rw [if_pos h1]
      by_cases h2 : size ≤ (cs.drop off).length
      · right; left
        refine ⟨rfl, by simp at h2; omega, ?_⟩
        simp only [if_pos h2]
      · left
        simp only [if_neg h2]
    · left
      rw [if_neg h1]
  | false =>
    have e : part1 false size off cs = match cs[off]? with | some x => .val x True | none => .stop := by first | (simp only [part1, nth_eq]; done) | (simp only [part1, nth_eq]; rfl)
    rw [e]
    cases h : cs[off]? with
    | none => exact .inl rfl
    | some x => exact .inr (.inr ⟨rfl, x, rfl, rfl⟩)

def Cells (μ : Nat → Option Nat) (ok : Nat → Prop) (w : World) (cs : List SV) (vs : Array Value) : Prop :=
  vs.size = cs.length ∧ ∀ (j : Nat) c u, cs[j]? = some c → vs[j]? = some u → Den μ ok w c u

theorem Cells.sub {cs : List SV} {vs : Array Value} (h : Cells μ ok w cs vs) (off size : Nat) (hl : off + size ≤ cs.length) : Cells μ ok w ((cs.drop off).take size) (vs.extract off (off + size)) := by
  obtain ⟨h1, h2⟩ := h
  refine ⟨by simp; omega, fun j c u hc hu => ?_⟩
  rw [List.getElem?_take] at hc
  split at hc
  · rename_i hj
    rw [List.getElem?_drop] at hc
    rw [Array.getElem?_extract] at hu
    split at hu
    · exact h2 _ c u hc hu
    · cases hu
  · cases hc

theorem part1_ok {f : TypeId} {y : Ty} (hy : TyOk P f y) {cs : List SV} {vs : Array Value} (h : Cells μ ok w cs vs) (off : Nat) : VOk P μ ok w (part f vs off) (part1 y.td.agg y.size off cs) := by
  rcases part1_spec y.td.agg y.size off cs with e | ⟨e1, e2, e⟩ | ⟨e1, x, e2, e⟩ <;> rw [e]
  · trivial
  · refine fun _ => ⟨.agg (vs.extract off (off + y.size)), ?_, ?_⟩
    · simp only [part, Sem.run_bind, hy.isAgg, Result.andThen_ok, e1, if_true, hy.sizeOf, Sem.run_pure]
    · have := h.sub off y.size e2
      exact .agg _ this.1 this.2
  · have hlt : off < vs.size := by
      have := (List.getElem?_eq_some_iff.1 e2).1
      rw [h.1]; exact this
    refine fun _ => ⟨vs[off], ?_, h.2 off x _ e2 (by simp [hlt])⟩
    simp only [part, Sem.run_bind, hy.isAgg, Result.andThen_ok, e1, Bool.false_eq_true, if_false]
    simp [hlt]

theorem field_at (hT : TabOk P T) {t : TypeId} {fs : List (TypeId × Nat)} {z : Ty} (hz : z.td = .struct fs) (ht : aget t T = some z) (f : Nat) (ft off : Nat) (hf : nth fs f = some (ft, off)) :
    ∃ F fd, P.underlying t = some (.struct F) ∧ F[f]? = some fd ∧ fd.type = ft ∧ fd.offset = off := by
  have := (hT _ _ ht).td
  rw [hz] at this
  obtain ⟨F, hF, hm, _⟩ := this
  rw [nth_eq, ← hm, List.getElem?_map, Array.getElem?_toList] at hf
  cases e : F[f]? with
  | none => rw [e] at hf; cases hf
  | some fd =>
    rw [e] at hf
    simp at hf
    exact ⟨F, fd, hF, e, hf.1, hf.2⟩

theorem evField_cases (T : Tab) (t : TypeId) (f : Nat) (k : Nat → Nat → Bool → EvR) : evField T t f k = .stop ∨
    ∃ fs z ft off y, z.td = .struct fs ∧ aget t T = some z ∧ nth fs f = some (ft, off) ∧ aget ft T = some y ∧ evField T t f k = k off y.size y.td.agg := by
  unfold evField
  split
  · rename_i fs a b c ht
    split
    · rename_i ft off hf
      split
      · rename_i y hy
        exact .inr ⟨fs, _, ft, off, y, rfl, ht, hf, hy, rfl⟩
      · exact .inl rfl
    · exact .inl rfl
  · exact .inl rfl

theorem evFieldV_ok (hT : TabOk P T) (t : TypeId) (f : Nat) (cs : List SV) (u : Value) (hx : Den μ ok w (.agg cs) u) : VOk P μ ok w (Instr.field t u f) (evField T t f fun off size agg => part1 agg size off cs) := by
  rcases evField_cases T t f (fun off size agg => part1 agg size off cs) with e | ⟨fs, z, ft, off, y, hz, ht, hf, hy, e⟩ <;> rw [e]
  · trivial
  · obtain ⟨F, fd, h1, h2, rfl, rfl⟩ := field_at hT hz ht f ft off hf
    cases hx with | agg vs h hs =>
    have := part1_ok (hT _ _ hy) ⟨h, hs⟩ fd.offset
    revert this
    generalize part1 y.td.agg y.size fd.offset cs = r
    cases r with
    | val x p =>
      intro this hp
      obtain ⟨v, hv1, hv2⟩ := this hp
      exact ⟨v, by simp only [Instr.field, Sem.run_bind, run_underlying h1, Result.andThen_ok, h2, asAgg, Sem.run_pure]; exact hv1, hv2⟩
    | _ => exact id

theorem run_fieldAt (hT : TabOk P T) {t : TypeId} {fs : List (TypeId × Nat)} {z : Ty} (hz : z.td = .struct fs) (ht : aget t T = some z) (f : Nat) (ft off : Nat) (hf : nth fs f = some (ft, off)) {y : Ty} (hy : aget ft T = some y) (hs : y.size ≠ 0) (a : Addr) :
    (Instr.fieldAt t (.pointer (some a)) f).run P w = .ok (.pointer (some (a.add off))) w := by
  obtain ⟨F, fd, h1, h2, rfl, rfl⟩ := field_at hT hz ht f ft off hf
  simp only [Instr.fieldAt, Sem.run_bind, run_underlying h1, Result.andThen_ok, h2, Instr.sureAddr, Sem.run_pure, fieldPlace, (hT _ _ hy).sizeOf, if_neg hs]

theorem evFieldA_ok (hT : TabOk P T) (t : TypeId) (f : Nat) (x : SV) (u : Value) (hx : Den μ ok w x u) : VOk P μ ok w (Instr.fieldAt t u f)
    (match (some x : Option SV) with
    | some (.ptr id j) => evField T t f fun off size _ => match size with | 0 => .stop | _ + 1 => .val (.ptr id (j + off)) True
    | some (.pel id k i j) => evField T t f fun off size _ => match size with | 0 => .stop | _ + 1 => .val (.pel id k i (j + off)) True
    | some (.ip cs) => evField T t f fun off size _ => match size with | 0 => .stop | _ + 1 => dropK off cs fun o => match o with | some cs' => .val (.ip cs') True | none => .stop
    | _ => .stop) := by
  cases x with
  | ptr id j =>
    cases hx with | ptr hb =>
    rename_i b
    simp only
    rcases evField_cases T t f (fun off size _ => match size with | 0 => EvR.stop | _ + 1 => .val (.ptr id (j + off)) True) with e | ⟨fs, z, ft, off, y, hz, ht, hf, hy, e⟩ <;> rw [e]
    · trivial
    · cases hs : y.size with
      | zero => trivial
      | succ n => exact fun _ => ⟨_, run_fieldAt hT hz ht f ft off hf hy (by omega) _, by rw [add_add']; exact .ptr hb⟩
  | pel id k i j =>
    cases hx with | pel hb =>
    rename_i b
    simp only
    rcases evField_cases T t f (fun off size _ => match size with | 0 => EvR.stop | _ + 1 => .val (.pel id k i (j + off)) True) with e | ⟨fs, z, ft, off, y, hz, ht, hf, hy, e⟩ <;> rw [e]
    · trivial
    · cases hs : y.size with
      | zero => trivial
      | succ n => exact fun _ => ⟨_, run_fieldAt hT hz ht f ft off hf hy (by omega) _, by rw [add_add', Nat.add_assoc]; exact .pel hb⟩
  | ip cs =>
    cases hx with | ip a h4 =>
    simp only
    rcases evField_cases T t f (fun off size _ => match size with | 0 => EvR.stop | _ + 1 => dropK off cs fun o => match o with | some cs' => .val (.ip cs') True | none => .stop) with e | ⟨fs, z, ft, off, y, hz, ht, hf, hy, e⟩ <;> rw [e]
    · trivial
    · cases hs : y.size with
      | zero => trivial
      | succ n =>
        simp only [dropK_eq, dk]
        by_cases hl : off ≤ cs.length
        · simp only [if_pos hl]
          refine fun _ => ⟨_, run_fieldAt hT hz ht f ft off hf hy (by omega) _, .ip _ fun j c hj => ?_⟩
          rw [List.getElem?_drop] at hj
          obtain ⟨ho, u, hu, hd⟩ := h4 _ c hj
          exact ⟨by rw [add_block]; exact ho, u, by rw [Addr.add_add]; exact hu, hd⟩
        · simp only [if_neg hl]
          trivial
  | _ => trivial

end
end Go.Sy

/-
  SYMBOLIC STATES, over any program, part 5: 'ev' tells the truth: literals, loads, stores, and all of it.
-/
namespace Go.Sy
open Go.RowKit

section
variable {P : Program} {T : Tab} {μ : Nat → Option Nat} {ok : Nat → Prop} {s : St} {a : Act} {w : World}

theorem fold_set (l : List Value) : ∀ (k off : Nat) (c : Array Value), ((l.zipIdx k).foldl (fun (cs : Array Value) (p : Value × Nat) => cs.setIfInBounds (off + p.2) p.1) c).size = c.size ∧
    ∀ m, ((l.zipIdx k).foldl (fun (cs : Array Value) (p : Value × Nat) => cs.setIfInBounds (off + p.2) p.1) c)[m]? = if off + k ≤ m ∧ m < off + k + l.length ∧ m < c.size then l[m - (off + k)]? else c[m]? := by
  induction l with
  | nil => intro k off c; refine ⟨rfl, fun m => ?_⟩; rw [if_neg (by simp; omega)]; rfl
  | cons v l ih =>
    intro k off c
    obtain ⟨h1, h2⟩ := ih (k + 1) off (c.setIfInBounds (off + k) v)
    simp only [List.zipIdx_cons, List.foldl_cons]
    refine ⟨by rw [h1]; simp, fun m => ?_⟩
    rw [h2 m]
    simp only [Array.size_setIfInBounds, List.length_cons]
    by_cases hm : m = off + k
    · subst hm
      rw [if_neg (by omega)]
      by_cases hc : off + k < c.size
      · rw [if_pos ⟨by omega, by omega, hc⟩]; simp [hc]
      · rw [if_neg (by omega)]
        simp [hc]
    · by_cases hlt : off + k ≤ m ∧ m < off + k + (l.length + 1) ∧ m < c.size
      · rw [if_pos hlt, if_pos (by omega)]
        have e : m - (off + k) = (m - (off + (k + 1))) + 1 := by omega
        rw [e, List.getElem?_cons_succ]
      · rw [if_neg hlt, if_neg (by omega), Array.getElem?_setIfInBounds_ne (by omega)]

theorem fill_one (v : Value) (off : Nat) (c : Array Value) : (v.cells.zipIdx.foldl (fun (cs : Array Value) (p : Value × Nat) => cs.setIfInBounds (off + p.2) p.1) c).size = c.size ∧
    ∀ m, (v.cells.zipIdx.foldl (fun (cs : Array Value) (p : Value × Nat) => cs.setIfInBounds (off + p.2) p.1) c)[m]? = if off ≤ m ∧ m < off + v.cells.size ∧ m < c.size then v.cells[m - off]? else c[m]? := by
  have := fold_set v.cells.toList 0 off c
  rw [← Array.foldl_toList, Array.toList_zipIdx]
  simpa using this

theorem cells_one (u : Value) (h : ∀ cs, u ≠ .agg cs) : u.cells = #[u] := by
  cases u <;> first | rfl | exact absurd rfl (h _)

theorem den_agg {x : SV} {vs : Array Value} (h : Den μ ok w x (.agg vs)) : (∃ cs, x = .agg cs) ∨ x = .d (.v (.agg vs)) := by
  cases h with
  | agg _ _ _ => exact .inl ⟨_, rfl⟩
  | d h => cases h; exact .inr rfl

theorem den_tup {x : SV} {vs : Array Value} (h : Den μ ok w x (.tuple vs)) : (∃ cs, x = .tup cs) ∨ x = .d (.v (.tuple vs)) := by
  cases h with
  | tup _ _ _ => exact .inl ⟨_, rfl⟩
  | d h => cases h; exact .inr rfl

theorem isCell_ok {x : SV} {u : Value} (h : Den μ ok w x u) (hc : isCell x = true) : u.oneCell' = true := by
  cases u <;> first | rfl | skip
  · rcases den_agg h with ⟨cs, rfl⟩ | rfl <;> cases hc
  · rcases den_tup h with ⟨cs, rfl⟩ | rfl <;> cases hc

theorem cellsOf_ok {x : SV} {u : Value} (h : Den μ ok w x u) {cs : List SV} (hc : cellsOf x = some cs) : Cells μ ok w cs u.cells := by
  by_cases hu : ∃ vs, u = .agg vs
  · obtain ⟨vs, rfl⟩ := hu
    rcases den_agg h with ⟨cs', rfl⟩ | rfl
    · simp only [cellsOf, Option.some.injEq] at hc
      subst hc
      cases h with | agg _ h1 h2 => exact ⟨h1, h2⟩
    · cases hc
  · have hu' : ∀ cs, u ≠ .agg cs := fun cs e => hu ⟨cs, e⟩
    rw [cells_one u hu']
    have e : cs = [x] := by
      cases x with
      | agg l => cases h with | agg vs _ _ => exact absurd rfl (hu' _)
      | tup l => cases hc
      | d y => cases y with
        | v z => cases z <;> first | (cases hc; rfl) | cases hc
        | _ => cases hc; rfl
      | _ => cases hc; rfl
    subst e
    refine ⟨rfl, fun j c v hj hv => ?_⟩
    cases j with
    | zero => simp at hj hv; subst hj hv; exact h
    | succ j => simp at hj

theorem allCells_mem {l : List SV} (h : allCells l = true) : ∀ x ∈ l, isCell x = true := by
  induction l with
  | nil => simp
  | cons x l ih =>
    simp only [allCells] at h
    cases hx : isCell x
    · rw [hx] at h; cases h
    · rw [hx] at h
      intro y hy
      rcases List.mem_cons.1 hy with rfl | hy
      · exact hx
      · exact ih h y hy

theorem Cells.one {cs : List SV} {vs : Array Value} (h : Cells μ ok w cs vs) (hc : allCells cs = true) : ∀ u ∈ vs.toList, u.oneCell' = true := by
  intro u hu
  obtain ⟨j, hj⟩ := List.mem_iff_getElem?.1 hu
  rw [Array.getElem?_toList] at hj
  have hlt : j < cs.length := by
    have := (Array.getElem?_eq_some_iff.1 hj).1
    rw [← h.1]; exact this
  exact isCell_ok (h.2 j cs[j] u (by simp [hlt]) hj) (allCells_mem hc _ (by simp))

theorem Cells.laid {cs vs cs' : List SV} {c : Array Value} {v : Value} {off : Nat} (h : Cells μ ok w cs c) (hv : Cells μ ok w vs v.cells) (hl : laid off vs cs = some cs') {c' : Array Value} (hs : c'.size = c.size)
    (hm : ∀ m, c'[m]? = if off ≤ m ∧ m < off + v.cells.size ∧ m < c.size then v.cells[m - off]? else c[m]?) : Cells μ ok w cs' c' := by
  obtain ⟨h1, h2, h3⟩ := laid_spec off vs cs cs' hl
  refine ⟨by rw [hs, h.1, h1], fun j x u hx hu => ?_⟩
  rw [h3 j] at hx
  rw [hm j] at hu
  have hsz := h.1
  have hvz := hv.1
  by_cases a1 : j < off
  · rw [if_pos a1] at hx
    rw [if_neg (by omega)] at hu
    exact h.2 j x u hx hu
  · rw [if_neg a1] at hx
    by_cases a2 : j < off + vs.length
    · rw [if_pos a2] at hx
      rw [if_pos (by omega)] at hu
      exact hv.2 _ x u hx hu
    · rw [if_neg a2] at hx
      rw [if_neg (by omega)] at hu
      exact h.2 j x u hx hu

/-! literals -/
def fillD (s : St) (place : Nat → Option (Nat × Nat)) : List (Nat × Operand) → List SV → Option (List SV)
  | [], cs => some cs
  | (i, o) :: l, cs =>
    match place i, opd s o with
    | some (off, size), some x => match cellsOf x with
      | some vs => if vs.length = size then (match laid off vs cs with
        | some cs' => fillD s place l cs'
        | none => none) else none
      | none => none
    | _, _ => none

theorem beq_iff {m n : Nat} : Nat.beq m n = decide (m = n) := by
  by_cases h : m = n
  · subst h; simp
  · rw [beq_ne h]; simp [h]

theorem fillK_eq (s : St) (place : Nat → Option (Nat × Nat)) (l : List (Nat × Operand)) (cs : List SV) (k : List SV → EvR) : fillK s place l cs k = match fillD s place l cs with | some r => k r | none => .stop := by
  induction l generalizing cs with
  | nil => rfl
  | cons p l ih =>
    obtain ⟨i, o⟩ := p
    simp only [fillK, fillD]
    cases hp : place i with
    | none => rfl
    | some q =>
      obtain ⟨off, size⟩ := q
      cases ho : opd s o with
      | none => rfl
      | some x =>
        simp only
        cases hc : cellsOf x with
        | none => rfl
        | some vs =>
          simp only [lenK_eq, beq_iff, putK_eq]
          by_cases hl : vs.length = size
          · simp only [hl, decide_true, cond_true, if_true]
            cases hla : laid off vs cs with
            | none => rfl
            | some cs' => simp only; exact ih cs'
          · simp only [hl, decide_false, cond_false, if_false]

theorem fillD_ok (hd : ∀ t x, aget t s.tmps = some x → Den μ ok w x (a.tmps.getD t undef)) (place : Nat → Option (Nat × Nat)) (l : List (Nat × Operand)) : ∀ (cs cs' : List SV) (c : Array Value), Cells μ ok w cs c → fillD s place l cs = some cs' →
    ∃ c', Instr.fill place c (l.map fun (i, x) => (i, a.eval x)) = some c' ∧ Cells μ ok w cs' c' := by
  induction l with
  | nil =>
    intro cs cs' c h hf
    simp only [fillD, Option.some.injEq] at hf
    subst hf
    exact ⟨c, rfl, h⟩
  | cons p l ih =>
    intro cs cs' c h hf
    obtain ⟨i, o⟩ := p
    simp only [fillD] at hf
    cases hp : place i with
    | none => rw [hp] at hf; cases hf
    | some q =>
      obtain ⟨off, size⟩ := q
      rw [hp] at hf
      cases ho : opd s o with
      | none => rw [ho] at hf; cases hf
      | some x =>
        rw [ho] at hf
        simp only at hf
        cases hc : cellsOf x with
        | none => rw [hc] at hf; cases hf
        | some vs =>
          rw [hc] at hf
          simp only at hf
          by_cases hl : vs.length = size
          · rw [if_pos hl] at hf
            cases hla : laid off vs cs with
            | none => rw [hla] at hf; cases hf
            | some cs1 =>
              rw [hla] at hf
              have hx := opd_den hd ho
              have hv := cellsOf_ok hx hc
              obtain ⟨f1, f2⟩ := fill_one (a.eval o) off c
              obtain ⟨_, hb, _⟩ := laid_spec off vs cs cs1 hla
              obtain ⟨c', g1, g2⟩ := ih cs1 cs' _ (h.laid hv hla f1 f2) hf
              refine ⟨c', ?_, g2⟩
              simp only [List.map_cons, Instr.fill, hp]
              rw [if_neg]
              · exact g1
              · have := hv.1; have := h.1
                simp; omega
          · rw [if_neg hl] at hf; cases hf

theorem zero_cells {z : Value} {l : List DV} (h : z.cells.toList.map some = l.map dvCell) : Cells μ ok w (l.map SV.d) z.cells := by
  have hl : z.cells.size = l.length := by
    have := congrArg List.length h
    simpa using this
  refine ⟨by simp [hl], fun j c u hc hu => ?_⟩
  have hj := congrArg (fun l => l[j]?) h
  simp only [List.getElem?_map, Array.getElem?_toList, hu] at hj
  rw [List.getElem?_map] at hc
  cases e : l[j]? with
  | none => rw [e] at hc; cases hc
  | some x =>
    rw [e] at hc hj
    simp at hc hj
    subst hc
    cases x with
    | v y => simp [dvCell] at hj; subst hj; exact .d (.v _)
    | nil => simp [dvCell] at hj; subst hj; exact .d .nil
    | sl k xs => simp [dvCell] at hj

theorem run_places (F : List Field) (h : (F.all fun f => (P.info? f.type).isSome) = true) :
    (F.mapM (m := Sem) fun f => do pure (f.offset, ← sizeOf f.type)).run P w = .ok (F.map fun f => (f.offset, ((P.info? f.type).map (·.size)).getD 0)) w := by
  induction F with
  | nil => rfl
  | cons f F ih =>
    simp only [List.all_cons, Bool.and_eq_true] at h
    obtain ⟨h1, h2⟩ := h
    obtain ⟨i, hi⟩ := Option.isSome_iff_exists.1 h1
    have hs : (sizeOf f.type).run P w = .ok i.size w := by simp [sizeOf, typeInfo, hi]
    simp only [List.mapM_cons, Sem.run_bind, hs, Result.andThen_ok, Sem.run_pure, ih h2, List.map_cons, hi, Option.map_some, Option.getD_some]

theorem TyOk.size_eq {t : TypeId} {y : Ty} (h : TyOk P t y) : ((P.info? t).map (·.size)).getD 0 = y.size := by
  obtain ⟨i, z, h1, h2, _⟩ := h.info
  simp [h1, h2]

theorem evBuild_ok (hT : TabOk P T) (hd : ∀ t x, aget t s.tmps = some x → Den μ ok w x (a.tmps.getD t undef)) (t : TypeId) (ps : Array (Nat × Operand)) :
    VOk P μ ok w (Instr.build t (ps.map fun (i, x) => (i, a.eval x))) (evBuild T s t ps.toList) := by
  unfold evBuild
  split
  · rename_i y ht
    have hty := hT _ _ ht
    obtain ⟨z, hz1, hz2⟩ := hty.zeroValue (w := w)
    have hc : Cells μ ok w (y.zero.map SV.d) z.cells := zero_cells hz2
    split
    · rename_i fs hfs
      simp only [mapK_eq, fillK_eq]
      cases hf : fillD s (structPlace T fs) ps.toList (y.zero.map SV.d) with
      | none => trivial
      | some cs' =>
        have htd := hty.td
        rw [hfs] at htd
        obtain ⟨F, hF, hm, hall⟩ := htd
        -- the places that the model takes
        have hpl : ∀ (places : Array (Nat × Nat)), places.toList = (F.toList.map fun f => (f.offset, ((P.info? f.type).map (·.size)).getD 0)) → ∀ i q, structPlace T fs i = some q → places[i]? = some q := by
          intro places hp i q hq
          unfold structPlace at hq
          rw [nth_eq, ← hm, List.getElem?_map, Array.getElem?_toList] at hq
          rw [← Array.getElem?_toList, hp, List.getElem?_map, Array.getElem?_toList]
          cases e : F[i]? with
          | none => rw [e] at hq; cases hq
          | some f =>
            rw [e] at hq
            simp only [Option.map_some] at hq
            cases e2 : aget f.type T with
            | none => rw [e2] at hq; cases hq
            | some y2 =>
              rw [e2] at hq
              simp only [Option.some.injEq] at hq
              subst hq
              simp [(hT _ _ e2).size_eq]
        intro _
        have hmono : ∀ (places : Array (Nat × Nat)) (l : List (Nat × Operand)) (cs cs' : List SV), (∀ i q, structPlace T fs i = some q → places[i]? = some q) → fillD s (structPlace T fs) l cs = some cs' → fillD s (places[·]?) l cs = some cs' := by
          intro places l
          induction l with
          | nil => intro cs cs' _ h; exact h
          | cons p l ih =>
            intro cs cs' hpl h
            obtain ⟨i, o⟩ := p
            simp only [fillD] at h ⊢
            cases hp : structPlace T fs i with
            | none => rw [hp] at h; cases h
            | some q =>
              rw [hp] at h
              rw [hpl i q hp]
              obtain ⟨off, size⟩ := q
              cases ho : opd s o with
              | none => rw [ho] at h; cases h
              | some x =>
                rw [ho] at h
                simp only at h ⊢
                cases hc : cellsOf x with
                | none => rw [hc] at h; cases h
                | some vs =>
                  rw [hc] at h
                  simp only at h ⊢
                  by_cases hl : vs.length = size
                  · rw [if_pos hl] at h ⊢
                    cases hla : laid off vs cs with
                    | none => rw [hla] at h; cases h
                    | some cs1 => rw [hla] at h; simp only at h ⊢; exact ih _ _ hpl h
                  · rw [if_neg hl] at h; cases h
        let places : Array (Nat × Nat) := (F.toList.map fun f => (f.offset, ((P.info? f.type).map (·.size)).getD 0)).toArray
        obtain ⟨c', g1, g2⟩ := fillD_ok hd (places[·]?) ps.toList _ _ _ hc (hmono places _ _ _ (hpl places (by simp [places])) hf)
        refine ⟨.agg c', ?_, .agg _ g2.1 g2.2⟩
        simp only [Instr.build, Sem.run_bind, hz1, Result.andThen_ok, run_underlying hF]
        rw [Array.mapM_eq_mapM_toList, Sem.run_map, run_places _ hall]
        simp only [Result.andThen_ok]
        have e : (Array.map (fun (x : Nat × Operand) => (x.1, a.eval x.2)) ps).toList = ps.toList.map fun (i, x) => (i, a.eval x) := by simp
        rw [e]
        simp only [places] at g1
        rw [g1]
        rfl
    · rename_i n e hfs
      split
      · rename_i y2 he
        simp only [mapK_eq, fillK_eq]
        cases hf : fillD s (fun i => some (i * y2.size, y2.size)) ps.toList (y.zero.map SV.d) with
        | none => trivial
        | some cs' =>
          have htd := hty.td
          rw [hfs] at htd
          obtain ⟨c', g1, g2⟩ := fillD_ok hd _ ps.toList _ _ _ hc hf
          refine fun _ => ⟨.agg c', ?_, .agg _ g2.1 g2.2⟩
          simp only [Instr.build, Sem.run_bind, hz1, Result.andThen_ok, run_underlying htd, (hT _ _ he).sizeOf]
          have e : (Array.map (fun (x : Nat × Operand) => (x.1, a.eval x.2)) ps).toList = ps.toList.map fun (i, x) => (i, a.eval x) := by simp
          rw [e, g1]
          rfl
      · trivial
    · trivial
  · trivial

/-! a literal of a slice -/
def rowD (s : St) (size : Nat) : Nat → List (Nat × Operand) → Option (List (List SV))
  | _, [] => some []
  | i, (j, o) :: l =>
    if i = j then (match opd s o with
      | some x => match cellsOf x with
        | some vs => if vs.length = size ∧ allCells vs = true then (match rowD s size (i + 1) l with | some l' => some (vs :: l') | none => none) else none
        | none => none
      | none => none) else none

theorem rowK_eq (s : St) (size : Nat) (l : List (Nat × Operand)) : ∀ (i : Nat) (k : Option (List (List SV)) → EvR), rowK s size i l k = k (rowD s size i l) := by
  induction l with
  | nil => intro i k; rfl
  | cons p l ih =>
    intro i k
    obtain ⟨j, o⟩ := p
    simp only [rowK, rowD, beq_iff]
    by_cases hj : i = j
    · simp only [hj, decide_true, cond_true, if_true]
      cases ho : opd s o with
      | none => rfl
      | some x =>
        simp only
        cases hc : cellsOf x with
        | none => rfl
        | some vs =>
          simp only [lenK_eq, beq_iff]
          by_cases h1 : vs.length = size
          · simp only [h1, decide_true, cond_true]
            cases h2 : allCells vs
            · simp
            · simp only [cond_true, and_self, if_true, ← hj, ih]
              cases rowD s size (i + 1) l <;> rfl
          · simp only [h1, decide_false, cond_false, false_and, if_false]
    · simp only [hj, decide_false, cond_false, if_false]

theorem rowD_ok (hd : ∀ t x, aget t s.tmps = some x → Den μ ok w x (a.tmps.getD t undef)) (size n : Nat) (l : List (Nat × Operand)) : ∀ (i : Nat) (xs : List (List SV)) (c : Array Value), c.size = n * size → i + l.length ≤ n → rowD s size i l = some xs →
    xs.length = l.length ∧ (∀ (q : Nat) (e : List SV), xs[q]? = some e → e.length = size) ∧
    ∃ c', Instr.fill (fun i => some (i * size, size)) c (l.map fun (i, x) => (i, a.eval x)) = some c' ∧ c'.size = c.size ∧ (∀ m, m < i * size → c'[m]? = c[m]?) ∧
      ∀ (q : Nat) (e : List SV) (j : Nat) (x : SV) (u : Value), xs[q]? = some e → e[j]? = some x → c'[(i + q) * size + j]? = some u → Den μ ok w x u := by
  induction l with
  | nil =>
    intro i xs c hs hl h
    simp only [rowD, Option.some.injEq] at h
    subst h
    exact ⟨rfl, by simp, c, rfl, rfl, fun _ _ => rfl, by simp⟩
  | cons p l ih =>
    intro i xs c hs hl h
    obtain ⟨j, o⟩ := p
    simp only [List.length_cons] at hl
    simp only [rowD] at h
    by_cases hj : i = j
    · subst hj
      rw [if_pos rfl] at h
      cases ho : opd s o with
      | none => rw [ho] at h; cases h
      | some x =>
        rw [ho] at h
        simp only at h
        cases hc : cellsOf x with
        | none => rw [hc] at h; cases h
        | some vs =>
          rw [hc] at h
          simp only at h
          by_cases h1 : vs.length = size ∧ allCells vs = true
          · rw [if_pos h1] at h
            obtain ⟨h1, h2⟩ := h1
            cases hr : rowD s size (i + 1) l with
            | none => rw [hr] at h; cases h
            | some xs' =>
              rw [hr] at h
              simp only [Option.some.injEq] at h
              subst h
              have hv := cellsOf_ok (opd_den hd ho) hc
              obtain ⟨f1, f2⟩ := fill_one (a.eval o) (i * size) c
              have hle : (i + 1) * size ≤ n * size := Nat.mul_le_mul_right _ (by omega)
              have hex : (i + 1) * size = i * size + size := by rw [Nat.add_mul, Nat.one_mul]
              obtain ⟨g0, g0', c', g1, g2, g3, g4⟩ := ih (i + 1) xs' _ (by rw [f1]; exact hs) (by omega) hr
              refine ⟨by simp [g0], fun q e he => ?_, c', ?_, g2.trans f1, fun m hm => ?_, fun q e j x u he hx hu => ?_⟩
              · cases q with
                | zero => simp at he; subst he; exact h1
                | succ q => exact g0' q e (by simpa using he)
              · simp only [List.map_cons, Instr.fill]
                rw [if_neg]
                · exact g1
                · have := hv.1
                  simp; omega
              · rw [g3 m (by omega), f2 m, if_neg (by omega)]
              · cases q with
                | zero =>
                  simp at he
                  subst he
                  have hjl : j < vs.length := (List.getElem?_eq_some_iff.1 hx).1
                  rw [Nat.add_zero, g3 _ (by omega), f2, if_pos (by have := hv.1; omega)] at hu
                  have e1 : i * size + j - i * size = j := by omega
                  rw [e1] at hu
                  exact hv.2 j x u hx hu
                | succ q =>
                  have e1 : (i + (q + 1)) = (i + 1) + q := by omega
                  rw [e1] at hu
                  exact g4 q e j x u (by simpa using he) hx hu
          · rw [if_neg h1] at h; cases h
    · rw [if_neg hj] at h; cases h

def EvOk (P : Program) (μ : Nat → Option Nat) (ok : Nat → Prop) (s : St) (a : Act) (w : World) (o : Oper) : EvR → Prop
  | .val x p => p → ∃ y, (execOp a.eval o).run P w = .ok (.value y) w ∧ Den μ ok w x y
  | .box cs => ∃ c T, (execOp a.eval o).run P w = .ok (.value (.pointer (some ⟨w.heap.size, 0, none⟩))) (w.alloc (.cells c T)) ∧ Cells μ ok w cs c
  | .row T k xs n => ∃ c, (execOp a.eval o).run P w = .ok (.value (.slice (some ⟨w.heap.size, 0, none⟩) n n)) (w.alloc (.cells c T)) ∧ n ≤ maxLen ∧ c.size = n * k ∧ xs.length = n ∧
      (∀ (i : Nat) (e : List SV), xs[i]? = some e → e.length = k) ∧ ∀ (i : Nat) (e : List SV) (j : Nat) (x : SV) (u : Value), xs[i]? = some e → e[j]? = some x → c[i * k + j]? = some u → Den μ ok w x u
  | .set id cs => ∃ b w', (execOp a.eval o).run P w = .ok .skip w' ∧ μ id = some b ∧ ¬ ok b ∧ Upd w w' b ∧ DenB μ ok w' b (.box cs) ∧ ∃ B0, aget id s.heap = some B0
  | .stop => True

theorem VOk.ev {o : Oper} {m : Sem Value} {r : EvR} (h : VOk P μ ok w m r) (e : execOp a.eval o = (do pure (.value (← m)))) : EvOk P μ ok s a w o r := by
  cases r with
  | val x p =>
    intro hp
    obtain ⟨y, h1, h2⟩ := h hp
    exact ⟨y, by rw [e, Sem.run_bind, h1]; rfl, h2⟩
  | stop => trivial
  | _ => exact h.elim

theorem evRow_ok (hT : TabOk P T) (hd : ∀ t x, aget t s.tmps = some x → Den μ ok w x (a.tmps.getD t undef)) (o : Oper) (t n : Nat) (ps : Array (Nat × Operand)) (ho : o.op = .buildSlice t n ps) : EvOk P μ ok s a w o (ev T s (.buildSlice t n ps)) := by
  simp only [ev]
  split
  · rename_i e _ _ _ ht
    split
    · rename_i y he
      simp only [lenK_eq, beq_iff, rowK_eq]
      cases h1 : (decide (ps.toList.length = n) && (Nat.ble (n * y.size) 16777216 && Nat.ble n 16777216))
      · trivial
      · simp only [cond_true]
        simp only [Bool.and_eq_true, decide_eq_true_eq] at h1
        obtain ⟨h1, h2, h3⟩ := h1
        have h3 : n ≤ 16777216 := Nat.le_of_ble_eq_true h3
        have h2 : n * y.size ≤ 16777216 := Nat.le_of_ble_eq_true h2
        cases hr : rowD s y.size 0 ps.toList with
        | none => trivial
        | some xs =>
          have hty := hT _ _ he
          obtain ⟨z, hz1, hz2⟩ := hty.zeroValue (w := w)
          have hsz : z.cells.size = y.zero.length := by simpa using congrArg List.length hz2
          let c0 : Array Value := (Array.range (n * y.size)).map fun x => (if n * y.size = 0 then #[] else z.cells)[x % (if n * y.size = 0 then #[] else z.cells).size]!
          obtain ⟨g0, g0', c', g1, g2, g3, g4⟩ := rowD_ok hd y.size n ps.toList 0 xs c0 (by simp [c0]) (by omega) hr
          refine ⟨c', ?_, ?_, by rw [g2]; simp [c0], by omega, g0', fun i e j x u he hx hu => g4 i e j x u he hx (by simpa using hu)⟩
          · have e1 : (ps.map fun (x : Nat × Operand) => (x.1, a.eval x.2)).toList = ps.toList.map fun (i, x) => (i, a.eval x) := by simp
            simp only [execOp, ho, Instr.buildSlice, Sem.run_bind, run_underlying (hT _ _ ht).td, Result.andThen_ok, hty.sizeOf]
            have e2 : ¬ n * y.size > 2 ^ 24 := by omega
            simp only [if_neg e2]
            simp only [c0] at g1
            by_cases hz : n * y.size = 0
            · simp only [if_pos hz] at g1 ⊢
              simp only [Sem.run_bind, Result.andThen_ok, Sem.run_pure]
              rw [e1, g1]
              simp [newRow]
            · simp only [if_neg hz] at g1 ⊢
              simp only [Sem.run_bind, Result.andThen_ok, Sem.run_pure, hz1]
              rw [e1, g1]
              simp [newRow]
          · unfold maxLen; omega
    · trivial
  · trivial

end
end Go.Sy

/-
  SYMBOLIC STATES, over any program, part 6: 'ev' tells the truth, for every operation.
-/
namespace Go.Sy
open Go.RowKit

section
variable {P : Program} {T : Tab} {μ : Nat → Option Nat} {ok : Nat → Prop} {s : St} {a : Act} {w : World}

theorem cell_at {b j : Nat} {c : Array Value} {t : TypeId} {z : Nat × Nat} (h : w.heap[b]? = some (.cells c t z)) : w.cell? ⟨b, j, none⟩ = c[j]? := by
  simp [World.cell?, h]

theorem evLoad_ok (hT : TabOk P T) (hh : ∀ i B, aget i s.heap = some B → (B.ghost ∧ μ i = none) ∨ ∃ b, μ i = some b ∧ ¬ ok b ∧ DenB μ ok w b B) (t : TypeId) (x : SV) (u : Value) (hx : Den μ ok w x u) :
    VOk P μ ok w (Instr.loadAt t u) (evLoad T s t x) := by
  unfold evLoad
  split
  · rename_i y ht
    have hty := hT _ _ ht
    split
    · rename_i id j
      cases hx with | ptr hb =>
      rename_i b
      split
      · rename_i cs hcs
        obtain ⟨h, _⟩ | ⟨b', h1, h2, c, T', z, h3, h4, h5, h6⟩ := hh _ _ hcs
        · exact h.elim
        rw [hb] at h1
        cases h1
        rcases part1_spec y.td.agg y.size j cs with e | ⟨e1, e2, e⟩ | ⟨e1, v, e2, e⟩ <;> rw [e]
        · trivial
        · have hs : Cells μ ok w ((cs.drop j).take y.size) (c.extract j (j + y.size)) := Cells.sub ⟨h5, h6⟩ j y.size e2
          refine fun _ => ⟨.agg (c.extract j (j + y.size)), ?_, .agg _ hs.1 hs.2⟩
          simp only [Instr.loadAt, Instr.sureAddr, Sem.run_bind, Sem.run_pure, Result.andThen_ok]
          have := run_loadVar (w := w) hty ⟨b, j, none⟩ (c.extract j (j + y.size)).toList (by simp; omega) (fun k v hv => by
            rw [add_add', cell_at h3]
            rw [Array.getElem?_toList, Array.getElem?_extract] at hv
            split at hv
            · exact hv
            · cases hv) e1
          rw [this]
        · have hlt : j < c.size := by have := (List.getElem?_eq_some_iff.1 e2).1; omega
          refine fun _ => ⟨c[j], ?_, h6 j v _ e2 (by simp [hlt])⟩
          simp only [Instr.loadAt, Instr.sureAddr, Sem.run_bind, Sem.run_pure, Result.andThen_ok]
          exact run_loadVar1 hty _ _ (by rw [cell_at h3]; simp [hlt]) e1
      · trivial
    · rename_i cs
      cases hx with | ip a0 h4 =>
      rw [mapK_eq]
      rcases part1_spec y.td.agg y.size 0 (cs.map sd) with e | ⟨e1, e2, e⟩ | ⟨e1, v, e2, e⟩ <;> rw [e]
      · trivial
      · simp only [List.length_map, Nat.zero_add] at e2
        -- the cells that lie there
        have hv : ∃ vs : List Value, vs.length = y.size ∧ ∀ (j : Nat) v, vs[j]? = some v → w.cell? (a0.add j) = some v := by
          refine ⟨(List.range y.size).map fun j => (w.cell? (a0.add j)).getD undef, by simp, fun j v hv => ?_⟩
          rw [List.getElem?_map] at hv
          by_cases hj : j < y.size
          · rw [List.getElem?_range hj] at hv
            obtain ⟨_, u, hu, _⟩ := h4 j cs[j] (by simp)
            simp [hu] at hv
            first | rw [hu, hv] | rw [hu] | exact hv
          · rw [List.getElem?_eq_none (by simpa using hj)] at hv; cases hv
        obtain ⟨vs, hv1, hv2⟩ := hv
        refine fun _ => ⟨.agg vs.toArray, ?_, .agg _ (by simp; omega) fun j c u hc hu => ?_⟩
        · simp only [Instr.loadAt, Instr.sureAddr, Sem.run_bind, Sem.run_pure, Result.andThen_ok]
          rw [run_loadVar hty a0 vs hv1 hv2 e1]
        · simp only [List.drop_zero] at hc
          rw [List.getElem?_take] at hc
          split at hc
          · rw [List.getElem?_map] at hc
            cases e3 : cs[j]? with
            | none => rw [e3] at hc; cases hc
            | some c' =>
              rw [e3] at hc
              simp at hc
              subst hc
              obtain ⟨_, u', hu', hd'⟩ := h4 j c' e3
              have := hv2 j u (by simpa using hu)
              rw [this] at hu'
              cases hu'
              exact sd_den hd'
          · cases hc
      · rw [List.getElem?_map] at e2
        cases e3 : cs[0]? with
        | none => rw [e3] at e2; cases e2
        | some c' =>
          rw [e3] at e2
          simp at e2
          subst e2
          obtain ⟨_, u', hu', hd'⟩ := h4 0 c' e3
          refine fun _ => ⟨u', ?_, sd_den hd'⟩
          simp only [Instr.loadAt, Instr.sureAddr, Sem.run_bind, Sem.run_pure, Result.andThen_ok]
          exact run_loadVar1 hty _ _ (by simpa [Addr.add] using hu') e1
    · trivial
  · trivial

theorem evStore_cases (T : Tab) (s : St) (t : TypeId) (x v : SV) : evStore T s t x v = .stop ∨
    ∃ yt id j vs cs cs1, x = .ptr id j ∧ aget t T = some yt ∧ cellsOf v = some vs ∧ vs.length = yt.size ∧ allCells vs = true ∧ aget id s.heap = some (.box cs) ∧ laid j vs cs = some cs1 ∧ evStore T s t x v = .set id cs1 := by
  cases e : evStore T s t x v with
  | stop => exact .inl rfl
  | _ =>
    unfold evStore at e
    cases ht : aget t T with
    | none => rw [ht] at e; cases e
    | some yt =>
      rw [ht] at e
      simp only at e
      cases hv : cellsOf v with
      | none => rw [hv] at e; cases x <;> cases e
      | some vs =>
        rw [hv] at e
        cases x with
        | ptr id j =>
          simp only [lenK_eq, beq_iff] at e
          cases hl : decide (vs.length = yt.size)
          · rw [hl] at e; cases e
          · rw [hl] at e
            simp only [cond_true] at e
            cases ha : allCells vs
            · rw [ha] at e; cases e
            · rw [ha] at e
              simp only [cond_true] at e
              cases hg : aget id s.heap with
              | none => rw [hg] at e; cases e
              | some B =>
                rw [hg] at e
                cases B with
                | row _ _ _ => cases e
                | box cs =>
                  simp only [putK_eq] at e
                  cases hla : laid j vs cs with
                  | none => rw [hla] at e; cases e
                  | some cs1 =>
                    rw [hla] at e
                    simp only [EvR.set.injEq, reduceCtorEq] at e
                    try (
                      obtain ⟨rfl, rfl⟩ := e
                      exact .inr ⟨yt, id, j, vs, cs, cs1, rfl, rfl, rfl, by simpa using hl, ha, hg, hla, rfl⟩)
        | _ => cases e

/-- A store's effect on what a box holds. -/
theorem evStore_ok (hT : TabOk P T) (hh : ∀ i B, aget i s.heap = some B → (B.ghost ∧ μ i = none) ∨ ∃ b, μ i = some b ∧ ¬ ok b ∧ DenB μ ok w b B) (t : TypeId) (x v : SV) (u y : Value) (hx : Den μ ok w x u) (hv : Den μ ok w v y)
    {id : Nat} {cs1 : List SV} (he : evStore T s t x v = .set id cs1) :
    ∃ b w', (Instr.storeAt t u y).run P w = .ok () w' ∧ μ id = some b ∧ ¬ ok b ∧ Upd w w' b ∧ DenB μ ok w' b (.box cs1) ∧ ∃ B0, aget id s.heap = some B0 := by
  rcases evStore_cases T s t x v with e | ⟨yt, id', j, vs, cs, cs1', rfl, ht, hvs, hl, ha, hcs, hla, e⟩
  · rw [e] at he; cases he
  · rw [e] at he
    simp only [EvR.set.injEq] at he
    obtain ⟨rfl, rfl⟩ := he
    cases hx with | ptr hb =>
    rename_i b
    obtain ⟨h, _⟩ | ⟨b', h1, h2, c, T', z, h3, h4, h5, h6⟩ := hh _ _ hcs
    · exact h.elim
    rw [hb] at h1
    cases h1
    have hc := cellsOf_ok hv hvs
    obtain ⟨l1, l2, l3⟩ := laid_spec j vs cs cs1' hla
    obtain ⟨w', c', r1, r2, r3, r4, r5⟩ := run_storeVar (w := w) (hT _ _ ht) (j := j) y h3 h4 (by rw [hc.1, hl]) (by omega) (hc.one ha)
    have hw : ∀ q, ok q → w'.heap[q]? = w.heap[q]? := fun q hq => r4.other q (fun e => h2 (e ▸ hq))
    have hcells : Cells μ ok w cs1' c' := Cells.laid ⟨h5, h6⟩ hc hla r3 (fun m => by
      rw [r5 m]
      have hcs := hc.1
      by_cases a1 : m < j
      · rw [if_pos a1, if_neg (by omega)]
      · rw [if_neg a1]
        by_cases a2 : m < j + yt.size
        · rw [if_pos a2]
          rw [if_pos ⟨by omega, by omega, by omega⟩]
        · rw [if_neg a2, if_neg (by omega)])
    refine ⟨b, w', ?_, hb, h2, r4, ⟨c', T', z, r2, by rw [r3]; exact h4, by rw [hcells.1], fun q x u hx hu => (hcells.2 q x u hx hu).mono (fun _ _ h => h) (fun _ h => h) hw⟩, _, hcs⟩
    simp only [Instr.storeAt, Instr.sureAddr, Sem.run_bind, Sem.run_pure, Result.andThen_ok]
    exact r1

/-! the rest -/
theorem opsK_eq (s : St) (l : List Operand) (k : Option (List SV) → EvR) : opsK s l k = k (l.mapM (opd s)) := by
  induction l generalizing k with
  | nil => rfl
  | cons o l ih =>
    simp only [opsK, List.mapM_cons]
    cases opd s o with
    | none => rfl
    | some x =>
      simp only [ih]
      cases l.mapM (opd s) <;> rfl

theorem mapM_den (hd : ∀ t x, aget t s.tmps = some x → Den μ ok w x (a.tmps.getD t undef)) : ∀ (l : List Operand) (xs : List SV), l.mapM (opd s) = some xs → xs.length = l.length ∧ ∀ (j : Nat) c u, xs[j]? = some c → (l.map a.eval)[j]? = some u → Den μ ok w c u
  | [], xs, h => by simp at h; subst h; simp
  | o :: l, xs, h => by
    simp only [List.mapM_cons] at h
    cases ho : opd s o with
    | none => rw [ho] at h; cases h
    | some x =>
      rw [ho] at h
      cases hl : l.mapM (opd s) with
      | none => rw [hl] at h; cases h
      | some xs' =>
        rw [hl] at h
        simp at h
        subst h
        obtain ⟨h1, h2⟩ := mapM_den hd l xs' hl
        refine ⟨by simp [h1], fun j c u hc hu => ?_⟩
        cases j with
        | zero => simp at hc hu; subst hc hu; exact opd_den hd ho
        | succ j => exact h2 j c u (by simpa using hc) (by simpa using hu)

theorem evFn_ok (hd : ∀ t x, aget t s.tmps = some x → Den μ ok w x (a.tmps.getD t undef)) (f : Fn) (x y : Array Operand) :
    VOk P μ ok w (Instr.makeFunc f (x.map a.eval) (y.map a.eval)) (opsK s x.toList fun r => match r with
    | some l => opsK s y.toList fun r => match r with | some m => .val (.fn f l m) True | none => .stop
    | none => .stop) := by
  rw [opsK_eq]
  cases hx : x.toList.mapM (opd s) with
  | none => trivial
  | some l =>
    simp only [opsK_eq]
    cases hy : y.toList.mapM (opd s) with
    | none => trivial
    | some m =>
      obtain ⟨h1, h2⟩ := mapM_den hd _ _ hx
      obtain ⟨h3, h4⟩ := mapM_den hd _ _ hy
      refine fun _ => ⟨_, rfl, .fn _ _ (by simp [h1]) (fun j c u hc hu => h2 j c u hc ?_) (by simp [h3]) (fun j c u hc hu => h4 j c u hc ?_)⟩
      · simpa using hu
      · simpa using hu

theorem evLen_ok (hT : TabOk P T) (t : TypeId) (x : SV) (u : Value) (hx : Den μ ok w x u) (ty : TypeId) : VOk P μ ok w (Builtin.len_ #[t] ty #[u]) (evLen T t x) := by
  unfold evLen
  split
  · rename_i ht
    split
    · obtain rfl := hx.vv
      exact VOk.lit fun _ => by simp [Builtin.len_, run_underlying (hT _ _ ht).td, goInt]
    · trivial
  · rename_i ht
    split
    · cases hx with | d hx =>
      rcases slOf hx with ⟨rfl, rfl⟩ | ⟨a, cap, rfl, _⟩
      · exact VOk.lit fun _ => by simp [Builtin.len_, run_underlying (hT _ _ ht).td, goInt]
      · exact VOk.lit fun _ => by simp [Builtin.len_, run_underlying (hT _ _ ht).td, goInt]
    · obtain rfl := hx.nil'
      exact VOk.lit fun _ => by simp [Builtin.len_, run_underlying (hT _ _ ht).td, goInt]
    · cases hx with
      | own h h1 h2 => exact VOk.lit fun _ => by simp [Builtin.len_, run_underlying (hT _ _ ht).td, goInt]
      | ownNil a _ _ _ => exact VOk.lit fun _ => by simp [Builtin.len_, run_underlying (hT _ _ ht).td, goInt]
    · trivial
  · rename_i ht
    exact VOk.lit fun _ => by
      simp only [Builtin.len_]
      simp only [List.getElem?_toArray, List.getElem?_cons_zero, Sem.run_bind, run_underlying (hT _ _ ht).td, Result.andThen_ok]
      cases u <;> simp [goInt]
  · trivial

theorem evCall_ok (hT : TabOk P T) (hd : ∀ t x, aget t s.tmps = some x → Den μ ok w x (a.tmps.getD t undef)) (o : Oper) (c : Call) (ho : o.op = .call c) : EvOk P μ ok s a w o (evCall T s c) := by
  unfold evCall
  obtain ⟨cal, args, at_⟩ := c
  obtain ⟨args⟩ := args
  obtain ⟨at_⟩ := at_
  cases cal with
  | value f => trivial
  | invoke r m => trivial
  | builtin b =>
    have key : ∀ (m : Sem Value) r, VOk P μ ok w m r → execOp a.eval o = (do pure (.value (← m))) → EvOk P μ ok s a w o r := fun m r h e => h.ev e
    simp only
    split
    · -- len
      rename_i x
      split
      · rename_i t v hv
        refine key (Builtin.len_ #[t] o.type #[a.eval x]) _ (evLen_ok hT t v _ (opd_den hd hv) _) ?_
        simp only [execOp, ho, resolve, List.map_toArray, List.map_cons, List.map_nil]
        rfl
      · trivial
    · rename_i x y
      split
      · rename_i v u hv hu
        have h1 := opd_den hd hv
        have h2 := opd_den hd hu
        refine key (Builtin.min_ #[] o.type #[a.eval x, a.eval y]) _ ?_ ?_
        · unfold evMin
          split
          · obtain e1 := h1.int
            obtain e2 := h2.int
            exact VOk.lit fun _ => by rw [e1, e2]; simp [Builtin.min_, Builtin.min2]
          · trivial
        · simp only [execOp, ho, resolve, List.map_toArray, List.map_cons, List.map_nil]
          rfl
      · trivial
    · rename_i x y
      split
      · rename_i v u hv hu
        have h1 := opd_den hd hv
        have h2 := opd_den hd hu
        refine key (Builtin.max_ #[] o.type #[a.eval x, a.eval y]) _ ?_ ?_
        · unfold evMax
          split
          · obtain e1 := h1.int
            obtain e2 := h2.int
            exact VOk.lit fun _ => by rw [e1, e2]; simp [Builtin.max_, Builtin.max2]
          · trivial
        · simp only [execOp, ho, resolve, List.map_toArray, List.map_cons, List.map_nil]
          rfl
      · trivial
    · trivial

theorem ev_ok (hT : TabOk P T) (hd : ∀ t x, aget t s.tmps = some x → Den μ ok w x (a.tmps.getD t undef)) (hh : ∀ i B, aget i s.heap = some B → (B.ghost ∧ μ i = none) ∨ ∃ b, μ i = some b ∧ ¬ ok b ∧ DenB μ ok w b B) (o : Oper) :
    EvOk P μ ok s a w o (ev T s o.op) := by
  have hval : ∀ (x : Operand), o.op = .move x ∨ o.op = .assign x → EvOk P μ ok s a w o (match opdR s x with | some v => .val v True | none => .stop) := by
    intro x hx
    cases hv : opdR s x with
    | none => trivial
    | some v => 
      refine fun _ => ⟨a.eval x, ?_, opdR_den hd hv⟩
      rcases hx with h | h <;> simp [execOp, h]
  cases ho : o.op with
  | move x => exact hval x (.inl ho)
  | assign x => exact hval x (.inr ho)
  | pick c x y =>
    cases c with
    | tmp t =>
      simp only [ev]
      split
      · rename_i hc
        have h1 := hd t _ hc
        have e1 : a.eval (.tmp t) = .bool true := by
          show a.tmps.getD t undef = _
          generalize a.tmps.getD t undef = z at h1 ⊢
          cases h1; rfl
        cases hv : opdR s x with
        | none => trivial
        | some v => exact fun _ => ⟨a.eval x, by simp [execOp, ho, e1, asBool], opdR_den hd hv⟩
      · rename_i hc
        have h1 := hd t _ hc
        have e1 : a.eval (.tmp t) = .bool false := by
          show a.tmps.getD t undef = _
          generalize a.tmps.getD t undef = z at h1 ⊢
          cases h1; rfl
        cases hv : opdR s y with
        | none => trivial
        | some v => exact fun _ => ⟨a.eval y, by simp [execOp, ho, e1, asBool], opdR_den hd hv⟩
      · trivial
    | _ => trivial
  | alloc t =>
    simp only [ev]
    cases ht : aget t T with
    | none => trivial
    | some y =>
      simp only [mapK_eq]
      obtain ⟨z, h1, h2⟩ := (hT _ _ ht).zeroValue (w := w)
      refine ⟨z.cells, t, ?_, zero_cells h2⟩
      simp [execOp, ho, Instr.alloc, h1, newVar, newRow]
  | box t x =>
    simp only [ev]
    cases hv : opd s x with
    | none => trivial
    | some v =>
      simp only
      cases hc : cellsOf v with
      | none => trivial
      | some cs =>
        simp only
        cases allCells cs
        · trivial
        · refine ⟨(a.eval x).cells, t, ?_, cellsOf_ok (opd_den hd hv) hc⟩
          simp [execOp, ho, Instr.box, newVar, newRow]
  | build t ps => exact (evBuild_ok hT hd t ps).ev (by rw [execOp, ho])
  | buildSlice t n ps => exact evRow_ok hT hd o t n ps ho
  | load t x =>
    simp only [ev]
    cases hv : opd s x with
    | none => trivial
    | some v => exact (evLoad_ok hT hh t v _ (opd_den hd hv)).ev (by rw [execOp, ho])
  | store t x y =>
    simp only [ev]
    cases hv : opd s x with
    | none => trivial
    | some v =>
      cases hu : opd s y with
      | none => trivial
      | some u =>
        simp only
        rcases evStore_cases T s t v u with e | ⟨_, id, _, _, _, cs1, _, _, _, _, _, _, _, e⟩
        · rw [e]; trivial
        · rw [e]
          obtain ⟨b, w', h1, h2⟩ := evStore_ok hT hh t v u _ _ (opd_den hd hv) (opd_den hd hu) e
          refine ⟨b, w', ?_, h2⟩
          simp only [execOp, ho, Sem.run_bind, h1, Result.andThen_ok, Sem.run_pure]
  | nilCheck x =>
    simp only [ev]
    cases hv : opd s x with
    | none => trivial
    | some v =>
      have h := opd_den hd hv
      cases v with
      | ptr id j =>
        refine fun _ => ⟨a.eval x, ?_, h⟩
        cases e : a.eval x <;> rw [e] at h <;> cases h <;> simp [execOp, ho, e]
      | pel id k i j =>
        refine fun _ => ⟨a.eval x, ?_, h⟩
        cases e : a.eval x <;> rw [e] at h <;> cases h <;> simp [execOp, ho, e]
      | ip cs =>
        refine fun _ => ⟨a.eval x, ?_, h⟩
        cases e : a.eval x <;> rw [e] at h <;> cases h <;> simp [execOp, ho, e]
      | fn f l m =>
        cases f with
        | func g =>
          refine fun _ => ⟨a.eval x, ?_, h⟩
          cases e : a.eval x <;> rw [e] at h <;> cases h <;> simp [execOp, ho, e]
        | _ => trivial
      | _ => trivial
  | binOp op t x y t' =>
    simp only [ev]
    cases hv : opd s x with
    | none => trivial
    | some v =>
      cases hu : opd s y with
      | none => trivial
      | some u => exact (evBin_ok hT op t v u _ _ (opd_den hd hv) (opd_den hd hu) x y).ev (by rw [execOp, ho])
  | unOp op t x =>
    simp only [ev]
    cases hv : opd s x with
    | none => trivial
    | some v => exact (evUn_ok op v _ (opd_den hd hv)).ev (by rw [execOp, ho])
  | convert t t' x =>
    simp only [ev]
    cases hv : opd s x with
    | none => trivial
    | some v => exact (evConv_ok hT t t' v _ (opd_den hd hv)).ev (by rw [execOp, ho])
  | makeFunc f x y => exact (evFn_ok hd f x y).ev (by rw [execOp, ho])
  | slice t x lo hi mx =>
    simp only [ev]
    cases hv : opd s x with
    | none => trivial
    | some v => exact (evSlice_ok hT hd t v _ (opd_den hd hv) lo hi mx).ev (by rw [execOp, ho])
  | fieldAddr t x f =>
    simp only [ev]
    cases hv : opd s x with
    | none => trivial
    | some v => exact (evFieldA_ok hT t f v _ (opd_den hd hv)).ev (by rw [execOp, ho])
  | field t x f =>
    simp only [ev]
    cases hv : opd s x with
    | none => trivial
    | some v =>
      cases v with
      | agg cs => exact (evFieldV_ok hT t f cs _ (opd_den hd hv)).ev (by rw [execOp, ho])
      | _ => trivial
  | extract x i =>
    simp only [ev]
    cases hv : opd s x with
    | none => trivial
    | some v =>
      have h := opd_den hd hv
      cases v with
      | tup cs =>
        simp only [nth_eq]
        cases hn : cs[i]? with
        | none => trivial
        | some c =>
          refine fun _ => ?_
          cases e : a.eval x <;> rw [e] at h <;> cases h
          rename_i vs h1 h2
          have hlt : i < vs.size := by have := (List.getElem?_eq_some_iff.1 hn).1; omega
          exact ⟨vs[i], by simp [execOp, ho, e, Instr.extract, hlt], h2 i c _ hn (by simp [hlt])⟩
      | _ => trivial
  | index t x ix =>
    simp only [ev]
    split
    · rename_i ht
      have hb : P.underlying t = some .string := (hT _ _ ht).td
      split
      · rename_i s' kk i hx hi
        refine fun hp => ⟨_, ?_, .d (.v _)⟩
        have e1 := (opd_den hd hx).vv
        have e2 := (opd_den hd hi).int
        have hlt : i.toNat < s'.size := by omega
        simp only [execOp, ho, e1, e2, Sem.run_bind, run_index_string w t s' kk i hb]
        rw [dif_pos ⟨hp.1, hp.2⟩]
        simp only [Result.andThen_ok, Sem.run_pure, byteAt]
        congr 4
        have hl : i.toNat < s'.data.toList.length := by simpa using hlt
        rw [List.getD_eq_getElem?_getD, List.getElem?_eq_getElem hl]
        simp
        rfl
      · trivial
    · trivial
  | call c => exact evCall_ok hT hd o c ho
  | _ => trivial

end
end Go.Sy

/-
  SYMBOLIC STATES, over any program, part 7: a walk's rules.
-/
namespace Go.Sy
open Go.RowKit

def K (P : Program) (R : Exit → Act → World → Prop) : List It → Exit → Act → World → Prop
  | [], e, a, w => R e a w
  | .code c :: k, .normal, a, w => c.wp P (K P R k) a w
  | .blk id :: k, .exit i, a, w => if i = id then K P R k .normal a w else K P R k (.exit i) a w
  | .ops all rest :: k, .normal, a, w => wpList P all (K P R k) rest a w
  | .inv Φ :: _, .normal, a, w => Φ a w
  | _ :: k, e, a, w => K P R k e a w

/-- What is asked where the text ends. -/
def Cx.std (cx : Cx) : Exit → Act → World → Prop := fun e a w =>
  (e = .normal ∨ e = .ret) ∧ a.defers = [] ∧ ∃ μ ok r h n y, HInv cx μ ok h n w ∧ (results cx.fn a.tmps).run cx.P w = .ok y w ∧ Den μ ok w r y ∧ cx.Post r h n

structure Inv1 (cx : Cx) (μ : Nat → Option Nat) (ok : Nat → Prop) (s : St) (a : Act) (w : World) : Prop where
  defers : a.defers = []
  size : a.tmps.size = cx.fn.ntmps
  heap : HInv cx μ ok s.heap s.next w
  tmps : ∀ t x, aget t s.tmps = some x → Den μ ok w x (a.tmps.getD t undef)

theorem Inv1.inv {cx : Cx} {μ : Nat → Option Nat} {ok : Nat → Prop} {s : St} {a : Act} {w : World} (h : Inv1 cx μ ok s a w) : Inv cx s a w := ⟨h.defers, h.size, μ, ok, h.heap, h.tmps⟩
theorem Inv.one {cx : Cx} {s : St} {a : Act} {w : World} (h : Inv cx s a w) : ∃ μ ok, Inv1 cx μ ok s a w := let ⟨h1, h2, μ, ok, h3, h4⟩ := h; ⟨μ, ok, h1, h2, h3, h4⟩

def AWP (cx : Cx) (k : List It) (s : St) : Prop := ∀ a w, Inv cx s a w → K cx.P cx.R k .normal a w

section
variable {cx : Cx} {T : Tab} {k : List It} {s : St} {tm : List (Nat × SV)} {hp : List (Nat × Blk)} {nx : Nat}

theorem Inv1.hh {μ : Nat → Option Nat} {ok : Nat → Prop} {a : Act} {w : World} (h : Inv1 cx μ ok s a w) : ∀ i B, aget i s.heap = some B → (B.ghost ∧ μ i = none) ∨ ∃ b, μ i = some b ∧ ¬ ok b ∧ DenB μ ok w b B := fun i B hi =>
  (h.heap.own i B hi).imp id fun ⟨b, h1, _, h3, _, h5⟩ => ⟨b, h1, h3, h5⟩

theorem put_get (a : Act) (d t : Nat) (v : Value) (hd : d < a.tmps.size) : (a.put (some d) v).tmps.getD t undef = if t = d then v else a.tmps.getD t undef := by
  simp only [Act.put]
  by_cases h : t = d
  · subst h
    simp [hd]
  · rw [if_neg h]
    simp [Array.getElem?_setIfInBounds_ne (Ne.symm h)]

theorem aget_cons {α : Type} (t d : Nat) (x : α) (l : List (Nat × α)) : aget t ((d, x) :: l) = if t = d then some x else aget t l := by
  by_cases h : t = d
  · subst h; simp [aget]
  · simp [aget, beq_ne h, h]

theorem Inv1.put {μ : Nat → Option Nat} {ok : Nat → Prop} {a : Act} {w : World} (h : Inv1 cx μ ok ⟨tm, hp, nx⟩ a w) {d : Nat} (hd : d < cx.fn.ntmps) {x : SV} {v : Value} (hx : Den μ ok w x v) :
    Inv1 cx μ ok ⟨(d, x) :: tm, hp, nx⟩ (a.put (some d) v) w := by
  refine ⟨h.defers, by simp only [Act.put, Array.size_setIfInBounds]; exact h.size, h.heap, fun t y hy => ?_⟩
  simp only [aget_cons] at hy
  rw [put_get _ _ _ _ (by rw [h.size]; exact hd)]
  by_cases ht : t = d
  · rw [if_pos ht] at hy ⊢
    cases hy
    exact hx
  · rw [if_neg ht] at hy ⊢
    exact h.tmps t y hy

def upd (μ : Nat → Option Nat) (i b : Nat) : Nat → Option Nat := fun j => if j = i then some b else μ j

theorem upd_mono {μ : Nat → Option Nat} {i b : Nat} (h : μ i = none) : ∀ j c, μ j = some c → upd μ i b j = some c := by
  intro j c hj
  unfold upd
  split
  · subst_vars; rw [h] at hj; cases hj
  · exact hj

theorem HInv.alloc {μ : Nat → Option Nat} {ok : Nat → Prop} {w : World} (h : HInv cx μ ok hp nx w) (o : Obj) (B : Blk) (hB : DenB μ ok (w.alloc o) w.heap.size B) :
    HInv cx (upd μ nx w.heap.size) ok ((nx, B) :: hp) (Nat.succ nx) (w.alloc o) := by
  have hn : μ nx = none := h.fresh nx (Nat.le_refl _)
  have hm := upd_mono (b := w.heap.size) hn
  have hw : ∀ b, ok b → (w.alloc o).heap[b]? = w.heap[b]? := fun b hb => Below.heap_alloc w o b (h.lt b hb)
  refine ⟨fun i b hi => hm _ _ (h.mu i b hi), fun i hi => ?_, h.sub, fun b hb => by have := h.lt b hb; simp; omega, h.okNew, fun i C hi => ?_, fun i j C D b hi hj hbi hbj => ?_, fun b hb hF => ?_, by have := h.size; simp; omega, h.os, h.tape, h.output⟩
  · unfold upd
    rw [if_neg (by omega)]
    exact h.fresh i (by omega)
  · rw [aget_cons] at hi
    by_cases e : i = nx
    · rw [if_pos e] at hi
      cases hi
      subst e
      refine .inr ⟨w.heap.size, by simp [upd], by simp, fun hb => by have := h.lt _ hb; omega, .inl h.size, ?_⟩
      exact hB.mono hm (fun _ h => h) (fun _ _ => rfl) rfl
    · rw [if_neg e] at hi
      obtain ⟨hg, hn⟩ | ⟨b, h1, h2, h3, h4, h5⟩ := h.own i C hi
      · exact .inl ⟨hg, by unfold upd; rw [if_neg e]; exact hn⟩
      exact .inr ⟨b, hm _ _ h1, by simp; omega, h3, h4, h5.mono hm (fun _ h => h) hw (Below.heap_alloc w o b h2)⟩
  · rw [aget_cons] at hi hj
    have key : ∀ i C, i ≠ nx → aget i hp = some C → ∀ b, upd μ nx w.heap.size i = some b → μ i = some b ∧ b < w.heap.size := by
      intro i C e hi b hb
      unfold upd at hb
      rw [if_neg e] at hb
      obtain ⟨_, hn⟩ | ⟨b', h1, h2, _⟩ := h.own i C hi
      · rw [hn] at hb; cases hb
      rw [h1] at hb
      cases hb
      exact ⟨h1, h2⟩
    by_cases e1 : i = nx <;> by_cases e2 : j = nx
    · rw [e1, e2]
    · rw [if_neg e2] at hj
      have := key j D e2 hj b hbj
      subst e1
      simp [upd] at hbi
      omega
    · rw [if_neg e1] at hi
      have := key i C e1 hi b hbi
      subst e2
      simp [upd] at hbj
      omega
    · rw [if_neg e1] at hi
      rw [if_neg e2] at hj
      exact h.inj i j C D b hi hj (key i C e1 hi b hbi).1 (key j D e2 hj b hbj).1
  · rw [Below.heap_alloc w o b (by have := h.size; omega)]
    exact h.frame b hb hF

theorem Inv1.alloc {μ : Nat → Option Nat} {ok : Nat → Prop} {a : Act} {w : World} (h : Inv1 cx μ ok ⟨tm, hp, nx⟩ a w) (o : Obj) (B : Blk) (hB : DenB μ ok (w.alloc o) w.heap.size B) :
    Inv1 cx (upd μ nx w.heap.size) ok ⟨tm, (nx, B) :: hp, Nat.succ nx⟩ a (w.alloc o) := by
  have hm := upd_mono (b := w.heap.size) (h.heap.fresh nx (Nat.le_refl _))
  refine ⟨h.defers, h.size, h.heap.alloc o B hB, fun t x hx => (h.tmps t x hx).mono hm (fun _ h => h) fun b hb => Below.heap_alloc w o b (h.heap.lt b hb)⟩

theorem HInv.set {μ : Nat → Option Nat} {ok : Nat → Prop} {w w' : World} (h : HInv cx μ ok hp nx w) {id b : Nat} {B0 B : Blk} (hid : aget id hp = some B0) (hb : μ id = some b) (hu : Upd w w' b) (hB : DenB μ ok w' b B) :
    HInv cx μ ok ((id, B) :: hp) nx w' := by
  obtain ⟨_, hn⟩ | ⟨b', h1, h2, h3, h4, h5⟩ := h.own id B0 hid
  · rw [hn] at hb; cases hb
  rw [hb] at h1
  cases h1
  have hw : ∀ c, ok c → w'.heap[c]? = w.heap[c]? := fun c hc => hu.other c fun e => h3 (e ▸ hc)
  refine ⟨h.mu, h.fresh, h.sub, fun c hc => by rw [hu.size]; exact h.lt c hc, h.okNew, fun i C hi => ?_, fun i j C D c hi hj hci hcj => ?_, fun c hc hF => ?_, by rw [hu.size]; exact h.size, hu.os.trans h.os, hu.tape.trans h.tape, hu.output.trans h.output⟩
  · rw [aget_cons] at hi
    by_cases e : i = id
    · rw [if_pos e] at hi
      cases hi
      subst e
      exact .inr ⟨b, hb, by rw [hu.size]; exact h2, h3, h4, hB⟩
    · rw [if_neg e] at hi
      obtain ⟨hg, hn⟩ | ⟨c, g1, g2, g3, g4, g5⟩ := h.own i C hi
      · exact .inl ⟨hg, hn⟩
      have hne : c ≠ b := fun ec => e (h.inj i id C B0 c hi hid g1 (ec ▸ hb))
      exact .inr ⟨c, g1, by rw [hu.size]; exact g2, g3, g4, g5.mono (fun _ _ h => h) (fun _ h => h) hw (hu.other c hne)⟩
  · have hi' : ∃ C', aget i hp = some C' := by
      rw [aget_cons] at hi
      by_cases e : i = id
      · subst e; exact ⟨_, hid⟩
      · rw [if_neg e] at hi; exact ⟨_, hi⟩
    have hj' : ∃ C', aget j hp = some C' := by
      rw [aget_cons] at hj
      by_cases e : j = id
      · subst e; exact ⟨_, hid⟩
      · rw [if_neg e] at hj; exact ⟨_, hj⟩
    obtain ⟨C', hi'⟩ := hi'
    obtain ⟨D', hj'⟩ := hj'
    exact h.inj i j C' D' c hi' hj' hci hcj
  · have hne : c ≠ b := by
      rintro rfl
      rcases h4 with h4 | h4
      · omega
      · exact hF h4
    rw [hu.other c hne]
    exact h.frame c hc hF

theorem Inv1.set {μ : Nat → Option Nat} {ok : Nat → Prop} {a : Act} {w w' : World} (h : Inv1 cx μ ok ⟨tm, hp, nx⟩ a w) {id b : Nat} {B0 B : Blk} (hid : aget id hp = some B0) (hb : μ id = some b) (hu : Upd w w' b) (hB : DenB μ ok w' b B) :
    Inv1 cx μ ok ⟨tm, (id, B) :: hp, nx⟩ a w' := by
  obtain ⟨_, hn⟩ | ⟨b', h1, h2, h3, h4, h5⟩ := h.heap.own id B0 hid
  · rw [hn] at hb; cases hb
  rw [hb] at h1
  cases h1
  exact ⟨h.defers, h.size, h.heap.set hid hb hu hB, fun t x hx => (h.tmps t x hx).mono (fun _ _ h => h) (fun _ h => h) fun c hc => hu.other c fun e => h3 (e ▸ hc)⟩

/-! ### One step of code -/
theorem K_seq (P : Program) (R : Exit → Act → World → Prop) (c : Code) (k : List It) : K P R (.code c :: k) = Exit.then (c.wp P (K P R k)) (K P R k) := by
  funext e a w
  cases e <;> rfl

theorem K_blk (P : Program) (R : Exit → Act → World → Prop) (id : Nat) (k : List It) : K P R (.blk id :: k) = Exit.inBlock id (K P R k) := by
  funext e a w
  cases e <;> rfl

theorem K_exitTo (P : Program) (R : Exit → Act → World → Prop) (id : Nat) : ∀ (k k' : List It), It.exitTo id k = some k' → ∀ a w, K P R k' .normal a w → K P R k (.exit id) a w
  | [], _, h, _, _, _ => by cases h
  | .blk i :: k, k', h, a, w, hk => by
    simp only [It.exitTo] at h
    by_cases e : i = id
    · subst e
      simp only [Nat.beq_refl, cond_true, Option.some.injEq] at h
      subst h
      simp only [K, if_true]
      exact hk
    · rw [beq_ne e] at h
      simp only [cond_false] at h
      have : ¬ id = i := fun h => e h.symm
      simp only [K, if_neg this]
      exact K_exitTo P R id k k' h a w hk
  | .code _ :: k, k', h, a, w, hk => K_exitTo P R id k k' h a w hk
  | .ops _ _ :: k, k', h, a, w, hk => K_exitTo P R id k k' h a w hk
  | .inv _ :: k, k', h, a, w, hk => K_exitTo P R id k k' h a w hk

theorem K_ret (P : Program) (R : Exit → Act → World → Prop) : ∀ (k : List It) (a : Act) (w : World), R .ret a w → K P R k .ret a w
  | [], _, _, h => h
  | .blk _ :: k, a, w, h => K_ret P R k a w h
  | .code _ :: k, a, w, h => K_ret P R k a w h
  | .ops _ _ :: k, a, w, h => K_ret P R k a w h
  | .inv _ :: k, a, w, h => K_ret P R k a w h

theorem AWP.seq {a b : Code} (h : AWP cx (.code a :: .code b :: k) s) : AWP cx (.code (.seq a b) :: k) s := fun ac w hi => by
  have := h ac w hi
  exact wp_seq (by rw [← K_seq]; exact this)
theorem AWP.block {id : Nat} {c : Code} (h : AWP cx (.code c :: .blk id :: k) s) : AWP cx (.code (.block id c) :: k) s := fun ac w hi => by
  have := h ac w hi
  exact wp_block (by rw [← K_blk]; exact this)
theorem AWP.exit {id : Nat} {k' : List It} (he : It.exitTo id k = some k') (h : AWP cx k' s) : AWP cx (.code (.exit id) :: k) s := fun ac w hi => wp_exit (K_exitTo _ _ _ _ _ he _ _ (h ac w hi))
theorem AWP.region {id : Nat} {ops : Array Oper} (h : AWP cx (.ops ops ops.toList :: k) s) : AWP cx (.code (.region id ops false) :: k) s := fun ac w hi => wp_region_list (h ac w hi)

theorem AWP.op {all : Array Oper} {o : Oper} {rest : List Oper} (hg : o.guard = none) (h : ∀ a w, Inv cx s a w → o.upon cx.P a (wpList cx.P all (K cx.P cx.R k) rest) (K cx.P cx.R k) ((execOp a.eval o).run cx.P w)) : AWP cx (.ops all (o :: rest) :: k) s := fun a w hi => by
  show wpList cx.P all (K cx.P cx.R k) (o :: rest) a w
  unfold wpList
  rw [if_pos (by simp [Region.wanted, hg])]
  exact .inl (h a w hi)

end
end Go.Sy

/-
  SYMBOLIC STATES, over any program, part 8: the walk by itself; tests, loops, ends.
-/
namespace Go.Sy
open Go.RowKit

section
variable {cx : Cx} {T : Tab} {k : List It} {s : St} {tm : List (Nat × SV)} {hp : List (Nat × Blk)} {nx : Nat}

theorem AWP.op_val (hT : TabOk cx.P T) {all : Array Oper} {rest : List Oper} {d : Nat} {op : Op} {ty : TypeId} {pos : String} {after : Array Edge} (hd : d < cx.fn.ntmps) {x : SV} {p : Prop} (he : ev T ⟨tm, hp, nx⟩ op = .val x p) (hp' : p)
    (h : AWP cx (.ops all rest :: k) ⟨(d, x) :: tm, hp, nx⟩) : AWP cx (.ops all (⟨some d, op, ty, pos, after, none⟩ :: rest) :: k) ⟨tm, hp, nx⟩ := by
  refine AWP.op rfl fun a w hi => ?_
  obtain ⟨μ, ok, hi⟩ := hi.one
  have := ev_ok hT hi.tmps hi.hh (⟨some d, op, ty, pos, after, none⟩ : Oper)
  rw [he] at this
  obtain ⟨y, h1, h2⟩ := this hp'
  rw [h1, Oper.upon_value]
  exact h _ _ (hi.put hd h2).inv

theorem AWP.op_val0 (hT : TabOk cx.P T) {all : Array Oper} {rest : List Oper} {op : Op} {ty : TypeId} {pos : String} {after : Array Edge} {x : SV} {p : Prop} (he : ev T ⟨tm, hp, nx⟩ op = .val x p) (hp' : p)
    (h : AWP cx (.ops all rest :: k) ⟨tm, hp, nx⟩) : AWP cx (.ops all (⟨none, op, ty, pos, after, none⟩ :: rest) :: k) ⟨tm, hp, nx⟩ := by
  refine AWP.op rfl fun a w hi => ?_
  obtain ⟨μ, ok, hi⟩ := hi.one
  have := ev_ok hT hi.tmps hi.hh (⟨none, op, ty, pos, after, none⟩ : Oper)
  rw [he] at this
  obtain ⟨y, h1, h2⟩ := this hp'
  rw [h1, Oper.upon_value]
  exact h _ _ hi.inv

theorem box_new {μ : Nat → Option Nat} {ok : Nat → Prop} {w : World} {cs : List SV} {c : Array Value} {t : TypeId} (h : Cells μ ok w cs c) (hlt : ∀ b, ok b → b < w.heap.size) : DenB μ ok (w.alloc (.cells c t)) w.heap.size (.box cs) :=
  ⟨c, t, (0, 0), (MapKept.heap_alloc w _).1, fun j _ hj => by omega, h.1, fun j x u hx hu => (h.2 j x u hx hu).mono (fun _ _ h => h) (fun _ h => h) fun b hb => Below.heap_alloc w _ b (hlt b hb)⟩

theorem AWP.op_box (hT : TabOk cx.P T) {all : Array Oper} {rest : List Oper} {d : Nat} {op : Op} {ty : TypeId} {pos : String} {after : Array Edge} (hd : d < cx.fn.ntmps) {cs : List SV} (he : ev T ⟨tm, hp, nx⟩ op = .box cs)
    (h : AWP cx (.ops all rest :: k) ⟨(d, .ptr nx 0) :: tm, (nx, .box cs) :: hp, Nat.succ nx⟩) : AWP cx (.ops all (⟨some d, op, ty, pos, after, none⟩ :: rest) :: k) ⟨tm, hp, nx⟩ := by
  refine AWP.op rfl fun a w hi => ?_
  obtain ⟨μ, ok, hi⟩ := hi.one
  have := ev_ok hT hi.tmps hi.hh (⟨some d, op, ty, pos, after, none⟩ : Oper)
  rw [he] at this
  obtain ⟨c, t, h1, h2⟩ := this
  rw [h1, Oper.upon_value]
  exact h _ _ ((hi.alloc _ (.box cs) (box_new h2 hi.heap.lt)).put hd (.ptr (by simp [upd]))).inv

theorem AWP.op_row (hT : TabOk cx.P T) {all : Array Oper} {rest : List Oper} {d : Nat} {op : Op} {ty : TypeId} {pos : String} {after : Array Edge} (hd : d < cx.fn.ntmps) {n m : Nat} {t : TypeId} {xs : List (List SV)} (he : ev T ⟨tm, hp, nx⟩ op = .row t n xs m)
    (h : AWP cx (.ops all rest :: k) ⟨(d, .own nx n 0 m m) :: tm, (nx, .row t false n xs m) :: hp, Nat.succ nx⟩) : AWP cx (.ops all (⟨some d, op, ty, pos, after, none⟩ :: rest) :: k) ⟨tm, hp, nx⟩ := by
  refine AWP.op rfl fun a w hi => ?_
  obtain ⟨μ, ok, hi⟩ := hi.one
  have := ev_ok hT hi.tmps hi.hh (⟨some d, op, ty, pos, after, none⟩ : Oper)
  rw [he] at this
  obtain ⟨c, h1, h2, h3, h4, h5, h6⟩ := this
  rw [h1, Oper.upon_value]
  have hB : DenB μ ok (w.alloc (.cells c t)) w.heap.size (.row t false n xs m) :=
    ⟨c, (0, 0), (MapKept.heap_alloc w _).1, fun _ => rfl, fun j _ hj => by omega, h3, by omega, h5, fun i e j x u he hx hu => (h6 i e j x u he hx hu).mono (fun _ _ h => h) (fun _ h => h) fun b hb => Below.heap_alloc w _ b (hi.heap.lt b hb)⟩
  refine h _ _ ((hi.alloc _ (.row t false n xs m) hB).put hd ?_).inv
  have := Den.own (μ := upd μ nx w.heap.size) (ok := ok) (w := w.alloc (.cells c t)) (id := nx) (k := n) (lo := 0) (n := m) (C := m) (b := w.heap.size) (by simp [upd]) (by omega) h2
  simpa using this

def tput (dst : Option Tmp) (x : SV) (tm : List (Nat × SV)) : List (Nat × SV) :=
  match dst with
  | some d => (d, x) :: tm
  | none => tm

theorem AWP.op_set (hT : TabOk cx.P T) {all : Array Oper} {rest : List Oper} {d : Option Nat} {op : Op} {ty : TypeId} {pos : String} {after : Array Edge} (hd : ∀ t, d = some t → t < cx.fn.ntmps) {id : Nat} {cs : List SV} (he : ev T ⟨tm, hp, nx⟩ op = .set id cs)
    (h : AWP cx (.ops all rest :: k) ⟨tput d undefS tm, (id, .box cs) :: hp, nx⟩) : AWP cx (.ops all (⟨d, op, ty, pos, after, none⟩ :: rest) :: k) ⟨tm, hp, nx⟩ := by
  refine AWP.op rfl fun a w hi => ?_
  obtain ⟨μ, ok, hi⟩ := hi.one
  have := ev_ok hT hi.tmps hi.hh (⟨d, op, ty, pos, after, none⟩ : Oper)
  rw [he] at this
  obtain ⟨b, w', h1, h2, h3, h4, h5, B0, hB0⟩ := this
  rw [h1, Oper.upon_skip]
  have h6 := hi.set hB0 h2 h4 h5
  cases d with
  | none => exact h _ _ h6.inv
  | some t => exact h _ _ (h6.put (hd t rfl) (.d (.v _))).inv

theorem guardS_ask {all : Array Oper} {j d : Nat} {b : Bool} (h : guardS all tm j = .ask d b) : ∃ o, all[j]? = some o ∧ o.dst = some d ∧ aget d tm = some (.d (.v (.bool b))) := by
  unfold guardS at h
  rw [nth_eq, Array.getElem?_toList] at h
  split at h
  · rename_i d' op ty pos af gd hj
    split at h
    · rename_i b' hb
      simp only [Gd.ask.injEq] at h
      obtain ⟨rfl, rfl⟩ := h
      exact ⟨_, hj, rfl, hb⟩
    · cases h
    · cases h
    · cases h
  · cases h

theorem guardS_told {all : Array Oper} {j d : Nat} {b : Bool} (h : guardS all tm j = .told d b) : ∃ o, all[j]? = some o ∧ o.dst = some d ∧ aget d tm = some (.lit b) := by
  unfold guardS at h
  rw [nth_eq, Array.getElem?_toList] at h
  split at h
  · rename_i d' op ty pos af gd hj
    split at h
    · cases h
    · rename_i b' hb
      simp only [Gd.told.injEq] at h
      obtain ⟨rfl, rfl⟩ := h
      exact ⟨_, hj, rfl, hb⟩
    · cases h
    · cases h
  · cases h

theorem guardS_no {all : Array Oper} {j d : Nat} (h : guardS all tm j = .no d) : ∃ o vs, all[j]? = some o ∧ o.dst = some d ∧ aget d tm = some (.d (.v (.tuple vs))) := by
  unfold guardS at h
  rw [nth_eq, Array.getElem?_toList] at h
  split at h
  · rename_i d' op ty pos af gd hj
    split at h
    · cases h
    · cases h
    · rename_i vs hb
      simp only [Gd.no.injEq] at h
      subst h
      exact ⟨_, vs, hj, rfl, hb⟩
    · cases h
  · cases h

theorem guard_ask {all : Array Oper} {j d : Nat} {b : Bool} {a : Act} {w : World} (hi : Inv cx ⟨tm, hp, nx⟩ a w) (h : guardS all tm j = .ask d b) : yielded all a.tmps j = some b := by
  obtain ⟨μ, ok, hi⟩ := hi.one
  obtain ⟨o, h1, h2, h3⟩ := guardS_ask h
  have := (hi.tmps d _ h3).vv
  simp only [Array.getD_eq_getD_getElem?] at this
  cases e : a.tmps[d]? with
  | none => rw [e] at this; cases this
  | some v =>
    rw [e] at this
    simp at this
    subst this
    simp [yielded, h1, h2, e]

theorem guard_told {all : Array Oper} {j d : Nat} {b : Bool} {a : Act} {w : World} (hi : Inv cx ⟨tm, hp, nx⟩ a w) (h : guardS all tm j = .told d b) : yielded all a.tmps j = some b := by
  obtain ⟨μ, ok, hi⟩ := hi.one
  obtain ⟨o, h1, h2, h3⟩ := guardS_told h
  have h4 := hi.tmps d _ h3
  simp only [Array.getD_eq_getD_getElem?] at h4
  cases e : a.tmps[d]? with
  | none => rw [e] at h4; cases h4
  | some v =>
    rw [e] at h4
    simp at h4
    cases h4
    simp [yielded, h1, h2, e]

theorem guard_none {all : Array Oper} {j d : Nat} {a : Act} {w : World} (hi : Inv cx ⟨tm, hp, nx⟩ a w) (h : guardS all tm j = .no d) : yielded all a.tmps j = none := by
  obtain ⟨μ, ok, hi⟩ := hi.one
  obtain ⟨o, vs, h1, h2, h3⟩ := guardS_no h
  have := (hi.tmps d _ h3).vv
  simp only [Array.getD_eq_getD_getElem?] at this
  cases e : a.tmps[d]? with
  | none => simp [yielded, h1, h2, e]
  | some v =>
    rw [e] at this
    simp at this
    subst this
    simp [yielded, h1, h2, e]

theorem AWP.guard_yes {all : Array Oper} {rest : List Oper} {dst : Option Tmp} {op : Op} {ty : TypeId} {pos : String} {after : Array Edge} {j : Nat} {w : Bool} (hy : ∀ a wd, Inv cx ⟨tm, hp, nx⟩ a wd → yielded all a.tmps j = some w)
    (h : AWP cx (.ops all (⟨dst, op, ty, pos, after, none⟩ :: rest) :: k) ⟨tm, hp, nx⟩) : AWP cx (.ops all (⟨dst, op, ty, pos, after, some (j, w)⟩ :: rest) :: k) ⟨tm, hp, nx⟩ := fun a wd hi => by
  have h1 := hy a wd hi
  have h2 : wpList cx.P all (K cx.P cx.R k) (⟨dst, op, ty, pos, after, none⟩ :: rest) a wd := h a wd hi
  show wpList cx.P all (K cx.P cx.R k) (⟨dst, op, ty, pos, after, some (j, w)⟩ :: rest) a wd
  unfold wpList at h2 ⊢
  rw [if_pos (by simp [Region.wanted])] at h2
  rw [if_pos (by simp [Region.wanted, h1])]
  exact h2

theorem AWP.guard_not {all : Array Oper} {rest : List Oper} {dst : Option Tmp} {op : Op} {ty : TypeId} {pos : String} {after : Array Edge} {j : Nat} {w : Bool} (hy : ∀ a wd, Inv cx ⟨tm, hp, nx⟩ a wd → yielded all a.tmps j ≠ some w) (hd : ∀ t, dst = some t → t < cx.fn.ntmps)
    (h : AWP cx (.ops all rest :: k) ⟨tput dst undefS tm, hp, nx⟩) : AWP cx (.ops all (⟨dst, op, ty, pos, after, some (j, w)⟩ :: rest) :: k) ⟨tm, hp, nx⟩ := fun a wd hi => by
  have h1 := hy a wd hi
  show wpList cx.P all (K cx.P cx.R k) (⟨dst, op, ty, pos, after, some (j, w)⟩ :: rest) a wd
  unfold wpList
  rw [if_neg (by simpa [Region.wanted] using h1)]
  obtain ⟨μ, ok, hi⟩ := hi.one
  cases dst with
  | none => exact h _ _ hi.inv
  | some t => exact h _ _ (hi.put (hd t rfl) (.d (.v _))).inv

theorem AWP.guard_un {all : Array Oper} {rest : List Oper} {dst : Option Tmp} {op : Op} {ty : TypeId} {pos : String} {after : Array Edge} {j d : Nat} {w : Bool} (hg : guardS all tm j = .no d) (hd : ∀ t, dst = some t → t < cx.fn.ntmps)
    (h : AWP cx (.ops all rest :: k) ⟨tput dst undefS tm, hp, nx⟩) : AWP cx (.ops all (⟨dst, op, ty, pos, after, some (j, w)⟩ :: rest) :: k) ⟨tm, hp, nx⟩ :=
  AWP.guard_not (fun a wd hi => by rw [guard_none hi hg]; simp) hd h

theorem cond_told {t : Nat} {b : Bool} (hb : aget t tm = some (.lit b)) {a : Act} {w : World} (hi : Inv cx ⟨tm, hp, nx⟩ a w) : a.eval (.tmp t) = .bool b := by
  obtain ⟨μ, ok, hi⟩ := hi.one
  have h1 := hi.tmps t _ hb
  show a.tmps.getD t undef = _
  generalize a.tmps.getD t undef = z at h1 ⊢
  cases h1; rfl

/-- THE WALK BY ITSELF. -/
theorem arun_ok (hT : TabOk cx.P T) : ∀ (n : Nat) (k : List It) (tm : List (Nat × SV)) (hp : List (Nat × Blk)) (nx : Nat) (ob : Prop), (arun T cx.fn.ntmps n k tm hp nx ob).ob →
    ob ∧ (AWP cx (arun T cx.fn.ntmps n k tm hp nx ob).k (arun T cx.fn.ntmps n k tm hp nx ob).s → AWP cx k ⟨tm, hp, nx⟩)
  | 0, k, tm, hp, nx, ob, h => ⟨h, id⟩
  | n + 1, k, tm, hp, nx, ob, h => by
    have ih := arun_ok hT n
    have blt : ∀ d, Nat.blt d cx.fn.ntmps = true → d < cx.fn.ntmps := fun d h => Nat.le_of_ble_eq_true h
    unfold arun at h ⊢
    split at h
    · exact ⟨h, id⟩
    · exact ⟨h, id⟩
    · obtain ⟨h1, h2⟩ := ih _ _ _ _ _ h
      exact ⟨h1, fun g a w hi => by have := h2 g a w hi; cases ‹List It› <;> exact this⟩
    · obtain ⟨h1, h2⟩ := ih _ _ _ _ _ h
      exact ⟨h1, fun g a w hi => h2 g a w hi⟩
    · -- a guarded operation
      rename_i all dst op ty pos after j wd0 rest k
      cases hg : guardS all tm j with
      | ask d b => simp only [hg] at h ⊢; exact ⟨h, id⟩
      | told d0 b =>
        simp only [hg] at h ⊢
        cases hw : (bif b then wd0 else !wd0)
        · simp only [hw, cond_false] at h ⊢
          have hne : ∀ a wd, Inv cx ⟨tm, hp, nx⟩ a wd → yielded all a.tmps j ≠ some wd0 := fun a wd hi => by
            rw [guard_told hi hg]
            intro e
            cases e
            cases wd0 <;> cases hw
          cases hdst : dst with
          | none =>
            simp only [hdst] at h ⊢
            obtain ⟨h1, h2⟩ := ih _ _ _ _ _ h
            exact ⟨h1, fun g => AWP.guard_not hne (fun t ht => by cases ht) (h2 g)⟩
          | some d =>
            simp only [hdst] at h ⊢
            cases hb : Nat.blt d cx.fn.ntmps
            · simp only [hb, cond_false] at h ⊢
              exact ⟨h, id⟩
            · simp only [hb, cond_true] at h ⊢
              obtain ⟨h1, h2⟩ := ih _ _ _ _ _ h
              exact ⟨h1, fun g => AWP.guard_not hne (fun t ht => by cases ht; exact blt d hb) (h2 g)⟩
        · simp only [hw, cond_true] at h ⊢
          obtain ⟨h1, h2⟩ := ih _ _ _ _ _ h
          exact ⟨h1, fun g => AWP.guard_yes (fun a wd hi => by
            rw [guard_told hi hg]
            cases b <;> cases wd0 <;> first | rfl | cases hw) (h2 g)⟩
      | bad => simp only [hg] at h ⊢; exact ⟨h, id⟩
      | no d0 =>
        simp only [hg] at h ⊢
        cases hdst : dst with
        | none =>
          simp only [hdst] at h ⊢
          obtain ⟨h1, h2⟩ := ih _ _ _ _ _ h
          exact ⟨h1, fun g => AWP.guard_un hg (fun t ht => by cases ht) (h2 g)⟩
        | some d =>
          simp only [hdst] at h ⊢
          cases hb : Nat.blt d cx.fn.ntmps
          · simp only [hb, cond_false] at h ⊢
            exact ⟨h, id⟩
          · simp only [hb, cond_true] at h ⊢
            obtain ⟨h1, h2⟩ := ih _ _ _ _ _ h
            exact ⟨h1, fun g => AWP.guard_un hg (fun t ht => by cases ht; exact blt d hb) (h2 g)⟩
    · -- an operation
      rename_i all dst op ty pos after rest k
      cases dst with
      | none =>
        simp only at h ⊢
        cases he : ev T ⟨tm, hp, nx⟩ op with
        | set id cs =>
          simp only [he] at h ⊢
          obtain ⟨h1, h2⟩ := ih _ _ _ _ _ h
          exact ⟨h1, fun g => AWP.op_set hT (fun t ht => by cases ht) he (h2 g)⟩
        | val x p =>
          simp only [he] at h ⊢
          obtain ⟨⟨h1, h1'⟩, h2⟩ := ih _ _ _ _ _ h
          exact ⟨h1', fun g => AWP.op_val0 hT he h1 (h2 g)⟩
        | _ => simp only [he] at h ⊢; exact ⟨h, id⟩
      | some d =>
        simp only at h ⊢
        cases hb : Nat.blt d cx.fn.ntmps
        · simp only [hb, cond_false] at h ⊢
          exact ⟨h, id⟩
        · simp only [hb, cond_true] at h ⊢
          cases he : ev T ⟨tm, hp, nx⟩ op with
          | set id cs =>
            simp only [he] at h ⊢
            obtain ⟨h1, h2⟩ := ih _ _ _ _ _ h
            exact ⟨h1, fun g => AWP.op_set hT (fun t ht => by cases ht; exact blt d hb) he (h2 g)⟩
          | val x p =>
            simp only [he, forceK_eq] at h ⊢
            obtain ⟨⟨h1, h1'⟩, h2⟩ := ih _ _ _ _ _ h
            exact ⟨h1', fun g => AWP.op_val hT (blt d hb) he h1 (h2 g)⟩
          | box cs =>
            simp only [he] at h ⊢
            obtain ⟨h1, h2⟩ := ih _ _ _ _ _ h
            exact ⟨h1, fun g => AWP.op_box hT (blt d hb) he (h2 g)⟩
          | row t n xs m =>
            simp only [he] at h ⊢
            obtain ⟨h1, h2⟩ := ih _ _ _ _ _ h
            exact ⟨h1, fun g => AWP.op_row hT (blt d hb) he (h2 g)⟩
          | stop => simp only [he] at h ⊢; exact ⟨h, id⟩
    · obtain ⟨h1, h2⟩ := ih _ _ _ _ _ h
      exact ⟨h1, fun g a w hi => wp_skip (h2 g a w hi)⟩
    · obtain ⟨h1, h2⟩ := ih _ _ _ _ _ h
      exact ⟨h1, fun g a w hi => wp_label (h2 g a w hi)⟩
    · obtain ⟨h1, h2⟩ := ih _ _ _ _ _ h
      exact ⟨h1, fun g => AWP.seq (h2 g)⟩
    · obtain ⟨h1, h2⟩ := ih _ _ _ _ _ h
      exact ⟨h1, fun g => AWP.block (h2 g)⟩
    · cases he : It.exitTo ‹Nat› ‹List It› with
      | none => simp only [he] at h ⊢; exact ⟨h, id⟩
      | some k' =>
        simp only [he] at h ⊢
        obtain ⟨h1, h2⟩ := ih _ _ _ _ _ h
        exact ⟨h1, fun g => AWP.exit he (h2 g)⟩
    · obtain ⟨h1, h2⟩ := ih _ _ _ _ _ h
      exact ⟨h1, fun g => AWP.region (h2 g)⟩
    · rename_i t x y k
      split at h
      · rename_i b hb
        cases b
        · simp only [cond_false] at h ⊢
          obtain ⟨h1, h2⟩ := ih _ _ _ _ _ h
          exact ⟨h1, fun g a w hi => wp_cond_false (cond_told hb hi) (h2 g a w hi)⟩
        · simp only [cond_true] at h ⊢
          obtain ⟨h1, h2⟩ := ih _ _ _ _ _ h
          exact ⟨h1, fun g a w hi => wp_cond_true (cond_told hb hi) (h2 g a w hi)⟩
      · exact ⟨h, id⟩
    · exact ⟨h, id⟩

end
end Go.Sy

/-
  SYMBOLIC STATES, over any program, part 9: tests, loops, ends, contracts, calls.
-/
namespace Go.Sy
open Go.RowKit

/-- What text the walk is in. -/
structure Env (cx : Cx) (P : Program) (fn : Func) (lo : Nat) : Prop where
  P : cx.P = P
  fn : cx.fn = fn
  lo : ∀ i b, cx.μ0 i = some b → i < lo
  ret : ∀ e a w, cx.std e a w → cx.R e a w

section
variable {cx : Cx} {P : Program} {fn : Func} {lo : Nat} {T : Tab} {k : List It} {s : St} {tm : List (Nat × SV)} {hp : List (Nat × Blk)} {nx : Nat}

theorem AWP.run (e : Env cx P fn lo) (hT : TabOk P T) (n : Nat) {k' : List It} {s' : St} {ob : Prop} (h : arun T fn.ntmps n k tm hp nx True = ⟨k', s', ob⟩) (hob : ob) (g : AWP cx k' s') : AWP cx k ⟨tm, hp, nx⟩ := by
  obtain ⟨rfl, rfl, _⟩ := e
  have := arun_ok (cx := cx) hT n k tm hp nx True
  rw [h] at this
  exact (this hob).2 g

theorem AWP.cond_t {c : Operand} {x y : Code} {β : Bool} (h1 : opd s c = some (.b β)) (h : β = true) (g : AWP cx (.code x :: k) s) : AWP cx (.code (.cond c x y) :: k) s := fun a w hi => by
  obtain ⟨μ, ok, hi'⟩ := hi.one
  exact wp_cond_true (by rw [(opd_den hi'.tmps h1).vv, h]) (g a w hi)
theorem AWP.cond_f {c : Operand} {x y : Code} {β : Bool} (h1 : opd s c = some (.b β)) (h : β = false) (g : AWP cx (.code y :: k) s) : AWP cx (.code (.cond c x y) :: k) s := fun a w hi => by
  obtain ⟨μ, ok, hi'⟩ := hi.one
  exact wp_cond_false (by rw [(opd_den hi'.tmps h1).vv, h]) (g a w hi)

theorem AWP.op_run {all : Array Oper} {rest : List Oper} {d : Nat} {op : Op} {ty : TypeId} {pos : String} {after : Array Edge} (e : Env cx P fn lo) (hd : d < fn.ntmps) {x : SV}
    (hr : ∀ μ ok a w, Inv1 cx μ ok ⟨tm, hp, nx⟩ a w → ∃ y, (execOp a.eval ⟨some d, op, ty, pos, after, none⟩).run P w = .ok (.value y) w ∧ Den μ ok w x y)
    (h : AWP cx (.ops all rest :: k) ⟨(d, x) :: tm, hp, nx⟩) : AWP cx (.ops all (⟨some d, op, ty, pos, after, none⟩ :: rest) :: k) ⟨tm, hp, nx⟩ := by
  obtain ⟨rfl, rfl, _⟩ := e
  refine AWP.op rfl fun a w hi => ?_
  obtain ⟨μ, ok, hi⟩ := hi.one
  obtain ⟨y, h1, h2⟩ := hr μ ok a w hi
  rw [h1, Oper.upon_value]
  exact h _ _ (hi.put hd h2).inv

theorem AWP.pick_t {all : Array Oper} {rest : List Oper} {d : Nat} {c x y : Operand} {ty : TypeId} {pos : String} {after : Array Edge} (e : Env cx P fn lo) (hd : Nat.blt d fn.ntmps = true) {β : Bool} {v : SV} (h1 : opd ⟨tm, hp, nx⟩ c = some (.b β)) (h2 : opd ⟨tm, hp, nx⟩ x = some v) (hb : β = true)
    (h : AWP cx (.ops all rest :: k) ⟨(d, v) :: tm, hp, nx⟩) : AWP cx (.ops all (⟨some d, .pick c x y, ty, pos, after, none⟩ :: rest) :: k) ⟨tm, hp, nx⟩ :=
  AWP.op_run e (Nat.le_of_ble_eq_true hd) (fun μ ok a w hi => ⟨a.eval x, by simp [execOp, (opd_den hi.tmps h1).vv, hb, asBool], opd_den hi.tmps h2⟩) h
theorem AWP.pick_f {all : Array Oper} {rest : List Oper} {d : Nat} {c x y : Operand} {ty : TypeId} {pos : String} {after : Array Edge} (e : Env cx P fn lo) (hd : Nat.blt d fn.ntmps = true) {β : Bool} {v : SV} (h1 : opd ⟨tm, hp, nx⟩ c = some (.b β)) (h2 : opd ⟨tm, hp, nx⟩ y = some v) (hb : β = false)
    (h : AWP cx (.ops all rest :: k) ⟨(d, v) :: tm, hp, nx⟩) : AWP cx (.ops all (⟨some d, .pick c x y, ty, pos, after, none⟩ :: rest) :: k) ⟨tm, hp, nx⟩ :=
  AWP.op_run e (Nat.le_of_ble_eq_true hd) (fun μ ok a w hi => ⟨a.eval y, by simp [execOp, (opd_den hi.tmps h1).vv, hb, asBool], opd_den hi.tmps h2⟩) h

theorem Inv1.told {μ : Nat → Option Nat} {ok : Nat → Prop} {a : Act} {w : World} (h : Inv1 cx μ ok ⟨tm, hp, nx⟩ a w) {d : Nat} {b : Bool} (hb : aget d tm = some (.b b)) : Inv1 cx μ ok ⟨(d, .lit b) :: tm, hp, nx⟩ a w := by
  refine ⟨h.defers, h.size, h.heap, fun t y hy => ?_⟩
  simp only [aget_cons] at hy
  by_cases ht : t = d
  · rw [if_pos ht] at hy
    cases hy
    subst ht
    rw [(h.tmps t _ hb).vv]
    exact .lit b
  · rw [if_neg ht] at hy
    exact h.tmps t y hy

theorem AWP.told {d : Nat} {b : Bool} (hb : aget d tm = some (.b b)) (h : AWP cx k ⟨(d, .lit b) :: tm, hp, nx⟩) : AWP cx k ⟨tm, hp, nx⟩ := fun a w hi => by
  obtain ⟨μ, ok, hi⟩ := hi.one
  exact h a w (hi.told hb).inv

/-- A guard that is told: its truth value stands in slot d. -/
theorem AWP.guard {all : Array Oper} {rest : List Oper} {dst : Option Tmp} {op : Op} {ty : TypeId} {pos : String} {after : Array Edge} {j d : Nat} {b w : Bool} (hg : guardS all tm j = .ask d b) (v : Bool) (hb : b = v)
    (h : AWP cx (.ops all (⟨dst, op, ty, pos, after, some (j, w)⟩ :: rest) :: k) ⟨(d, .lit v) :: tm, hp, nx⟩) : AWP cx (.ops all (⟨dst, op, ty, pos, after, some (j, w)⟩ :: rest) :: k) ⟨tm, hp, nx⟩ := by
  obtain ⟨o, _, _, h3⟩ := guardS_ask hg
  subst hb
  exact AWP.told h3 h

/-- A test that is told. -/
theorem AWP.cond {t : Nat} {x y : Code} {b : Bool} (hg : aget t tm = some (.b b)) (v : Bool) (hb : b = v)
    (h : AWP cx (.code (.cond (.tmp t) x y) :: k) ⟨(t, .lit v) :: tm, hp, nx⟩) : AWP cx (.code (.cond (.tmp t) x y) :: k) ⟨tm, hp, nx⟩ := by
  subst hb
  exact AWP.told hg h

/-- One of two that is told. -/
theorem AWP.pick {all : Array Oper} {rest : List Oper} {dst : Option Tmp} {x y : Operand} {t : Nat} {ty : TypeId} {pos : String} {after : Array Edge} {b : Bool} (hg : aget t tm = some (.b b)) (v : Bool) (hb : b = v)
    (h : AWP cx (.ops all (⟨dst, .pick (.tmp t) x y, ty, pos, after, none⟩ :: rest) :: k) ⟨(t, .lit v) :: tm, hp, nx⟩) : AWP cx (.ops all (⟨dst, .pick (.tmp t) x y, ty, pos, after, none⟩ :: rest) :: k) ⟨tm, hp, nx⟩ := by
  subst hb
  exact AWP.told hg h

def dstOk (N : Nat) : Option Nat → Bool
  | none => true
  | some d => Nat.blt d N

theorem dstOk_lt {N : Nat} {dst : Option Nat} (h : dstOk N dst = true) : ∀ t, dst = some t → t < N := fun t ht => by subst ht; exact Nat.le_of_ble_eq_true h

theorem AWP.guard2 {all : Array Oper} {rest : List Oper} {dst : Option Tmp} {op : Op} {ty : TypeId} {pos : String} {after : Array Edge} {j d : Nat} {b w : Bool} (hg : guardS all tm j = .ask d b)
    (h1 : b = true → AWP cx (.ops all (⟨dst, op, ty, pos, after, some (j, w)⟩ :: rest) :: k) ⟨(d, .lit true) :: tm, hp, nx⟩)
    (h2 : b = false → AWP cx (.ops all (⟨dst, op, ty, pos, after, some (j, w)⟩ :: rest) :: k) ⟨(d, .lit false) :: tm, hp, nx⟩) : AWP cx (.ops all (⟨dst, op, ty, pos, after, some (j, w)⟩ :: rest) :: k) ⟨tm, hp, nx⟩ := by
  cases b
  · exact AWP.guard hg false rfl (h2 rfl)
  · exact AWP.guard hg true rfl (h1 rfl)
theorem AWP.cond2 {t : Nat} {x y : Code} {b : Bool} (hg : aget t tm = some (.b b))
    (h1 : b = true → AWP cx (.code (.cond (.tmp t) x y) :: k) ⟨(t, .lit true) :: tm, hp, nx⟩) (h2 : b = false → AWP cx (.code (.cond (.tmp t) x y) :: k) ⟨(t, .lit false) :: tm, hp, nx⟩) : AWP cx (.code (.cond (.tmp t) x y) :: k) ⟨tm, hp, nx⟩ := by
  cases b
  · exact AWP.cond hg false rfl (h2 rfl)
  · exact AWP.cond hg true rfl (h1 rfl)
theorem AWP.pick2 {all : Array Oper} {rest : List Oper} {dst : Option Tmp} {x y : Operand} {t : Nat} {ty : TypeId} {pos : String} {after : Array Edge} {b : Bool} (hg : aget t tm = some (.b b))
    (h1 : b = true → AWP cx (.ops all (⟨dst, .pick (.tmp t) x y, ty, pos, after, none⟩ :: rest) :: k) ⟨(t, .lit true) :: tm, hp, nx⟩)
    (h2 : b = false → AWP cx (.ops all (⟨dst, .pick (.tmp t) x y, ty, pos, after, none⟩ :: rest) :: k) ⟨(t, .lit false) :: tm, hp, nx⟩) : AWP cx (.ops all (⟨dst, .pick (.tmp t) x y, ty, pos, after, none⟩ :: rest) :: k) ⟨tm, hp, nx⟩ := by
  cases b
  · exact AWP.pick hg false rfl (h2 rfl)
  · exact AWP.pick hg true rfl (h1 rfl)

/-! ### Less known -/
def leT (s' : St) : List (Nat × SV) → Prop
  | [] => True
  | (t, x) :: l => (aget t s'.tmps).map strip = some x ∧ leT s' l
def leH (s' : St) : List (Nat × Blk) → Prop
  | [] => True
  | (i, B) :: l => aget i s'.heap = some B ∧ leH s' l

def SV.idsLt (n : Nat) : SV → Bool
  | .d _ | .ip _ | .lit _ => true
  | .ptr id _ | .pel id _ _ _ | .own id _ _ _ _ => Nat.blt id n
  | .agg cs | .tup cs => go n cs
  | .fn _ a b => go n a && go n b
where go (n : Nat) : List SV → Bool
  | [] => true
  | x :: l => SV.idsLt n x && go n l

theorem idsLt_go {n : Nat} {l : List SV} (h : SV.idsLt.go n l = true) : ∀ (j : Nat) c, l[j]? = some c → SV.idsLt n c = true := by
  induction l with
  | nil => intro j c hc; simp at hc
  | cons x l ih =>
    intro j c hc
    simp only [SV.idsLt.go, Bool.and_eq_true] at h
    cases j with
    | zero => simp at hc; subst hc; exact h.1
    | succ j => exact ih h.2 j c (by simpa using hc)

theorem Den.cut {μ : Nat → Option Nat} {ok : Nat → Prop} {w : World} {n : Nat} {μ' : Nat → Option Nat} (hμ : ∀ i, i < n → μ' i = μ i) {x : SV} {y : Value} (h : Den μ ok w x y) : SV.idsLt n x = true → Den μ' ok w x y := by
  induction h with
  | d h => exact fun _ => .d h
  | ptr h => exact fun hl => .ptr (by rw [hμ _ (Nat.le_of_ble_eq_true hl)]; exact h)
  | pel h => exact fun hl => .pel (by rw [hμ _ (Nat.le_of_ble_eq_true hl)]; exact h)
  | own h h1 h2 => exact fun hl => .own (by rw [hμ _ (Nat.le_of_ble_eq_true hl)]; exact h) h1 h2
  | ip a h4 => exact fun _ => .ip a h4
  | lit b => exact fun _ => .lit b
  | ownNil a id k lo => exact fun _ => .ownNil a id k lo
  | agg vs h h1 ih => exact fun hl => .agg vs h fun j c u hc hu => ih j c u hc hu (idsLt_go hl j c hc)
  | tup vs h h1 ih => exact fun hl => .tup vs h fun j c u hc hu => ih j c u hc hu (idsLt_go hl j c hc)
  | fn vs us h h1 h2 h3 ih1 ih2 =>
    intro hl
    simp only [SV.idsLt, Bool.and_eq_true] at hl
    exact .fn vs us h (fun j c u hc hu => ih1 j c u hc hu (idsLt_go hl.1 j c hc)) h2 (fun j c u hc hu => ih2 j c u hc hu (idsLt_go hl.2 j c hc))

def Blk.idsLt (n : Nat) : Blk → Prop
  | .box cs => SV.idsLt.go n cs = true
  | .row _ _ _ xs _ => ∀ e ∈ xs, SV.idsLt.go n e = true

theorem DenB.cut {μ : Nat → Option Nat} {ok : Nat → Prop} {w : World} {n : Nat} {μ' : Nat → Option Nat} (hμ : ∀ i, i < n → μ' i = μ i) {b : Nat} {B : Blk} (h : DenB μ ok w b B) (hl : B.idsLt n) : DenB μ' ok w b B := by
  cases B with
  | box cs =>
    obtain ⟨c, T, z, h1, hz, h2, h3⟩ := h
    exact ⟨c, T, z, h1, hz, h2, fun j x u hx hu => (h3 j x u hx hu).cut hμ (idsLt_go hl j x hx)⟩
  | row T fz k xs C =>
    obtain ⟨c, z, h1, hf, hz, h2, h3, h4, h5⟩ := h
    exact ⟨c, z, h1, hf, hz, h2, h3, h4, fun i e j x u he hx hu => (h5 i e j x u he hx hu).cut hμ (idsLt_go (hl e (List.mem_of_getElem? he)) j x hx)⟩

def okT (n : Nat) : List (Nat × SV) → Bool
  | [] => true
  | (_, x) :: l => SV.idsLt n x && okT n l
def okH (n : Nat) : List (Nat × Blk) → Prop
  | [] => True
  | (i, B) :: l => Nat.blt i n = true ∧ B.idsLt n ∧ okH n l

theorem leT_get {s' : St} {l : List (Nat × SV)} (h : leT s' l) {n : Nat} (ho : okT n l = true) : ∀ t x, aget t l = some x → (∃ y, aget t s'.tmps = some y ∧ strip y = x) ∧ SV.idsLt n x = true := by
  induction l with
  | nil => intro t x hx; simp [aget] at hx
  | cons p l ih =>
    obtain ⟨u, y⟩ := p
    simp only [okT, Bool.and_eq_true] at ho
    intro t x hx
    rw [aget_cons] at hx
    by_cases e : t = u
    · rw [if_pos e] at hx
      cases hx
      subst e
      exact ⟨by simpa using h.1, ho.1⟩
    · rw [if_neg e] at hx
      exact ih h.2 ho.2 t x hx

theorem leH_get {s' : St} {l : List (Nat × Blk)} (h : leH s' l) {n : Nat} (ho : okH n l) : ∀ t x, aget t l = some x → aget t s'.heap = some x ∧ t < n ∧ x.idsLt n := by
  induction l with
  | nil => intro t x hx; simp [aget] at hx
  | cons p l ih =>
    obtain ⟨u, y⟩ := p
    intro t x hx
    rw [aget_cons] at hx
    by_cases e : t = u
    · rw [if_pos e] at hx
      cases hx
      subst e
      exact ⟨h.1, Nat.le_of_ble_eq_true ho.1, ho.2.1⟩
    · rw [if_neg e] at hx
      exact ih h.2 ho.2.2 t x hx

/-- A state of which less is known, with fewer names. -/
theorem AWP.less (e : Env cx P fn lo) {tm' : List (Nat × SV)} {hp' : List (Nat × Blk)} {nx' : Nat} (h1 : leT ⟨tm', hp', nx'⟩ tm) (h2 : leH ⟨tm', hp', nx'⟩ hp) (h3 : okT nx tm = true) (h4 : okH nx hp) (h6 : Nat.ble lo nx = true) (g : AWP cx k ⟨tm, hp, nx⟩) : AWP cx k ⟨tm', hp', nx'⟩ := fun a w hi => by
  obtain ⟨μ, ok, hi⟩ := hi.one
  refine g a w ?_
  let μ' : Nat → Option Nat := fun i => if i < nx then μ i else none
  have hμ : ∀ i, i < nx → μ' i = μ i := fun i h => by simp [μ', h]
  refine ⟨hi.defers, hi.size, μ', ok, ⟨fun i b hb => ?_, fun i h => by have h : nx ≤ i := h; simp [μ']; omega, hi.heap.sub, hi.heap.lt, hi.heap.okNew, fun i B hB => ?_, fun i j C D b hC hD hb hb' => ?_, hi.heap.frame, hi.heap.size, hi.heap.os, hi.heap.tape, hi.heap.output⟩, fun t x hx => ?_⟩
  · rw [hμ _ (by have := e.lo i b hb; have := Nat.le_of_ble_eq_true h6; omega)]
    exact hi.heap.mu i b hb
  · obtain ⟨e1, e2, e3⟩ := leH_get h2 h4 i B hB
    obtain ⟨hg, hn⟩ | ⟨b, g1, g2, g3, g4, g5⟩ := hi.heap.own i B e1
    · exact .inl ⟨hg, by rw [hμ _ e2]; exact hn⟩
    exact .inr ⟨b, by rw [hμ _ e2]; exact g1, g2, g3, g4, g5.cut hμ e3⟩
  · obtain ⟨e1, e2, _⟩ := leH_get h2 h4 i C hC
    obtain ⟨e3, e4, _⟩ := leH_get h2 h4 j D hD
    rw [hμ _ e2] at hb
    rw [hμ _ e4] at hb'
    exact hi.heap.inj i j C D b e1 e3 hb hb'
  · obtain ⟨⟨y, e1, rfl⟩, e2⟩ := leT_get h1 h3 t x hx
    exact (strip_den (hi.tmps t y e1)).cut hμ e2

end
end Go.Sy

/-
  SYMBOLIC STATES, over any program, part 10: loops, ends, contracts, calls.
-/
namespace Go.Sy
open Go.RowKit

section
variable {cx : Cx} {P : Program} {fn : Func} {lo : Nat} {T : Tab} {k : List It} {s : St} {tm : List (Nat × SV)} {hp : List (Nat × Blk)} {nx : Nat}

theorem exists_min (p : Nat → Prop) : ∀ n, p n → ∃ n, p n ∧ ∀ m, p m → n ≤ m := by
  intro n
  induction n using Nat.strongRecOn with
  | _ n ih =>
    intro h
    by_cases hm : ∃ m, m < n ∧ p m
    · obtain ⟨m, h1, h2⟩ := hm
      exact ih m h1 h2
    · exact ⟨n, h, fun m hp => Nat.le_of_not_lt fun hlt => hm ⟨m, hlt, hp⟩⟩

/-- A LOOP: a family of states, a measure, one round from any of them. -/
theorem AWP.loop {ι : Type} (S : ι → St) (I : ι → Prop) (m : ι → Nat) (i0 : ι) (hI : I i0) {c : Code}
    (start : AWP cx (.code (.loop c) :: k) (S i0) → AWP cx (.code (.loop c) :: k) s)
    (round : ∀ i Φ, I i → (∀ j, I j → m j < m i → AWP cx (.inv Φ :: k) (S j)) → AWP cx (.code c :: .inv Φ :: k) (S i)) : AWP cx (.code (.loop c) :: k) s := by
  refine start fun a w hi => ?_
  let good : Act → World → Nat → Prop := fun a w n => ∃ i, I i ∧ m i = n ∧ Inv cx (S i) a w
  show (Code.loop c).wp cx.P (K cx.P cx.R k) a w
  have hex : ∃ n, good a w n := ⟨_, i0, hI, rfl, hi⟩
  have hmin : ∀ a w, (∃ n, good a w n) → ∃ n, good a w n ∧ ∀ m, good a w m → n ≤ m := fun a w ⟨n, h⟩ => exists_min _ n h
  classical
  let μ : Act → World → Nat := fun a w => if h : ∃ n, good a w n then Classical.choose (hmin a w h) else 0
  have hspec : ∀ a w (h : ∃ n, good a w n), good a w (μ a w) ∧ ∀ m, good a w m → μ a w ≤ m := by
    intro a w h
    simp only [μ, dif_pos h]
    exact Classical.choose_spec (hmin a w h)
  refine wp_loop (fun a w => ∃ n, good a w n) μ hex fun a w hg => ?_
  obtain ⟨⟨i, hi1, hi2, hi3⟩, _⟩ := hspec a w hg
  have := round i (fun a' w' => (∃ n, good a' w' n) ∧ μ a' w' < μ a w) hi1 (fun j hj hlt a' w' hinv => by
    have h1 : good a' w' (m j) := ⟨j, hj, rfl, hinv⟩
    refine ⟨⟨_, h1⟩, ?_⟩
    have h3 : μ a' w' ≤ m j := (hspec a' w' ⟨_, h1⟩).2 _ h1
    omega)
  have h := this a w hi3
  refine Code.wp_mono (fun e a' w' q => ?_) h
  cases e <;> exact q

/-! ### Ends -/
def aresults (T : Tab) (s : St) : List ResultVar → Option (List SV)
  | [] => some []
  | .tmp t :: l => match aget t s.tmps, aresults T s l with
    | some x, some r => some (strip x :: r)
    | _, _ => none
  | .cell a t :: l => match aget a s.tmps with
    | some p => match evLoad T s t p, aresults T s l with
      | .val x _, some r => some (x :: r)
      | _, _ => none
    | none => none

def aret (T : Tab) (s : St) (rs : List ResultVar) : Option SV :=
  match aresults T s rs with
  | some [x] => some x
  | some r => some (.tup r)
  | none => none

theorem evLoad_val {t : TypeId} {p x : SV} {q : Prop} (h : evLoad T s t p = .val x q) : q := by
  unfold evLoad at h
  split at h
  · split at h
    · split at h
      · rcases part1_spec _ _ _ _ with e | ⟨_, _, e⟩ | ⟨_, _, _, e⟩ <;> rw [e] at h <;> cases h <;> trivial
      · cases h
    · rw [mapK_eq] at h
      rcases part1_spec _ _ _ _ with e | ⟨_, _, e⟩ | ⟨_, _, _, e⟩ <;> rw [e] at h <;> cases h <;> trivial
    · cases h
  · cases h

theorem aresults_ok (hT : TabOk cx.P T) {μ : Nat → Option Nat} {ok : Nat → Prop} {a : Act} {w : World} (hi : Inv1 cx μ ok s a w) : ∀ (rs : List ResultVar) (l : List SV), aresults T s rs = some l →
    ∃ vs : List Value, (rs.mapM (m := Sem) fun | .tmp t => pure (a.tmps.getD t undef) | .cell ad t => do loadVar t (← asAddr (a.tmps.getD ad undef))).run cx.P w = .ok vs w ∧ vs.length = l.length ∧ ∀ (j : Nat) c u, l[j]? = some c → vs[j]? = some u → Den μ ok w c u
  | [], l, h => by
    simp only [aresults, Option.some.injEq] at h
    subst h
    exact ⟨[], rfl, rfl, by simp⟩
  | r :: rs, l, h => by
    cases r with
    | tmp t =>
      simp only [aresults] at h
      split at h
      · rename_i x l' hx hl
        cases h
        obtain ⟨vs, h1, h2, h3⟩ := aresults_ok hT hi rs l' hl
        refine ⟨a.tmps.getD t undef :: vs, ?_, by simp [h2], fun j c u hc hu => ?_⟩
        · simp only [List.mapM_cons, Sem.run_bind, Sem.run_pure, Result.andThen_ok, h1]
        · cases j with
          | zero => cases hc; cases hu; exact strip_den (hi.tmps t x hx)
          | succ j => exact h3 j c u (by simpa using hc) (by simpa using hu)
      · cases h
    | cell ad t =>
      simp only [aresults] at h
      split at h
      · rename_i p hp
        split at h
        · rename_i x q l' hx hl
          cases h
          obtain ⟨vs, h1, h2, h3⟩ := aresults_ok hT hi rs l' hl
          have h4 := evLoad_ok hT hi.hh t p _ (hi.tmps ad p hp)
          rw [hx] at h4
          obtain ⟨y, h5, h6⟩ := h4 (evLoad_val hx)
          have h7 : (do loadVar t (← asAddr (a.tmps.getD ad undef)) : Sem Value).run cx.P w = .ok y w := by
            have hd := hi.tmps ad p hp
            simp only [Instr.loadAt, Sem.run_bind] at h5
            simp only [Sem.run_bind]
            generalize a.tmps.getD ad undef = z at hd h5
            cases z with
            | pointer o =>
              cases o with
              | none => simp [Instr.sureAddr] at h5
              | some b => simpa [Instr.sureAddr, asAddr] using h5
            | _ => simp [Instr.sureAddr] at h5
          refine ⟨y :: vs, ?_, by simp [h2], fun j c u hc hu => ?_⟩
          · simp only [List.mapM_cons, Sem.run_bind] at h7 ⊢
            rw [h7]
            simp only [Result.andThen_ok, h1, Sem.run_pure]
          · cases j with
            | zero => cases hc; cases hu; exact h6
            | succ j => exact h3 j c u (by simpa using hc) (by simpa using hu)
        · cases h
      · cases h

theorem aret_ok (hT : TabOk cx.P T) {μ : Nat → Option Nat} {ok : Nat → Prop} {a : Act} {w : World} (hi : Inv1 cx μ ok s a w) {fn : Func} {r : SV} (h : aret T s fn.results.toList = some r) :
    ∃ y, (results fn a.tmps).run cx.P w = .ok y w ∧ Den μ ok w r y := by
  unfold aret at h
  have key : ∀ l, aresults T s fn.results.toList = some l → ∃ vs : List Value, (results fn a.tmps).run cx.P w = .ok (if h : vs.toArray.size = 1 then vs.toArray[0] else .tuple vs.toArray) w ∧ vs.length = l.length ∧ ∀ (j : Nat) c u, l[j]? = some c → vs[j]? = some u → Den μ ok w c u := by
    intro l hl
    obtain ⟨vs, h1, h2, h3⟩ := aresults_ok hT hi _ l hl
    refine ⟨vs, ?_, h2, h3⟩
    simp only [results, Sem.run_bind]
    rw [Array.mapM_eq_mapM_toList, Sem.run_map]
    refine (congrArg (fun r => (Result.andThen (Result.andThen r _) _)) h1).trans ?_
    rfl
  split at h
  · rename_i x hl
    cases h
    obtain ⟨vs, h1, h2, h3⟩ := key _ hl
    match vs, h2 with
    | [v], _ => exact ⟨v, h1, h3 0 r v rfl rfl⟩
  · rename_i l hne hl
    cases h
    obtain ⟨vs, h1, h2, h3⟩ := key _ hl
    have hn : ¬ vs.toArray.size = 1 := by
      intro e
      have e2 : l.length = 1 := by simp at e; omega
      match l, hne, e2 with
      | [x], hne, _ => exact hne x rfl
    rw [dif_neg hn] at h1
    exact ⟨_, h1, .tup _ (by simp [h2]) fun j c u hc hu => h3 j c u hc (by simpa using hu)⟩
  · cases h

theorem AWP.ret (e : Env cx P fn lo) (hT : TabOk P T) {r : SV} (h : aret T ⟨tm, hp, nx⟩ fn.results.toList = some r) (hp' : cx.Post r hp nx) : AWP cx (.code .ret :: k) ⟨tm, hp, nx⟩ := fun a w hi => by
  obtain ⟨rfl, rfl, _, hR⟩ := e
  obtain ⟨μ, ok, hi⟩ := hi.one
  obtain ⟨y, h1, h2⟩ := aret_ok hT hi h
  exact wp_ret (K_ret _ _ _ _ _ (hR _ _ _ ⟨.inr rfl, hi.defers, μ, ok, r, hp, nx, y, hi.heap, h1, h2, hp'⟩))

theorem AWP.fin (e : Env cx P fn lo) (hT : TabOk P T) {r : SV} (h : aret T ⟨tm, hp, nx⟩ fn.results.toList = some r) (hp' : cx.Post r hp nx) : AWP cx [] ⟨tm, hp, nx⟩ := fun a w hi => by
  obtain ⟨rfl, rfl, _, hR⟩ := e
  obtain ⟨μ, ok, hi⟩ := hi.one
  obtain ⟨y, h1, h2⟩ := aret_ok hT hi h
  exact hR _ _ _ ⟨.inl rfl, hi.defers, μ, ok, r, hp, nx, y, hi.heap, h1, h2, hp'⟩

/-! ### Contracts -/
theorem HInv.ofR {cx : Cx} {R : Exit → Act → World → Prop} {μ : Nat → Option Nat} {ok : Nat → Prop} {h : List (Nat × Blk)} {n : Nat} {w : World} (g1 : HInv { cx with R := R } μ ok h n w) : HInv cx μ ok h n w :=
  ⟨g1.mu, g1.fresh, g1.sub, g1.lt, g1.okNew, g1.own, g1.inj, g1.frame, g1.size, g1.os, g1.tape, g1.output⟩
theorem Cx.std_ofR {cx : Cx} {R : Exit → Act → World → Prop} (e : Exit) (a : Act) (w : World) (h : ({ cx with R := R } : Cx).std e a w) : cx.std e a w := by
  obtain ⟨h1, h2, μ, ok, r, hh, n, y, g1, g2, g3, g4⟩ := h
  exact ⟨h1, h2, μ, ok, r, hh, n, y, g1.ofR, g2, g3, g4⟩
/-- What stands in a call, with the end that is asked of it. -/
def Cx.full (cx : Cx) (fn : Func) (Post : SV → List (Nat × Blk) → Nat → Prop) : Cx := { cx with fn := fn, Post := Post, R := ({ cx with fn := fn, Post := Post } : Cx).std }
theorem Cx.full_ret (cx : Cx) (fn : Func) (Post : SV → List (Nat × Blk) → Nat → Prop) (e : Exit) (a : Act) (w : World) (h : (cx.full fn Post).std e a w) : (cx.full fn Post).R e a w := by
  obtain ⟨h1, h2, μ, ok, r, hh, n, y, g1, g2, g3, g4⟩ := h
  exact ⟨h1, h2, μ, ok, r, hh, n, y, ⟨g1.mu, g1.fresh, g1.sub, g1.lt, g1.okNew, g1.own, g1.inj, g1.frame, g1.size, g1.os, g1.tape, g1.output⟩, g2, g3, g4⟩
def argT : Nat → List SV → List (Nat × SV)
  | _, [] => []
  | n, x :: l => (n, x) :: argT (n + 1) l

theorem argT_get (l : List SV) : ∀ (n t : Nat) (x : SV), aget t (argT n l) = some x → n ≤ t ∧ l[t - n]? = some x := by
  induction l with
  | nil => intro n t x h; simp [argT, aget] at h
  | cons y l ih =>
    intro n t x h
    simp only [argT, aget_cons] at h
    by_cases e : t = n
    · rw [if_pos e] at h
      cases h
      subst e
      exact ⟨Nat.le_refl _, by simp⟩
    · rw [if_neg e] at h
      obtain ⟨h1, h2⟩ := ih (n + 1) t x h
      refine ⟨by omega, ?_⟩
      have : t - n = (t - (n + 1)) + 1 := by omega
      rw [this, List.getElem?_cons_succ]
      exact h2

/-- Where a call of f ends, from any world in which the arguments are such, and the blocks pre may be written. -/
def Eff (P : Program) (f : FuncId) (args : List SV) (pre : List (Nat × Blk)) (n : Nat) (Post : SV → List (Nat × Blk) → Nat → Prop) : Prop :=
  (∀ (vs : Array Value) (w : World), (callFunc f vs).run P w = .ok (.enter f vs) w) ∧
  ∀ (cx : Cx) (vs : Array Value), cx.P = P → (∀ b, cx.F b ↔ ∃ i B, aget i pre = some B ∧ cx.μ0 i = some b) → HInv cx cx.μ0 cx.ok0 pre n cx.w0 → vs.size = args.length →
    (∀ (j : Nat) c u, args[j]? = some c → vs[j]? = some u → Den cx.μ0 cx.ok0 cx.w0 c u) →
    Calls P f vs cx.w0 fun e w' => ∃ v μ ok r h n', e = .returned v ∧ HInv cx μ ok h n' w' ∧ Den μ ok w' r v ∧ Post r h n'

theorem enters {f : FuncId} {fn : Func} (hf : P.funcs[f]? = some fn) (hn : (fn.name == "runtime.NumGoroutine") = false) (hb : fn.body.isNone = false) (vs : Array Value) (w : World) : (callFunc f vs).run P w = .ok (.enter f vs) w := by
  simp only [callFunc, Sem.run_bind, run_program, Result.andThen_ok, hf, hn, hb, Bool.false_eq_true, if_false]
  rfl

theorem eff_of {f : FuncId} {args : List SV} {pre : List (Nat × Blk)} {n : Nat} {Post : SV → List (Nat × Blk) → Nat → Prop} {c : Code} (hf : P.funcs[f]? = some fn) (hn : (fn.name == "runtime.NumGoroutine") = false) (hb : fn.body = some c)
    (hl : Nat.ble (lenK args) fn.ntmps = true) (h : ∀ cx, Env cx P fn n → cx.Post = Post → AWP cx [.code c] ⟨argT 0 args, pre, n⟩) : Eff P f args pre n Post := by
  refine ⟨enters hf hn (by rw [hb]; rfl), fun cx vs hP hF hH hs hd => ?_⟩
  let cx' : Cx := cx.full fn Post
  have hH' : HInv cx' cx'.μ0 cx'.ok0 pre n cx'.w0 := ⟨hH.mu, hH.fresh, hH.sub, hH.lt, hH.okNew, hH.own, hH.inj, hH.frame, hH.size, hH.os, hH.tape, hH.output⟩
  have e : Env cx' P fn n := ⟨hP, rfl, (fun i b hi => by
    rcases Nat.lt_or_ge i n with h | h
    · exact h
    · have hi : cx.μ0 i = some b := hi
      rw [hH.fresh i h] at hi; cases hi), cx.full_ret fn Post⟩
  have hl := Nat.le_of_ble_eq_true hl
  rw [lenK_eq] at hl
  have hw := h cx' e rfl { tmps := vs ++ Array.replicate (fn.ntmps - vs.size) undef, defers := [] } cx.w0
    ⟨rfl, by show _ = fn.ntmps; simp; omega, cx.μ0, cx.ok0, hH', fun t x hx => by
      obtain ⟨_, h2⟩ := argT_get args 0 t x hx
      rw [Nat.sub_zero] at h2
      have hlt : t < vs.size := by have := (List.getElem?_eq_some_iff.1 h2).1; omega
      have := hd t x vs[t] h2 (by simp [hlt])
      have e2 : (vs ++ Array.replicate (fn.ntmps - vs.size) undef).getD t undef = vs[t] := by
        rw [Array.getD_eq_getD_getElem?, Array.getElem?_append_left hlt]
        simp [hlt]
      rw [e2]
      exact this⟩
  refine calls_of_wp hf hb ?_
  have hw' : c.wp P (K P cx'.R []) { tmps := vs ++ Array.replicate (fn.ntmps - vs.size) undef, defers := [] } cx.w0 := by
    have h1 : c.wp cx'.P (K cx'.P cx'.R []) { tmps := vs ++ Array.replicate (fn.ntmps - vs.size) undef, defers := [] } cx.w0 := hw
    rw [e.P] at h1
    exact h1
  refine Code.wp_mono (fun e a w q => ?_) hw'
  have q' : cx'.R e a w := q
  obtain ⟨he, hdf, μ, ok, r, hh, n', y, g1, g2, g3, g4⟩ := q'
  have g2 : (results fn a.tmps).run P w = .ok y w := by
    have : (results fn a.tmps).run cx'.P w = .ok y w := g2
    rw [show cx'.P = P from hP] at this
    exact this
  have g1' : HInv cx μ ok hh n' w := ⟨g1.mu, g1.fresh, g1.sub, g1.lt, g1.okNew, g1.own, g1.inj, g1.frame, g1.size, g1.os, g1.tape, g1.output⟩
  rcases he with rfl | rfl
  · exact ⟨hdf, y, g2, y, μ, ok, r, hh, n', rfl, g1', g3, g4⟩
  · exact ⟨hdf, y, g2, y, μ, ok, r, hh, n', rfl, g1', g3, g4⟩

end
end Go.Sy

/-
  SYMBOLIC STATES, over any program, part 11: calls, entered or by contract.
-/
namespace Go.Sy
open Go.RowKit

section
variable {cx : Cx} {P : Program} {fn : Func} {lo : Nat} {T : Tab} {k : List It} {s : St} {tm : List (Nat × SV)} {hp : List (Nat × Blk)} {nx : Nat}

def opds (s : St) : List Operand → Option (List SV)
  | [] => some []
  | o :: l => match opd s o, opds s l with
    | some x, some r => some (x :: r)
    | _, _ => none

theorem opds_den {μ : Nat → Option Nat} {ok : Nat → Prop} {a : Act} {w : World} (hd : ∀ t x, aget t s.tmps = some x → Den μ ok w x (a.tmps.getD t undef)) : ∀ (l : List Operand) (xs : List SV), opds s l = some xs →
    xs.length = l.length ∧ ∀ (j : Nat) c u, xs[j]? = some c → (l.map a.eval)[j]? = some u → Den μ ok w c u
  | [], xs, h => by simp only [opds, Option.some.injEq] at h; subst h; simp
  | o :: l, xs, h => by
    simp only [opds] at h
    split at h
    · rename_i x r hx hr
      cases h
      obtain ⟨h1, h2⟩ := opds_den hd l r hr
      refine ⟨by simp [h1], fun j c u hc hu => ?_⟩
      cases j with
      | zero => cases hc; cases hu; exact opd_den hd hx
      | succ j => exact h2 j c u (by simpa using hc) (by simpa using hu)
    · cases h

/-- The call that stands next: whom it calls, with what. -/
def acall (s : St) (c : Call) : Option (FuncId × List SV) :=
  match c.callee with
  | .value fo => match opd s fo, opds s c.args.toList with
    | some (.fn (.func f) a b), some l => some (f, a ++ l ++ b)
    | _, _ => none
  | _ => none

def VL (μ : Nat → Option Nat) (ok : Nat → Prop) (w : World) (xs : List SV) (vs : Array Value) : Prop := vs.size = xs.length ∧ ∀ (j : Nat) c u, xs[j]? = some c → vs[j]? = some u → Den μ ok w c u

theorem VL.append {μ : Nat → Option Nat} {ok : Nat → Prop} {w : World} {xs ys : List SV} {vs us : Array Value} (h : VL μ ok w xs vs) (h' : VL μ ok w ys us) : VL μ ok w (xs ++ ys) (vs ++ us) := by
  refine ⟨by simp [h.1, h'.1], fun j c u hc hu => ?_⟩
  by_cases hj : j < xs.length
  · rw [List.getElem?_append_left hj] at hc
    rw [Array.getElem?_append_left (by rw [h.1]; exact hj)] at hu
    exact h.2 j c u hc hu
  · rw [List.getElem?_append_right (by omega)] at hc
    rw [Array.getElem?_append_right (by rw [h.1]; omega), h.1] at hu
    exact h'.2 _ c u hc hu

theorem acall_ok {μ : Nat → Option Nat} {ok : Nat → Prop} {a : Act} {w : World} (hd : ∀ t x, aget t s.tmps = some x → Den μ ok w x (a.tmps.getD t undef)) {c : Call} {f : FuncId} {xs : List SV} (h : acall s c = some (f, xs)) (o : Oper) (ho : o.op = .call c)
    (hen : ∀ (vs : Array Value) (w : World), (callFunc f vs).run P w = .ok (.enter f vs) w) :
    ∃ vs, (execOp a.eval o).run P w = .ok (.enter f vs) w ∧ VL μ ok w xs vs := by
  unfold acall at h
  split at h
  · rename_i fo hfo
    split at h
    · rename_i g x y l hx hl
      cases h
      have h1 := opd_den hd hx
      obtain ⟨h2, h3⟩ := opds_den hd _ _ hl
      cases e : a.eval fo <;> rw [e] at h1 <;> cases h1
      rename_i vs us a1 a2 a3 a4
      refine ⟨vs ++ c.args.map a.eval ++ us, ?_, (VL.append ⟨a1, a2⟩ ⟨by simp [h2], fun j c u hc hu => h3 j c u hc (by simpa using hu)⟩).append ⟨a3, a4⟩⟩
      simp only [execOp, ho, resolve, hfo, e, Deferred.ofValue, Sem.run_bind, Sem.run_pure, Result.andThen_ok, invoke]
      exact hen _ _
    · cases h
  · cases h

theorem HInv.weak {μ : Nat → Option Nat} {ok : Nat → Prop} {w : World} (h : HInv cx μ ok hp nx w) (F : Nat → Prop) (hF : ∀ b, F b ↔ ∃ i B, aget i hp = some B ∧ μ i = some b) (P' : Program) (fn' : Func) (Post) :
    HInv ⟨P', fn', w, μ, ok, F, Post, fun _ _ _ => False⟩ μ ok hp nx w := by
  refine ⟨fun _ _ h => h, h.fresh, fun _ h => h, h.lt, fun _ h => .inl h, fun i B hi => ?_, h.inj, fun _ _ _ => rfl, Nat.le_refl _, rfl, rfl, rfl⟩
  obtain hg | ⟨b, h1, h2, h3, _, h5⟩ := h.own i B hi
  · exact .inl hg
  exact .inr ⟨b, h1, h2, h3, .inr ((hF b).2 ⟨i, B, hi, h1⟩), h5⟩

/-- Behind a call that might write the blocks F of what is owned. -/
theorem HInv.after {μ μ' : Nat → Option Nat} {ok ok' : Nat → Prop} {w w' : World} (h : HInv cx μ ok hp nx w) {F : Nat → Prop} (hF : ∀ b, F b → ∃ i B, aget i hp = some B ∧ μ i = some b) {P' : Program} {fn' : Func} {Post} {hp' : List (Nat × Blk)} {n' : Nat}
    (h' : HInv ⟨P', fn', w, μ, ok, F, Post, fun _ _ _ => False⟩ μ' ok' hp' n' w') : HInv cx μ' ok' hp' n' w' := by
  have hFF : ∀ b, F b → cx.w0.heap.size ≤ b ∨ cx.F b := fun b hb => by
    obtain ⟨i, B, h1, h2⟩ := hF b hb
    obtain ⟨_, hn⟩ | ⟨b', g1, _, _, g4, _⟩ := h.own i B h1
    · rw [hn] at h2; cases h2
    rw [h2] at g1
    cases g1
    exact g4
  have hsz : w.heap.size ≤ w'.heap.size := h'.size
  refine ⟨fun i b hi => h'.mu i b (h.mu i b hi), h'.fresh, fun b hb => h'.sub b (h.sub b hb), h'.lt, fun b hb => ?_, fun i B hi => ?_, h'.inj, fun b hb hnF => ?_, Nat.le_trans h.size hsz, h'.os.trans h.os, h'.tape.trans h.tape, h'.output.trans h.output⟩
  · rcases h'.okNew b hb with h1 | h1
    · exact h.okNew b h1
    · rcases h1 with h1 | h1
      · exact .inr (.inl (Nat.le_trans h.size h1))
      · exact .inr (hFF b h1)
  · obtain hg | ⟨b, g1, g2, g3, g4, g5⟩ := h'.own i B hi
    · exact .inl hg
    refine .inr ⟨b, g1, g2, g3, ?_, g5⟩
    rcases g4 with g4 | g4
    · exact .inl (Nat.le_trans h.size g4)
    · exact hFF b g4
  · have h1 : w'.heap[b]? = w.heap[b]? := h'.frame b (Nat.lt_of_lt_of_le hb h.size) (fun hFb => by
      rcases hFF b hFb with h2 | h2
      · omega
      · exact hnF h2)
    exact h1.trans (h.frame b hb hnF)

theorem Den.after {μ μ' : Nat → Option Nat} {ok ok' : Nat → Prop} {w w' : World} (h : HInv cx μ ok hp nx w) {F : Nat → Prop} (hF : ∀ b, F b → ∃ i B, aget i hp = some B ∧ μ i = some b) {P' : Program} {fn' : Func} {Post} {hp' : List (Nat × Blk)} {n' : Nat}
    (h' : HInv ⟨P', fn', w, μ, ok, F, Post, fun _ _ _ => False⟩ μ' ok' hp' n' w') {x : SV} {y : Value} (hx : Den μ ok w x y) : Den μ' ok' w' x y :=
  hx.mono h'.mu h'.sub fun b hb => h'.frame b (h.lt b hb) fun hFb => by
    obtain ⟨i, B, h1, h2⟩ := hF b hFb
    obtain ⟨_, hn⟩ | ⟨b', g1, _, g3, _⟩ := h.own i B h1
    · rw [hn] at h2; cases h2
    rw [h2] at g1
    cases g1
    exact g3 hb

theorem Inv1.after {μ μ' : Nat → Option Nat} {ok ok' : Nat → Prop} {a : Act} {w w' : World} (h : Inv1 cx μ ok ⟨tm, hp, nx⟩ a w) {F : Nat → Prop} (hF : ∀ b, F b → ∃ i B, aget i hp = some B ∧ μ i = some b) {P' : Program} {fn' : Func} {Post} {hp' : List (Nat × Blk)} {n' : Nat}
    (h' : HInv ⟨P', fn', w, μ, ok, F, Post, fun _ _ _ => False⟩ μ' ok' hp' n' w') : Inv1 cx μ' ok' ⟨tm, hp', n'⟩ a w' :=
  ⟨h.defers, h.size, h.heap.after hF h', fun t x hx => Den.after h.heap hF h' (h.tmps t x hx)⟩

theorem Inv1.dput {μ : Nat → Option Nat} {ok : Nat → Prop} {a : Act} {w : World} (h : Inv1 cx μ ok ⟨tm, hp, nx⟩ a w) {dst : Option Nat} (hd : ∀ t, dst = some t → t < cx.fn.ntmps) {x : SV} {v : Value} (hx : Den μ ok w x v) :
    Inv1 cx μ ok ⟨tput dst x tm, hp, nx⟩ (a.put dst v) w := by
  cases dst with
  | none => exact h
  | some d => exact h.put (hd d rfl) hx

/-- A CALL THAT IS ENTERED: its text is walked in place, over the same blocks. -/
theorem AWP.enter (e : Env cx P fn lo) {all : Array Oper} {rest : List Oper} {dst : Option Tmp} {c : Call} {ty : TypeId} {pos : String} {after : Array Edge} {f : FuncId} {xs : List SV} (hc : acall ⟨tm, hp, nx⟩ c = some (f, xs)) {fn' : Func} {c' : Code}
    (hf : P.funcs[f]? = some fn') (hn : (fn'.name == "runtime.NumGoroutine") = false) (hb : fn'.body = some c') (hl : Nat.ble (lenK xs) fn'.ntmps = true) (hd : dstOk fn.ntmps dst = true)
    (h : ∀ cx', Env cx' P fn' nx → cx'.Post = (fun r h n => AWP cx (.ops all rest :: k) ⟨tput dst r tm, h, n⟩) → AWP cx' [.code c'] ⟨argT 0 xs, hp, nx⟩) :
    AWP cx (.ops all (⟨dst, .call c, ty, pos, after, none⟩ :: rest) :: k) ⟨tm, hp, nx⟩ := by
  obtain ⟨hE1, hE2⟩ := eff_of (Post := fun r h n => AWP cx (.ops all rest :: k) ⟨tput dst r tm, h, n⟩) (pre := hp) (n := nx) hf hn hb hl h
  obtain ⟨rfl, rfl, _⟩ := e
  refine AWP.op rfl fun a w hi => ?_
  obtain ⟨μ, ok, hi⟩ := hi.one
  obtain ⟨vs, h1, h2⟩ := acall_ok hi.tmps hc (⟨dst, .call c, ty, pos, after, none⟩ : Oper) rfl hE1
  rw [h1, Oper.upon_enter]
  let F : Nat → Prop := fun b => ∃ i B, aget i hp = some B ∧ μ i = some b
  refine (hE2 ⟨cx.P, fn', w, μ, ok, F, fun _ _ _ => True, fun _ _ _ => False⟩ vs rfl (fun _ => Iff.rfl) (hi.heap.weak F (fun _ => Iff.rfl) _ _ _) h2.1 h2.2).mono ?_
  rintro e w' ⟨v, μ', ok', r, h', n', rfl, g1, g2, g3⟩
  exact g3 _ _ (((hi.after (fun _ h => h) g1).dput (dstOk_lt hd) g2).inv)

def SV.noIds : SV → Bool
  | .d _ | .ip _ | .lit _ => true
  | .ptr .. | .pel .. | .own .. => false
  | .agg cs | .tup cs => go cs
  | .fn _ a b => go a && go b
where go : List SV → Bool
  | [] => true
  | x :: l => SV.noIds x && go l

theorem noIds_lt {x : SV} (h : SV.noIds x = true) : SV.idsLt 0 x = true := by
  have key : ∀ (l : List SV), (∀ x ∈ l, SV.noIds x = true → SV.idsLt 0 x = true) → SV.noIds.go l = true → SV.idsLt.go 0 l = true := by
    intro l
    induction l with
    | nil => intro _ _; rfl
    | cons x l ih =>
      intro hx h
      simp only [SV.noIds.go, Bool.and_eq_true] at h
      simp only [SV.idsLt.go, Bool.and_eq_true]
      exact ⟨hx x (by simp) h.1, ih (fun y hy => hx y (by simp [hy])) h.2⟩
  match x with
  | .d _ => rfl
  | .ip _ => rfl
  | .lit _ => rfl
  | .ptr .. => cases h
  | .pel .. => cases h
  | .own .. => cases h
  | .agg cs => exact key cs (fun x hx hn => noIds_lt hn) h
  | .tup cs => exact key cs (fun x hx hn => noIds_lt hn) h
  | .fn _ a b =>
    simp only [SV.noIds, Bool.and_eq_true] at h
    simp only [SV.idsLt, Bool.and_eq_true]
    exact ⟨key a (fun x hx hn => noIds_lt hn) h.1, key b (fun x hx hn => noIds_lt hn) h.2⟩
termination_by SizeOf.sizeOf x
decreasing_by all_goals (simp_wf; have := List.sizeOf_lt_of_mem hx; omega)

theorem Den.any {μ μ' : Nat → Option Nat} {ok : Nat → Prop} {w : World} {x : SV} {y : Value} (h : Den μ ok w x y) (hn : SV.noIds x = true) : Den μ' ok w x y := h.cut (n := 0) (fun i hi => by omega) (noIds_lt hn)

def SV.noMem : SV → Bool
  | .d (.v _) | .d .nil | .lit _ => true
  | .d (.sl ..) | .ip _ | .ptr .. | .pel .. | .own .. => false
  | .agg cs | .tup cs => go cs
  | .fn _ a b => go a && go b
where go : List SV → Bool
  | [] => true
  | x :: l => SV.noMem x && go l

theorem noMem_go {l : List SV} (h : SV.noMem.go l = true) : ∀ (j : Nat) c, l[j]? = some c → SV.noMem c = true := by
  induction l with
  | nil => intro j c hc; simp at hc
  | cons x l ih =>
    intro j c hc
    simp only [SV.noMem.go, Bool.and_eq_true] at h
    cases j with
    | zero => simp at hc; subst hc; exact h.1
    | succ j => exact ih h.2 j c (by simpa using hc)

theorem Den.flat {μ μ' : Nat → Option Nat} {ok ok' : Nat → Prop} {w w' : World} {x : SV} {y : Value} (h : Den μ ok w x y) : SV.noMem x = true → Den μ' ok' w' x y := by
  induction h with
  | d h =>
    intro hn
    cases h with
    | v _ => exact .d (.v _)
    | nil => exact .d .nil
    | slNil => cases hn
    | sl => cases hn
  | ptr h => intro hn; cases hn
  | pel h => intro hn; cases hn
  | own h h1 h2 => intro hn; cases hn
  | ip a h4 => intro hn; cases hn
  | lit b => exact fun _ => .lit b
  | ownNil a id k lo => intro hn; cases hn
  | agg vs h h1 ih => exact fun hl => .agg vs h fun j c u hc hu => ih j c u hc hu (noMem_go hl j c hc)
  | tup vs h h1 ih => exact fun hl => .tup vs h fun j c u hc hu => ih j c u hc hu (noMem_go hl j c hc)
  | fn vs us h h1 h2 h3 ih1 ih2 =>
    intro hl
    simp only [SV.noMem, Bool.and_eq_true] at hl
    exact .fn vs us h (fun j c u hc hu => ih1 j c u hc hu (noMem_go hl.1 j c hc)) h2 (fun j c u hc hu => ih2 j c u hc hu (noMem_go hl.2 j c hc))

/-- How an argument of a contract may be met: as it is; nil for an empty row; a row that is owned, lent for the call. -/
inductive Cv (hp : List (Nat × Blk)) (lend : List Nat) : SV → SV → Prop where
  | refl (x : SV) : Cv hp lend x x
  | nil (k : Nat) : Cv hp lend (.d .nil) (.d (.sl k []))
  | own {id k lo n C C' : Nat} {ys : List (List DV)} {T : TypeId} {fz : Bool} (h : aget id hp = some (.row T fz k (ys.map (·.map SV.d)) C')) (hm : id ∈ lend) (hl : lo + n ≤ ys.length) : Cv hp lend (.own id k lo n C) (.d (.sl k ((ys.drop lo).take n)))
  | agg {cs ds : List SV} (h : cs.length = ds.length) (h1 : ∀ (j : Nat) c d, cs[j]? = some c → ds[j]? = some d → Cv hp lend c d) : Cv hp lend (.agg cs) (.agg ds)

inductive CvL (hp : List (Nat × Blk)) (lend : List Nat) : List SV → List SV → Prop where
  | nil : CvL hp lend [] []
  | cons {x y : SV} {l m : List SV} (h : Cv hp lend x y) (t : CvL hp lend l m) : CvL hp lend (x :: l) (y :: m)

theorem CvL.get {hp : List (Nat × Blk)} {lend : List Nat} {l m : List SV} (h : CvL hp lend l m) : l.length = m.length ∧ ∀ (j : Nat) c d, l[j]? = some c → m[j]? = some d → Cv hp lend c d := by
  induction h with
  | nil => exact ⟨rfl, by simp⟩
  | cons h t ih =>
    refine ⟨by simp [ih.1], fun j c d hc hd => ?_⟩
    cases j with
    | zero => cases hc; cases hd; exact h
    | succ j => exact ih.2 j c d (by simpa using hc) (by simpa using hd)

theorem Cv.den {μ : Nat → Option Nat} {ok ok' : Nat → Prop} {w : World} {lend : List Nat} (hh : ∀ i B, aget i hp = some B → (B.ghost ∧ μ i = none) ∨ ∃ b, μ i = some b ∧ ¬ ok b ∧ DenB μ ok w b B) (hk : ∀ b, ok b → ok' b) (hl : ∀ i ∈ lend, ∀ B, aget i hp = some B → ∀ b, μ i = some b → ok' b)
    {x y : SV} (h : Cv hp lend x y) : ∀ {u : Value}, Den μ ok w x u → Den μ ok' w y u := by
  induction h with
  | refl x => exact fun hu => hu.mono (fun _ _ h => h) hk (fun _ _ => rfl)
  | nil k =>
    intro u hu
    rw [hu.nil']
    exact .d (.slNil k)
  | own h hm hle =>
    rename_i id k lo n C C' ys T fz
    intro u hu
    cases hu with
    | ownNil a _ _ _ =>
      simp only [List.take_zero]
      cases a with
      | none => exact .d (.slNil k)
      | some a => exact .d (DDen.sl (ok := ok') (w := w) k [] a 0 (by simp) (by simp) (by simp) (by simp) (by simp))
    | own hb h1 h2 =>
    rename_i b
    obtain ⟨_, hn⟩ | ⟨b', g1, g2, c, z, g3, gf, gz, g4, g5, g6, g7⟩ := hh _ _ h
    · rw [hn] at hb; cases hb
    rw [hb] at g1
    cases g1
    have hlen : ((ys.drop lo).take n).length = n := by simp; omega
    have key : ∀ (i : Nat) (e : List DV), ((ys.drop lo).take n)[i]? = some e → ys[lo + i]? = some e := by
      intro i e he
      rw [List.getElem?_take] at he
      split at he
      · rwa [List.getElem?_drop] at he
      · cases he
    have hadd : ∀ i j, (⟨b, lo * k, none⟩ : Addr).add (i * k + j) = ⟨b, (lo + i) * k + j, none⟩ := fun i j => by
      rw [add_add', Nat.add_mul, Nat.add_assoc]
    have hrow : ∀ (i : Nat) (e : List DV), ys[i]? = some e → (ys.map (·.map SV.d))[i]? = some (e.map SV.d) := fun i e he => by rw [List.getElem?_map, he]; rfl
    have hel : ∀ (i : Nat) (e : List DV), ys[i]? = some e → e.length = k := fun i e he => by have := g6 i _ (hrow i e he); simpa using this
    have hlt : ∀ (i : Nat) (e : List DV) (j : Nat) (x : DV), ys[i]? = some e → e[j]? = some x → i * k + j < c.size := by
      intro i e j x he hj
      have h1 : i < ys.length := (List.getElem?_eq_some_iff.1 he).1
      have h2 : j < e.length := (List.getElem?_eq_some_iff.1 hj).1
      rw [hel i e he] at h2
      simp only [List.length_map] at g5
      have h3 : (i + 1) * k ≤ C' * k := Nat.mul_le_mul_right _ (by omega)
      rw [Nat.add_mul, Nat.one_mul] at h3
      omega
    have := DDen.sl (ok := ok') (w := w) k ((ys.drop lo).take n) ⟨b, lo * k, none⟩ (C - lo) (by omega) (by omega) (fun i e he => hel _ e (key i e he))
      (fun i e j x he hj => ⟨hl _ hm _ h b hb, by
        have h1 := hlt _ e j x (key i e he) hj
        exact ⟨c[(lo + i) * k + j], by rw [hadd, cell_at g3]; simp [h1]⟩⟩)
      (fun i e j x u he hj hu => by
        rw [hadd, cell_at g3] at hu
        have := g7 _ _ j (.d x) u (hrow _ e (key i e he)) (by rw [List.getElem?_map, hj]; rfl) hu
        cases this with | d hd => exact hd.mono hk (fun _ _ => rfl))
    rw [hlen] at this
    exact .d this
  | agg h h1 ih =>
    intro u hu
    cases hu with | agg vs g1 g2 =>
    refine .agg vs (by omega) fun j c v hc hv => ?_
    rename_i cs ds
    have hj : j < cs.length := by rw [h]; exact (List.getElem?_eq_some_iff.1 hc).1
    exact ih j cs[j] c (by simp [hj]) hc (g2 j _ v (by simp [hj]) hv)

/-- A CALL BY ITS CONTRACT: of a function that writes to no block of its caller's. -/
theorem AWP.call (e : Env cx P fn lo) {f : FuncId} {cs : List SV} {Post : SV → List (Nat × Blk) → Nat → Prop} (hE : Eff P f cs [] 0 Post) {all : Array Oper} {rest : List Oper} {dst : Option Tmp} {c : Call} {ty : TypeId} {pos : String} {after : Array Edge} {xs : List SV}
    (hc : acall ⟨tm, hp, nx⟩ c = some (f, xs)) (lend : List Nat) (hcv : CvL hp lend xs cs) (hno : SV.noIds.go cs = true) (hd : dstOk fn.ntmps dst = true)
    (h : ∀ r h n, Post r h n → SV.noIds r = true ∧ (lend = [] ∨ SV.noMem r = true) ∧ AWP cx (.ops all rest :: k) ⟨tput dst r tm, hp, nx⟩) :
    AWP cx (.ops all (⟨dst, .call c, ty, pos, after, none⟩ :: rest) :: k) ⟨tm, hp, nx⟩ := by
  obtain ⟨hE1, hE2⟩ := hE
  obtain ⟨rfl, rfl, _⟩ := e
  refine AWP.op rfl fun a w hi => ?_
  obtain ⟨μ, ok, hi⟩ := hi.one
  obtain ⟨vs, h1, h2⟩ := acall_ok hi.tmps hc (⟨dst, .call c, ty, pos, after, none⟩ : Oper) rfl hE1
  rw [h1, Oper.upon_enter]
  let ok0 : Nat → Prop := fun b => ok b ∨ ∃ i ∈ lend, ∃ B, aget i hp = some B ∧ μ i = some b
  let cx2 : Cx := ⟨cx.P, cx.fn, w, fun _ => none, ok0, fun _ => False, fun _ _ _ => True, fun _ _ _ => False⟩
  have howned : ∀ i B b, aget i hp = some B → μ i = some b → b < w.heap.size ∧ ¬ ok b := fun i B b hB hb => by
    obtain ⟨_, hn⟩ | ⟨b', g1, g2, g3, _⟩ := hi.heap.own i B hB
    · rw [hn] at hb; cases hb
    rw [hb] at g1
    cases g1
    exact ⟨g2, g3⟩
  have hlt0 : ∀ b, ok0 b → b < w.heap.size := fun b hb => by
    rcases hb with hb | ⟨i, _, B, hB, hb⟩
    · exact hi.heap.lt b hb
    · exact (howned i B b hB hb).1
  have hH : HInv cx2 cx2.μ0 cx2.ok0 [] 0 cx2.w0 := ⟨fun _ _ h => h, fun _ _ => rfl, fun _ h => h, hlt0, fun _ h => .inl h, fun i B h => by simp [aget] at h, fun i j C D b h => by simp [aget] at h, fun _ _ _ => rfl, Nat.le_refl _, rfl, rfl, rfl⟩
  obtain ⟨hl1, hl2⟩ := hcv.get
  have hnoj : ∀ (j : Nat) c, cs[j]? = some c → SV.noIds c = true := by
    have : ∀ (l : List SV), SV.noIds.go l = true → ∀ (j : Nat) c, l[j]? = some c → SV.noIds c = true := by
      intro l
      induction l with
      | nil => intro _ j c hc; simp at hc
      | cons x l ih =>
        intro h j c hc
        simp only [SV.noIds.go, Bool.and_eq_true] at h
        cases j with
        | zero => cases hc; exact h.1
        | succ j => exact ih h.2 j c (by simpa using hc)
    exact this cs hno
  refine (hE2 cx2 vs rfl (fun b => ⟨fun h => h.elim, fun ⟨i, B, h, _⟩ => by simp [aget] at h⟩) hH (by rw [h2.1, hl1]) (fun j c u hcj hu => by
    have hj : j < xs.length := by rw [hl1]; exact (List.getElem?_eq_some_iff.1 hcj).1
    have hx := h2.2 j xs[j] u (by simp [hj]) hu
    have := Cv.den (ok' := ok0) hi.hh (fun _ h => .inl h) (fun i hm B hB b hb => .inr ⟨i, hm, B, hB, hb⟩) (hl2 j xs[j] c (by simp [hj]) hcj) hx
    exact this.any (hnoj j c hcj))).mono ?_
  rintro e w' ⟨v, μ', ok', r, h', n', rfl, g1, g2, g3⟩
  obtain ⟨k1, k2, k3⟩ := h r h' n' g3
  let ok2 : Nat → Prop := fun b => ok' b ∧ ¬ ∃ i B, aget i hp = some B ∧ μ i = some b
  have hsub : ∀ b, ok b → ok2 b := fun b hb => ⟨g1.sub b (.inl hb), fun ⟨i, B, hB, hm⟩ => (howned i B b hB hm).2 hb⟩
  have hfr : ∀ b, b < w.heap.size → w'.heap[b]? = w.heap[b]? := fun b hb => g1.frame b hb (fun h => h)
  have hokf : ∀ b, ok b → w'.heap[b]? = w.heap[b]? := fun b hb => hfr b (hi.heap.lt b hb)
  have hsz : w.heap.size ≤ w'.heap.size := g1.size
  have hI : Inv1 cx μ ok2 ⟨tm, hp, nx⟩ a w' := by
    refine ⟨hi.defers, hi.size, ⟨hi.heap.mu, hi.heap.fresh, fun b hb => hsub b (hi.heap.sub b hb), fun b hb => g1.lt b hb.1, fun b hb => ?_, fun i B hB => ?_, hi.heap.inj, fun b hb hF => ?_, Nat.le_trans hi.heap.size hsz, g1.os.trans hi.heap.os, g1.tape.trans hi.heap.tape, g1.output.trans hi.heap.output⟩, fun t x hx => (hi.tmps t x hx).mono (fun _ _ h => h) hsub hokf⟩
    · rcases g1.okNew b hb.1 with h1 | h1
      · rcases h1 with h1 | ⟨i, _, B, hB, hm⟩
        · exact hi.heap.okNew b h1
        · exact absurd ⟨i, B, hB, hm⟩ hb.2
      · rcases h1 with h1 | h1
        · exact .inr (.inl (Nat.le_trans hi.heap.size h1))
        · exact h1.elim
    · obtain hg | ⟨b, q1, q2, q3, q4, q5⟩ := hi.heap.own i B hB
      · exact .inl hg
      exact .inr ⟨b, q1, Nat.lt_of_lt_of_le q2 hsz, fun hb => hb.2 ⟨i, B, hB, q1⟩, q4, q5.mono (fun _ _ h => h) hsub hokf (hfr b q2)⟩
    · exact (hfr b (Nat.lt_of_lt_of_le hb hi.heap.size)).trans (hi.heap.frame b hb hF)
  refine k3 _ _ (hI.dput (dstOk_lt hd) ?_).inv
  rcases k2 with k2 | k2
  · subst k2
    refine (g2.any (μ' := μ) k1).mono (fun _ _ h => h) (fun b hb => ⟨hb, fun ⟨i, B, hB, hm⟩ => ?_⟩) (fun _ _ => rfl)
    obtain ⟨q1, q2⟩ := howned i B b hB hm
    rcases g1.okNew b hb with h1 | h1
    · rcases h1 with h1 | ⟨i, hi, _⟩
      · exact q2 h1
      · cases hi
    · rcases h1 with h1 | h1
      · exact absurd q1 (Nat.not_lt.2 h1)
      · exact h1.elim
  · exact g2.flat k2

end
end Go.Sy

/-
  SYMBOLIC STATES, over any program, part 12: a table of types, checked.
-/
namespace Go.Sy
open Go.RowKit

def valIs : Value → Value → Bool
  | .int k a, .int k' b => Nat.beq (kn k) (kn k') && a == b
  | .bool a, .bool b => a == b
  | .string a, .string b => a.data == b.data
  | .pointer none, .pointer none => true
  | .map none, .map none => true
  | .nilFunc, .nilFunc => true
  | .nilIface, .nilIface => true
  | _, _ => false

theorem valIs_eq {a b : Value} (h : valIs a b = true) : a = b := by
  unfold valIs at h
  split at h <;> first | rfl | (cases h; done) | skip
  · simp only [Bool.and_eq_true, beq_iff_eq] at h
    rw [kn_inj h.1, h.2]
  · simp only [beq_iff_eq] at h; rw [h]
  · rename_i a b
    obtain ⟨a⟩ := a
    obtain ⟨b⟩ := b
    simp only [beq_iff_eq] at h
    rw [h]

def cellIs : Value → DV → Bool
  | x, .v y => valIs x y
  | .slice none 0 0, .nil => true
  | _, _ => false

theorem cellIs_eq {x : Value} {y : DV} (h : cellIs x y = true) : some x = dvCell y := by
  unfold cellIs at h
  split at h
  · rw [valIs_eq h]; rfl
  · rfl
  · cases h

def cellsAre : List Value → List DV → Bool
  | [], [] => true
  | x :: l, y :: m => cellIs x y && cellsAre l m
  | _, _ => false

theorem cellsAre_eq : ∀ {l : List Value} {m : List DV}, cellsAre l m = true → l.map some = m.map dvCell
  | [], [], _ => rfl
  | x :: l, y :: m, h => by
    simp only [cellsAre, Bool.and_eq_true] at h
    simp [cellIs_eq h.1, cellsAre_eq h.2]
  | [], _ :: _, h => by cases h
  | _ :: _, [], h => by cases h

def tdChk (P : Program) (t : TypeId) : TD → Bool
  | .int k => match P.underlying t with | some (.int k') => Nat.beq (kn k') (kn k) | _ => false
  | .bool => match P.underlying t with | some .bool => true | _ => false
  | .str => match P.underlying t with | some .string => true | _ => false
  | .slice e => match P.underlying t with | some (.slice e') => e' == e | _ => false
  | .arr n e => match P.underlying t with | some (.array n' e') => n' == n && e' == e | _ => false
  | .struct fs => match P.underlying t with | some (.struct F) => F.toList.map (fun f => (f.type, f.offset)) == fs && (F.toList.all fun f => (P.info? f.type).isSome) | _ => false
  | .ptr e => match P.underlying t with | some (.pointer e') => e' == e | _ => false
  | .oth => match P.underlying t with | some (.struct _) | some (.array ..) | none => false | _ => true

def tyChk (P : Program) (t : TypeId) (y : Ty) : Bool :=
  match P.info? t with
  | some i => (i.size == y.size) && ((y.zero.length == y.size) && ((y.td.agg || y.size == 1) && ((i.bytes == y.bytes) && ((match i.zero with | some z => cellsAre z.cells.toList y.zero | none => false) && tdChk P t y.td))))
  | none => false

theorem tyChk_ok {P : Program} {t : TypeId} {y : Ty} (h : tyChk P t y = true) : TyOk P t y := by
  unfold tyChk at h
  split at h
  · rename_i i hi
    simp only [Bool.and_eq_true, beq_iff_eq] at h
    obtain ⟨h1, h0, h9, h2, h3, h4⟩ := h
    refine ⟨?_, h0, fun hg => by rw [hg] at h9; simpa using h9, ?_⟩
    · split at h3
      · rename_i z hz
        exact ⟨i, z, hi, h1, h2, hz, cellsAre_eq h3⟩
      · cases h3
    · cases e : y.td <;> rw [e] at h4 <;> simp only [tdChk] at h4 ⊢
      case oth =>
        revert h4
        cases hu : P.underlying t with
        | none => intro h; cases h
        | some D =>
          intro h4
          refine ⟨D, rfl, ?_, ?_⟩
          · rintro F rfl; cases h4
          · rintro n e rfl; cases h4
      all_goals
        split at h4
        · rename_i hu
          first
            | (simp only [Bool.and_eq_true, beq_iff_eq] at h4; rw [hu]; exact ⟨_, rfl, h4.1, h4.2⟩)
            | (rw [hu, kn_inj h4]; done)
            | (simp only [Bool.and_eq_true, beq_iff_eq] at h4; rw [hu, h4.1, h4.2]; done)
            | (simp only [beq_iff_eq] at h4; rw [hu, h4]; done)
            | (rw [hu]; done)
        · cases h4
  · cases h

def tabChk (P : Program) : Tab → Bool
  | [] => true
  | (t, y) :: l => tyChk P t y && tabChk P l

theorem tabChk_ok {P : Program} {T : Tab} (h : tabChk P T = true) : TabOk P T := by
  induction T with
  | nil => intro t y hy; simp [aget] at hy
  | cons p l ih =>
    obtain ⟨u, z⟩ := p
    simp only [tabChk, Bool.and_eq_true] at h
    intro t y hy
    rw [aget_cons] at hy
    by_cases e : t = u
    · rw [if_pos e] at hy; cases hy; subst e; exact tyChk_ok h.1
    · rw [if_neg e] at hy; exact ih h.2 t y hy

end Go.Sy

/-
  SYMBOLIC STATES, over any program, part 13: rows: indexing, elements, appending.
-/
namespace Go.Sy
open Go.RowKit

section
variable {cx : Cx} {P : Program} {fn : Func} {lo : Nat} {T : Tab} {k : List It} {s : St} {tm : List (Nat × SV)} {hp : List (Nat × Blk)} {nx : Nat}
variable {all : Array Oper} {rest : List Oper} {d : Nat} {ty : TypeId} {pos : String} {after : Array Edge}

def tySl (T : Tab) (t : TypeId) : Option (TypeId × Nat) :=
  match aget t T with
  | some ⟨.slice e, _, _, _⟩ => match aget e T with
    | some y => some (e, y.size)
    | none => none
  | _ => none

theorem tySl_ok {t e : TypeId} {n : Nat} (h : tySl T t = some (e, n)) : ∃ z y, aget t T = some z ∧ z.td = .slice e ∧ aget e T = some y ∧ y.size = n := by
  unfold tySl at h
  split at h
  · rename_i e' _ _ _ ht
    split at h
    · rename_i y hy
      cases h
      exact ⟨_, y, ht, rfl, hy, rfl⟩
    · cases h
  · cases h

theorem run_indexAt (hT : TabOk P T) {w : World} {t e : TypeId} {n : Nat} (ht : tySl T t = some (e, n)) (a : Addr) (len cap : Nat) (kk : IntKind) (i : Nat) (hi : i < len) :
    (Instr.indexAt t (.slice (some a) len cap) (.int kk i)).run P w = .ok (.pointer (some (a.add (i * n)))) w := by
  obtain ⟨z, y, h1, h2, h3, rfl⟩ := tySl_ok ht
  have hu : P.underlying t = some (.slice e) := by have := (hT _ _ h1).td; rw [h2] at this; exact this
  simp only [Instr.indexAt, asIntOf, Sem.run_bind, Sem.run_pure, Result.andThen_ok, run_underlying hu]
  rw [if_pos ⟨by omega, by omega⟩]
  simp only [Sem.run_bind, (hT _ _ h3).sizeOf, Result.andThen_ok, Sem.run_pure, Int.toNat_natCast]

/-- An element of a row that is only read. -/
theorem AWP.idx (e : Env cx P fn lo) (hT : TabOk P T) {t : TypeId} {x ix : Operand} {te : TypeId} {kk : IntKind} {i : Int} {m : Nat} {xs : List (List DV)} (hd : Nat.blt d fn.ntmps = true) (h1 : opd ⟨tm, hp, nx⟩ x = some (.d (.sl m xs))) (h2 : opd ⟨tm, hp, nx⟩ ix = some (.d (.v (.int kk i))))
    (h3 : tySl T t = some (te, m)) (n : Nat) (hi : i = n) {el : List DV} (he : xs[n]? = some el) (g : AWP cx (.ops all rest :: k) ⟨(d, .ip el) :: tm, hp, nx⟩) :
    AWP cx (.ops all (⟨some d, .indexAddr t x ix, ty, pos, after, none⟩ :: rest) :: k) ⟨tm, hp, nx⟩ := by
  refine AWP.op_run e (Nat.le_of_ble_eq_true hd) (fun μ ok a w hI => ?_) g
  have hx := opd_den hI.tmps h1
  have hix := (opd_den hI.tmps h2).int
  subst hi
  have hlt : n < xs.length := (List.getElem?_eq_some_iff.1 he).1
  cases hx with | d hx =>
  rcases slOf hx with ⟨rfl, _⟩ | ⟨a0, cap, hv, g1, g2, g3, g4⟩
  · simp at hlt
  · refine ⟨.pointer (some (a0.add (n * m))), ?_, .ip _ fun j c hj => ?_⟩
    · simp only [execOp, hv, hix, Sem.run_bind, run_indexAt hT h3 a0 _ cap kk n hlt, Result.andThen_ok, Sem.run_pure]
    · obtain ⟨ho, u, hu, hd⟩ := g4 n el j c he hj
      exact ⟨by rw [add_block]; exact ho, u, by rw [Addr.add_add]; exact hu, hd⟩

/-- An element of a row that is owned. -/
theorem AWP.idx_own (e : Env cx P fn lo) (hT : TabOk P T) {t : TypeId} {x ix : Operand} {te : TypeId} {kk : IntKind} {i : Int} {id m l q C : Nat} (hd : Nat.blt d fn.ntmps = true) (h1 : opd ⟨tm, hp, nx⟩ x = some (.own id m l q C)) (h2 : opd ⟨tm, hp, nx⟩ ix = some (.d (.v (.int kk i))))
    (h3 : tySl T t = some (te, m)) (n : Nat) (hi : i = n) (hn : n < q) (g : AWP cx (.ops all rest :: k) ⟨(d, .pel id m (l + n) 0) :: tm, hp, nx⟩) :
    AWP cx (.ops all (⟨some d, .indexAddr t x ix, ty, pos, after, none⟩ :: rest) :: k) ⟨tm, hp, nx⟩ := by
  refine AWP.op_run e (Nat.le_of_ble_eq_true hd) (fun μ ok a w hI => ?_) g
  have hx := opd_den hI.tmps h1
  have hix := (opd_den hI.tmps h2).int
  subst hi
  generalize hv : a.eval x = v at hx
  cases hx with
  | ownNil _ _ _ _ => omega
  | own hb g1 g2 =>
    rename_i b
    refine ⟨.pointer (some ⟨b, (l + n) * m + 0, none⟩), ?_, .pel hb⟩
    simp only [execOp, hv, hix, Sem.run_bind, run_indexAt hT h3 _ _ _ kk n hn, Result.andThen_ok, Sem.run_pure, add_add']
    simp [Nat.add_mul]

theorem row_cell {μ : Nat → Option Nat} {ok : Nat → Prop} {w : World} {b : Nat} {te : TypeId} {fz : Bool} {m C : Nat} {xs : List (List SV)} (h : DenB μ ok w b (.row te fz m xs C)) {i : Nat} {el : List SV} (he : xs[i]? = some el) {j : Nat} {x : SV} (hj : el[j]? = some x) :
    ∃ u, w.cell? ⟨b, i * m + j, none⟩ = some u ∧ Den μ ok w x u := by
  obtain ⟨c, z, h1, hf, hz, h2, h3, h4, h5⟩ := h
  have hi : i < xs.length := (List.getElem?_eq_some_iff.1 he).1
  have hjl : j < el.length := (List.getElem?_eq_some_iff.1 hj).1
  rw [h4 i el he] at hjl
  have hlt : i * m + j < c.size := by
    have : (i + 1) * m ≤ C * m := Nat.mul_le_mul_right _ (by omega)
    rw [Nat.add_mul, Nat.one_mul] at this
    omega
  exact ⟨c[i * m + j], by rw [cell_at h1]; simp [hlt], h5 i el j x _ he hj (by simp [hlt])⟩

/-- A load out of an element of a row that is owned. -/
theorem AWP.load_el (e : Env cx P fn lo) (hT : TabOk P T) {t : TypeId} {x : Operand} {y : Ty} {id m i j C : Nat} {te : TypeId} {fz : Bool} {xs : List (List SV)} {v : SV} (hd : Nat.blt d fn.ntmps = true) (h1 : opd ⟨tm, hp, nx⟩ x = some (.pel id m i j))
    (h2 : aget t T = some y) (h3 : aget id hp = some (.row te fz m xs C)) {el : List SV} (he : xs[i]? = some el) (h4 : part1 y.td.agg y.size j el = .val v True) (g : AWP cx (.ops all rest :: k) ⟨(d, v) :: tm, hp, nx⟩) :
    AWP cx (.ops all (⟨some d, .load t x, ty, pos, after, none⟩ :: rest) :: k) ⟨tm, hp, nx⟩ := by
  refine AWP.op_run e (Nat.le_of_ble_eq_true hd) (fun μ ok a w hI => ?_) g
  have hx := opd_den hI.tmps h1
  generalize hv : a.eval x = p at hx
  cases hx with | pel hb =>
  rename_i b
  obtain ⟨_, hn⟩ | ⟨b', q1, q2, hB⟩ := hI.hh id _ h3
  · rw [hn] at hb; cases hb
  rw [hb] at q1
  cases q1
  have hty := hT _ _ h2
  have hL : ∀ r, (loadVar t ⟨b, i * m + j, none⟩).run P w = r → (execOp a.eval ⟨some d, .load t x, ty, pos, after, none⟩).run P w = r.andThen fun y w => .ok (.value y) w := by
    intro r hr
    simp only [execOp, hv, Instr.loadAt, Instr.sureAddr, Sem.run_bind, Sem.run_pure, Result.andThen_ok, hr]
  rcases part1_spec y.td.agg y.size j el with q | ⟨e1, e2, q⟩ | ⟨e1, v', e2, q⟩ <;> rw [q] at h4
  · cases h4
  · cases h4
    have hcell : ∀ r, r < y.size → ∃ u, w.cell? ((⟨b, i * m + j, none⟩ : Addr).add r) = some u ∧ ∀ c, el[j + r]? = some c → Den μ ok w c u := by
      intro r hr
      obtain ⟨u, hu, hd⟩ := row_cell hB he (j := j + r) (x := el[j + r]) (by simp)
      exact ⟨u, by rw [add_add', Nat.add_assoc]; exact hu, fun c hc => by obtain ⟨_, rfl⟩ := List.getElem?_eq_some_iff.1 hc; exact hd⟩
    let vs : List Value := (List.range y.size).map fun r => (w.cell? ((⟨b, i * m + j, none⟩ : Addr).add r)).getD undef
    have hvs : ∀ (r : Nat) u, vs[r]? = some u → w.cell? ((⟨b, i * m + j, none⟩ : Addr).add r) = some u := by
      intro r u hr
      simp only [vs] at hr
      rw [List.getElem?_map] at hr
      by_cases hlt : r < y.size
      · rw [List.getElem?_range hlt] at hr
        obtain ⟨u', hu', _⟩ := hcell r hlt
        simp [hu'] at hr
        rw [hu', hr]
      · rw [List.getElem?_eq_none (by simpa using hlt)] at hr; cases hr
    refine ⟨.agg vs.toArray, by rw [hL _ (run_loadVar hty _ vs (by simp [vs]) hvs e1)]; rfl, .agg _ (by simp [vs]; omega) fun r c u hc hu => ?_⟩
    rw [List.getElem?_take] at hc
    split at hc
    · rename_i hr
      rw [List.getElem?_drop] at hc
      obtain ⟨u', hu', hd⟩ := hcell r hr
      have := hvs r u (by simpa using hu)
      rw [hu'] at this
      cases this
      exact hd c hc
    · cases hc
  · cases h4
    obtain ⟨u, hu, hd⟩ := row_cell hB he e2
    exact ⟨u, by rw [hL _ (run_loadVar1 hty _ u hu e1)]; rfl, hd⟩

/-- A store into an element of a row that is owned. -/
theorem AWP.store_el (e : Env cx P fn lo) (hT : TabOk P T) {dst : Option Nat} {t : TypeId} {x v : Operand} {y : Ty} {id m i j C : Nat} {te : TypeId} {fz : Bool} {xs : List (List SV)} {sv : SV} {vs : List SV} (hd : dstOk fn.ntmps dst = true) (h1 : opd ⟨tm, hp, nx⟩ x = some (.pel id m i j))
    (hv : opd ⟨tm, hp, nx⟩ v = some sv) (h2 : aget t T = some y) (h3 : aget id hp = some (.row te fz m xs C)) {el el' : List SV} (he : xs[i]? = some el) (hvs : cellsOf sv = some vs) (hl : Nat.beq (lenK vs) y.size = true) (ha : allCells vs = true) (h4 : laid j vs el = some el')
    (g : AWP cx (.ops all rest :: k) ⟨tput dst undefS tm, (id, .row te fz m (xs.set i el') C) :: hp, nx⟩) :
    AWP cx (.ops all (⟨dst, .store t x v, ty, pos, after, none⟩ :: rest) :: k) ⟨tm, hp, nx⟩ := by
  obtain ⟨rfl, rfl, _⟩ := e
  refine AWP.op rfl fun a w hi => ?_
  obtain ⟨μ, ok, hI⟩ := hi.one
  have hx := opd_den hI.tmps h1
  have hy := opd_den hI.tmps hv
  generalize hpv : a.eval x = p at hx
  cases hx with | pel hb =>
  rename_i b
  obtain ⟨_, hn⟩ | ⟨b', q1, q2, c, z, g1, gf, gz, g2, g3, g4, g5⟩ := hI.hh id _ h3
  · rw [hn] at hb; cases hb
  rw [hb] at q1
  cases q1
  have hc := cellsOf_ok hy hvs
  rw [lenK_eq, beq_iff] at hl
  simp only [decide_eq_true_eq] at hl
  obtain ⟨l1, l2, l3⟩ := laid_spec j vs el el' h4
  have hil : i < xs.length := (List.getElem?_eq_some_iff.1 he).1
  have hel := g4 i el he
  have hrow : (i + 1) * m ≤ C * m := Nat.mul_le_mul_right _ (by omega)
  rw [Nat.add_mul, Nat.one_mul] at hrow
  have hcsz := hc.1
  obtain ⟨w', c', r1, r2, r3, r4, r5⟩ := run_storeVar (w := w) (hT _ _ h2) (j := i * m + j) (a.eval v) g1 gz (by rw [hc.1, hl]) (by omega) (hc.one ha)
  have hw : ∀ q, ok q → w'.heap[q]? = w.heap[q]? := fun q hq => r4.other q (fun e => q2 (e ▸ hq))
  have hrun : (execOp a.eval ⟨dst, .store t x v, ty, pos, after, none⟩).run cx.P w = .ok .skip w' := by
    simp only [execOp, hpv, Instr.storeAt, Instr.sureAddr, Sem.run_bind, Sem.run_pure, Result.andThen_ok, r1]
  rw [hrun, Oper.upon_skip]
  have hB : DenB μ ok w' b (.row te fz m (xs.set i el') C) := by
    refine ⟨c', z, r2, gf, by rw [r3]; exact gz, by rw [r3]; exact g2, by simpa using g3, fun i' e' he' => ?_, fun i' e' j' x' u he' hx' hu => ?_⟩
    · rw [List.getElem?_set] at he'
      split at he'
      · cases he'; rw [l1]; exact hel
      · exact g4 i' e' he'
    · rw [List.getElem?_set] at he'
      split at he'
      · rename_i hii
        cases he'
        subst hii
        have hj' : j' < el'.length := (List.getElem?_eq_some_iff.1 hx').1
        rw [l3 j'] at hx'
        rw [r5] at hu
        by_cases a1 : j' < j
        · rw [if_pos a1] at hx'
          rw [if_pos (by omega)] at hu
          exact (g5 i el j' x' u he hx' hu).mono (fun _ _ h => h) (fun _ h => h) hw
        · rw [if_neg a1] at hx'
          by_cases a2 : j' < j + vs.length
          · rw [if_pos a2] at hx'
            rw [if_neg (by omega), if_pos (by omega)] at hu
            have e2 : i * m + j' - (i * m + j) = j' - j := by omega
            rw [e2] at hu
            exact (hc.2 _ x' u hx' hu).mono (fun _ _ h => h) (fun _ h => h) hw
          · rw [if_neg a2] at hx'
            rw [if_neg (by omega), if_neg (by omega)] at hu
            exact (g5 i el j' x' u he hx' hu).mono (fun _ _ h => h) (fun _ h => h) hw
      · rename_i hii
        have hj' : j' < e'.length := (List.getElem?_eq_some_iff.1 hx').1
        rw [g4 i' e' he'] at hj'
        rw [r5] at hu
        have hne : i' * m + j' < i * m + j ∨ i * m + j + y.size ≤ i' * m + j' := by
          rcases Nat.lt_or_gt_of_ne hii with h | h
          · right
            have : (i + 1) * m ≤ i' * m := Nat.mul_le_mul_right _ (by omega)
            rw [Nat.add_mul, Nat.one_mul] at this
            omega
          · left
            have : (i' + 1) * m ≤ i * m := Nat.mul_le_mul_right _ (by omega)
            rw [Nat.add_mul, Nat.one_mul] at this
            omega
        rcases hne with hne | hne
        · rw [if_pos hne] at hu
          exact (g5 i' e' j' x' u he' hx' hu).mono (fun _ _ h => h) (fun _ h => h) hw
        · rw [if_neg (by omega), if_neg (by omega)] at hu
          exact (g5 i' e' j' x' u he' hx' hu).mono (fun _ _ h => h) (fun _ h => h) hw
  exact g _ _ ((hI.set h3 hb r4 hB).dput (dstOk_lt hd) (.d (.v _))).inv

end
end Go.Sy

/-
  SYMBOLIC STATES, over any program, part 14: appending; rows that begin as nil; rows that are written no more.
-/
namespace Go.Sy
open Go.RowKit

section
variable {cx : Cx} {P : Program} {fn : Func} {lo : Nat} {T : Tab} {k : List It} {s : St} {tm : List (Nat × SV)} {hp : List (Nat × Blk)} {nx : Nat}
variable {all : Array Oper} {rest : List Oper} {d : Nat} {ty : TypeId} {pos : String} {after : Array Edge}

/-- Rows of k cells each lie at a. -/
def RowMem (μ : Nat → Option Nat) (ok : Nat → Prop) (w : World) (a : Addr) (k : Nat) (ys : List (List SV)) : Prop :=
  (∀ (i : Nat) (e : List SV), ys[i]? = some e → e.length = k) ∧ ∀ (i : Nat) (e : List SV) (j : Nat) (x : SV), ys[i]? = some e → e[j]? = some x → ∃ u, w.cell? (a.add (i * k + j)) = some u ∧ Den μ ok w x u

theorem RowMem.gather {μ : Nat → Option Nat} {ok : Nat → Prop} {w : World} {a : Addr} {k : Nat} {ys : List (List SV)} (h : RowMem μ ok w a k ys) :
    ∃ vs : List Value, vs.length = ys.length * k ∧ (∀ (q : Nat) u, vs[q]? = some u → w.cell? (a.add q) = some u) ∧
      (∀ (i : Nat) (e : List SV) (j : Nat) (x : SV) (u : Value), ys[i]? = some e → e[j]? = some x → vs[i * k + j]? = some u → Den μ ok w x u) := by
  have hex : ∀ q, q < ys.length * k → ∃ u, w.cell? (a.add q) = some u := by
    intro q hq
    have hk : 0 < k := by
      rcases Nat.eq_zero_or_pos k with h0 | h0
      · subst h0; simp at hq
      · exact h0
    have h1 : q / k < ys.length := Nat.div_lt_of_lt_mul (by rw [Nat.mul_comm]; exact hq)
    have h2 : q % k < k := Nat.mod_lt _ hk
    have h3 := h.1 (q / k) ys[q / k] (by simp [h1])
    obtain ⟨u, hu, _⟩ := h.2 (q / k) ys[q / k] (q % k) (ys[q / k][q % k]'(by omega)) (by simp [h1]) (by simp)
    refine ⟨u, ?_⟩
    have e : q / k * k + q % k = q := by rw [Nat.mul_comm]; exact Nat.div_add_mod q k
    rwa [e] at hu
  have hvs : ∀ (q : Nat) u, ((List.range (ys.length * k)).map fun q => (w.cell? (a.add q)).getD undef)[q]? = some u → w.cell? (a.add q) = some u := by
    intro q u hq
    rw [List.getElem?_map] at hq
    by_cases hlt : q < ys.length * k
    · rw [List.getElem?_range hlt] at hq
      obtain ⟨u', hu'⟩ := hex q hlt
      simp [hu'] at hq
      rw [hu', hq]
    · rw [List.getElem?_eq_none (by simpa using hlt)] at hq; cases hq
  refine ⟨_, by simp, hvs, fun i e j x u he hx hu => ?_⟩
  obtain ⟨u', h1, h2⟩ := h.2 i e j x he hx
  have := hvs _ u hu
  rw [h1] at this
  cases this
  exact h2

theorem mul_lt_row {i n k j : Nat} (hi : i < n) (hj : j < k) : i * k + j < n * k := by
  have : (i + 1) * k ≤ n * k := Nat.mul_le_mul_right _ hi
  rw [Nat.add_mul, Nat.one_mul] at this
  omega

/-- What is appended: the elements of a row. -/
inductive Src (hp : List (Nat × Blk)) : SV → Nat → List (List SV) → Prop where
  | own {id k n C C' : Nat} {te : TypeId} {fz : Bool} {ys : List (List SV)} (h : aget id hp = some (.row te fz k ys C')) (hn : n = ys.length) : Src hp (.own id k 0 n C) k ys
  | sl {k : Nat} (ys : List (List DV)) : Src hp (.d (.sl k ys)) k (ys.map (·.map SV.d))
  | nil (k : Nat) : Src hp (.d .nil) k []

theorem Src.den {μ : Nat → Option Nat} {ok : Nat → Prop} {w : World} (hh : ∀ i B, aget i hp = some B → (B.ghost ∧ μ i = none) ∨ ∃ b, μ i = some b ∧ ¬ ok b ∧ DenB μ ok w b B) {x : SV} {m : Nat} {ys : List (List SV)} (h : Src hp x m ys) {u : Value} (hu : Den μ ok w x u) :
    (u = .slice none 0 0 ∧ ys = []) ∨ ∃ a c, u = .slice (some a) ys.length c ∧ RowMem μ ok w a m ys := by
  cases h with
  | own h hn =>
    cases hu with
    | ownNil a _ _ _ =>
      have hys := List.eq_nil_of_length_eq_zero (l := ys) (by omega)
      subst hys
      cases a with
      | none => exact .inl ⟨rfl, rfl⟩
      | some a => exact .inr ⟨a, 0, rfl, by simp, by simp⟩
    | own hb h1 h2 =>
      rename_i b
      obtain ⟨_, hn⟩ | ⟨b', q1, q2, hB⟩ := hh _ _ h
      · rw [hn] at hb; cases hb
      rw [hb] at q1
      cases q1
      subst hn
      refine .inr ⟨⟨b, 0, none⟩, _, by rw [Nat.zero_mul], ?_, fun i e j x he hx => ?_⟩
      · obtain ⟨c, z, _, _, _, _, _, g, _⟩ := hB
        exact g
      · obtain ⟨u, hu, hd⟩ := row_cell hB he hx
        exact ⟨u, by rw [add_add', Nat.zero_add]; exact hu, hd⟩
  | sl ys =>
    cases hu with | d hu =>
    rcases slOf hu with ⟨rfl, rfl⟩ | ⟨a0, cap, rfl, g1, g2, g3, g4⟩
    · exact .inl ⟨rfl, rfl⟩
    · refine .inr ⟨a0, cap, by simp, fun i e he => ?_, fun i e j x he hx => ?_⟩
      · rw [List.getElem?_map] at he
        cases e1 : ys[i]? with
        | none => rw [e1] at he; cases he
        | some e0 => rw [e1] at he; cases he; simpa using g3 i e0 e1
      · rw [List.getElem?_map] at he
        cases e1 : ys[i]? with
        | none => rw [e1] at he; cases he
        | some e0 =>
          rw [e1] at he
          cases he
          rw [List.getElem?_map] at hx
          cases e2 : e0[j]? with
          | none => rw [e2] at hx; cases hx
          | some x0 =>
            rw [e2] at hx
            cases hx
            obtain ⟨_, u, hu, hd⟩ := g4 i e0 j x0 e1 e2
            exact ⟨u, hu, .d hd⟩
  | nil m => exact .inl ⟨hu.nil', rfl⟩

def adelO {α : Type} (t : Nat) : List (Nat × α) → Option (List (Nat × α))
  | [] => some []
  | (k, y) :: l => match adelO t l with
    | some l' => bif Nat.beq t k then some l' else some ((k, y) :: l')
    | none => none

theorem adelO_get {α : Type} (t : Nat) : ∀ (l l' : List (Nat × α)), adelO t l = some l' → ∀ u, aget u l' = if u = t then none else aget u l := by
  intro l
  induction l with
  | nil => intro l' h u; simp [adelO] at h; subst h; simp [aget]
  | cons p l ih =>
    obtain ⟨k, y⟩ := p
    intro l' h u
    simp only [adelO] at h
    cases e : adelO t l with
    | none => rw [e] at h; cases h
    | some l1 =>
      rw [e] at h
      simp only at h
      have := ih l1 e u
      by_cases hk : t = k
      · subst hk
        simp only [Nat.beq_refl, cond_true, Option.some.injEq] at h
        subst h
        rw [this, aget_cons]
        by_cases hu : u = t
        · simp [hu]
        · simp [hu]
      · rw [beq_ne hk] at h
        simp only [cond_false, Option.some.injEq] at h
        subst h
        rw [aget_cons, aget_cons, this]
        by_cases hu : u = k
        · subst hu
          have : ¬ u = t := fun e => hk e.symm
          simp [this]
        · simp [hu]

/-- A block dropped. -/
theorem HInv.drop {μ : Nat → Option Nat} {ok : Nat → Prop} {w : World} (h : HInv cx μ ok hp nx w) {hp' : List (Nat × Blk)} (hd : ∀ i B, aget i hp' = some B → aget i hp = some B) : HInv cx μ ok hp' nx w :=
  ⟨h.mu, h.fresh, h.sub, h.lt, h.okNew, fun i B hi => h.own i B (hd i B hi), fun i j C D b hi hj => h.inj i j C D b (hd i C hi) (hd j D hj), h.frame, h.size, h.os, h.tape, h.output⟩

theorem HInv.drew {μ : Nat → Option Nat} {ok : Nat → Prop} {w : World} (h : HInv cx μ ok hp nx w) : HInv cx μ ok hp nx w.drew :=
  ⟨h.mu, h.fresh, h.sub, h.lt, h.okNew, fun i B hi => (h.own i B hi).imp id fun ⟨b, h1, h2, h3, h4, h5⟩ => ⟨b, h1, h2, h3, h4, DenB.mono (w := w) (w' := w.drew) (fun _ _ h => h) (fun _ h => h) (fun _ _ => rfl) rfl h5⟩, h.inj, h.frame, h.size, h.os, h.tape, h.output⟩

theorem Inv1.drew {μ : Nat → Option Nat} {ok : Nat → Prop} {a : Act} {w : World} (h : Inv1 cx μ ok s a w) : Inv1 cx μ ok s a w.drew :=
  ⟨h.defers, h.size, h.heap.drew, fun t x hx => Den.mono (w := w) (w' := w.drew) (fun _ _ h => h) (fun _ h => h) (fun _ _ => rfl) (h.tmps t x hx)⟩

/-- A name for a row that is nil. -/
theorem Inv1.ghost {μ : Nat → Option Nat} {ok : Nat → Prop} {a : Act} {w : World} (h : Inv1 cx μ ok ⟨tm, hp, nx⟩ a w) (te : TypeId) (fz : Bool) (m : Nat) : Inv1 cx μ ok ⟨tm, (nx, .row te fz m [] 0) :: hp, Nat.succ nx⟩ a w := by
  have hn : μ nx = none := h.heap.fresh nx (Nat.le_refl _)
  refine ⟨h.defers, h.size, ⟨h.heap.mu, fun i hi => h.heap.fresh i (by have hi : Nat.succ nx ≤ i := hi; show nx ≤ i; omega), h.heap.sub, h.heap.lt, h.heap.okNew, fun i B hi => ?_, fun i j C D b hi hj hbi hbj => ?_, h.heap.frame, h.heap.size, h.heap.os, h.heap.tape, h.heap.output⟩, h.tmps⟩
  · rw [aget_cons] at hi
    by_cases e : i = nx
    · rw [if_pos e] at hi
      cases hi
      subst e
      exact .inl ⟨trivial, hn⟩
    · rw [if_neg e] at hi
      exact h.heap.own i B hi
  · rw [aget_cons] at hi hj
    have e1 : ¬ i = nx := fun e => by rw [e, hn] at hbi; cases hbi
    have e2 : ¬ j = nx := fun e => by rw [e, hn] at hbj; cases hbj
    rw [if_neg e1] at hi
    rw [if_neg e2] at hj
    exact h.heap.inj i j C D b hi hj hbi hbj

/-- A slot that holds nil: a row of its own, as yet empty. -/
theorem AWP.nil_own {t : Nat} (h1 : aget t tm = some (.d .nil)) (te : TypeId) (m : Nat) (g : AWP cx k ⟨(t, .own nx m 0 0 0) :: tm, (nx, .row te false m [] 0) :: hp, Nat.succ nx⟩) : AWP cx k ⟨tm, hp, nx⟩ := fun a w hi => by
  obtain ⟨μ, ok, hi⟩ := hi.one
  have h2 := hi.tmps t _ h1
  have h3 := hi.ghost te false m
  refine g a w (Inv1.inv (μ := μ) (ok := ok) ⟨h3.defers, h3.size, h3.heap, fun u x hx => ?_⟩)
  simp only [aget_cons] at hx
  by_cases e : u = t
  · rw [if_pos e] at hx
    cases hx
    subst e
    rw [h2.nil']
    exact .ownNil _ _ _ _
  · rw [if_neg e] at hx
    exact h3.tmps u x hx

theorem HInv.move {μ : Nat → Option Nat} {ok : Nat → Prop} {w w' : World} (h : HInv cx μ ok hp nx w) {id b : Nat} {B0 B : Blk} {hp' : List (Nat × Blk)} (hid : aget id hp = some B0) (hb : μ id = some b) (hu : Upd w w' b) (hB : DenB μ ok w' b B) (hdel : adelO id hp = some hp') :
    HInv cx (upd μ nx b) ok ((nx, B) :: hp') (Nat.succ nx) w' := by
  have hset := h.set hid hb hu hB
  have hn : μ nx = none := h.fresh nx (Nat.le_refl _)
  have hm := upd_mono (b := b) hn
  have hget := adelO_get id hp hp' hdel
  have hidn : id ≠ nx := fun e => by rw [e, hn] at hb; cases hb
  have hold : ∀ i C, aget i hp' = some C → i ≠ id ∧ aget i hp = some C := fun i C hi => by
    rw [hget i] at hi
    by_cases e : i = id
    · rw [if_pos e] at hi; cases hi
    · rw [if_neg e] at hi; exact ⟨e, hi⟩
  obtain ⟨_, hn'⟩ | ⟨b', g1, g2, g3, g4, g5⟩ := h.own id B0 hid
  · rw [hn'] at hb; cases hb
  rw [hb] at g1
  cases g1
  refine ⟨fun i c hi => hm _ _ (h.mu i c hi), fun i hi => ?_, h.sub, fun c hc => hset.lt c hc, h.okNew, fun i C hi => ?_, fun i j C D c hi hj hci hcj => ?_, hset.frame, hset.size, hset.os, hset.tape, hset.output⟩
  · unfold upd
    rw [if_neg (by omega)]
    exact h.fresh i (by omega)
  · rw [aget_cons] at hi
    by_cases e : i = nx
    · rw [if_pos e] at hi
      cases hi
      subst e
      exact .inr ⟨b, by simp [upd], by rw [hu.size]; exact g2, g3, g4, hB.mono hm (fun _ h => h) (fun _ _ => rfl) rfl⟩
    · rw [if_neg e] at hi
      obtain ⟨e1, e2⟩ := hold i C hi
      have : aget i ((id, B) :: hp) = some C := by rw [aget_cons, if_neg e1]; exact e2
      obtain ⟨q1, q2⟩ | ⟨c, q1, q2, q3, q4, q5⟩ := hset.own i C this
      · exact .inl ⟨q1, by unfold upd; rw [if_neg e]; exact q2⟩
      · exact .inr ⟨c, hm _ _ q1, q2, q3, q4, q5.mono hm (fun _ h => h) (fun _ _ => rfl) rfl⟩
  · rw [aget_cons] at hi hj
    have key : ∀ i C, i ≠ nx → aget i hp' = some C → ∀ c, upd μ nx b i = some c → μ i = some c ∧ c ≠ b := by
      intro i C e hi c hc
      obtain ⟨e1, e2⟩ := hold i C hi
      unfold upd at hc
      rw [if_neg e] at hc
      exact ⟨hc, fun ec => e1 (h.inj i id C B0 c e2 hid hc (ec ▸ hb))⟩
    by_cases e1 : i = nx <;> by_cases e2 : j = nx
    · rw [e1, e2]
    · rw [if_neg e2] at hj
      have := key j D e2 hj c hcj
      subst e1
      simp [upd] at hci
      exact absurd hci.symm this.2
    · rw [if_neg e1] at hi
      have := key i C e1 hi c hci
      subst e2
      simp [upd] at hcj
      exact absurd hcj.symm this.2
    · rw [if_neg e1] at hi
      rw [if_neg e2] at hj
      exact h.inj i j C D c (hold i C hi).2 (hold j D hj).2 (key i C e1 hi c hci).1 (key j D e2 hj c hcj).1

theorem Inv1.move {μ : Nat → Option Nat} {ok : Nat → Prop} {a : Act} {w w' : World} (h : Inv1 cx μ ok ⟨tm, hp, nx⟩ a w) {id b : Nat} {B0 B : Blk} {hp' : List (Nat × Blk)} (hid : aget id hp = some B0) (hb : μ id = some b) (hu : Upd w w' b) (hB : DenB μ ok w' b B) (hdel : adelO id hp = some hp') :
    Inv1 cx (upd μ nx b) ok ⟨tm, (nx, B) :: hp', Nat.succ nx⟩ a w' := by
  have hm := upd_mono (b := b) (h.heap.fresh nx (Nat.le_refl _))
  obtain ⟨_, hn'⟩ | ⟨b', g1, g2, g3, g4, g5⟩ := h.heap.own id B0 hid
  · rw [hn'] at hb; cases hb
  rw [hb] at g1
  cases g1
  exact ⟨h.defers, h.size, h.heap.move hid hb hu hB hdel, fun t x hx => (h.tmps t x hx).mono hm (fun _ h => h) fun c hc => hu.other c fun e => g3 (e ▸ hc)⟩

theorem Inv1.dropHp {μ : Nat → Option Nat} {ok : Nat → Prop} {a : Act} {w : World} (h : Inv1 cx μ ok ⟨tm, hp, nx⟩ a w) {hp' : List (Nat × Blk)} (hd : ∀ i B, aget i hp' = some B → aget i hp = some B) : Inv1 cx μ ok ⟨tm, hp', nx⟩ a w :=
  ⟨h.defers, h.size, h.heap.drop hd, h.tmps⟩

/-- Cells of two rows, one behind the other. -/
theorem row_app {μ : Nat → Option Nat} {ok : Nat → Prop} {w : World} {m : Nat} {xs ys : List (List SV)} {olds news : List Value} {c2 : Array Value} (hx : ∀ (i : Nat) (e : List SV), xs[i]? = some e → e.length = m) (hy : ∀ (i : Nat) (e : List SV), ys[i]? = some e → e.length = m)
    (ho : ∀ (i : Nat) (e : List SV) (j : Nat) (x : SV) (u : Value), xs[i]? = some e → e[j]? = some x → olds[i * m + j]? = some u → Den μ ok w x u)
    (hn : ∀ (i : Nat) (e : List SV) (j : Nat) (x : SV) (u : Value), ys[i]? = some e → e[j]? = some x → news[i * m + j]? = some u → Den μ ok w x u)
    (h1 : ∀ q, q < xs.length * m → c2[q]? = olds[q]?) (h2 : ∀ q, q < ys.length * m → c2[xs.length * m + q]? = news[q]?) :
    (∀ (i : Nat) (e : List SV), (xs ++ ys)[i]? = some e → e.length = m) ∧ ∀ (i : Nat) (e : List SV) (j : Nat) (x : SV) (u : Value), (xs ++ ys)[i]? = some e → e[j]? = some x → c2[i * m + j]? = some u → Den μ ok w x u := by
  refine ⟨fun i e he => ?_, fun i e j x u he hj hu => ?_⟩
  · by_cases h : i < xs.length
    · rw [List.getElem?_append_left h] at he; exact hx i e he
    · rw [List.getElem?_append_right (by omega)] at he; exact hy _ e he
  · have hjl : j < e.length := (List.getElem?_eq_some_iff.1 hj).1
    by_cases h : i < xs.length
    · rw [List.getElem?_append_left h] at he
      rw [hx i e he] at hjl
      rw [h1 _ (mul_lt_row h hjl)] at hu
      exact ho i e j x u he hj hu
    · rw [List.getElem?_append_right (by omega)] at he
      rw [hy _ e he] at hjl
      have hil : i - xs.length < ys.length := (List.getElem?_eq_some_iff.1 he).1
      have e1 : i * m + j = xs.length * m + ((i - xs.length) * m + j) := by
        rw [← Nat.add_assoc, ← Nat.add_mul]
        congr 2
        omega
      rw [e1, h2 _ (mul_lt_row hil hjl)] at hu
      exact hn _ e j x u he hj hu

theorem app_cells {olds news zs : List Value} {n m q : Nat} (h : olds.length = n) (h' : news.length = m) : (q < n → ((olds ++ news ++ zs).toArray)[q]? = olds[q]?) ∧ (q < m → ((olds ++ news ++ zs).toArray)[n + q]? = news[q]?) := by
  refine ⟨fun hq => ?_, fun hq => ?_⟩
  · rw [List.getElem?_toArray, List.append_assoc, List.getElem?_append_left (by omega)]
  · rw [List.getElem?_toArray, List.append_assoc, List.getElem?_append_right (by omega), h, List.getElem?_append_left (by omega)]
    congr 1
    omega

end
end Go.Sy
