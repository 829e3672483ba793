/-
  SYMBOLIC STATES, over any program, part 1: values as a walk knows them ('SV'), what they say of memory ('Den'), the state of a walk ('St', 'Inv').
-/
import Derived.WalkKit
import Derived.WalkLawsBesides
import Derived.WalkSpells
import Derived.OpenShut
import Derived.Lib.SmallJoins
namespace Go.Sy
open Go.RowKit

/-- A value that hangs on no memory that this call may write. -/
inductive DV : Type where
  | v (x : Value)
  | nil
  | sl (k : Nat) (xs : List (List DV))

inductive SV : Type where
  | d (x : DV)
  | ptr (id j : Nat)
  | pel (id k i j : Nat)
  | own (id k lo n C : Nat)
  | ip (cs : List DV)
  | agg (cs : List SV)
  | tup (cs : List SV)
  | fn (f : Fn) (first caps : List SV)
  | lit (b : Bool)

abbrev SV.i (n : Int) : SV := .d (.v (.int .i64 n))
abbrev SV.b (x : Bool) : SV := .d (.v (.bool x))
abbrev SV.s (x : ByteArray) : SV := .d (.v (.string x))

def plus (a : Addr) (n : Nat) : Addr := a.add n

/-- What a deep value says of a value in a world; its memory lies in blocks that are 'ok'. -/
inductive DDen (ok : Nat → Prop) (w : World) : DV → Value → Prop where
  | v (x : Value) : DDen ok w (.v x) x
  | nil : DDen ok w .nil (.slice none 0 0)
  | slNil (k : Nat) : DDen ok w (.sl k []) (.slice none 0 0)
  | sl (k : Nat) (xs : List (List DV)) (a : Addr) (cap : Nat) (h1 : xs.length ≤ cap) (h2 : cap ≤ maxLen) (h3 : ∀ (i : Nat) (e : List DV), xs[i]? = some e → e.length = k)
      (h4 : ∀ (i : Nat) (e : List DV) (j : Nat) (c : DV), xs[i]? = some e → e[j]? = some c → ok a.block ∧ ∃ u, w.cell? (a.add (i * k + j)) = some u)
      (h5 : ∀ (i : Nat) (e : List DV) (j : Nat) (c : DV) (u : Value), xs[i]? = some e → e[j]? = some c → w.cell? (a.add (i * k + j)) = some u → DDen ok w c u) :
      DDen ok w (.sl k xs) (.slice (some a) xs.length cap)

inductive Den (μ : Nat → Option Nat) (ok : Nat → Prop) (w : World) : SV → Value → Prop where
  | d {x y} (h : DDen ok w x y) : Den μ ok w (.d x) y
  | ptr {id j b} (h : μ id = some b) : Den μ ok w (.ptr id j) (.pointer (some ⟨b, j, none⟩))
  | pel {id k i j b} (h : μ id = some b) : Den μ ok w (.pel id k i j) (.pointer (some ⟨b, i * k + j, none⟩))
  | own {id k lo n C b} (h : μ id = some b) (h1 : lo + n ≤ C) (h2 : C ≤ maxLen) : Den μ ok w (.own id k lo n C) (.slice (some ⟨b, lo * k, none⟩) n (C - lo))
  | ip {cs} (a : Addr) (h4 : ∀ (j : Nat) (c : DV), cs[j]? = some c → ok a.block ∧ ∃ u, w.cell? (a.add j) = some u ∧ DDen ok w c u) : Den μ ok w (.ip cs) (.pointer (some a))
  | agg {cs : List SV} (vs : Array Value) (h : vs.size = cs.length) (h1 : ∀ (j : Nat) c u, cs[j]? = some c → vs[j]? = some u → Den μ ok w c u) : Den μ ok w (.agg cs) (.agg vs)
  | tup {cs : List SV} (vs : Array Value) (h : vs.size = cs.length) (h1 : ∀ (j : Nat) c u, cs[j]? = some c → vs[j]? = some u → Den μ ok w c u) : Den μ ok w (.tup cs) (.tuple vs)
  | fn {f cs ds} (vs us : Array Value) (h : vs.size = cs.length) (h1 : ∀ (j : Nat) c u, cs[j]? = some c → vs[j]? = some u → Den μ ok w c u)
      (h2 : us.size = ds.length) (h3 : ∀ (j : Nat) c u, ds[j]? = some c → us[j]? = some u → Den μ ok w c u) : Den μ ok w (.fn f cs ds) (.func f vs us)
  | lit (b : Bool) : Den μ ok w (.lit b) (.bool b)
  | ownNil (a : Option Addr) (id k lo : Nat) : Den μ ok w (.own id k lo 0 lo) (.slice a 0 0)

theorem cell_of {w w' : World} {a : Addr} (h : w'.heap[a.block]? = w.heap[a.block]?) : w'.cell? a = w.cell? a := World.cell?_of_block (w := w) h

theorem add_block (a : Addr) (n : Nat) : (a.add n).block = a.block := by unfold Addr.add; split <;> rfl

theorem DDen.mono {ok ok' : Nat → Prop} {w w' : World} (hk : ∀ b, ok b → ok' b) (hw : ∀ b, ok b → w'.heap[b]? = w.heap[b]?) {x : DV} {y : Value} (h : DDen ok w x y) : DDen ok' w' x y := by
  induction h with
  | v x => exact .v x
  | nil => exact .nil
  | slNil k => exact .slNil k
  | sl k xs a cap h1 h2 h3 h4 h5 ih =>
    have hc : ∀ (i : Nat) (e : List DV) (j : Nat) (c : DV), xs[i]? = some e → e[j]? = some c → w'.cell? (a.add (i * k + j)) = w.cell? (a.add (i * k + j)) := fun i e j c he hc => by
      obtain ⟨ho, _⟩ := h4 i e j c he hc
      exact cell_of (by rw [add_block]; exact hw _ ho)
    refine .sl k xs a cap h1 h2 h3 (fun i e j c he hj => ?_) (fun i e j c u he hj hu => ?_)
    · obtain ⟨ho, u, hu⟩ := h4 i e j c he hj
      exact ⟨hk _ ho, u, (hc i e j c he hj).trans hu⟩
    · rw [hc i e j c he hj] at hu
      exact ih i e j c u he hj hu

theorem Den.mono {μ μ' : Nat → Option Nat} {ok ok' : Nat → Prop} {w w' : World} (hm : ∀ i b, μ i = some b → μ' i = some b) (hk : ∀ b, ok b → ok' b) (hw : ∀ b, ok b → w'.heap[b]? = w.heap[b]?)
    {x : SV} {y : Value} (h : Den μ ok w x y) : Den μ' ok' w' x y := by
  induction h with
  | d h => exact .d (h.mono hk hw)
  | ptr h => exact .ptr (hm _ _ h)
  | pel h => exact .pel (hm _ _ h)
  | own h h1 h2 => exact .own (hm _ _ h) h1 h2
  | ip a h4 =>
    refine .ip a fun j c hj => ?_
    obtain ⟨ho, u, hu, hd⟩ := h4 j c hj
    exact ⟨hk _ ho, u, (cell_of (by rw [add_block]; exact hw _ ho)).trans hu, hd.mono hk hw⟩
  | agg vs h h1 ih => exact .agg vs h ih
  | tup vs h h1 ih => exact .tup vs h ih
  | fn vs us h h1 h2 h3 ih1 ih2 => exact .fn vs us h ih1 h2 ih2
  | lit b => exact .lit b
  | ownNil a id k lo => exact .ownNil a id k lo

/-- A block that the walk owns: a variable (its cells), or a slice's row (of elements of type e, k cells each; room for C of them; fz: it bears a mark behind its end). -/
inductive Blk : Type where
  | box (cs : List SV)
  | row (e : TypeId) (fz : Bool) (k : Nat) (xs : List (List SV)) (C : Nat)

def DenB (μ : Nat → Option Nat) (ok : Nat → Prop) (w : World) (b : Nat) : Blk → Prop
  | .box cs => ∃ (c : Array Value) (T : TypeId) (z : Nat × Nat), w.heap[b]? = some (.cells c T z) ∧ (∀ j, j < c.size → ¬ (z.1 ≤ j ∧ j < z.2)) ∧ c.size = cs.length ∧ ∀ (j : Nat) x u, cs[j]? = some x → c[j]? = some u → Den μ ok w x u
  | .row T fz k xs C => ∃ (c : Array Value) (z : Nat × Nat), w.heap[b]? = some (.cells c T z) ∧ (fz = false → z = (0, 0)) ∧ (∀ j, j < c.size → ¬ (z.1 ≤ j ∧ j < z.2)) ∧ c.size = C * k ∧ xs.length ≤ C ∧ (∀ (i : Nat) (e : List SV), xs[i]? = some e → e.length = k) ∧
      ∀ (i : Nat) (e : List SV) (j : Nat) (x : SV) (u : Value), xs[i]? = some e → e[j]? = some x → c[i * k + j]? = some u → Den μ ok w x u

theorem DenB.mono {μ μ' : Nat → Option Nat} {ok ok' : Nat → Prop} {w w' : World} (hm : ∀ i b, μ i = some b → μ' i = some b) (hk : ∀ b, ok b → ok' b) (hw : ∀ b, ok b → w'.heap[b]? = w.heap[b]?)
    {b : Nat} {B : Blk} (hb : w'.heap[b]? = w.heap[b]?) (h : DenB μ ok w b B) : DenB μ' ok' w' b B := by
  cases B with
  | box cs =>
    obtain ⟨c, T, z, h1, hz, h2, h3⟩ := h
    exact ⟨c, T, z, hb.trans h1, hz, h2, fun j x u hx hu => (h3 j x u hx hu).mono hm hk hw⟩
  | row T fz k xs C =>
    obtain ⟨c, z, h1, hf, hz, h2, h3, h4, h5⟩ := h
    exact ⟨c, z, hb.trans h1, hf, hz, h2, h3, h4, fun i e j x u he hx hu => (h5 i e j x u he hx hu).mono hm hk hw⟩

/-- A row that is nil, or of no room: no block need bear it. -/
def Blk.ghost : Blk → Prop
  | .row _ _ _ [] 0 => True
  | _ => False

/-! ### The state of a walk -/
def aget {α : Type} (t : Nat) : List (Nat × α) → Option α
  | [] => none
  | (k, x) :: l => bif Nat.beq t k then some x else aget t l

def aset {α : Type} (t : Nat) (x : α) : List (Nat × α) → List (Nat × α)
  | [] => [(t, x)]
  | (k, y) :: l => bif Nat.beq t k then (t, x) :: l else (k, y) :: aset t x l

def adel {α : Type} (t : Nat) : List (Nat × α) → List (Nat × α)
  | [] => []
  | (k, y) :: l => bif Nat.beq t k then adel t l else (k, y) :: adel t l

theorem beq_ne {t k : Nat} (h : t ≠ k) : Nat.beq t k = false := by
  cases h' : Nat.beq t k
  · rfl
  · exact absurd (Nat.eq_of_beq_eq_true h') h
theorem beq_eq (t : Nat) : Nat.beq t t = true := Nat.beq_refl t

theorem aget_aset {α : Type} (t u : Nat) (x : α) (l : List (Nat × α)) : aget u (aset t x l) = if u = t then some x else aget u l := by
  induction l with
  | nil =>
    by_cases h : u = t
    · subst h; simp [aset, aget, beq_eq]
    · simp [aset, aget, h, beq_ne h]
  | cons p l ih =>
    obtain ⟨k, y⟩ := p
    by_cases h1 : t = k
    · subst h1
      by_cases h : u = t
      · subst h; simp [aset, aget, beq_eq]
      · simp [aset, aget, h, beq_eq, beq_ne h]
    · by_cases h2 : u = k
      · subst h2
        have : ¬ u = t := fun e => h1 e.symm
        simp [aset, aget, beq_ne h1, this, beq_eq]
      · simp [aset, aget, beq_ne h1, beq_ne h2, ih]

theorem aget_adel {α : Type} (t u : Nat) (l : List (Nat × α)) : aget u (adel t l) = if u = t then none else aget u l := by
  induction l with
  | nil => simp [adel, aget]
  | cons p l ih =>
    obtain ⟨k, y⟩ := p
    by_cases h1 : t = k
    · subst h1
      by_cases h : u = t
      · subst h; simp [adel, ih, beq_eq]
      · simp [adel, aget, h, ih, beq_eq, beq_ne h]
    · by_cases h2 : u = k
      · subst h2
        have : ¬ u = t := fun e => h1 e.symm
        simp [adel, aget, beq_ne h1, this, beq_eq]
      · simp [adel, aget, beq_ne h1, beq_ne h2, ih]

structure St where
  tmps : List (Nat × SV)
  heap : List (Nat × Blk)
  next : Nat

/-- What a call stands in: its text, the world that it was entered in, what of it may be written, and what is asked of its end. -/
structure Cx where
  P : Program
  fn : Func
  w0 : World
  μ0 : Nat → Option Nat
  ok0 : Nat → Prop
  F : Nat → Prop
  Post : SV → List (Nat × Blk) → Nat → Prop

structure HInv (cx : Cx) (μ : Nat → Option Nat) (ok : Nat → Prop) (h : List (Nat × Blk)) (n : Nat) (w : World) : Prop where
  mu : ∀ i b, cx.μ0 i = some b → μ i = some b
  fresh : ∀ i, n ≤ i → μ i = none
  sub : ∀ b, cx.ok0 b → ok b
  lt : ∀ b, ok b → b < w.heap.size
  okNew : ∀ b, ok b → cx.ok0 b ∨ cx.w0.heap.size ≤ b ∨ cx.F b
  own : ∀ i B, aget i h = some B → (B.ghost ∧ μ i = none) ∨ ∃ b, μ i = some b ∧ b < w.heap.size ∧ ¬ ok b ∧ (cx.w0.heap.size ≤ b ∨ cx.F b) ∧ DenB μ ok w b B
  inj : ∀ i j B C b, aget i h = some B → aget j h = some C → μ i = some b → μ j = some b → i = j
  frame : ∀ b, b < cx.w0.heap.size → ¬ cx.F b → w.heap[b]? = cx.w0.heap[b]?
  size : cx.w0.heap.size ≤ w.heap.size
  os : w.os = cx.w0.os
  tape : w.tape = cx.w0.tape
  output : w.output = cx.w0.output

structure Inv (cx : Cx) (s : St) (a : Act) (w : World) : Prop where
  defers : a.defers = []
  size : a.tmps.size = cx.fn.ntmps
  all : ∃ μ ok, HInv cx μ ok s.heap s.next w ∧ ∀ t x, aget t s.tmps = some x → Den μ ok w x (a.tmps.getD t undef)

end Go.Sy
