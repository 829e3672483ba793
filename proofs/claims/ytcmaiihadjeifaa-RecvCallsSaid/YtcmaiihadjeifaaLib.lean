/-
  PLAIN AID FOR THE WALKS OF THIS SEAT, over any program: a new int key laid into a map that the call has just made; an int key that is there, looked up.
-/
import Derived.WalkKit
import Derived.WalkLawsBesides
import Derived.WalkSpells
import Derived.Handy
import Derived.Lib.Hide
import Derived.Deep.Light
import Derived.Sort.Row
import Derived.Lib.SmallJoins
namespace Go.Camp
open Go.RowKit

theorem findNow_none (k : Int) : ∀ (l : List MapEntry) (i : Nat), (l.all fun e => match e.key with | .int .i64 j => j != k | _ => false) = true →
    Instr.findNow (.int .i64) (.int .i64 k) l i = some none := by
  intro l
  induction l with
  | nil => intro i _; rfl
  | cons e l ih =>
    intro i h
    simp only [List.all_cons, Bool.and_eq_true] at h
    obtain ⟨h1, h2⟩ := h
    obtain ⟨key, val, born⟩ := e
    cases key <;> simp at h1
    rename_i q j
    cases q <;> simp at h1
    have : (k == j) = false := by simpa using fun e => h1 e.symm
    simp [Instr.findNow, Instr.sameNow, this, ih _ h2]

theorem run_checkKey_int {P : Program} {w : World} {t : TypeId} (ht : P.underlying t = some (.int .i64)) (b : Bool) (n : Nat) (k : Int) :
    (Instr.checkKey b (n + 1) t (.int .i64 k)).run P w = .ok () w := by
  simp [Instr.checkKey, run_underlying ht]

theorem World.map_set (w : World) (es es' : Array MapEntry) (c c' : Nat) :
    { w.alloc (.map es c) with heap := (w.alloc (.map es c)).heap.setIfInBounds w.heap.size (.map es' c') } = w.alloc (.map es' c') := by
  simp only [World.alloc]
  congr 1
  apply Array.ext'
  simp [Array.setIfInBounds, Array.toList_push]

theorem run_mapUpdate_new {P : Program} (w : World) (es : Array MapEntry) (c : Nat) {T K E : TypeId} (k : Int) (v : Value)
    (hT : P.underlying T = some (.map K E)) (hK : P.underlying K = some (.int .i64))
    (h : (es.toList.all fun e => match e.key with | .int .i64 j => j != k | _ => false) = true) :
    (Instr.mapUpdate T (.map (some w.heap.size)) (.int .i64 k) v).run P (w.alloc (.map es c)) = .ok () (w.alloc (.map (es.push { key := .int .i64 k, val := v, born := c }) (c + 1))) := by
  have hf := findNow_none k es.toList 0 h
  have hb : (w.alloc (.map es c)).heap[w.heap.size]? = some (.map es c) := (MapKept.heap_alloc w _).1
  simp [Instr.mapUpdate, run_underlying hT, MapKept.run_getObj_map hb, run_checkKey_int hK, Instr.findKey, run_underlying hK, hf, MapKept.run_setObj_map _ hb]
  exact World.map_set w es _ c _

theorem run_lookup_there {P : Program} {w : World} {es : Array MapEntry} {c b : Nat} {T K E : TypeId} {k : Int} {v : Value} {i : Nat}
    (hT : P.underlying T = some (.map K E)) (hK : P.underlying K = some (.int .i64)) (hb : w.heap[b]? = some (.map es c))
    (h : Instr.findNow (.int .i64) (.int .i64 k) es.toList 0 = some (some (i, v))) :
    (Instr.lookup T (.map (some b)) (.int .i64 k) true).run P w = .ok (.tuple #[v, .bool true]) w := by
  simp [Instr.lookup, run_underlying hT, MapKept.run_getObj_map hb, run_checkKey_int hK, Instr.findKey, run_underlying hK, h]

/-- What lies in an old block reads as it did: unconditional, so that the walk takes both for rules. -/
theorem below_at {B : Nat} {w w' : World} (h : Below B w w') {b : Nat} (hb : b < B) :
    (∀ i, w'.cell? ⟨b, i, none⟩ = w.cell? ⟨b, i, none⟩) ∧ (∀ i, w'.frozen? ⟨b, i, none⟩ = w.frozen? ⟨b, i, none⟩) :=
  ⟨fun i => h.cell (p := ⟨b, i, none⟩) hb, fun i => h.frozen (p := ⟨b, i, none⟩) hb⟩

/-- The same cell by cell, for a block of four: then 'simp [go_sem] at' it, and the walk has each cell's value. -/
theorem below_at4 {B : Nat} {w w' : World} (h : Below B w w') {b : Nat} (hb : b < B) :
    w'.cell? ⟨b, 0, none⟩ = w.cell? ⟨b, 0, none⟩ ∧ w'.cell? ⟨b, 1, none⟩ = w.cell? ⟨b, 1, none⟩ ∧ w'.cell? ⟨b, 2, none⟩ = w.cell? ⟨b, 2, none⟩ ∧ w'.cell? ⟨b, 3, none⟩ = w.cell? ⟨b, 3, none⟩ ∧
    w'.frozen? ⟨b, 0, none⟩ = w.frozen? ⟨b, 0, none⟩ ∧ w'.frozen? ⟨b, 1, none⟩ = w.frozen? ⟨b, 1, none⟩ ∧ w'.frozen? ⟨b, 2, none⟩ = w.frozen? ⟨b, 2, none⟩ ∧ w'.frozen? ⟨b, 3, none⟩ = w.frozen? ⟨b, 3, none⟩ := by
  obtain ⟨c, f⟩ := below_at h hb
  exact ⟨c 0, c 1, c 2, c 3, f 0, f 1, f 2, f 3⟩

theorem heap_new (w : World) (o : Obj) (b : Nat) (h : b = w.heap.size) : (w.alloc o).heap[b]? = some o := by subst h; exact (MapKept.heap_alloc w o).1

theorem setCell_twice (w : World) (blk off : Nat) (v v' : Value) : (w.setCell ⟨blk, off, none⟩ v).setCell ⟨blk, off, none⟩ v' = w.setCell ⟨blk, off, none⟩ v' := by
  rw [Sort.setCell_eq, Sort.setCell_eq, Sort.mapBlock_mapBlock, Sort.setCell_eq]
  congr 1
  funext c
  simp

theorem ret_bool {a b : Bool} (h : a = b) : Ending.returned (.bool a) = Ending.returned (.bool b) := by rw [h]

theorem lt_alloc (w : World) (o : Obj) : w.heap.size < (w.alloc o).heap.size := by simp

theorem beq_dec (a b : Int) : (a == b) = decide (a = b) := rfl

/-! ### A block of the call's own, known whole: its cells, and that each may be written -/
def Box (w : World) (b : Nat) (cs : List Value) : Prop := ∃ T, w.heap[b]? = some (.cells cs.toArray T (0, 0))

theorem Box.lt {w : World} {b : Nat} {cs : List Value} (h : Box w b cs) : b < w.heap.size := by
  obtain ⟨T, h⟩ := h
  rcases Nat.lt_or_ge b w.heap.size with h' | h'
  · exact h'
  · rw [Array.getElem?_eq_none h'] at h; cases h
theorem Box.cell {w : World} {b : Nat} {cs : List Value} (h : Box w b cs) (i : Nat) : w.cell? ⟨b, i, none⟩ = cs[i]? := by
  obtain ⟨T, h⟩ := h
  simp [World.cell?, h]
theorem Box.free {w : World} {b : Nat} {cs : List Value} (h : Box w b cs) (i : Nat) : w.frozen? ⟨b, i, none⟩ = false := by
  obtain ⟨T, h⟩ := h
  simp [World.frozen?, h]
theorem Box.alloc {w : World} {b : Nat} {cs : List Value} (h : Box w b cs) (o : Obj) : Box (w.alloc o) b cs := by
  have hlt := h.lt
  obtain ⟨T, h⟩ := h
  exact ⟨T, by rw [Below.heap_alloc w o b hlt]; exact h⟩
theorem Box.new (w : World) (cs : List Value) (T : TypeId) : Box (w.alloc (.cells cs.toArray T)) w.heap.size cs := ⟨T, (MapKept.heap_alloc w _).1⟩
theorem Box.new_at {w : World} {b : Nat} {cs : List Value} {T : TypeId} (h : b = w.heap.size) : Box (w.alloc (.cells cs.toArray T)) b cs := by subst h; exact Box.new _ _ _
theorem Box.drew {w : World} {b : Nat} {cs : List Value} (h : Box w b cs) : Box w.drew b cs := h
/-- Behind a call that leaves what was there. -/
theorem Box.call {w w' : World} {b : Nat} {cs : List Value} (h : Box w b cs) (hb : Below w.heap.size w w') : Box w' b cs := by
  have hlt := h.lt
  obtain ⟨T, h⟩ := h
  exact ⟨T, by rw [hb.block b hlt]; exact h⟩
theorem Box.put_other {w : World} {b c : Nat} {cs : List Value} (h : Box w b cs) (hc : b ≠ c) (i : Nat) (v : Value) : Box (w.setCell ⟨c, i, none⟩ v) b cs := by
  obtain ⟨T, h⟩ := h
  exact ⟨T, by rw [Below.heap_setCell w ⟨c, i, none⟩ v b hc]; exact h⟩
theorem Box.put {w : World} {b : Nat} {cs : List Value} (h : Box w b cs) (i : Nat) (v : Value) : Box (w.setCell ⟨b, i, none⟩ v) b (cs.set i v) := by
  obtain ⟨T, h⟩ := h
  have := Joins.block_setCell h (i := i) v
  refine ⟨T, ?_⟩
  rw [this]
  simp
theorem Box.put_is {w : World} {b : Nat} {cs cs' : List Value} {i : Nat} {v : Value} (h : Box w b cs) (e : cs.set i v = cs') : Box (w.setCell ⟨b, i, none⟩ v) b cs' := e ▸ h.put i v

theorem Box.put_else {w : World} {b c : Nat} {cs : List Value} {i : Nat} {v : Value} (hc : b ≠ c) (h : Box w b cs) : Box (w.setCell ⟨c, i, none⟩ v) b cs := h.put_other hc i v

/-- (z % n + n) % n, as the walk spells it. -/
theorem turns (z n : Int) (hn : 0 < n) (hn2 : n ≤ 4611686018427387904) : ∃ p q : Int, z.tmod n = p ∧ IntKind.i64.wrap (p + n) = p + n ∧ (p + n).tmod n = q ∧ 0 ≤ q ∧ q < n := by
  have h1 := Int.lt_tmod_of_pos z hn
  have h2 := Int.tmod_lt_of_pos z hn
  have h3 : (z.tmod n + n).tmod n = (z.tmod n + n) % n := Int.tmod_eq_emod_of_nonneg (by omega)
  refine ⟨_, (z.tmod n + n) % n, rfl, IntWalk.i64_in _ (by omega), h3, Int.emod_nonneg _ (by omega), Int.emod_lt_of_pos _ hn⟩

/-- min(max(a, 0), k), an integer. -/
theorem clampI (a k : Int) (hk : 0 ≤ k) : ∃ p q : Int, (if a < 0 then (0 : Int) else a) = p ∧ (if k < p then k else p) = q ∧ 0 ≤ q ∧ q ≤ k ∧ (0 ≤ a → a ≤ k → q = a) := by
  refine ⟨_, _, rfl, rfl, ?_, ?_, ?_⟩
  · split <;> split <;> omega
  · split <;> split <;> omega
  · intro h1 h2
    split <;> split <;> omega

/-- min(max(a, 0), k), as the walk spells it. -/
theorem clamp (a k : Int) (hk : 0 ≤ k) : ∃ (p : Int) (n : Nat), (if a < 0 then (0 : Int) else a) = p ∧ (if k < p then k else p) = n ∧ (n : Int) ≤ k ∧ (0 ≤ a → a ≤ k → (n : Int) = a) := by
  refine ⟨_, (if k < (if a < 0 then (0 : Int) else a) then k else (if a < 0 then (0 : Int) else a)).toNat, rfl, ?_, ?_, ?_⟩
  · split <;> split <;> omega
  · split <;> split <;> omega
  · intro h1 h2
    split <;> split <;> omega

end Go.Camp
