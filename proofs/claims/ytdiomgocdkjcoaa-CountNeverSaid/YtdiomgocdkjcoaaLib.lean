/-
  PLAIN AID FOR THE WALKS OF THIS SEAT, over any program: a new int key laid into a map that the call has just made; an int key that is there, looked up.
-/
import Derived.WalkKit
import Derived.WalkLawsBesides
import Derived.WalkSpells
import Derived.Handy
import Derived.Lib.Hide
import Derived.Deep.Light
import Derived.Sort.Row
namespace Go.Camp
open Go.RowKit

theorem findNow_none (k : Int) : ∀ (l : List MapEntry) (i : Nat), (l.all fun e => match e.key with | .int .i64 j => j != k | _ => false) = true →
    Instr.findNow (.int .i64) (.int .i64 k) l i = some none := by
  intro l
  induction l with
  | nil => intro i _; rfl
  | cons e l ih =>
    intro i h
    simp only [List.all_cons, Bool.and_eq_true] at h
    obtain ⟨h1, h2⟩ := h
    obtain ⟨key, val, born⟩ := e
    cases key <;> simp at h1
    rename_i q j
    cases q <;> simp at h1
    have : (k == j) = false := by simpa using fun e => h1 e.symm
    simp [Instr.findNow, Instr.sameNow, this, ih _ h2]

theorem run_checkKey_int {P : Program} {w : World} {t : TypeId} (ht : P.underlying t = some (.int .i64)) (b : Bool) (n : Nat) (k : Int) :
    (Instr.checkKey b (n + 1) t (.int .i64 k)).run P w = .ok () w := by
  simp [Instr.checkKey, run_underlying ht]

theorem World.map_set (w : World) (es es' : Array MapEntry) (c c' : Nat) :
    { w.alloc (.map es c) with heap := (w.alloc (.map es c)).heap.setIfInBounds w.heap.size (.map es' c') } = w.alloc (.map es' c') := by
  simp only [World.alloc]
  congr 1
  apply Array.ext'
  simp [Array.setIfInBounds, Array.toList_push]

theorem run_mapUpdate_new {P : Program} (w : World) (es : Array MapEntry) (c : Nat) {T K E : TypeId} (k : Int) (v : Value)
    (hT : P.underlying T = some (.map K E)) (hK : P.underlying K = some (.int .i64))
    (h : (es.toList.all fun e => match e.key with | .int .i64 j => j != k | _ => false) = true) :
    (Instr.mapUpdate T (.map (some w.heap.size)) (.int .i64 k) v).run P (w.alloc (.map es c)) = .ok () (w.alloc (.map (es.push { key := .int .i64 k, val := v, born := c }) (c + 1))) := by
  have hf := findNow_none k es.toList 0 h
  have hb : (w.alloc (.map es c)).heap[w.heap.size]? = some (.map es c) := (MapKept.heap_alloc w _).1
  simp [Instr.mapUpdate, run_underlying hT, MapKept.run_getObj_map hb, run_checkKey_int hK, Instr.findKey, run_underlying hK, hf, MapKept.run_setObj_map _ hb]
  exact World.map_set w es _ c _

theorem run_lookup_there {P : Program} {w : World} {es : Array MapEntry} {c b : Nat} {T K E : TypeId} {k : Int} {v : Value} {i : Nat}
    (hT : P.underlying T = some (.map K E)) (hK : P.underlying K = some (.int .i64)) (hb : w.heap[b]? = some (.map es c))
    (h : Instr.findNow (.int .i64) (.int .i64 k) es.toList 0 = some (some (i, v))) :
    (Instr.lookup T (.map (some b)) (.int .i64 k) true).run P w = .ok (.tuple #[v, .bool true]) w := by
  simp [Instr.lookup, run_underlying hT, MapKept.run_getObj_map hb, run_checkKey_int hK, Instr.findKey, run_underlying hK, h]

/-- What lies in an old block reads as it did: unconditional, so that the walk takes both for rules. -/
theorem below_at {B : Nat} {w w' : World} (h : Below B w w') {b : Nat} (hb : b < B) :
    (∀ i, w'.cell? ⟨b, i, none⟩ = w.cell? ⟨b, i, none⟩) ∧ (∀ i, w'.frozen? ⟨b, i, none⟩ = w.frozen? ⟨b, i, none⟩) :=
  ⟨fun i => h.cell (p := ⟨b, i, none⟩) hb, fun i => h.frozen (p := ⟨b, i, none⟩) hb⟩

/-- The same cell by cell, for a block of four: then 'simp [go_sem] at' it, and the walk has each cell's value. -/
theorem below_at4 {B : Nat} {w w' : World} (h : Below B w w') {b : Nat} (hb : b < B) :
    w'.cell? ⟨b, 0, none⟩ = w.cell? ⟨b, 0, none⟩ ∧ w'.cell? ⟨b, 1, none⟩ = w.cell? ⟨b, 1, none⟩ ∧ w'.cell? ⟨b, 2, none⟩ = w.cell? ⟨b, 2, none⟩ ∧ w'.cell? ⟨b, 3, none⟩ = w.cell? ⟨b, 3, none⟩ ∧
    w'.frozen? ⟨b, 0, none⟩ = w.frozen? ⟨b, 0, none⟩ ∧ w'.frozen? ⟨b, 1, none⟩ = w.frozen? ⟨b, 1, none⟩ ∧ w'.frozen? ⟨b, 2, none⟩ = w.frozen? ⟨b, 2, none⟩ ∧ w'.frozen? ⟨b, 3, none⟩ = w.frozen? ⟨b, 3, none⟩ := by
  obtain ⟨c, f⟩ := below_at h hb
  exact ⟨c 0, c 1, c 2, c 3, f 0, f 1, f 2, f 3⟩

theorem heap_new (w : World) (o : Obj) (b : Nat) (h : b = w.heap.size) : (w.alloc o).heap[b]? = some o := by subst h; exact (MapKept.heap_alloc w o).1

theorem setCell_twice (w : World) (blk off : Nat) (v v' : Value) : (w.setCell ⟨blk, off, none⟩ v).setCell ⟨blk, off, none⟩ v' = w.setCell ⟨blk, off, none⟩ v' := by
  rw [Sort.setCell_eq, Sort.setCell_eq, Sort.mapBlock_mapBlock, Sort.setCell_eq]
  congr 1
  funext c
  simp

theorem ret_bool {a b : Bool} (h : a = b) : Ending.returned (.bool a) = Ending.returned (.bool b) := by rw [h]

theorem beq_dec (a b : Int) : (a == b) = decide (a = b) := rfl

end Go.Camp
