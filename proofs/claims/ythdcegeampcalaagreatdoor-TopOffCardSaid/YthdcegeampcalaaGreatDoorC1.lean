/-
  A controller's counts, for every count. Condition: what the theorems state ahead.
-/
import Derived.WalkKit
import Derived.WalkLawsBesides
import Derived.WalkSpells
import Derived.Handy
import Derived.Lib.Hide
import Derived.Deep.Light
import Derived.Sort.Row
import Derived.Test.YthdcegeampcalaaGreatDoorF19
namespace Go.Camp
open Go.RowKit

theorem findNow_none (k : Int) : ∀ (l : List MapEntry) (i : Nat), (l.all fun e => match e.key with | .int .i64 j => j != k | _ => false) = true →
    Instr.findNow (.int .i64) (.int .i64 k) l i = some none := by
  intro l
  induction l with
  | nil => intro i _; rfl
  | cons e l ih =>
    intro i h
    simp only [List.all_cons, Bool.and_eq_true] at h
    obtain ⟨h1, h2⟩ := h
    obtain ⟨key, val, born⟩ := e
    cases key <;> simp at h1
    rename_i q j
    cases q <;> simp at h1
    have : (k == j) = false := by simpa using fun e => h1 e.symm
    simp [Instr.findNow, Instr.sameNow, this, ih _ h2]

theorem run_checkKey_int {P : Program} {w : World} {t : TypeId} (ht : P.underlying t = some (.int .i64)) (b : Bool) (n : Nat) (k : Int) :
    (Instr.checkKey b (n + 1) t (.int .i64 k)).run P w = .ok () w := by
  simp [Instr.checkKey, run_underlying ht]

theorem World.map_set (w : World) (es es' : Array MapEntry) (c c' : Nat) :
    { w.alloc (.map es c) with heap := (w.alloc (.map es c)).heap.setIfInBounds w.heap.size (.map es' c') } = w.alloc (.map es' c') := by
  simp only [World.alloc]
  congr 1
  apply Array.ext'
  simp [Array.setIfInBounds, Array.toList_push]

theorem run_mapUpdate_new {P : Program} (w : World) (es : Array MapEntry) (c : Nat) {T K E : TypeId} (k : Int) (v : Value)
    (hT : P.underlying T = some (.map K E)) (hK : P.underlying K = some (.int .i64))
    (h : (es.toList.all fun e => match e.key with | .int .i64 j => j != k | _ => false) = true) :
    (Instr.mapUpdate T (.map (some w.heap.size)) (.int .i64 k) v).run P (w.alloc (.map es c)) = .ok () (w.alloc (.map (es.push { key := .int .i64 k, val := v, born := c }) (c + 1))) := by
  have hf := findNow_none k es.toList 0 h
  have hb : (w.alloc (.map es c)).heap[w.heap.size]? = some (.map es c) := (MapKept.heap_alloc w _).1
  simp [Instr.mapUpdate, run_underlying hT, MapKept.run_getObj_map hb, run_checkKey_int hK, Instr.findKey, run_underlying hK, hf, MapKept.run_setObj_map _ hb]
  exact World.map_set w es _ c _

theorem run_lookup_there {P : Program} {w : World} {es : Array MapEntry} {c b : Nat} {T K E : TypeId} {k : Int} {v : Value} {i : Nat}
    (hT : P.underlying T = some (.map K E)) (hK : P.underlying K = some (.int .i64)) (hb : w.heap[b]? = some (.map es c))
    (h : Instr.findNow (.int .i64) (.int .i64 k) es.toList 0 = some (some (i, v))) :
    (Instr.lookup T (.map (some b)) (.int .i64 k) true).run P w = .ok (.tuple #[v, .bool true]) w := by
  simp [Instr.lookup, run_underlying hT, MapKept.run_getObj_map hb, run_checkKey_int hK, Instr.findKey, run_underlying hK, h]

/-- What lies in an old block reads as it did: unconditional, so that the walk takes both for rules. -/
theorem below_at {B : Nat} {w w' : World} (h : Below B w w') {b : Nat} (hb : b < B) :
    (∀ i, w'.cell? ⟨b, i, none⟩ = w.cell? ⟨b, i, none⟩) ∧ (∀ i, w'.frozen? ⟨b, i, none⟩ = w.frozen? ⟨b, i, none⟩) :=
  ⟨fun i => h.cell (p := ⟨b, i, none⟩) hb, fun i => h.frozen (p := ⟨b, i, none⟩) hb⟩

/-- The same cell by cell, for a block of four: then 'simp [go_sem] at' it, and the walk has each cell's value. -/
theorem below_at4 {B : Nat} {w w' : World} (h : Below B w w') {b : Nat} (hb : b < B) :
    w'.cell? ⟨b, 0, none⟩ = w.cell? ⟨b, 0, none⟩ ∧ w'.cell? ⟨b, 1, none⟩ = w.cell? ⟨b, 1, none⟩ ∧ w'.cell? ⟨b, 2, none⟩ = w.cell? ⟨b, 2, none⟩ ∧ w'.cell? ⟨b, 3, none⟩ = w.cell? ⟨b, 3, none⟩ ∧
    w'.frozen? ⟨b, 0, none⟩ = w.frozen? ⟨b, 0, none⟩ ∧ w'.frozen? ⟨b, 1, none⟩ = w.frozen? ⟨b, 1, none⟩ ∧ w'.frozen? ⟨b, 2, none⟩ = w.frozen? ⟨b, 2, none⟩ ∧ w'.frozen? ⟨b, 3, none⟩ = w.frozen? ⟨b, 3, none⟩ := by
  obtain ⟨c, f⟩ := below_at h hb
  exact ⟨c 0, c 1, c 2, c 3, f 0, f 1, f 2, f 3⟩

theorem heap_new (w : World) (o : Obj) (b : Nat) (h : b = w.heap.size) : (w.alloc o).heap[b]? = some o := by subst h; exact (MapKept.heap_alloc w o).1

theorem setCell_twice (w : World) (blk off : Nat) (v v' : Value) : (w.setCell ⟨blk, off, none⟩ v).setCell ⟨blk, off, none⟩ v' = w.setCell ⟨blk, off, none⟩ v' := by
  rw [Sort.setCell_eq, Sort.setCell_eq, Sort.mapBlock_mapBlock, Sort.setCell_eq]
  congr 1
  funext c
  simp

theorem ret_bool {a b : Bool} (h : a = b) : Ending.returned (.bool a) = Ending.returned (.bool b) := by rw [h]

theorem beq_dec (a b : Int) : (a == b) = decide (a = b) := rfl

end Go.Camp
namespace Go.Proofs.YthdcegeampcalaaGreatDoor
open Go.RowKit Go.Camp
def rightB (t r : Int) (off : Bool) (s : Int) : Bool :=
  if off then decide (t = 0 ∧ r = 0 ∧ 1 ≤ s ∧ s ≤ 128) else decide (0 ≤ t ∧ t ≤ 255 ∧ 0 ≤ r ∧ r ≤ 255 ∧ s = 0)


theorem right_any (t r s : Int) (off : Bool) (w : World) :
    Calls Tryz.prog 49 #[.agg #[.int .i64 t, .int .i64 r, .bool off, .int .i64 s]] w fun e w' => e = .returned (.bool (rightB t r off s)) ∧ w' = w.alloc (.cells #[.int .i64 t, .int .i64 r, .bool off, .int .i64 s] 34) := by
  go_enter Tryz.func49, Tryz.ntmps49
  go_wp2
  all_goals go_ret
  all_goals go_light
  all_goals refine ⟨ret_bool ?_, by simp [*]⟩
  all_goals rw [Bool.eq_iff_iff]
  all_goals cases off
  all_goals simp_all [rightB, beq_dec]
  all_goals omega

def stepsMap : Array MapEntry := #[{ key := .int .i64 1, val := .func (.func 105) #[] #[], born := 0 }, { key := .int .i64 2, val := .func (.func 106) #[] #[], born := 1 }, { key := .int .i64 3, val := .func (.func 104) #[] #[], born := 2 }, { key := .int .i64 5, val := .func (.func 104) #[] #[], born := 3 }, { key := .int .i64 4, val := .func (.func 107) #[] #[], born := 4 }, { key := .int .i64 6, val := .func (.func 108) #[] #[], born := 5 }, { key := .int .i64 7, val := .func (.func 109) #[] #[], born := 6 }]

theorem steps_any (w : World) :
    Calls Tryz.prog 100 #[] w fun e w' => e = .returned (.map (some w.heap.size)) ∧ w' = w.alloc (.map stepsMap 7) := by
  have hmm := @run_makeMap Tryz.prog
  have u37 := Tryz.underlying161
  have u3 := Tryz.underlying3
  have i1 := run_mapUpdate_new (P := Tryz.prog) w #[] 0 1 (.func (.func 105) #[] #[]) u37 u3 (by rfl)
  have i2 := run_mapUpdate_new (P := Tryz.prog) w #[{ key := .int .i64 1, val := .func (.func 105) #[] #[], born := 0 }] 1 2 (.func (.func 106) #[] #[]) u37 u3 (by rfl)
  have i3 := run_mapUpdate_new (P := Tryz.prog) w #[{ key := .int .i64 1, val := .func (.func 105) #[] #[], born := 0 }, { key := .int .i64 2, val := .func (.func 106) #[] #[], born := 1 }] 2 3 (.func (.func 104) #[] #[]) u37 u3 (by rfl)
  have i4 := run_mapUpdate_new (P := Tryz.prog) w #[{ key := .int .i64 1, val := .func (.func 105) #[] #[], born := 0 }, { key := .int .i64 2, val := .func (.func 106) #[] #[], born := 1 }, { key := .int .i64 3, val := .func (.func 104) #[] #[], born := 2 }] 3 5 (.func (.func 104) #[] #[]) u37 u3 (by rfl)
  have i5 := run_mapUpdate_new (P := Tryz.prog) w #[{ key := .int .i64 1, val := .func (.func 105) #[] #[], born := 0 }, { key := .int .i64 2, val := .func (.func 106) #[] #[], born := 1 }, { key := .int .i64 3, val := .func (.func 104) #[] #[], born := 2 }, { key := .int .i64 5, val := .func (.func 104) #[] #[], born := 3 }] 4 4 (.func (.func 107) #[] #[]) u37 u3 (by rfl)
  have i6 := run_mapUpdate_new (P := Tryz.prog) w #[{ key := .int .i64 1, val := .func (.func 105) #[] #[], born := 0 }, { key := .int .i64 2, val := .func (.func 106) #[] #[], born := 1 }, { key := .int .i64 3, val := .func (.func 104) #[] #[], born := 2 }, { key := .int .i64 5, val := .func (.func 104) #[] #[], born := 3 }, { key := .int .i64 4, val := .func (.func 107) #[] #[], born := 4 }] 5 6 (.func (.func 108) #[] #[]) u37 u3 (by rfl)
  have i7 := run_mapUpdate_new (P := Tryz.prog) w #[{ key := .int .i64 1, val := .func (.func 105) #[] #[], born := 0 }, { key := .int .i64 2, val := .func (.func 106) #[] #[], born := 1 }, { key := .int .i64 3, val := .func (.func 104) #[] #[], born := 2 }, { key := .int .i64 5, val := .func (.func 104) #[] #[], born := 3 }, { key := .int .i64 4, val := .func (.func 107) #[] #[], born := 4 }, { key := .int .i64 6, val := .func (.func 108) #[] #[], born := 5 }] 6 7 (.func (.func 109) #[] #[]) u37 u3 (by rfl)
  clear u37 u3
  go_enter Tryz.func100, Tryz.ntmps100
  go_wp2
  all_goals go_ret
  all_goals exact ⟨rfl, rfl⟩

/-- What a count that is not off is, counted. -/
def tecF (k t : Int) : Int := if k = 1 then (if t - 1 < 0 then 0 else t - 1) else if k = 3 ∨ k = 5 then t + 8 else t
def recF (k r : Int) : Int := if k = 2 then (if 127 ≤ r - 1 then 119 else if r - 1 < 0 then 0 else r - 1) else if k = 4 then (if 255 < r + 1 then 255 else r + 1) else if k = 6 then (if 255 < r + 8 then 255 else r + 8) else r

theorem clo14 (w : World) (b : Nat) (t : Int) (c : w.cell? ⟨b, 0, none⟩ = some (.int .i64 t)) (f : w.frozen? ⟨b, 0, none⟩ = false) (_h1 : 0 ≤ t) (_h2 : t ≤ 255) :
    Calls Tryz.prog 105 #[.pointer (some ⟨b, 0, none⟩)] w fun e w' => e = .returned (.tuple #[]) ∧ w' = w.setCell ⟨b, 0, none⟩ (.int .i64 (tecF 1 t)) := by
  have e : tecF 1 t = if t - 1 < 0 then 0 else t - 1 := by simp [tecF]
  by_cases h : t - 1 < 0
  all_goals
    simp only [h, ↓reduceIte] at e
    rw [e]
    clear e
    go_enter Tryz.func105, Tryz.ntmps105
    go_wp2
    go_returns
    exact ⟨rfl, congrArg (fun z => w.setCell ⟨b, 0, none⟩ (.int .i64 z)) (by omega)⟩
theorem clo15 (w : World) (b : Nat) (r : Int) (c : w.cell? ⟨b, 1, none⟩ = some (.int .i64 r)) (f : w.frozen? ⟨b, 1, none⟩ = false) (_h1 : 0 ≤ r) (_h2 : r ≤ 255) :
    Calls Tryz.prog 106 #[.pointer (some ⟨b, 0, none⟩)] w fun e w' => e = .returned (.tuple #[]) ∧ w' = w.setCell ⟨b, 1, none⟩ (.int .i64 (recF 2 r)) := by
  have e : recF 2 r = if 127 ≤ r - 1 then 119 else if r - 1 < 0 then 0 else r - 1 := by simp [recF]
  by_cases h : 127 ≤ r - 1
  · simp only [h, ↓reduceIte] at e
    rw [e]
    clear e
    go_enter Tryz.func106, Tryz.ntmps106
    go_wp2
    go_returns
    refine ⟨rfl, ?_⟩
    simp only [setCell_twice]
    exact congrArg (fun z => w.setCell ⟨b, 1, none⟩ (.int .i64 z)) (by omega)
  · by_cases h' : r - 1 < 0
    all_goals
      simp only [h, h', ↓reduceIte] at e
      rw [e]
      clear e
      go_enter Tryz.func106, Tryz.ntmps106
      go_wp2
      go_returns
      refine ⟨rfl, ?_⟩
      simp only [setCell_twice]
      exact congrArg (fun z => w.setCell ⟨b, 1, none⟩ (.int .i64 z)) (by omega)
set_option maxRecDepth 100000 in
set_option maxHeartbeats 1000000 in
theorem step1 (t r : Int) (h1 : 0 ≤ t) (h2 : t ≤ 255) (h3 : 0 ≤ r) (h4 : r ≤ 255) (w : World) :
    Calls Tryz.prog 94 #[.agg #[.int .i64 t, .int .i64 r, .bool false, .int .i64 0], .int .i64 1] w fun e w' => e = .returned (.tuple #[.agg #[.int .i64 (tecF 1 t), .int .i64 (r), .bool false, .int .i64 0], .int .i64 0]) ∧ Below w.heap.size w w' := by
  have hl := run_lookup_there (k := 1) Tryz.underlying161 Tryz.underlying3 (heap_new ((w.alloc (.cells #[.int .i64 t, .int .i64 r, .bool false, .int .i64 0] 34)).alloc (.cells #[.int .i64 0, .int .i64 0, .bool false, .int .i64 0] 34)) (.map stepsMap 7) (w.heap.size + 2) (by simp)) (by rfl)
  have HR : Hid (rightB t r false 0 = true) := by simp [Hid, rightB]; omega
  have ht : tecF 1 t ≤ 255 := by simp [tecF]; split <;> omega
  go_enter Tryz.func94, Tryz.ntmps94
  go_wp2_with (first | (go_at_call 100; refine (steps_any _).mono ?_; rintro e w' ⟨rfl, rfl⟩))
  refine (right_any _ _ _ _ _).mono ?_
  rintro e w1 ⟨rfl, rfl⟩
  rw [HR.out]
  clear HR
  go_wp2_with (first | (go_at_call 105; refine (clo14 _ _ _ (by simp [go_sem]) (by simp [go_sem]) h1 h2).mono ?_; rintro e w' ⟨rfl, rfl⟩))
  refine bodyPost_ret (v := .tuple #[.agg #[.int .i64 (tecF 1 t), .int .i64 (r), .bool false, .int .i64 0], .int .i64 0]) (by simp [results, Tryz.results94, go_sem]) rfl ⟨rfl, ?_⟩
  go_light
  go_grown

set_option maxRecDepth 100000 in
set_option maxHeartbeats 1000000 in
theorem step2 (t r : Int) (h1 : 0 ≤ t) (h2 : t ≤ 255) (h3 : 0 ≤ r) (h4 : r ≤ 255) (w : World) :
    Calls Tryz.prog 94 #[.agg #[.int .i64 t, .int .i64 r, .bool false, .int .i64 0], .int .i64 2] w fun e w' => e = .returned (.tuple #[.agg #[.int .i64 (t), .int .i64 (recF 2 r), .bool false, .int .i64 0], .int .i64 0]) ∧ Below w.heap.size w w' := by
  have hl := run_lookup_there (k := 2) Tryz.underlying161 Tryz.underlying3 (heap_new ((w.alloc (.cells #[.int .i64 t, .int .i64 r, .bool false, .int .i64 0] 34)).alloc (.cells #[.int .i64 0, .int .i64 0, .bool false, .int .i64 0] 34)) (.map stepsMap 7) (w.heap.size + 2) (by simp)) (by rfl)
  have HR : Hid (rightB t r false 0 = true) := by simp [Hid, rightB]; omega
  go_enter Tryz.func94, Tryz.ntmps94
  go_wp2_with (first | (go_at_call 100; refine (steps_any _).mono ?_; rintro e w' ⟨rfl, rfl⟩))
  refine (right_any _ _ _ _ _).mono ?_
  rintro e w1 ⟨rfl, rfl⟩
  rw [HR.out]
  clear HR
  go_wp2_with (first | (go_at_call 106; refine (clo15 _ _ _ (by simp [go_sem]) (by simp [go_sem]) h3 h4).mono ?_; rintro e w' ⟨rfl, rfl⟩))
  refine bodyPost_ret (v := .tuple #[.agg #[.int .i64 (t), .int .i64 (recF 2 r), .bool false, .int .i64 0], .int .i64 0]) (by simp [results, Tryz.results94, go_sem]) rfl ⟨rfl, ?_⟩
  go_light
  go_grown

theorem rest_more (s : Int) (h1 : 2 ≤ s) (h2 : s ≤ 128) (w : World) :
    Calls Tryz.prog 101 #[.agg #[.int .i64 0, .int .i64 0, .bool true, .int .i64 s], .int .i64 7] w fun e w' =>
      e = .returned (.agg #[.int .i64 0, .int .i64 0, .bool true, .int .i64 (s - 1)]) ∧ ∃ A B, w' = (w.alloc (.cells A 34)).alloc (.cells B 34) := by
  have h : (s - 1 == 0) = false := by simp; omega
  go_enter Tryz.func101, Tryz.ntmps101
  go_wp2
  refine bodyPost_ret (v := .agg #[.int .i64 0, .int .i64 0, .bool true, .int .i64 (s - 1)]) (by simp [results, Tryz.results101, go_sem]) rfl ⟨rfl, _, _, rfl⟩

set_option maxRecDepth 100000 in
set_option maxHeartbeats 1000000 in
theorem stepoff_more (s : Int) (h1 : 2 ≤ s) (h2 : s ≤ 128) (w : World) :
    Calls Tryz.prog 94 #[.agg #[.int .i64 0, .int .i64 0, .bool true, .int .i64 s], .int .i64 7] w fun e w' => e = .returned (.tuple #[.agg #[.int .i64 0, .int .i64 0, .bool true, .int .i64 (s - 1)], .int .i64 0]) ∧ Below w.heap.size w w' := by
  have hl := run_lookup_there (k := 7) Tryz.underlying161 Tryz.underlying3 (heap_new ((w.alloc (.cells #[.int .i64 0, .int .i64 0, .bool true, .int .i64 s] 34)).alloc (.cells #[.int .i64 0, .int .i64 0, .bool false, .int .i64 0] 34)) (.map stepsMap 7) (w.heap.size + 2) (by simp)) (by rfl)
  have HR : Hid (rightB 0 0 true s = true) := by simp [Hid, rightB] <;> omega
  go_enter Tryz.func94, Tryz.ntmps94
  go_wp2_with (first | (go_at_call 100; refine (steps_any _).mono ?_; rintro e w' ⟨rfl, rfl⟩))
  refine (right_any _ _ _ _ _).mono ?_
  rintro e w1 ⟨rfl, rfl⟩
  rw [HR.out]
  clear HR hl
  go_wp2_with fail
  refine (rest_more _ h1 h2 _).mono ?_
  rintro e w2 ⟨rfl, A, B, rfl⟩
  go_wp2_with fail
  refine bodyPost_ret (v := .tuple #[.agg #[.int .i64 0, .int .i64 0, .bool true, .int .i64 (s - 1)], .int .i64 0]) (by simp [results, Tryz.results94, go_sem]) rfl ⟨rfl, ?_⟩
  go_light
  go_grown


end Go.Proofs.YthdcegeampcalaaGreatDoor
