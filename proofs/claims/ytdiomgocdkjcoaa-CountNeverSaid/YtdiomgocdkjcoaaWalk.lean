/-
  THE WALKS OF LAYER 6 (count): what count.Right, count.steps, count.Step, count.State, the reference's Right and alive compute, each as a contract; nothing that was there before a call turns.
-/
import Derived.Test.YtdiomgocdkjcoaaRows
import Derived.Test.YtdiomgocdkjcoaaLib


namespace Go.Proofs.Ytdiomgocdkjcoaa
open Go.RowKit Go.Camp

def rightB (t r : Int) (off : Bool) (s : Int) : Bool :=
  if off then decide (t = 0 ∧ r = 0 ∧ 1 ≤ s ∧ s ≤ 128) else decide (0 ≤ t ∧ t ≤ 255 ∧ 0 ≤ r ∧ r ≤ 255 ∧ s = 0)


theorem right_any (t r s : Int) (off : Bool) (w : World) :
    Calls Try.prog 11 #[.agg #[.int .i64 t, .int .i64 r, .bool off, .int .i64 s]] w fun e w' => e = .returned (.bool (rightB t r off s)) ∧ w' = w.alloc (.cells #[.int .i64 t, .int .i64 r, .bool off, .int .i64 s] 23) := by
  go_enter Try.func11, Try.ntmps11
  go_wp2
  all_goals go_ret
  all_goals go_light
  all_goals refine ⟨ret_bool ?_, by simp [*]⟩
  all_goals rw [Bool.eq_iff_iff]
  all_goals cases off
  all_goals simp_all [rightB, beq_dec]
  all_goals omega

theorem refRight_any (t r s : Int) (off : Bool) (w : World) :
    Calls Try.prog 6 #[.agg #[.int .i64 t, .int .i64 r, .bool off, .int .i64 s]] w fun e w' => e = .returned (.bool (rightB t r off s)) ∧ Below w.heap.size w w' := by
  go_enter Try.func6, Try.ntmps6
  go_wp2
  all_goals go_ret
  all_goals go_light
  all_goals refine ⟨ret_bool ?_, by go_grown⟩
  all_goals rw [Bool.eq_iff_iff]
  all_goals cases off
  all_goals simp_all [rightB, beq_dec]
  all_goals omega

def stepsMap : Array MapEntry := #[{ key := .int .i64 1, val := .func (.func 14) #[] #[], born := 0 }, { key := .int .i64 2, val := .func (.func 15) #[] #[], born := 1 }, { key := .int .i64 3, val := .func (.func 13) #[] #[], born := 2 }, { key := .int .i64 5, val := .func (.func 13) #[] #[], born := 3 }, { key := .int .i64 4, val := .func (.func 16) #[] #[], born := 4 }, { key := .int .i64 6, val := .func (.func 17) #[] #[], born := 5 }, { key := .int .i64 7, val := .func (.func 18) #[] #[], born := 6 }]

theorem steps_any (w : World) :
    Calls Try.prog 10 #[] w fun e w' => e = .returned (.map (some w.heap.size)) ∧ w' = w.alloc (.map stepsMap 7) := by
  have hmm := @run_makeMap Try.prog
  have u37 := Try.underlying37
  have u3 := Try.underlying3
  have i1 := run_mapUpdate_new (P := Try.prog) w #[] 0 1 (.func (.func 14) #[] #[]) u37 u3 (by rfl)
  have i2 := run_mapUpdate_new (P := Try.prog) w #[{ key := .int .i64 1, val := .func (.func 14) #[] #[], born := 0 }] 1 2 (.func (.func 15) #[] #[]) u37 u3 (by rfl)
  have i3 := run_mapUpdate_new (P := Try.prog) w #[{ key := .int .i64 1, val := .func (.func 14) #[] #[], born := 0 }, { key := .int .i64 2, val := .func (.func 15) #[] #[], born := 1 }] 2 3 (.func (.func 13) #[] #[]) u37 u3 (by rfl)
  have i4 := run_mapUpdate_new (P := Try.prog) w #[{ key := .int .i64 1, val := .func (.func 14) #[] #[], born := 0 }, { key := .int .i64 2, val := .func (.func 15) #[] #[], born := 1 }, { key := .int .i64 3, val := .func (.func 13) #[] #[], born := 2 }] 3 5 (.func (.func 13) #[] #[]) u37 u3 (by rfl)
  have i5 := run_mapUpdate_new (P := Try.prog) w #[{ key := .int .i64 1, val := .func (.func 14) #[] #[], born := 0 }, { key := .int .i64 2, val := .func (.func 15) #[] #[], born := 1 }, { key := .int .i64 3, val := .func (.func 13) #[] #[], born := 2 }, { key := .int .i64 5, val := .func (.func 13) #[] #[], born := 3 }] 4 4 (.func (.func 16) #[] #[]) u37 u3 (by rfl)
  have i6 := run_mapUpdate_new (P := Try.prog) w #[{ key := .int .i64 1, val := .func (.func 14) #[] #[], born := 0 }, { key := .int .i64 2, val := .func (.func 15) #[] #[], born := 1 }, { key := .int .i64 3, val := .func (.func 13) #[] #[], born := 2 }, { key := .int .i64 5, val := .func (.func 13) #[] #[], born := 3 }, { key := .int .i64 4, val := .func (.func 16) #[] #[], born := 4 }] 5 6 (.func (.func 17) #[] #[]) u37 u3 (by rfl)
  have i7 := run_mapUpdate_new (P := Try.prog) w #[{ key := .int .i64 1, val := .func (.func 14) #[] #[], born := 0 }, { key := .int .i64 2, val := .func (.func 15) #[] #[], born := 1 }, { key := .int .i64 3, val := .func (.func 13) #[] #[], born := 2 }, { key := .int .i64 5, val := .func (.func 13) #[] #[], born := 3 }, { key := .int .i64 4, val := .func (.func 16) #[] #[], born := 4 }, { key := .int .i64 6, val := .func (.func 17) #[] #[], born := 5 }] 6 7 (.func (.func 18) #[] #[]) u37 u3 (by rfl)
  clear u37 u3
  go_enter Try.func10, Try.ntmps10
  go_wp2
  all_goals go_ret
  all_goals exact ⟨rfl, rfl⟩

/-- What a count that is not off is, counted. -/
def tecF (k t : Int) : Int := if k = 1 then (if t - 1 < 0 then 0 else t - 1) else if k = 3 ∨ k = 5 then t + 8 else t
def recF (k r : Int) : Int := if k = 2 then (if 127 ≤ r - 1 then 119 else if r - 1 < 0 then 0 else r - 1) else if k = 4 then (if 255 < r + 1 then 255 else r + 1) else if k = 6 then (if 255 < r + 8 then 255 else r + 8) else r

theorem clo13 (w : World) (b : Nat) (t : Int) (c : w.cell? ⟨b, 0, none⟩ = some (.int .i64 t)) (f : w.frozen? ⟨b, 0, none⟩ = false) (_h1 : 0 ≤ t) (_h2 : t ≤ 255) :
    Calls Try.prog 13 #[.pointer (some ⟨b, 0, none⟩)] w fun e w' => e = .returned (.tuple #[]) ∧ w' = w.setCell ⟨b, 0, none⟩ (.int .i64 (t + 8)) := by
  go_enter Try.func13, Try.ntmps13
  go_wp2
  go_returns
  exact ⟨rfl, rfl⟩
theorem clo14 (w : World) (b : Nat) (t : Int) (c : w.cell? ⟨b, 0, none⟩ = some (.int .i64 t)) (f : w.frozen? ⟨b, 0, none⟩ = false) (_h1 : 0 ≤ t) (_h2 : t ≤ 255) :
    Calls Try.prog 14 #[.pointer (some ⟨b, 0, none⟩)] w fun e w' => e = .returned (.tuple #[]) ∧ w' = w.setCell ⟨b, 0, none⟩ (.int .i64 (tecF 1 t)) := by
  have e : tecF 1 t = if t - 1 < 0 then 0 else t - 1 := by simp [tecF]
  by_cases h : t - 1 < 0
  all_goals
    simp only [h, ↓reduceIte] at e
    rw [e]
    clear e
    go_enter Try.func14, Try.ntmps14
    go_wp2
    go_returns
    exact ⟨rfl, rfl⟩
theorem clo15 (w : World) (b : Nat) (r : Int) (c : w.cell? ⟨b, 1, none⟩ = some (.int .i64 r)) (f : w.frozen? ⟨b, 1, none⟩ = false) (_h1 : 0 ≤ r) (_h2 : r ≤ 255) :
    Calls Try.prog 15 #[.pointer (some ⟨b, 0, none⟩)] w fun e w' => e = .returned (.tuple #[]) ∧ w' = w.setCell ⟨b, 1, none⟩ (.int .i64 (recF 2 r)) := by
  have e : recF 2 r = if 127 ≤ r - 1 then 119 else if r - 1 < 0 then 0 else r - 1 := by simp [recF]
  by_cases h : 127 ≤ r - 1
  · simp only [h, ↓reduceIte] at e
    rw [e]
    clear e
    go_enter Try.func15, Try.ntmps15
    go_wp2
    go_returns
    exact ⟨rfl, by simp only [setCell_twice]⟩
  · by_cases h' : r - 1 < 0
    all_goals
      simp only [h, h', ↓reduceIte] at e
      rw [e]
      clear e
      go_enter Try.func15, Try.ntmps15
      go_wp2
      go_returns
      exact ⟨rfl, by simp only [setCell_twice]⟩
theorem clo16 (w : World) (b : Nat) (r : Int) (c : w.cell? ⟨b, 1, none⟩ = some (.int .i64 r)) (f : w.frozen? ⟨b, 1, none⟩ = false) (_h1 : 0 ≤ r) (_h2 : r ≤ 255) :
    Calls Try.prog 16 #[.pointer (some ⟨b, 0, none⟩)] w fun e w' => e = .returned (.tuple #[]) ∧ w' = w.setCell ⟨b, 1, none⟩ (.int .i64 (recF 4 r)) := by
  have e : recF 4 r = if 255 < r + 1 then 255 else r + 1 := by simp [recF]
  by_cases h : 255 < r + 1
  all_goals
    simp only [h, ↓reduceIte] at e
    rw [e]
    clear e
    go_enter Try.func16, Try.ntmps16
    go_wp2
    go_returns
    exact ⟨rfl, rfl⟩
theorem clo17 (w : World) (b : Nat) (r : Int) (c : w.cell? ⟨b, 1, none⟩ = some (.int .i64 r)) (f : w.frozen? ⟨b, 1, none⟩ = false) (_h1 : 0 ≤ r) (_h2 : r ≤ 255) :
    Calls Try.prog 17 #[.pointer (some ⟨b, 0, none⟩)] w fun e w' => e = .returned (.tuple #[]) ∧ w' = w.setCell ⟨b, 1, none⟩ (.int .i64 (recF 6 r)) := by
  have e : recF 6 r = if 255 < r + 8 then 255 else r + 8 := by simp [recF]
  by_cases h : 255 < r + 8
  all_goals
    simp only [h, ↓reduceIte] at e
    rw [e]
    clear e
    go_enter Try.func17, Try.ntmps17
    go_wp2
    go_returns
    exact ⟨rfl, rfl⟩
theorem clo18 (w : World) (b : Nat) :
    Calls Try.prog 18 #[.pointer (some ⟨b, 0, none⟩)] w fun e w' => e = .returned (.tuple #[]) ∧ w' = w := by
  go_enter Try.func18, Try.ntmps18
  go_wp2
  go_returns
  exact ⟨rfl, rfl⟩

set_option maxHeartbeats 1000000 in
theorem step1 (t r : Int) (h1 : 0 ≤ t) (h2 : t ≤ 255) (h3 : 0 ≤ r) (h4 : r ≤ 255) (w : World) :
    Calls Try.prog 8 #[.agg #[.int .i64 t, .int .i64 r, .bool false, .int .i64 0], .int .i64 1] w fun e w' => e = .returned (.tuple #[.agg #[.int .i64 (tecF 1 t), .int .i64 (r), .bool false, .int .i64 0], .int .i64 0]) ∧ Below w.heap.size w w' := by
  have hl := run_lookup_there (k := 1) Try.underlying37 Try.underlying3 (heap_new ((w.alloc (.cells #[.int .i64 t, .int .i64 r, .bool false, .int .i64 0] 23)).alloc (.cells #[.int .i64 0, .int .i64 0, .bool false, .int .i64 0] 23)) (.map stepsMap 7) (w.heap.size + 2) (by simp)) (by rfl)
  have HR : Hid (rightB t r false 0 = true) := by simp [Hid, rightB]; omega
  have ht : tecF 1 t ≤ 255 := by simp [tecF]; split <;> omega
  go_enter Try.func8, Try.ntmps8
  go_wp2_with (first | (go_at_call 10; refine (steps_any _).mono ?_; rintro e w' ⟨rfl, rfl⟩))
  refine (right_any _ _ _ _ _).mono ?_
  rintro e w1 ⟨rfl, rfl⟩
  rw [HR.out]
  clear HR
  go_wp2_with (first | (go_at_call 14; refine (clo14 _ _ _ (by simp [go_sem]) (by simp [go_sem]) h1 h2).mono ?_; rintro e w' ⟨rfl, rfl⟩))
  refine bodyPost_ret (v := .tuple #[.agg #[.int .i64 (tecF 1 t), .int .i64 (r), .bool false, .int .i64 0], .int .i64 0]) (by simp [results, Try.results8, go_sem]) rfl ⟨rfl, ?_⟩
  go_light
  go_grown

set_option maxHeartbeats 1000000 in
theorem step2 (t r : Int) (h1 : 0 ≤ t) (h2 : t ≤ 255) (h3 : 0 ≤ r) (h4 : r ≤ 255) (w : World) :
    Calls Try.prog 8 #[.agg #[.int .i64 t, .int .i64 r, .bool false, .int .i64 0], .int .i64 2] w fun e w' => e = .returned (.tuple #[.agg #[.int .i64 (t), .int .i64 (recF 2 r), .bool false, .int .i64 0], .int .i64 0]) ∧ Below w.heap.size w w' := by
  have hl := run_lookup_there (k := 2) Try.underlying37 Try.underlying3 (heap_new ((w.alloc (.cells #[.int .i64 t, .int .i64 r, .bool false, .int .i64 0] 23)).alloc (.cells #[.int .i64 0, .int .i64 0, .bool false, .int .i64 0] 23)) (.map stepsMap 7) (w.heap.size + 2) (by simp)) (by rfl)
  have HR : Hid (rightB t r false 0 = true) := by simp [Hid, rightB]; omega
  go_enter Try.func8, Try.ntmps8
  go_wp2_with (first | (go_at_call 10; refine (steps_any _).mono ?_; rintro e w' ⟨rfl, rfl⟩))
  refine (right_any _ _ _ _ _).mono ?_
  rintro e w1 ⟨rfl, rfl⟩
  rw [HR.out]
  clear HR
  go_wp2_with (first | (go_at_call 15; refine (clo15 _ _ _ (by simp [go_sem]) (by simp [go_sem]) h3 h4).mono ?_; rintro e w' ⟨rfl, rfl⟩))
  refine bodyPost_ret (v := .tuple #[.agg #[.int .i64 (t), .int .i64 (recF 2 r), .bool false, .int .i64 0], .int .i64 0]) (by simp [results, Try.results8, go_sem]) rfl ⟨rfl, ?_⟩
  go_light
  go_grown

set_option maxHeartbeats 1000000 in
theorem step4 (t r : Int) (h1 : 0 ≤ t) (h2 : t ≤ 255) (h3 : 0 ≤ r) (h4 : r ≤ 255) (w : World) :
    Calls Try.prog 8 #[.agg #[.int .i64 t, .int .i64 r, .bool false, .int .i64 0], .int .i64 4] w fun e w' => e = .returned (.tuple #[.agg #[.int .i64 (t), .int .i64 (recF 4 r), .bool false, .int .i64 0], .int .i64 0]) ∧ Below w.heap.size w w' := by
  have hl := run_lookup_there (k := 4) Try.underlying37 Try.underlying3 (heap_new ((w.alloc (.cells #[.int .i64 t, .int .i64 r, .bool false, .int .i64 0] 23)).alloc (.cells #[.int .i64 0, .int .i64 0, .bool false, .int .i64 0] 23)) (.map stepsMap 7) (w.heap.size + 2) (by simp)) (by rfl)
  have HR : Hid (rightB t r false 0 = true) := by simp [Hid, rightB]; omega
  go_enter Try.func8, Try.ntmps8
  go_wp2_with (first | (go_at_call 10; refine (steps_any _).mono ?_; rintro e w' ⟨rfl, rfl⟩))
  refine (right_any _ _ _ _ _).mono ?_
  rintro e w1 ⟨rfl, rfl⟩
  rw [HR.out]
  clear HR
  go_wp2_with (first | (go_at_call 16; refine (clo16 _ _ _ (by simp [go_sem]) (by simp [go_sem]) h3 h4).mono ?_; rintro e w' ⟨rfl, rfl⟩))
  refine bodyPost_ret (v := .tuple #[.agg #[.int .i64 (t), .int .i64 (recF 4 r), .bool false, .int .i64 0], .int .i64 0]) (by simp [results, Try.results8, go_sem]) rfl ⟨rfl, ?_⟩
  go_light
  go_grown

set_option maxHeartbeats 1000000 in
theorem step6 (t r : Int) (h1 : 0 ≤ t) (h2 : t ≤ 255) (h3 : 0 ≤ r) (h4 : r ≤ 255) (w : World) :
    Calls Try.prog 8 #[.agg #[.int .i64 t, .int .i64 r, .bool false, .int .i64 0], .int .i64 6] w fun e w' => e = .returned (.tuple #[.agg #[.int .i64 (t), .int .i64 (recF 6 r), .bool false, .int .i64 0], .int .i64 0]) ∧ Below w.heap.size w w' := by
  have hl := run_lookup_there (k := 6) Try.underlying37 Try.underlying3 (heap_new ((w.alloc (.cells #[.int .i64 t, .int .i64 r, .bool false, .int .i64 0] 23)).alloc (.cells #[.int .i64 0, .int .i64 0, .bool false, .int .i64 0] 23)) (.map stepsMap 7) (w.heap.size + 2) (by simp)) (by rfl)
  have HR : Hid (rightB t r false 0 = true) := by simp [Hid, rightB]; omega
  go_enter Try.func8, Try.ntmps8
  go_wp2_with (first | (go_at_call 10; refine (steps_any _).mono ?_; rintro e w' ⟨rfl, rfl⟩))
  refine (right_any _ _ _ _ _).mono ?_
  rintro e w1 ⟨rfl, rfl⟩
  rw [HR.out]
  clear HR
  go_wp2_with (first | (go_at_call 17; refine (clo17 _ _ _ (by simp [go_sem]) (by simp [go_sem]) h3 h4).mono ?_; rintro e w' ⟨rfl, rfl⟩))
  refine bodyPost_ret (v := .tuple #[.agg #[.int .i64 (t), .int .i64 (recF 6 r), .bool false, .int .i64 0], .int .i64 0]) (by simp [results, Try.results8, go_sem]) rfl ⟨rfl, ?_⟩
  go_light
  go_grown

set_option maxHeartbeats 1000000 in
theorem step7 (t r : Int) (h1 : 0 ≤ t) (h2 : t ≤ 255) (h3 : 0 ≤ r) (h4 : r ≤ 255) (w : World) :
    Calls Try.prog 8 #[.agg #[.int .i64 t, .int .i64 r, .bool false, .int .i64 0], .int .i64 7] w fun e w' => e = .returned (.tuple #[.agg #[.int .i64 (t), .int .i64 (r), .bool false, .int .i64 0], .int .i64 0]) ∧ Below w.heap.size w w' := by
  have hl := run_lookup_there (k := 7) Try.underlying37 Try.underlying3 (heap_new ((w.alloc (.cells #[.int .i64 t, .int .i64 r, .bool false, .int .i64 0] 23)).alloc (.cells #[.int .i64 0, .int .i64 0, .bool false, .int .i64 0] 23)) (.map stepsMap 7) (w.heap.size + 2) (by simp)) (by rfl)
  have HR : Hid (rightB t r false 0 = true) := by simp [Hid, rightB]; omega
  go_enter Try.func8, Try.ntmps8
  go_wp2_with (first | (go_at_call 10; refine (steps_any _).mono ?_; rintro e w' ⟨rfl, rfl⟩))
  refine (right_any _ _ _ _ _).mono ?_
  rintro e w1 ⟨rfl, rfl⟩
  rw [HR.out]
  clear HR
  go_wp2_with (first | (go_at_call 18; refine (clo18 _ _).mono ?_; rintro e w' ⟨rfl, rfl⟩))
  refine bodyPost_ret (v := .tuple #[.agg #[.int .i64 (t), .int .i64 (r), .bool false, .int .i64 0], .int .i64 0]) (by simp [results, Try.results8, go_sem]) rfl ⟨rfl, ?_⟩
  go_light
  go_grown

set_option maxHeartbeats 1000000 in
theorem step3 (t r : Int) (h1 : 0 ≤ t) (h2 : t ≤ 255) (h3 : 0 ≤ r) (h4 : r ≤ 255) (h5 : t + 8 ≤ 255) (w : World) :
    Calls Try.prog 8 #[.agg #[.int .i64 t, .int .i64 r, .bool false, .int .i64 0], .int .i64 3] w fun e w' => e = .returned (.tuple #[.agg #[.int .i64 ((t + 8)), .int .i64 (r), .bool false, .int .i64 0], .int .i64 0]) ∧ Below w.heap.size w w' := by
  have hl := run_lookup_there (k := 3) Try.underlying37 Try.underlying3 (heap_new ((w.alloc (.cells #[.int .i64 t, .int .i64 r, .bool false, .int .i64 0] 23)).alloc (.cells #[.int .i64 0, .int .i64 0, .bool false, .int .i64 0] 23)) (.map stepsMap 7) (w.heap.size + 2) (by simp)) (by rfl)
  have HR : Hid (rightB t r false 0 = true) := by simp [Hid, rightB]; omega
  go_enter Try.func8, Try.ntmps8
  go_wp2_with (first | (go_at_call 10; refine (steps_any _).mono ?_; rintro e w' ⟨rfl, rfl⟩))
  refine (right_any _ _ _ _ _).mono ?_
  rintro e w1 ⟨rfl, rfl⟩
  rw [HR.out]
  clear HR
  go_wp2_with (first | (go_at_call 13; refine (clo13 _ _ _ (by simp [go_sem]) (by simp [go_sem]) h1 h2).mono ?_; rintro e w' ⟨rfl, rfl⟩))
  refine bodyPost_ret (v := .tuple #[.agg #[.int .i64 ((t + 8)), .int .i64 (r), .bool false, .int .i64 0], .int .i64 0]) (by simp [results, Try.results8, go_sem]) rfl ⟨rfl, ?_⟩
  go_light
  go_grown

set_option maxHeartbeats 1000000 in
theorem step3_off (t r : Int) (h1 : 0 ≤ t) (h2 : t ≤ 255) (h3 : 0 ≤ r) (h4 : r ≤ 255) (h5 : 255 < t + 8) (w : World) :
    Calls Try.prog 8 #[.agg #[.int .i64 t, .int .i64 r, .bool false, .int .i64 0], .int .i64 3] w fun e w' => e = .returned (.tuple #[.agg #[.int .i64 0, .int .i64 0, .bool true, .int .i64 128], .int .i64 0]) ∧ Below w.heap.size w w' := by
  have hl := run_lookup_there (k := 3) Try.underlying37 Try.underlying3 (heap_new ((w.alloc (.cells #[.int .i64 t, .int .i64 r, .bool false, .int .i64 0] 23)).alloc (.cells #[.int .i64 0, .int .i64 0, .bool false, .int .i64 0] 23)) (.map stepsMap 7) (w.heap.size + 2) (by simp)) (by rfl)
  have HR : Hid (rightB t r false 0 = true) := by simp [Hid, rightB]; omega
  go_enter Try.func8, Try.ntmps8
  go_wp2_with (first | (go_at_call 10; refine (steps_any _).mono ?_; rintro e w' ⟨rfl, rfl⟩))
  refine (right_any _ _ _ _ _).mono ?_
  rintro e w1 ⟨rfl, rfl⟩
  rw [HR.out]
  clear HR
  go_wp2_with (first | (go_at_call 13; refine (clo13 _ _ _ (by simp [go_sem]) (by simp [go_sem]) h1 h2).mono ?_; rintro e w' ⟨rfl, rfl⟩))
  refine bodyPost_ret (v := .tuple #[.agg #[.int .i64 0, .int .i64 0, .bool true, .int .i64 128], .int .i64 0]) (by simp [results, Try.results8, go_sem]) rfl ⟨rfl, ?_⟩
  go_light
  go_grown

set_option maxHeartbeats 1000000 in
theorem step5 (t r : Int) (h1 : 0 ≤ t) (h2 : t ≤ 255) (h3 : 0 ≤ r) (h4 : r ≤ 255) (h5 : t + 8 ≤ 255) (w : World) :
    Calls Try.prog 8 #[.agg #[.int .i64 t, .int .i64 r, .bool false, .int .i64 0], .int .i64 5] w fun e w' => e = .returned (.tuple #[.agg #[.int .i64 ((t + 8)), .int .i64 (r), .bool false, .int .i64 0], .int .i64 0]) ∧ Below w.heap.size w w' := by
  have hl := run_lookup_there (k := 5) Try.underlying37 Try.underlying3 (heap_new ((w.alloc (.cells #[.int .i64 t, .int .i64 r, .bool false, .int .i64 0] 23)).alloc (.cells #[.int .i64 0, .int .i64 0, .bool false, .int .i64 0] 23)) (.map stepsMap 7) (w.heap.size + 2) (by simp)) (by rfl)
  have HR : Hid (rightB t r false 0 = true) := by simp [Hid, rightB]; omega
  go_enter Try.func8, Try.ntmps8
  go_wp2_with (first | (go_at_call 10; refine (steps_any _).mono ?_; rintro e w' ⟨rfl, rfl⟩))
  refine (right_any _ _ _ _ _).mono ?_
  rintro e w1 ⟨rfl, rfl⟩
  rw [HR.out]
  clear HR
  go_wp2_with (first | (go_at_call 13; refine (clo13 _ _ _ (by simp [go_sem]) (by simp [go_sem]) h1 h2).mono ?_; rintro e w' ⟨rfl, rfl⟩))
  refine bodyPost_ret (v := .tuple #[.agg #[.int .i64 ((t + 8)), .int .i64 (r), .bool false, .int .i64 0], .int .i64 0]) (by simp [results, Try.results8, go_sem]) rfl ⟨rfl, ?_⟩
  go_light
  go_grown

set_option maxHeartbeats 1000000 in
theorem step5_off (t r : Int) (h1 : 0 ≤ t) (h2 : t ≤ 255) (h3 : 0 ≤ r) (h4 : r ≤ 255) (h5 : 255 < t + 8) (w : World) :
    Calls Try.prog 8 #[.agg #[.int .i64 t, .int .i64 r, .bool false, .int .i64 0], .int .i64 5] w fun e w' => e = .returned (.tuple #[.agg #[.int .i64 0, .int .i64 0, .bool true, .int .i64 128], .int .i64 0]) ∧ Below w.heap.size w w' := by
  have hl := run_lookup_there (k := 5) Try.underlying37 Try.underlying3 (heap_new ((w.alloc (.cells #[.int .i64 t, .int .i64 r, .bool false, .int .i64 0] 23)).alloc (.cells #[.int .i64 0, .int .i64 0, .bool false, .int .i64 0] 23)) (.map stepsMap 7) (w.heap.size + 2) (by simp)) (by rfl)
  have HR : Hid (rightB t r false 0 = true) := by simp [Hid, rightB]; omega
  go_enter Try.func8, Try.ntmps8
  go_wp2_with (first | (go_at_call 10; refine (steps_any _).mono ?_; rintro e w' ⟨rfl, rfl⟩))
  refine (right_any _ _ _ _ _).mono ?_
  rintro e w1 ⟨rfl, rfl⟩
  rw [HR.out]
  clear HR
  go_wp2_with (first | (go_at_call 13; refine (clo13 _ _ _ (by simp [go_sem]) (by simp [go_sem]) h1 h2).mono ?_; rintro e w' ⟨rfl, rfl⟩))
  refine bodyPost_ret (v := .tuple #[.agg #[.int .i64 0, .int .i64 0, .bool true, .int .i64 128], .int .i64 0]) (by simp [results, Try.results8, go_sem]) rfl ⟨rfl, ?_⟩
  go_light
  go_grown
end Go.Proofs.Ytdiomgocdkjcoaa
