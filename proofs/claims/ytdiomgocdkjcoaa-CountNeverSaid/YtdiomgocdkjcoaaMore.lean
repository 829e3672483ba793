/-
  MORE WALKS OF LAYER 6 (count): count.State; count.Step for whatever is counted in receiving, in sending, and where the controller is off; alive.
-/
import Derived.Test.YtdiomgocdkjcoaaWalk
namespace Go.Proofs.Ytdiomgocdkjcoaa
open Go.RowKit Go.Camp

theorem alive_any (w : World) : Calls Try.prog 7 #[] w fun e w' => e = .returned (.bool true) ∧ Below w.heap.size w w' := by
  go_enter Try.func7, Try.ntmps7
  go_wp2_with (first | (go_at_call 8; refine (step3_off _ _ (by omega) (by omega) (by omega) (by omega) (by omega) _).mono ?_; rintro e w1 ⟨rfl, hb1⟩))
  go_ret
  go_light
  exact ⟨rfl, (hb1.alloc hb1.size _)⟩

def stateF (t r : Int) (off : Bool) : Int := if off then 3 else if 127 < t ∨ 127 < r then 2 else 1

theorem state_any (t r s : Int) (off : Bool) (h : rightB t r off s = true) (w : World) :
    Calls Try.prog 9 #[.agg #[.int .i64 t, .int .i64 r, .bool off, .int .i64 s]] w fun e w' => e = .returned (.tuple #[.int .i64 (stateF t r off), .int .i64 0]) ∧ Below w.heap.size w w' := by
  have HR := Lib.hid h
  clear h
  cases off
  · by_cases h1 : 127 < t
    · have e : stateF t r false = 2 := by simp [stateF, h1]
      rw [e]; clear e
      go_enter Try.func9, Try.ntmps9
      go_wp2_with (go_at_call 11; refine (right_any _ _ _ _ _).mono ?_; rintro e w1 ⟨rfl, rfl⟩; rw [HR.out])
      go_returns
      exact ⟨rfl, by go_grown⟩
    · by_cases h2 : 127 < r
      · have e : stateF t r false = 2 := by simp [stateF, h2]
        rw [e]; clear e
        go_enter Try.func9, Try.ntmps9
        go_wp2_with (go_at_call 11; refine (right_any _ _ _ _ _).mono ?_; rintro e w1 ⟨rfl, rfl⟩; rw [HR.out])
        go_returns
        exact ⟨rfl, by go_grown⟩
      · have e : stateF t r false = 1 := by simp [stateF, h1, h2]
        rw [e]; clear e
        go_enter Try.func9, Try.ntmps9
        go_wp2_with (go_at_call 11; refine (right_any _ _ _ _ _).mono ?_; rintro e w1 ⟨rfl, rfl⟩; rw [HR.out])
        go_returns
        exact ⟨rfl, by go_grown⟩
  · have e : stateF t r true = 3 := by simp [stateF]
    rw [e]; clear e
    go_enter Try.func9, Try.ntmps9
    go_wp2_with (go_at_call 11; refine (right_any _ _ _ _ _).mono ?_; rintro e w1 ⟨rfl, rfl⟩; rw [HR.out])
    go_returns
    exact ⟨rfl, by go_grown⟩

/-- A count of receiving, within its bounds, whatever is counted there. -/
def Recd (t _r : Int) (w : World) (e : Ending) (w' : World) : Prop :=
  ∃ q : Int, 0 ≤ q ∧ q ≤ 255 ∧ e = .returned (.tuple #[.agg #[.int .i64 t, .int .i64 q, .bool false, .int .i64 0], .int .i64 0]) ∧ Below w.heap.size w w'

theorem recF_in (k r : Int) (h3 : 0 ≤ r) (h4 : r ≤ 255) : 0 ≤ recF k r ∧ recF k r ≤ 255 := by
  unfold recF
  split
  · split
    · omega
    · split <;> omega
  · split
    · split <;> omega
    · split
      · split <;> omega
      · omega

theorem step_rec (k t r : Int) (hk : k = 2 ∨ k = 4 ∨ k = 6 ∨ k = 7) (h1 : 0 ≤ t) (h2 : t ≤ 255) (h3 : 0 ≤ r) (h4 : r ≤ 255) (w : World) :
    Calls Try.prog 8 #[.agg #[.int .i64 t, .int .i64 r, .bool false, .int .i64 0], .int .i64 k] w (Recd t r w) := by
  rcases hk with rfl | rfl | rfl | rfl
  · exact (step2 t r h1 h2 h3 h4 w).mono fun e w' ⟨he, hb⟩ => ⟨_, (recF_in _ _ h3 h4).1, (recF_in _ _ h3 h4).2, he, hb⟩
  · exact (step4 t r h1 h2 h3 h4 w).mono fun e w' ⟨he, hb⟩ => ⟨_, (recF_in _ _ h3 h4).1, (recF_in _ _ h3 h4).2, he, hb⟩
  · exact (step6 t r h1 h2 h3 h4 w).mono fun e w' ⟨he, hb⟩ => ⟨_, (recF_in _ _ h3 h4).1, (recF_in _ _ h3 h4).2, he, hb⟩
  · exact (step7 t r h1 h2 h3 h4 w).mono fun e w' ⟨he, hb⟩ => ⟨_, h3, h4, he, hb⟩

/-- An error in sending, heavy or not. -/
def sentT (t : Int) : Int := if 255 < t + 8 then 0 else t + 8
def sentR (t r : Int) : Int := if 255 < t + 8 then 0 else r
def sentO (t : Int) : Bool := decide (255 < t + 8)
def sentS (t : Int) : Int := if 255 < t + 8 then 128 else 0
theorem step_send (k t r : Int) (hk : k = 3 ∨ k = 5) (h1 : 0 ≤ t) (h2 : t ≤ 255) (h3 : 0 ≤ r) (h4 : r ≤ 255) (w : World) :
    Calls Try.prog 8 #[.agg #[.int .i64 t, .int .i64 r, .bool false, .int .i64 0], .int .i64 k] w fun e w' =>
      e = .returned (.tuple #[.agg #[.int .i64 (sentT t), .int .i64 (sentR t r), .bool (sentO t), .int .i64 (sentS t)], .int .i64 0]) ∧ Below w.heap.size w w' := by
  by_cases h : 255 < t + 8
  · simp only [sentT, sentR, sentO, sentS, h, ↓reduceIte, decide_true]
    rcases hk with rfl | rfl
    · exact step3_off t r h1 h2 h3 h4 h w
    · exact step5_off t r h1 h2 h3 h4 h w
  · simp only [sentT, sentR, sentO, sentS, h, ↓reduceIte, decide_false]
    rcases hk with rfl | rfl
    · exact step3 t r h1 h2 h3 h4 (by omega) w
    · exact step5 t r h1 h2 h3 h4 (by omega) w

/-! ### Where the controller is off -/
theorem rest_other (k s : Int) (hk : (k != 7) = true) (w : World) :
    Calls Try.prog 12 #[.agg #[.int .i64 0, .int .i64 0, .bool true, .int .i64 s], .int .i64 k] w fun e w' =>
      e = .returned (.agg #[.int .i64 0, .int .i64 0, .bool true, .int .i64 s]) ∧ ∃ A B, w' = (w.alloc (.cells A 23)).alloc (.cells B 23) := by
  go_enter Try.func12, Try.ntmps12
  go_wp2
  refine bodyPost_ret (v := .agg #[.int .i64 0, .int .i64 0, .bool true, .int .i64 s]) (by simp [results, Try.results12, go_sem]) rfl ⟨rfl, _, _, rfl⟩

theorem rest_last (w : World) :
    Calls Try.prog 12 #[.agg #[.int .i64 0, .int .i64 0, .bool true, .int .i64 1], .int .i64 7] w fun e w' =>
      e = .returned (.agg #[.int .i64 0, .int .i64 0, .bool false, .int .i64 0]) ∧ ∃ A B, w' = (w.alloc (.cells A 23)).alloc (.cells B 23) := by
  go_enter Try.func12, Try.ntmps12
  go_wp2
  refine bodyPost_ret (v := .agg #[.int .i64 0, .int .i64 0, .bool false, .int .i64 0]) (by simp [results, Try.results12, go_sem]) rfl ⟨rfl, _, _, rfl⟩

theorem rest_more (s : Int) (h1 : 2 ≤ s) (h2 : s ≤ 128) (w : World) :
    Calls Try.prog 12 #[.agg #[.int .i64 0, .int .i64 0, .bool true, .int .i64 s], .int .i64 7] w fun e w' =>
      e = .returned (.agg #[.int .i64 0, .int .i64 0, .bool true, .int .i64 (s - 1)]) ∧ ∃ A B, w' = (w.alloc (.cells A 23)).alloc (.cells B 23) := by
  have h : (s - 1 == 0) = false := by simp; omega
  go_enter Try.func12, Try.ntmps12
  go_wp2
  refine bodyPost_ret (v := .agg #[.int .i64 0, .int .i64 0, .bool true, .int .i64 (s - 1)]) (by simp [results, Try.results12, go_sem]) rfl ⟨rfl, _, _, rfl⟩

set_option maxHeartbeats 1000000 in
theorem stepoff_other (k s : Int) (v : Value) (i : Nat) (hk : (k != 7) = true) (hf : Instr.findNow (.int .i64) (.int .i64 k) stepsMap.toList 0 = some (some (i, v))) (h1 : 1 ≤ s) (h2 : s ≤ 128) (w : World) :
    Calls Try.prog 8 #[.agg #[.int .i64 0, .int .i64 0, .bool true, .int .i64 s], .int .i64 k] w fun e w' => e = .returned (.tuple #[.agg #[.int .i64 0, .int .i64 0, .bool true, .int .i64 s], .int .i64 0]) ∧ Below w.heap.size w w' := by
  have hl := run_lookup_there (k := k) Try.underlying37 Try.underlying3 (heap_new ((w.alloc (.cells #[.int .i64 0, .int .i64 0, .bool true, .int .i64 s] 23)).alloc (.cells #[.int .i64 0, .int .i64 0, .bool false, .int .i64 0] 23)) (.map stepsMap 7) (w.heap.size + 2) (by simp)) hf
  have HR : Hid (rightB 0 0 true s = true) := by simp [Hid, rightB] <;> omega
  clear hf
  go_enter Try.func8, Try.ntmps8
  go_wp2_with (first | (go_at_call 10; refine (steps_any _).mono ?_; rintro e w' ⟨rfl, rfl⟩))
  refine (right_any _ _ _ _ _).mono ?_
  rintro e w1 ⟨rfl, rfl⟩
  rw [HR.out]
  clear HR hl
  go_wp2_with fail
  refine (rest_other _ _ hk _).mono ?_
  rintro e w2 ⟨rfl, A, B, rfl⟩
  go_wp2_with fail
  refine bodyPost_ret (v := .tuple #[.agg #[.int .i64 0, .int .i64 0, .bool true, .int .i64 s], .int .i64 0]) (by simp [results, Try.results8, go_sem]) rfl ⟨rfl, ?_⟩
  go_light
  go_grown

set_option maxHeartbeats 1000000 in
theorem stepoff_last  (w : World) :
    Calls Try.prog 8 #[.agg #[.int .i64 0, .int .i64 0, .bool true, .int .i64 1], .int .i64 7] w fun e w' => e = .returned (.tuple #[.agg #[.int .i64 0, .int .i64 0, .bool false, .int .i64 0], .int .i64 0]) ∧ Below w.heap.size w w' := by
  have hl := run_lookup_there (k := 7) Try.underlying37 Try.underlying3 (heap_new ((w.alloc (.cells #[.int .i64 0, .int .i64 0, .bool true, .int .i64 1] 23)).alloc (.cells #[.int .i64 0, .int .i64 0, .bool false, .int .i64 0] 23)) (.map stepsMap 7) (w.heap.size + 2) (by simp)) (by rfl)
  have HR : Hid (rightB 0 0 true 1 = true) := by simp [Hid, rightB] <;> omega
  go_enter Try.func8, Try.ntmps8
  go_wp2_with (first | (go_at_call 10; refine (steps_any _).mono ?_; rintro e w' ⟨rfl, rfl⟩))
  refine (right_any _ _ _ _ _).mono ?_
  rintro e w1 ⟨rfl, rfl⟩
  rw [HR.out]
  clear HR hl
  go_wp2_with fail
  refine (rest_last _).mono ?_
  rintro e w2 ⟨rfl, A, B, rfl⟩
  go_wp2_with fail
  refine bodyPost_ret (v := .tuple #[.agg #[.int .i64 0, .int .i64 0, .bool false, .int .i64 0], .int .i64 0]) (by simp [results, Try.results8, go_sem]) rfl ⟨rfl, ?_⟩
  go_light
  go_grown

set_option maxHeartbeats 1000000 in
theorem stepoff_more (s : Int) (h1 : 2 ≤ s) (h2 : s ≤ 128) (w : World) :
    Calls Try.prog 8 #[.agg #[.int .i64 0, .int .i64 0, .bool true, .int .i64 s], .int .i64 7] w fun e w' => e = .returned (.tuple #[.agg #[.int .i64 0, .int .i64 0, .bool true, .int .i64 (s - 1)], .int .i64 0]) ∧ Below w.heap.size w w' := by
  have hl := run_lookup_there (k := 7) Try.underlying37 Try.underlying3 (heap_new ((w.alloc (.cells #[.int .i64 0, .int .i64 0, .bool true, .int .i64 s] 23)).alloc (.cells #[.int .i64 0, .int .i64 0, .bool false, .int .i64 0] 23)) (.map stepsMap 7) (w.heap.size + 2) (by simp)) (by rfl)
  have HR : Hid (rightB 0 0 true s = true) := by simp [Hid, rightB] <;> omega
  go_enter Try.func8, Try.ntmps8
  go_wp2_with (first | (go_at_call 10; refine (steps_any _).mono ?_; rintro e w' ⟨rfl, rfl⟩))
  refine (right_any _ _ _ _ _).mono ?_
  rintro e w1 ⟨rfl, rfl⟩
  rw [HR.out]
  clear HR hl
  go_wp2_with fail
  refine (rest_more _ h1 h2 _).mono ?_
  rintro e w2 ⟨rfl, A, B, rfl⟩
  go_wp2_with fail
  refine bodyPost_ret (v := .tuple #[.agg #[.int .i64 0, .int .i64 0, .bool true, .int .i64 (s - 1)], .int .i64 0]) (by simp [results, Try.results8, go_sem]) rfl ⟨rfl, ?_⟩
  go_light
  go_grown

theorem stepoff_six (k s : Int) (hk : 1 ≤ k ∧ k ≤ 6) (h1 : 1 ≤ s) (h2 : s ≤ 128) (w : World) :
    Calls Try.prog 8 #[.agg #[.int .i64 0, .int .i64 0, .bool true, .int .i64 s], .int .i64 k] w fun e w' => e = .returned (.tuple #[.agg #[.int .i64 0, .int .i64 0, .bool true, .int .i64 s], .int .i64 0]) ∧ Below w.heap.size w w' := by
  have h : k = 1 ∨ k = 2 ∨ k = 3 ∨ k = 4 ∨ k = 5 ∨ k = 6 := by omega
  rcases h with rfl | rfl | rfl | rfl | rfl | rfl
  all_goals exact stepoff_other _ s _ _ (by rfl) (by rfl) h1 h2 w
end Go.Proofs.Ytdiomgocdkjcoaa
