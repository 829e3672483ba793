/-
  MORE WALKS OF LAYER 19 (recv): what New, Start, Stop, Got, Tick, the reference's Tick, and alive compute.
-/
import Derived.Test.YtcmaiihadjeifaaWalk
namespace Go.Proofs.Ytcmaiihadjeifaa
open Go.RowKit Go.Camp

set_option maxHeartbeats 1000000 in
theorem new_ok (f e : Int) (hR : rightB f e 0 false false = true) (w : World) :
    Calls Try.prog 6 #[.int .i64 f, .int .i64 e] w fun r w' => r = .returned (.tuple #[.agg #[.int .i64 f, .int .i64 e, .int .i64 0, .bool false, .bool false], .int .i64 0]) ∧ Below w.heap.size w w' := by
  have HR := Lib.hid hR
  clear hR
  go_enter Try.func6, Try.ntmps6
  go_wp2_with (first | (go_at_call 11; refine (right_any _ _ _ _ _ _).mono ?_; rintro r w' ⟨rfl, rfl⟩; rw [HR.out]) | go_in)
  refine bodyPost_ret (v := .tuple #[.agg #[.int .i64 f, .int .i64 e, .int .i64 0, .bool false, .bool false], .int .i64 0]) (by simp [results, Try.results6, go_sem]) rfl ⟨rfl, ?_⟩
  go_light
  go_grown

set_option maxHeartbeats 1000000 in
theorem new_bad (f e : Int) (hR : rightB f e 0 false false = false) (w : World) :
    Calls Try.prog 6 #[.int .i64 f, .int .i64 e] w fun r w' => r = .returned (.tuple #[.agg #[.int .i64 0, .int .i64 0, .int .i64 0, .bool false, .bool false], .int .i64 1]) ∧ Below w.heap.size w w' := by
  have HR := Lib.hid hR
  clear hR
  go_enter Try.func6, Try.ntmps6
  go_wp2_with (first | (go_at_call 11; refine (right_any _ _ _ _ _ _).mono ?_; rintro r w' ⟨rfl, rfl⟩; rw [HR.out]) | go_in)
  refine bodyPost_ret (v := .tuple #[.agg #[.int .i64 0, .int .i64 0, .int .i64 0, .bool false, .bool false], .int .i64 1]) (by simp [results, Try.results6, go_sem]) rfl ⟨rfl, ?_⟩
  go_light
  go_grown

set_option maxHeartbeats 1000000 in
theorem start_ok (f e l : Int) (o t : Bool) (hR : rightB f e l o t = true) (w : World) :
    Calls Try.prog 7 #[.agg #[.int .i64 f, .int .i64 e, .int .i64 l, .bool o, .bool t]] w fun r w' => r = .returned (.tuple #[.agg #[.int .i64 f, .int .i64 e, .int .i64 f, .bool true, .bool false], .int .i64 0]) ∧ Below w.heap.size w w' := by
  have HR := Lib.hid hR
  clear hR
  go_enter Try.func7, Try.ntmps7
  go_wp2_with (first | (go_at_call 11; refine (right_any _ _ _ _ _ _).mono ?_; rintro r w' ⟨rfl, rfl⟩; rw [HR.out]) | go_in)
  refine bodyPost_ret (v := .tuple #[.agg #[.int .i64 f, .int .i64 e, .int .i64 f, .bool true, .bool false], .int .i64 0]) (by simp [results, Try.results7, go_sem]) rfl ⟨rfl, ?_⟩
  go_light
  go_grown

set_option maxHeartbeats 1000000 in
theorem start_bad (f e l : Int) (o t : Bool) (hR : rightB f e l o t = false) (w : World) :
    Calls Try.prog 7 #[.agg #[.int .i64 f, .int .i64 e, .int .i64 l, .bool o, .bool t]] w fun r w' => r = .returned (.tuple #[.agg #[.int .i64 0, .int .i64 0, .int .i64 0, .bool false, .bool false], .int .i64 1]) ∧ Below w.heap.size w w' := by
  have HR := Lib.hid hR
  clear hR
  go_enter Try.func7, Try.ntmps7
  go_wp2_with (first | (go_at_call 11; refine (right_any _ _ _ _ _ _).mono ?_; rintro r w' ⟨rfl, rfl⟩; rw [HR.out]) | go_in)
  refine bodyPost_ret (v := .tuple #[.agg #[.int .i64 0, .int .i64 0, .int .i64 0, .bool false, .bool false], .int .i64 1]) (by simp [results, Try.results7, go_sem]) rfl ⟨rfl, ?_⟩
  go_light
  go_grown

set_option maxHeartbeats 1000000 in
theorem stop_ok (f e l : Int) (o t : Bool) (hR : rightB f e l o t = true) (w : World) :
    Calls Try.prog 8 #[.agg #[.int .i64 f, .int .i64 e, .int .i64 l, .bool o, .bool t]] w fun r w' => r = .returned (.tuple #[.agg #[.int .i64 f, .int .i64 e, .int .i64 0, .bool false, .bool false], .int .i64 0]) ∧ Below w.heap.size w w' := by
  have HR := Lib.hid hR
  clear hR
  go_enter Try.func8, Try.ntmps8
  go_wp2_with (first | (go_at_call 11; refine (right_any _ _ _ _ _ _).mono ?_; rintro r w' ⟨rfl, rfl⟩; rw [HR.out]) | go_in)
  refine bodyPost_ret (v := .tuple #[.agg #[.int .i64 f, .int .i64 e, .int .i64 0, .bool false, .bool false], .int .i64 0]) (by simp [results, Try.results8, go_sem]) rfl ⟨rfl, ?_⟩
  go_light
  go_grown

set_option maxHeartbeats 1000000 in
theorem stop_bad (f e l : Int) (o t : Bool) (hR : rightB f e l o t = false) (w : World) :
    Calls Try.prog 8 #[.agg #[.int .i64 f, .int .i64 e, .int .i64 l, .bool o, .bool t]] w fun r w' => r = .returned (.tuple #[.agg #[.int .i64 0, .int .i64 0, .int .i64 0, .bool false, .bool false], .int .i64 1]) ∧ Below w.heap.size w w' := by
  have HR := Lib.hid hR
  clear hR
  go_enter Try.func8, Try.ntmps8
  go_wp2_with (first | (go_at_call 11; refine (right_any _ _ _ _ _ _).mono ?_; rintro r w' ⟨rfl, rfl⟩; rw [HR.out]) | go_in)
  refine bodyPost_ret (v := .tuple #[.agg #[.int .i64 0, .int .i64 0, .int .i64 0, .bool false, .bool false], .int .i64 1]) (by simp [results, Try.results8, go_sem]) rfl ⟨rfl, ?_⟩
  go_light
  go_grown

set_option maxHeartbeats 1000000 in
theorem got_on (f e l : Int) (t : Bool) (hR : rightB f e l true t = true) (w : World) :
    Calls Try.prog 9 #[.agg #[.int .i64 f, .int .i64 e, .int .i64 l, .bool true, .bool t]] w fun r w' => r = .returned (.tuple #[.agg #[.int .i64 f, .int .i64 e, .int .i64 e, .bool true, .bool false], .int .i64 0]) ∧ Below w.heap.size w w' := by
  have HR := Lib.hid hR
  clear hR
  go_enter Try.func9, Try.ntmps9
  go_wp2_with (first | (go_at_call 11; refine (right_any _ _ _ _ _ _).mono ?_; rintro r w' ⟨rfl, rfl⟩; rw [HR.out]) | go_in)
  refine bodyPost_ret (v := .tuple #[.agg #[.int .i64 f, .int .i64 e, .int .i64 e, .bool true, .bool false], .int .i64 0]) (by simp [results, Try.results9, go_sem]) rfl ⟨rfl, ?_⟩
  go_light
  go_grown

set_option maxHeartbeats 1000000 in
theorem got_off (f e l : Int) (t : Bool) (hR : rightB f e l false t = true) (w : World) :
    Calls Try.prog 9 #[.agg #[.int .i64 f, .int .i64 e, .int .i64 l, .bool false, .bool t]] w fun r w' => r = .returned (.tuple #[.agg #[.int .i64 f, .int .i64 e, .int .i64 l, .bool false, .bool t], .int .i64 0]) ∧ Below w.heap.size w w' := by
  have HR := Lib.hid hR
  clear hR
  go_enter Try.func9, Try.ntmps9
  go_wp2_with (first | (go_at_call 11; refine (right_any _ _ _ _ _ _).mono ?_; rintro r w' ⟨rfl, rfl⟩; rw [HR.out]) | go_in)
  refine bodyPost_ret (v := .tuple #[.agg #[.int .i64 f, .int .i64 e, .int .i64 l, .bool false, .bool t], .int .i64 0]) (by simp [results, Try.results9, go_sem]) rfl ⟨rfl, ?_⟩
  go_light
  go_grown

set_option maxHeartbeats 1000000 in
theorem got_bad (f e l : Int) (o t : Bool) (hR : rightB f e l o t = false) (w : World) :
    Calls Try.prog 9 #[.agg #[.int .i64 f, .int .i64 e, .int .i64 l, .bool o, .bool t]] w fun r w' => r = .returned (.tuple #[.agg #[.int .i64 0, .int .i64 0, .int .i64 0, .bool false, .bool false], .int .i64 1]) ∧ Below w.heap.size w w' := by
  have HR := Lib.hid hR
  clear hR
  go_enter Try.func9, Try.ntmps9
  go_wp2_with (first | (go_at_call 11; refine (right_any _ _ _ _ _ _).mono ?_; rintro r w' ⟨rfl, rfl⟩; rw [HR.out]) | go_in)
  refine bodyPost_ret (v := .tuple #[.agg #[.int .i64 0, .int .i64 0, .int .i64 0, .bool false, .bool false], .int .i64 1]) (by simp [results, Try.results9, go_sem]) rfl ⟨rfl, ?_⟩
  go_light
  go_grown

set_option maxHeartbeats 1000000 in
theorem tick_none (f e : Int) (o t : Bool) (hR : rightB f e 0 o t = true) (w : World) :
    Calls Try.prog 10 #[.agg #[.int .i64 f, .int .i64 e, .int .i64 0, .bool o, .bool t]] w fun r w' => r = .returned (.tuple #[.agg #[.int .i64 f, .int .i64 e, .int .i64 0, .bool o, .bool t], .bool false, .int .i64 0]) ∧ Below w.heap.size w w' := by
  have HR := Lib.hid hR
  clear hR
  go_enter Try.func10, Try.ntmps10
  go_wp2_with (first | (go_at_call 11; refine (right_any _ _ _ _ _ _).mono ?_; rintro r w' ⟨rfl, rfl⟩; rw [HR.out]) | go_in)
  go_region
  go_wp2
  refine bodyPost_ret (v := .tuple #[.agg #[.int .i64 f, .int .i64 e, .int .i64 0, .bool o, .bool t], .bool false, .int .i64 0]) (by simp [results, Try.results10, go_sem]) rfl ⟨rfl, ?_⟩
  go_light
  go_grown

set_option maxHeartbeats 1000000 in
theorem tick_last (f e : Int) (o t : Bool) (hR : rightB f e 1 o t = true) (w : World) :
    Calls Try.prog 10 #[.agg #[.int .i64 f, .int .i64 e, .int .i64 1, .bool o, .bool t]] w fun r w' => r = .returned (.tuple #[.agg #[.int .i64 f, .int .i64 e, .int .i64 0, .bool o, .bool true], .bool true, .int .i64 0]) ∧ Below w.heap.size w w' := by
  have HR := Lib.hid hR
  clear hR
  go_enter Try.func10, Try.ntmps10
  go_wp2_with (first | (go_at_call 11; refine (right_any _ _ _ _ _ _).mono ?_; rintro r w' ⟨rfl, rfl⟩; rw [HR.out]) | go_in)
  go_region
  go_wp2
  refine bodyPost_ret (v := .tuple #[.agg #[.int .i64 f, .int .i64 e, .int .i64 0, .bool o, .bool true], .bool true, .int .i64 0]) (by simp [results, Try.results10, go_sem]) rfl ⟨rfl, ?_⟩
  go_light
  go_grown

set_option maxHeartbeats 1000000 in
theorem tick_more (f e l : Int) (o t : Bool) (hR : rightB f e l o t = true) (hl : 2 ≤ l) (hl' : l ≤ 1000000) (w : World) :
    Calls Try.prog 10 #[.agg #[.int .i64 f, .int .i64 e, .int .i64 l, .bool o, .bool t]] w fun r w' => r = .returned (.tuple #[.agg #[.int .i64 f, .int .i64 e, .int .i64 (l - 1), .bool o, .bool false], .bool false, .int .i64 0]) ∧ Below w.heap.size w w' := by
  have HR := Lib.hid hR
  clear hR
  have h0 : (l == 0) = false := by simp; omega
  have h1 : (l - 1 == 0) = false := by simp; omega
  go_enter Try.func10, Try.ntmps10
  go_wp2_with (first | (go_at_call 11; refine (right_any _ _ _ _ _ _).mono ?_; rintro r w' ⟨rfl, rfl⟩; rw [HR.out]) | go_in)
  go_region
  go_wp2
  refine bodyPost_ret (v := .tuple #[.agg #[.int .i64 f, .int .i64 e, .int .i64 (l - 1), .bool o, .bool false], .bool false, .int .i64 0]) (by simp [results, Try.results10, go_sem]) rfl ⟨rfl, ?_⟩
  go_light
  go_grown

set_option maxHeartbeats 1000000 in
theorem tick_bad (f e l : Int) (o t : Bool) (hR : rightB f e l o t = false) (w : World) :
    Calls Try.prog 10 #[.agg #[.int .i64 f, .int .i64 e, .int .i64 l, .bool o, .bool t]] w fun r w' => r = .returned (.tuple #[.agg #[.int .i64 0, .int .i64 0, .int .i64 0, .bool false, .bool false], .bool false, .int .i64 1]) ∧ Below w.heap.size w w' := by
  have HR := Lib.hid hR
  clear hR
  go_enter Try.func10, Try.ntmps10
  go_wp2_with (first | (go_at_call 11; refine (right_any _ _ _ _ _ _).mono ?_; rintro r w' ⟨rfl, rfl⟩; rw [HR.out]) | go_in)
  go_region
  go_wp2
  refine bodyPost_ret (v := .tuple #[.agg #[.int .i64 0, .int .i64 0, .int .i64 0, .bool false, .bool false], .bool false, .int .i64 1]) (by simp [results, Try.results10, go_sem]) rfl ⟨rfl, ?_⟩
  go_light
  go_grown
end Go.Proofs.Ytcmaiihadjeifaa

