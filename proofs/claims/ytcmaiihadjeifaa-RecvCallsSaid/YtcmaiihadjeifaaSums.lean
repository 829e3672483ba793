/-
  LAYER 19 (recv), SUMMED UP: what Got and Tick make of any watch that may be; alive.
-/
import Derived.Test.YtcmaiihadjeifaaMore
namespace Go.Proofs.Ytcmaiihadjeifaa
open Go.RowKit Go.Camp

def gotL (e l : Int) (o : Bool) : Int := if o then e else l
def gotT (o t : Bool) : Bool := if o then false else t
def tkL (l : Int) : Int := if l = 0 then 0 else l - 1
def tkT (l : Int) (t : Bool) : Bool := if l = 0 then t else decide (l = 1)
def tkB (l : Int) : Bool := decide (l = 1)

theorem got_ok (f e l : Int) (o t : Bool) (hR : rightB f e l o t = true) (w : World) :
    Calls Try.prog 9 #[.agg #[.int .i64 f, .int .i64 e, .int .i64 l, .bool o, .bool t]] w fun r w' => r = .returned (.tuple #[.agg #[.int .i64 f, .int .i64 e, .int .i64 (gotL e l o), .bool o, .bool (gotT o t)], .int .i64 0]) ∧ Below w.heap.size w w' := by
  cases o
  · exact got_off f e l t hR w
  · exact got_on f e l t hR w

theorem tick_ok (f e l : Int) (o t : Bool) (hR : rightB f e l o t = true) (w : World) :
    Calls Try.prog 10 #[.agg #[.int .i64 f, .int .i64 e, .int .i64 l, .bool o, .bool t]] w fun r w' => r = .returned (.tuple #[.agg #[.int .i64 f, .int .i64 e, .int .i64 (tkL l), .bool o, .bool (tkT l t)], .bool (tkB l), .int .i64 0]) ∧ Below w.heap.size w w' := by
  have h : 0 ≤ l ∧ l ≤ 1000000 := by simp [rightB] at hR; omega
  by_cases h0 : l = 0
  · subst h0; exact tick_none f e o t hR w
  · by_cases h1 : l = 1
    · subst h1; exact tick_last f e o t hR w
    · have := tick_more f e l o t hR (by omega) h.2 w
      simpa [tkL, tkT, tkB, h0, h1] using this

theorem right_new (f e : Int) : rightB f e 0 false false = decide (0 ≤ f ∧ f ≤ 1000000 ∧ 0 ≤ e ∧ e ≤ 1000000) := by
  rw [Bool.eq_iff_iff]; simp [rightB]; omega
theorem right_start (f e l : Int) (o t : Bool) (h : rightB f e l o t = true) : rightB f e f true false = true := by
  simp [rightB] at h ⊢; omega
theorem right_stop (f e l : Int) (o t : Bool) (h : rightB f e l o t = true) : rightB f e 0 false false = true := by
  simp [rightB] at h ⊢; omega
theorem right_got (f e l : Int) (o t : Bool) (h : rightB f e l o t = true) : rightB f e (gotL e l o) o (gotT o t) = true := by
  cases o
  · simpa [gotL, gotT] using h
  · simp [rightB, gotL, gotT] at h ⊢; omega
theorem right_tick (f e l : Int) (o t : Bool) (h : rightB f e l o t = true) : rightB f e (tkL l) o (tkT l t) = true := by
  by_cases h0 : l = 0
  · subst h0; simpa [tkL, tkT] using h
  · by_cases h1 : l = 1
    · subst h1; cases o <;> simp [rightB, tkL, tkT] at h ⊢; omega
    · cases o <;> cases t <;> simp [rightB, tkL, tkT, h0, h1] at h ⊢ <;> omega

theorem alive_any (w : World) : Calls Try.prog 13 #[] w fun e w' => e = .returned (.bool true) ∧ Below w.heap.size w w' := by
  go_enter Try.func13, Try.ntmps13
  go_wp2_with fail
  refine (new_ok 1 1 (by rfl) _).mono ?_
  rintro e w1 ⟨rfl, hb1⟩
  go_wp2_with fail
  refine (start_ok 1 1 0 false false (by rfl) _).mono ?_
  rintro e w2 ⟨rfl, hb2⟩
  have X := (Box.new w1 [.int .i64 1, .int .i64 1, .int .i64 0, .bool false, .bool false] 23).call hb2
  have xc := X.cell
  have xf := X.free
  have B2 : Below w.heap.size w w2 := (hb1.alloc hb1.size _).trans (hb2.mono (by have := hb1.size; simp; omega))
  clear hb2
  go_wp2_with fail
  refine (tick_last 1 1 true false (by rfl) _).mono ?_
  rintro e w3 ⟨rfl, hb3⟩
  have z1 := hb1.size
  have B3 : Below w.heap.size w w3 := Below.trans (by go_grown; all_goals omega) (hb3.mono (by have := B2.size; simp; omega))
  go_wp2_with fail
  go_ret
  go_light
  refine ⟨rfl, ?_⟩
  go_grown
  all_goals have := B3.size
  all_goals omega
end Go.Proofs.Ytcmaiihadjeifaa
