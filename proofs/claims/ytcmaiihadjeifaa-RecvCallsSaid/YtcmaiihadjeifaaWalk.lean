/-
  THE WALKS OF LAYER 19 (recv): what recv.Right, New, Start, Stop, Got, Tick, the reference's Right and Tick, and alive compute, each as a contract; nothing that was there before a call turns.
-/
import Derived.Test.YtcmaiihadjeifaaRows
import Derived.Test.YtcmaiihadjeifaaLib
namespace Go.Proofs.Ytcmaiihadjeifaa
open Go.RowKit Go.Camp

def rightB (f e l : Int) (o t : Bool) : Bool :=
  decide (0 ≤ f ∧ f ≤ 1000000 ∧ 0 ≤ e ∧ e ≤ 1000000 ∧ 0 ≤ l ∧ (l ≤ f ∨ l ≤ e) ∧ (o = true ∨ (l = 0 ∧ t = false)) ∧ (t = false ∨ l = 0))

theorem right_any (f e l : Int) (o t : Bool) (w : World) :
    Calls Try.prog 11 #[.agg #[.int .i64 f, .int .i64 e, .int .i64 l, .bool o, .bool t]] w fun r w' => r = .returned (.bool (rightB f e l o t)) ∧ w' = w.alloc (.cells #[.int .i64 f, .int .i64 e, .int .i64 l, .bool o, .bool t] 23) := by
  go_enter Try.func11, Try.ntmps11
  go_wp2
  all_goals go_ret
  all_goals go_light
  all_goals refine ⟨ret_bool ?_, by simp [*]⟩
  all_goals rw [Bool.eq_iff_iff]
  all_goals cases o
  all_goals cases t
  all_goals simp_all [rightB, beq_dec]
  all_goals omega

theorem refRight_any (f e l : Int) (o t : Bool) (w : World) :
    Calls Try.prog 12 #[.agg #[.int .i64 f, .int .i64 e, .int .i64 l, .bool o, .bool t]] w fun r w' => r = .returned (.bool (rightB f e l o t)) ∧ w' = w.alloc (.cells #[.int .i64 f, .int .i64 e, .int .i64 l, .bool o, .bool t] 23) := by
  go_enter Try.func12, Try.ntmps12
  go_wp2
  all_goals go_ret
  all_goals go_light
  all_goals refine ⟨ret_bool ?_, by simp [*]⟩
  all_goals rw [Bool.eq_iff_iff]
  all_goals cases o
  all_goals cases t
  all_goals simp_all [rightB, beq_dec]
  all_goals omega
end Go.Proofs.Ytcmaiihadjeifaa
