/-
  LAW RecvLate, PROVED FOR EVERY ROW OF ARGUMENTS, WITHOUT CONDITIONS: it returns true, and its arguments read as before.
-/
import Derived.Test.YtcmaiihadjeifaaLate
import Derived.Test.YtcmaiihadjeifaaLaw
import Derived.Test.YtcmaiihadjeifaaArgs
namespace Go.Proofs.Ytcmaiihadjeifaa
open Go.RowKit Go.Camp Go.ChangeShapes Go.WideShapes Go.ChangeAt Go.Joins

theorem late_own : ownKnob Try.prog.godebug = none := by kernel_rfl
theorem late_laid : laidOutB Try.prog = true := by kernel_rfl
theorem late_cells3 : Try.prog.cellsOf 3 = 1 := by kernel_rfl

set_option maxRecDepth 100000 in
theorem late_lifted (os : Os) (started : os.Started) (H : Type) (enc : TypeId × Value → H) :
    ReturnsInHanded {} Try.checked os 4 .any (Rows.recvLateSpec.pre6 enc Try.prog Try.f4 Rows.recvLateRow.domain false) (Rows.recvLateSpec.post enc Try.prog Try.f4 false true false false) := by
  refine returnsInHanded_of_change (C := Try.checked) late_own started (by kernel_rfl) Try.func4
    (ChangeSpec.witness6 (enc := enc) (C := Try.checked) false ⟨#[], #[.int .i64 0, .int .i64 0, .slice none 0 0], []⟩ 8 (by kernel_rfl) (by kernel_rfl) (by kernel_rfl) (by kernel_rfl)) ?_
  intro W base args ds gs before hval0 hW _ _
  have hval : ∀ (j : Nat) t v, Try.f4.params[j]? = some t → args[j]? = some v → Value.okWide Try.prog W .any base t v := hval0
  have hW' : DataW.Whole enc Try.prog Try.f4.params.toList Rows.recvLateSpec.vars false W args.toList ds gs before := hW
  obtain ⟨p, q, hA0, _⟩ := hW
  have hA : DataW.TrodAll enc Try.prog W 0 (fun _ => true) true Try.f4.params.toList args.toList ds p := hA0
  rw [Try.params4] at hA hval
  obtain ⟨v0, v1, v2, d0, d1, d2, q0, q1, q2, rfl, hd, _, h0, h1, h2⟩ := trodAll_three hA
  obtain ⟨a, rfl, _, w0, _⟩ := open_int Try.underlying3 (hval 0 3 v0 rfl rfl) h0
  obtain ⟨b, rfl, _, w1, _⟩ := open_int Try.underlying3 (hval 1 3 v1 rfl rfl) h1
  obtain ⟨ao, n, cap, z, ad, rfl, n_le, n_max, hi, hc⟩ := open_ints1 Try.underlying35 Try.underlying3 late_cells3 (fun w => by kernel_rfl) (hval 2 35 v2 rfl rfl) h2
  refine (late_any a b ao n cap z ad W hi (fun i h => ⟨(hc i h).1, (hc i h).2.1⟩)).mono fun e W' ⟨he, hb⟩ => ⟨_, he, ?_⟩
  exact law_post late_laid rfl (by kernel_rfl) Try.underlying4 (by kernel_rfl) hW' (by rw [hd]; rfl) hb

theorem late_proved : Rows.RecvLateSaid :=
  OpenClaim.holds_of_wide 4 Try.f4 rfl rfl rfl rfl rfl rfl rfl ⟨rfl, rfl, rfl, rfl, rfl⟩ rfl rfl rfl rfl rfl (by kernel_rfl) Try.func4 (by kernel_rfl)
    (of_decide_eq_true (by kernel_rfl)) (by unfold Func.isWrapper; first | (rw [if_pos (by decide +kernel)]; kernel_rfl) | (rw [if_neg (by decide +kernel)]; exact ⟨rfl, rfl⟩))
    (fun os started H enc _ => late_lifted os started H enc)
#print axioms late_proved
end Go.Proofs.Ytcmaiihadjeifaa
