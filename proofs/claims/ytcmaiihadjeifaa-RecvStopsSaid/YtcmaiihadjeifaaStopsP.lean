/-
  LAW RecvStops, PROVED FOR EVERY ROW OF ARGUMENTS, WITHOUT CONDITIONS: it returns true, and its arguments read as before.
-/
import Derived.Test.YtcmaiihadjeifaaStops
import Derived.Test.YtcmaiihadjeifaaLaw
import Derived.Test.YtcmaiihadjeifaaArgs
namespace Go.Proofs.Ytcmaiihadjeifaa
open Go.RowKit Go.Camp Go.ChangeShapes Go.WideShapes Go.ChangeAt Go.Joins

theorem stops_own : ownKnob Try.prog.godebug = none := by kernel_rfl
theorem stops_laid : laidOutB Try.prog = true := by kernel_rfl

set_option maxRecDepth 100000 in
theorem stops_lifted (os : Os) (started : os.Started) (H : Type) (enc : TypeId × Value → H) :
    ReturnsInHanded {} Try.checked os 5 .any (Rows.recvStopsSpec.pre6 enc Try.prog Try.f5 Rows.recvStopsRow.domain false) (Rows.recvStopsSpec.post enc Try.prog Try.f5 false true false false) := by
  refine returnsInHanded_of_change (C := Try.checked) stops_own started (by kernel_rfl) Try.func5
    (ChangeSpec.witness6 (enc := enc) (C := Try.checked) false ⟨#[], #[.int .i64 0, .int .i64 0, .int .i64 0, .bool false], []⟩ 8 (by kernel_rfl) (by kernel_rfl) (by kernel_rfl) (by kernel_rfl)) ?_
  intro W base args ds gs before hval0 hW _ _
  have hval : ∀ (j : Nat) t v, Try.f5.params[j]? = some t → args[j]? = some v → Value.okWide Try.prog W .any base t v := hval0
  have hW' : DataW.Whole enc Try.prog Try.f5.params.toList Rows.recvStopsSpec.vars false W args.toList ds gs before := hW
  obtain ⟨p, q, hA0, _⟩ := hW
  have hA : DataW.TrodAll enc Try.prog W 0 (fun _ => true) true Try.f5.params.toList args.toList ds p := hA0
  rw [Try.params5] at hA hval
  obtain ⟨v0, v1, v2, v3, d0, d1, d2, d3, q0, q1, q2, q3, rfl, hd, _, h0, h1, h2, h3⟩ := trodAll_four hA
  obtain ⟨a, rfl, _, w0, _⟩ := open_int Try.underlying3 (hval 0 3 v0 rfl rfl) h0
  obtain ⟨b, rfl, _, w1, _⟩ := open_int Try.underlying3 (hval 1 3 v1 rfl rfl) h1
  obtain ⟨c, rfl, _, w2, _⟩ := open_int Try.underlying3 (hval 2 3 v2 rfl rfl) h2
  obtain ⟨o, rfl, _, _⟩ := open_bool Try.underlying4 (hval 3 4 v3 rfl rfl) h3
  refine (stops_any a b c o W).mono fun e W' ⟨he, hb⟩ => ⟨_, he, ?_⟩
  exact law_post stops_laid rfl (by kernel_rfl) Try.underlying4 (by kernel_rfl) hW' (by rw [hd]; rfl) hb

theorem stops_proved : Rows.RecvStopsSaid :=
  OpenClaim.holds_of_wide 5 Try.f5 rfl rfl rfl rfl rfl rfl rfl ⟨rfl, rfl, rfl, rfl, rfl⟩ rfl rfl rfl rfl rfl (by kernel_rfl) Try.func5 (by kernel_rfl)
    (of_decide_eq_true (by kernel_rfl)) (by unfold Func.isWrapper; first | (rw [if_pos (by decide +kernel)]; kernel_rfl) | (rw [if_neg (by decide +kernel)]; exact ⟨rfl, rfl⟩))
    (fun os started H enc _ => stops_lifted os started H enc)
#print axioms stops_proved
end Go.Proofs.Ytcmaiihadjeifaa
