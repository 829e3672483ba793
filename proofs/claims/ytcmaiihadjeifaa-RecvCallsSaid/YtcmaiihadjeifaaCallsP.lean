/-
  LAW RecvCalls, PROVED FOR EVERY ROW OF ARGUMENTS, WITHOUT CONDITIONS: it returns true, and its arguments read as before.
-/
import Derived.Test.YtcmaiihadjeifaaCallsB
import Derived.Test.YtcmaiihadjeifaaLaw
import Derived.Test.YtcmaiihadjeifaaArgs
namespace Go.Proofs.Ytcmaiihadjeifaa
open Go.RowKit Go.Camp Go.ChangeShapes Go.WideShapes Go.ChangeAt Go.Joins

theorem calls_own : ownKnob Try.prog.godebug = none := by kernel_rfl
theorem calls_laid : laidOutB Try.prog = true := by kernel_rfl
theorem calls_cells23 : Try.prog.cellsOf 23 = 5 := by kernel_rfl

set_option maxRecDepth 100000 in
theorem calls_lifted (os : Os) (started : os.Started) (H : Type) (enc : TypeId × Value → H) :
    ReturnsInHanded {} Try.checked os 3 .any (Rows.recvCallsSpec.pre6 enc Try.prog Try.f3 Rows.recvCallsRow.domain false) (Rows.recvCallsSpec.post enc Try.prog Try.f3 false true false false) := by
  refine returnsInHanded_of_change (C := Try.checked) calls_own started (by kernel_rfl) Try.func3
    (ChangeSpec.witness6 (enc := enc) (C := Try.checked) false ⟨#[], #[.agg #[.int .i64 0, .int .i64 0, .int .i64 0, .bool false, .bool false], .int .i64 0, .int .i64 0], []⟩ 8 (by kernel_rfl) (by kernel_rfl) (by kernel_rfl) (by kernel_rfl)) ?_
  intro W base args ds gs before hval0 hW _ _
  have hval : ∀ (j : Nat) t v, Try.f3.params[j]? = some t → args[j]? = some v → Value.okWide Try.prog W .any base t v := hval0
  have hW' : DataW.Whole enc Try.prog Try.f3.params.toList Rows.recvCallsSpec.vars false W args.toList ds gs before := hW
  obtain ⟨p, q, hA0, _⟩ := hW
  have hA : DataW.TrodAll enc Try.prog W 0 (fun _ => true) true Try.f3.params.toList args.toList ds p := hA0
  rw [Try.params3] at hA hval
  obtain ⟨v0, v1, v2, d0, d1, d2, q0, q1, q2, rfl, hd, _, h0, h1, h2⟩ := trodAll_three hA
  obtain ⟨cs0, rfl, hs0, hf0⟩ := open_cells Try.underlying23 (by kernel_rfl) calls_cells23 (by rfl) (hval 0 23 v0 rfl rfl) h0
  obtain ⟨c0_0, c0_1, c0_2, c0_3, c0_4, rfl⟩ := row5 hs0
  obtain ⟨x0_0, m0_0, y0_0, e0_0, g0_0⟩ := hf0 0 _ rfl
  obtain ⟨f, k0_0, _, wf0_0⟩ := DataW.trod_int Try.underlying3 g0_0
  simp at e0_0 k0_0
  subst k0_0 e0_0
  obtain ⟨x0_1, m0_1, y0_1, e0_1, g0_1⟩ := hf0 1 _ rfl
  obtain ⟨e, k0_1, _, wf0_1⟩ := DataW.trod_int Try.underlying3 g0_1
  simp at e0_1 k0_1
  subst k0_1 e0_1
  obtain ⟨x0_2, m0_2, y0_2, e0_2, g0_2⟩ := hf0 2 _ rfl
  obtain ⟨l, k0_2, _, wf0_2⟩ := DataW.trod_int Try.underlying3 g0_2
  simp at e0_2 k0_2
  subst k0_2 e0_2
  obtain ⟨x0_3, m0_3, y0_3, e0_3, g0_3⟩ := hf0 3 _ rfl
  obtain ⟨o, k0_3, _⟩ := DataW.trod_bool Try.underlying4 g0_3
  simp at e0_3 k0_3
  subst k0_3 e0_3
  obtain ⟨x0_4, m0_4, y0_4, e0_4, g0_4⟩ := hf0 4 _ rfl
  obtain ⟨t, k0_4, _⟩ := DataW.trod_bool Try.underlying4 g0_4
  simp at e0_4 k0_4
  subst k0_4 e0_4
  obtain ⟨a, rfl, _, w1, _⟩ := open_int Try.underlying3 (hval 1 3 v1 rfl rfl) h1
  obtain ⟨b, rfl, _, w2, _⟩ := open_int Try.underlying3 (hval 2 3 v2 rfl rfl) h2
  refine (calls_any f e l a b o t W).mono fun e W' ⟨he, hb⟩ => ⟨_, he, ?_⟩
  exact law_post calls_laid rfl (by kernel_rfl) Try.underlying4 (by kernel_rfl) hW' (by rw [hd]; rfl) hb

theorem calls_proved : Rows.RecvCallsSaid :=
  OpenClaim.holds_of_wide 3 Try.f3 rfl rfl rfl rfl rfl rfl rfl ⟨rfl, rfl, rfl, rfl, rfl⟩ rfl rfl rfl rfl rfl (by kernel_rfl) Try.func3 (by kernel_rfl)
    (of_decide_eq_true (by kernel_rfl)) (by unfold Func.isWrapper; first | (rw [if_pos (by decide +kernel)]; kernel_rfl) | (rw [if_neg (by decide +kernel)]; exact ⟨rfl, rfl⟩))
    (fun os started H enc _ => calls_lifted os started H enc)
#print axioms calls_proved
end Go.Proofs.Ytcmaiihadjeifaa
