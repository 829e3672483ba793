/-
  LAW CountOff OF LAYER 6 (count), PROVED FOR EVERY ROW OF ARGUMENTS, WITHOUT CONDITIONS: it returns true, and its arguments read as before.
-/
import Derived.Test.YtdiomgocdkjcoaaOff
namespace Go.Proofs.Ytdiomgocdkjcoaa
open Go.RowKit Go.Camp Go.ChangeShapes Go.WideShapes Go.ChangeAt Go.Joins

theorem off_own : ownKnob Try.prog.godebug = none := by kernel_rfl
theorem off_laid : laidOutB Try.prog = true := by kernel_rfl
theorem cells3 : Try.prog.cellsOf 3 = 1 := by kernel_rfl
theorem cells4 : Try.prog.cellsOf 4 = 1 := by kernel_rfl

set_option maxRecDepth 100000 in
theorem off_lifted (os : Os) (started : os.Started) (H : Type) (enc : TypeId × Value → H) :
    ReturnsInHanded {} Try.checked os 4 .any (Rows.countOffSpec.pre6 enc Try.prog Try.f4 Rows.countOffRow.domain false) (Rows.countOffSpec.post enc Try.prog Try.f4 false true false false) := by
  refine returnsInHanded_of_change (C := Try.checked) off_own started (by kernel_rfl) Try.func4
    (ChangeSpec.witness6 (enc := enc) (C := Try.checked) false ⟨#[], #[.slice none 0 0, .slice none 0 0], []⟩ 8 (by kernel_rfl) (by kernel_rfl) (by kernel_rfl) (by kernel_rfl)) ?_
  intro W base args ds gs before hval0 hW _ _
  have hval : ∀ (j : Nat) t v, Try.f4.params[j]? = some t → args[j]? = some v → Value.okWide Try.prog W .any base t v := hval0
  have hW' : DataW.Whole enc Try.prog Try.f4.params.toList Rows.countOffSpec.vars false W args.toList ds gs before := hW
  obtain ⟨p, q, hA0, _⟩ := hW
  have hA : DataW.TrodAll enc Try.prog W 0 (fun _ => true) true Try.f4.params.toList args.toList ds p := hA0
  rw [Try.params4] at hA hval
  obtain ⟨v0, v1, d0, d1, p0, p1, rfl, hd, _, h0, h1⟩ := trodAll_two hA
  obtain ⟨ao, n, cap, f, ad, rfl, a1, a2, a3, a4⟩ := open_ints1 Try.underlying29 Try.underlying3 cells3 (fun w => by kernel_rfl) (hval 0 29 v0 rfl rfl) h0
  obtain ⟨bo, m, mcap, g, bd, rfl, b1, b2, b3, b4⟩ := open_bools1 Try.underlying30 Try.underlying4 cells4 (fun w => by kernel_rfl) (hval 1 30 v1 rfl rfl) h1
  unfold maxLen at a2 b2
  refine (off_any ao bo n cap m mcap f g ad bd W a3 (fun i hi => ⟨(a4 i hi).1, (a4 i hi).2.1⟩) b3 b4).mono fun e W' ⟨he, hb⟩ => ⟨_, he, ?_⟩
  exact law_post off_laid rfl (by kernel_rfl) Try.underlying4 (by kernel_rfl) hW' (by rw [hd]; rfl) hb

theorem off_proved : Rows.CountOffSaid :=
  OpenClaim.holds_of_wide 4 Try.f4 rfl rfl rfl rfl rfl rfl rfl ⟨rfl, rfl, rfl, rfl, rfl⟩ rfl rfl rfl rfl rfl (by kernel_rfl) Try.func4 (by kernel_rfl)
    (of_decide_eq_true (by kernel_rfl)) (by unfold Func.isWrapper; first | (rw [if_pos (by decide +kernel)]; kernel_rfl) | (rw [if_neg (by decide +kernel)]; exact ⟨rfl, rfl⟩))
    (fun os started H enc _ => off_lifted os started H enc)
#print axioms off_proved
end Go.Proofs.Ytdiomgocdkjcoaa
