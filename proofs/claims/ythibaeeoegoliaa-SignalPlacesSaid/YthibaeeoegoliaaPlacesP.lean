/-
  LAW SignalPlaces, PROVED FOR EVERY ROW OF ARGUMENTS, WITHOUT CONDITIONS: it returns true, and its arguments read as before.
-/
import Derived.Test.YthibaeeoegoliaaF15
import Derived.Test.YthibaeeoegoliaaRows
namespace Go.Proofs.Ythibaeeoegoliaa
open Go.RowKit Go.ChangeShapes Go.WideShapes Go.ChangeAt Go.Joins Go.Sy

theorem places_own : ownKnob Try.prog.godebug = none := by kernel_rfl
theorem places_laid : laidOutB Try.prog = true := by kernel_rfl

set_option maxRecDepth 100000 in
theorem places_lifted (os : Os) (started : os.Started) (H : Type) (enc : TypeId × Value → H) :
    ReturnsInHanded {} Try.checked os 3 .any (Rows.signalPlacesSpec.pre6 enc Try.prog Try.f3 Rows.signalPlacesRow.domain false) (Rows.signalPlacesSpec.post enc Try.prog Try.f3 false true false false) := by
  refine returnsInHanded_of_change (C := Try.checked) places_own started (by kernel_rfl) Try.func3
    (ChangeSpec.witness6 (enc := enc) (C := Try.checked) false ⟨#[], #[.agg #[.int .i64 0, .int .i64 0, .bool false, .bool false], .agg #[.int .i64 0, .int .i64 0, .bool false, .bool false], .int .i64 0, .int .i64 0], []⟩ 8 (by kernel_rfl) (by kernel_rfl) (by kernel_rfl) (by kernel_rfl)) ?_
  intro W base args ds gs before hval0 hW _ _
  have hval : ∀ (j : Nat) t v, Try.f3.params[j]? = some t → args[j]? = some v → Value.okWide Try.prog W .any base t v := hval0
  have hW' : DataW.Whole enc Try.prog Try.f3.params.toList Rows.signalPlacesSpec.vars false W args.toList ds gs before := hW
  obtain ⟨p, q, hA0, _⟩ := hW
  have hA : DataW.TrodAll enc Try.prog W 0 (fun _ => true) true Try.f3.params.toList args.toList ds p := hA0
  have hlen := trodAll_len _ _ _ _ hA
  rw [Try.params3] at hA hval hlen
  obtain ⟨l, g1, g2, g3⟩ := open_args tab_ok (n := 9) _ _ _ _ (by kernel_rfl) (fun j t v ht hv => hval j t v (by simpa using ht) (by simpa using hv)) hA
  refine (calls_law (lplaces_args l g1) g2 g3).mono fun e W' ⟨he, hb⟩ => ⟨_, he, ?_⟩
  have hd : ∃ d0 d1 d2 d3, ds = [d0, d1, d2, d3] := by
    match ds, hlen with
    | [d0, d1, d2, d3], _ => exact ⟨d0, d1, d2, d3, rfl⟩
  obtain ⟨d0, d1, d2, d3, hd⟩ := hd
  exact law_post places_laid rfl (by kernel_rfl) Try.underlying4 (by kernel_rfl) hW' (by rw [hd]; rfl) hb

theorem places_proved : Rows.SignalPlacesSaid :=
  OpenClaim.holds_of_wide 3 Try.f3 rfl rfl rfl rfl rfl rfl rfl ⟨rfl, rfl, rfl, rfl, rfl⟩ rfl rfl rfl rfl rfl (by kernel_rfl) Try.func3 (by kernel_rfl)
    (of_decide_eq_true (by kernel_rfl)) (by unfold Func.isWrapper; first | (rw [if_pos (by decide +kernel)]; kernel_rfl) | (rw [if_neg (by decide +kernel)]; exact ⟨rfl, rfl⟩))
    (fun os started H enc _ => places_lifted os started H enc)
#print axioms places_proved
end Go.Proofs.Ythibaeeoegoliaa
