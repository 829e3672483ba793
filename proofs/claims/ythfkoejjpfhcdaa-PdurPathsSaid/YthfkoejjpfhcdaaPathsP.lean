/-
  LAW PdurPaths, PROVED FOR EVERY ROW OF ARGUMENTS, WITHOUT CONDITIONS: it returns true, and its arguments read as before.
-/
import Derived.Test.YthfkoejjpfhcdaaF16
import Derived.Test.YthfkoejjpfhcdaaRows
namespace Go.Proofs.Ythfkoejjpfhcdaa
open Go.RowKit Go.ChangeShapes Go.WideShapes Go.ChangeAt Go.Joins Go.Sy

theorem paths_own : ownKnob Try.prog.godebug = none := by kernel_rfl
theorem paths_laid : laidOutB Try.prog = true := by kernel_rfl

set_option maxRecDepth 100000 in
theorem paths_lifted (os : Os) (started : os.Started) (H : Type) (enc : TypeId × Value → H) :
    ReturnsInHanded {} Try.checked os 4 .any (Rows.pdurPathsSpec.pre6 enc Try.prog Try.f4 Rows.pdurPathsRow.domain false) (Rows.pdurPathsSpec.post enc Try.prog Try.f4 false true false false) := by
  refine returnsInHanded_of_change (C := Try.checked) paths_own started (by kernel_rfl) Try.func4
    (ChangeSpec.witness6 (enc := enc) (C := Try.checked) false ⟨#[], #[.agg #[.slice none 0 0, .slice none 0 0], .slice none 0 0], []⟩ 8 (by kernel_rfl) (by kernel_rfl) (by kernel_rfl) (by kernel_rfl)) ?_
  intro W base args ds gs before hval0 hW _ _
  have hval : ∀ (j : Nat) t v, Try.f4.params[j]? = some t → args[j]? = some v → Value.okWide Try.prog W .any base t v := hval0
  have hW' : DataW.Whole enc Try.prog Try.f4.params.toList Rows.pdurPathsSpec.vars false W args.toList ds gs before := hW
  obtain ⟨p, q, hA0, _⟩ := hW
  have hA : DataW.TrodAll enc Try.prog W 0 (fun _ => true) true Try.f4.params.toList args.toList ds p := hA0
  have hlen := trodAll_len _ _ _ _ hA
  rw [Try.params4] at hA hval hlen
  obtain ⟨l, g1, g2, g3⟩ := open_args tab_ok (n := 9) _ _ _ _ (by kernel_rfl) (fun j t v ht hv => hval j t v (by simpa using ht) (by simpa using hv)) hA
  refine (calls_law (lpaths_args l g1) g2 g3).mono fun e W' ⟨he, hb⟩ => ⟨_, he, ?_⟩
  have hd : ∃ d0 d1, ds = [d0, d1] := by
    match ds, hlen with
    | [d0, d1], _ => exact ⟨d0, d1, rfl⟩
  obtain ⟨d0, d1, hd⟩ := hd
  exact law_post paths_laid rfl (by kernel_rfl) Try.underlying4 (by kernel_rfl) hW' (by rw [hd]; rfl) hb

theorem paths_proved : Rows.PdurPathsSaid :=
  OpenClaim.holds_of_wide 4 Try.f4 rfl rfl rfl rfl rfl rfl rfl ⟨rfl, rfl, rfl, rfl, rfl⟩ rfl rfl rfl rfl rfl (by kernel_rfl) Try.func4 (by kernel_rfl)
    (of_decide_eq_true (by kernel_rfl)) (by unfold Func.isWrapper; first | (rw [if_pos (by decide +kernel)]; kernel_rfl) | (rw [if_neg (by decide +kernel)]; exact ⟨rfl, rfl⟩))
    (fun os started H enc _ => paths_lifted os started H enc)
#print axioms paths_proved
end Go.Proofs.Ythfkoejjpfhcdaa
