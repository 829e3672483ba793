import Derived.Test.YtclmbbcchgfedaaDoorF16
open Go Go.Proofs Go.Sy
namespace Go.Proofs.YtclmbbcchgfedaaDoor

theorem strs_of : ∀ (ys : List (List DV)), (∀ el ∈ ys, Tyd tab 8 9 el) → ∃ R : List (List UInt8), ys = R.map (fun r => [.v (.string (strL r))]) ∧ ∀ r ∈ R, r.length ≤ 9223372036854775807
  | [], _ => ⟨[], rfl, fun _ h => by cases h⟩
  | el :: ys, h => by
    obtain ⟨R, rfl, hR⟩ := strs_of ys fun e he => h e (by simp [he])
    obtain ⟨s, rfl, hs⟩ : ∃ s, el = [.v (.string s)] ∧ s.size ≤ 9223372036854775807 := h el (by simp)
    refine ⟨s.data.toList :: R, ?_, fun r hr => ?_⟩
    · rw [List.map_cons, ← strL_of]
    · simp only [List.mem_cons] at hr
      rcases hr with rfl | hr
      · rw [← strL_size, ← strL_of]; exact hs
      · exact hR r hr
theorem rows_args (l : List SV) (h : Args tab 9 [36, 37] l) : Eff Tryd.prog 6 l [] 0 (fun r _ _ => r = .b true) := by
  obtain ⟨_, _, rfl, ⟨ys, rfl, _, hy⟩, _, _, rfl, ⟨zs, rfl, _, hz⟩, rfl⟩ := h
  obtain ⟨R, rfl, hR⟩ := strs_of ys hy
  obtain ⟨ks, rfl, _⟩ := ints_of (n := 7) (t := 3) rfl rfl zs hz
  exact rows_law R _ ks _ rfl rfl hR
end Go.Proofs.YtclmbbcchgfedaaDoor
