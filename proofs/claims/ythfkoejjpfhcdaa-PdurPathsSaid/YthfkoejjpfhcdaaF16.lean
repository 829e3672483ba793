import Derived.Test.YthfkoejjpfhcdaaF15
open Go Go.Proofs Go.Sy
namespace Go.Proofs.Ythfkoejjpfhcdaa

theorem deeds_of : ∀ (ys : List (List DV)), (∀ el ∈ ys, Tyd tab 8 43 el) → ∃ l : List Deed, ys = l.map dD
  | [], _ => ⟨[], rfl⟩
  | y :: ys, h => by
    obtain ⟨l, rfl⟩ := deeds_of ys fun e he => h e (by simp [he])
    obtain ⟨_, _, rfl, ⟨a, rfl, _⟩, _, _, rfl, ⟨b, rfl, _⟩, _, _, rfl, ⟨c, rfl, _⟩, _, _, rfl, ⟨d, rfl⟩, rfl⟩ := h y (by simp)
    exact ⟨⟨a, b, c, d⟩ :: l, rfl⟩
theorem lpaths_args (l : List SV) (h : Args tab 9 [25, 40] l) : Eff Try.prog 4 l [] 0 (fun r _ _ => r = .b true) := by
  obtain ⟨_, _, rfl, ⟨_, _, rfl, ⟨ys, rfl, hl, hy⟩, _, _, rfl, ⟨zs, rfl, hl2, hz⟩, rfl⟩, _, _, rfl, ⟨us, rfl, hl3, ha⟩, rfl⟩ := h
  obtain ⟨ps, rfl⟩ := ways_of ys hy
  obtain ⟨on, rfl⟩ := bools_of zs hz
  obtain ⟨acs, rfl⟩ := deeds_of us ha
  exact lpaths_ok ps on acs (by simpa using hl) (by simpa using hl2) (by simpa using hl3)
end Go.Proofs.Ythfkoejjpfhcdaa
