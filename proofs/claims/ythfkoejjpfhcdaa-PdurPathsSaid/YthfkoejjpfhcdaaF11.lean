import Derived.Test.YthfkoejjpfhcdaaF10
open Go Go.Proofs Go.Sy
namespace Go.Proofs.Ythfkoejjpfhcdaa

theorem texts_of : ∀ (ys : List (List DV)), (∀ el ∈ ys, Tyd tab 4 9 el) → ∃ l : List ByteArray, ys = rowS l
  | [], _ => ⟨[], rfl⟩
  | y :: ys, h => by
    obtain ⟨l, rfl⟩ := texts_of ys fun e he => h e (by simp [he])
    obtain ⟨s, rfl, _⟩ := h y (by simp)
    exact ⟨s :: l, rfl⟩
theorem bools_of : ∀ (ys : List (List DV)), (∀ el ∈ ys, Tyd tab 7 4 el) → ∃ l : List Bool, ys = onD l
  | [], _ => ⟨[], rfl⟩
  | y :: ys, h => by
    obtain ⟨l, rfl⟩ := bools_of ys fun e he => h e (by simp [he])
    obtain ⟨s, rfl⟩ := h y (by simp)
    exact ⟨s :: l, rfl⟩
theorem ways_of : ∀ (ys : List (List DV)), (∀ el ∈ ys, Tyd tab 7 38 el) → ∃ l : List Way, ys = l.map pD
  | [], _ => ⟨[], rfl⟩
  | y :: ys, h => by
    obtain ⟨l, rfl⟩ := ways_of ys fun e he => h e (by simp [he])
    obtain ⟨_, _, rfl, ⟨a, rfl, _⟩, _, _, rfl, ⟨b, rfl, _⟩, _, _, rfl, ⟨c, rfl, _⟩, _, _, rfl, ⟨_, _, rfl, ⟨zs, rfl, _, hz⟩, _, _, rfl, ⟨d, rfl, _⟩, _, _, rfl, ⟨e, rfl⟩, rfl⟩, rfl⟩ := h y (by simp)
    obtain ⟨t, rfl⟩ := texts_of zs hz
    exact ⟨⟨a, b, c, t, d, e⟩ :: l, rfl⟩
theorem lsets_args (l : List SV) (h : Args tab 9 [25, 3, 9] l) : Eff Try.prog 3 l [] 0 (fun r _ _ => r = .b true) := by
  obtain ⟨_, _, rfl, ⟨_, _, rfl, ⟨ys, rfl, hl, hy⟩, _, _, rfl, ⟨zs, rfl, hl2, hz⟩, rfl⟩, _, _, rfl, ⟨fr, rfl, _⟩, _, _, rfl, ⟨s, rfl, _⟩, rfl⟩ := h
  obtain ⟨ps, rfl⟩ := ways_of ys hy
  obtain ⟨on, rfl⟩ := bools_of zs hz
  exact lsets_ok ps on fr s (by simpa using hl) (by simpa using hl2)
end Go.Proofs.Ythfkoejjpfhcdaa
