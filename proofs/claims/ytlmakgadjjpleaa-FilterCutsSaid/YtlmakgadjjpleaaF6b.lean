import Derived.Test.YtlmakgadjjpleaaF6
open Go Go.Proofs Go.Sy
namespace Go.Proofs.Ytlmakgadjjpleaa

set_option maxRecDepth 100000 in
theorem cuts_args (l : List SV) (h : Args tab 9 [23, 24, 3] l) : Eff Try.prog 6 l [] 0 (fun r _ _ => r = .b true) := by
  obtain ⟨_, _, rfl, ⟨_, _, rfl, ⟨k, rfl, _, _⟩, _, _, rfl, ⟨m, rfl, _, _⟩, _, _, rfl, ⟨x, rfl, _, _⟩, _, _, rfl, ⟨mn, rfl, _, _⟩, _, _, rfl, ⟨mx, rfl, _, _⟩, _, _, rfl, ⟨ev, rfl, _, _⟩, _, _, rfl, ⟨fr, rfl, _, _⟩, _, _, rfl, ⟨old, rfl, _, _⟩, _, _, rfl, ⟨cnt, rfl, _, _⟩, rfl⟩,
    _, _, rfl, ⟨ys, rfl, hl, he⟩, _, _, rfl, ⟨cut, rfl, _, _⟩, rfl⟩ := h
  obtain ⟨l, rfl, _⟩ := ints_of (T := tab) (t := 2) rfl rfl ys he
  exact cuts_eff k m x mn mx ev fr old cnt l cut (by simpa using hl)

end Go.Proofs.Ytlmakgadjjpleaa
