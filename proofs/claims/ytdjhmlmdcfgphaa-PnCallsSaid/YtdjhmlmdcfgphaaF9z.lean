import Derived.Test.YtdjhmlmdcfgphaaF9b
import Derived.Test.YtdjhmlmdcfgphaaF9k
import Derived.Test.YtdjhmlmdcfgphaaF9o
open Go Go.Proofs Go.Sy
namespace Go.Proofs.Ytdjhmlmdcfgphaa
theorem pn_of {xs : List DV} (h : Tyd tab 9 26 xs) : ∃ m o s l, xs.map SV.d = pnC m o s l := by
  obtain ⟨_, _, rfl, ⟨m, rfl, m1, m2⟩, _, _, rfl, ⟨o, rfl, o1, o2⟩, _, _, rfl, ⟨ys, hl, rfl, hy⟩, _, _, rfl, ⟨l, rfl, _, _⟩, rfl⟩ := h
  obtain ⟨m, rfl⟩ := u16_of m1 m2
  obtain ⟨o, rfl⟩ := u16_of o1 o2
  obtain ⟨zs, rfl, _⟩ := ints_of (n := 6) (t := 3) rfl rfl ys hy
  rw [List.length_map] at hl
  match zs, hl with
  | [a0, a1, a2, a3, a4, a5, a6, a7, a8, a9, a10, a11, a12, a13, a14, a15], _ =>
    exact ⟨m, o, fun k => [a0, a1, a2, a3, a4, a5, a6, a7, a8, a9, a10, a11, a12, a13, a14, a15].getD k 0, l, rfl⟩

theorem calls_args (l : List SV) (h : Args tab 9 [26, 22, 3, 3, 4, 22, 9] l) : Eff Try.prog 6 l [] 0 (fun r _ _ => r = .b true) := by
  obtain ⟨xs, _, rfl, hp, _, _, rfl, ⟨mem, rfl, m1, m2⟩, _, _, rfl, ⟨lim, rfl, _, _⟩, _, _, rfl, ⟨net, rfl, _, _⟩, _, _, rfl, ⟨on, rfl⟩, _, _, rfl, ⟨told, rfl, t1, t2⟩, _, _, rfl, ⟨s, rfl, _⟩, rfl⟩ := h
  obtain ⟨m, o, sn, li, hxs⟩ := pn_of hp
  obtain ⟨mem, rfl⟩ := u16_of m1 m2
  obtain ⟨told, rfl⟩ := u16_of t1 t2
  show Eff Try.prog 6 [.agg (xs.map SV.d), _, _, _, _, _, _] [] 0 _
  rw [hxs]
  cases h : rightB m o sn li
  · exact calls_bad m o sn li mem lim net on told s h
  · rcases want_cases m o sn li net on h with ⟨i, rfl, hi⟩ | hw
    · exact calls_ok m o sn li mem lim i on told s h hi
    · by_cases hn : net < 0 ∨ 15 < net
      · exact calls_out m o sn li mem lim net on told s h hw (.inl hn)
      · obtain ⟨i, rfl⟩ : ∃ i : Nat, net = i := ⟨net.toNat, by omega⟩
        cases hb : m.getLsbD i
        · exact calls_out m o sn li mem lim i on told s h hw (.inr ⟨i, by omega, rfl, hb⟩)
        · exact calls_ok m o sn li mem lim i on told s h hb
end Go.Proofs.Ytdjhmlmdcfgphaa
