import Derived.Test.YtkilkilejnaflaaF7a
import Derived.Test.YtkilkilejnaflaaF7b
import Derived.Test.YtkilkilejnaflaaF7c
open Go Go.Proofs Go.Sy
namespace Go.Proofs.Ytkilkilejnaflaa

theorem calls_eff (s0 g0 v0 : List Int) (t at_ x : Int) (hs0 : s0.length ≤ 9223372036854775807) (hg0 : g0.length ≤ 9223372036854775807) (hv0 : v0.length ≤ 9223372036854775807) : Eff Try.prog 3 [.agg (grp s0 g0 t), sl v0, .i at_, .i x] [] 0 (fun r _ _ => r = .b true) := by
  obtain ⟨s, hs⟩ : ∃ s, s = s0.take 20 := ⟨_, rfl⟩
  obtain ⟨g, hg⟩ : ∃ s, s = g0.take 20 := ⟨_, rfl⟩
  obtain ⟨v, hv⟩ : ∃ s, s = v0.take 20 := ⟨_, rfl⟩
  have ls : s.length ≤ 20 := by rw [hs]; simp; omega
  have lg : g.length ≤ 20 := by rw [hg]; simp; omega
  have lv : v.length ≤ 20 := by rw [hv]; simp; omega
  by_cases hr : rightG s g t = true
  · have hb := rightG_get hr
    have ht5 : t ≤ 1099511627776 := hb.2.2.2.2
    by_cases n1 : at_ < 0
    · by_cases ht : t = 1099511627776
      · by_cases v1 : v.length < 1
        · exact calls_neg_late_b s0 g0 v0 s g v t at_ x hs0 hg0 hv0 hs hg hv ls lg lv hr n1 v1 ht
        by_cases v2 : 16 < v.length
        · exact calls_neg_late_c s0 g0 v0 s g v t at_ x hs0 hg0 hv0 hs hg hv ls lg lv hr n1 v2 ht
        exact calls_neg_late_a s0 g0 v0 s g v t at_ x hs0 hg0 hv0 hs hg hv ls lg lv hr n1 (by omega) (by omega) ht
      by_cases hl : v.length = s.length
      · exact calls_neg_full s0 g0 v0 s g v t at_ x hs0 hg0 hv0 hs hg hv ls lg lv hr n1 (by omega) hl
      by_cases v1 : v.length < 1
      · exact calls_neg_less_b s0 g0 v0 s g v t at_ x hs0 hg0 hv0 hs hg hv ls lg lv hr n1 v1 (by omega) hl
      by_cases v2 : 16 < v.length
      · exact calls_neg_less_c s0 g0 v0 s g v t at_ x hs0 hg0 hv0 hs hg hv ls lg lv hr n1 v2 (by omega) hl
      exact calls_neg_less_a s0 g0 v0 s g v t at_ x hs0 hg0 hv0 hs hg hv ls lg lv hr n1 (by omega) (by omega) (by omega) hl
    by_cases n2 : s.length ≤ at_
    · have n1' : 0 ≤ at_ := by omega
      by_cases ht : t = 1099511627776
      · by_cases v1 : v.length < 1
        · exact calls_far_late_b s0 g0 v0 s g v t at_ x hs0 hg0 hv0 hs hg hv ls lg lv hr n1' n2 v1 ht
        by_cases v2 : 16 < v.length
        · exact calls_far_late_c s0 g0 v0 s g v t at_ x hs0 hg0 hv0 hs hg hv ls lg lv hr n1' n2 v2 ht
        exact calls_far_late_a s0 g0 v0 s g v t at_ x hs0 hg0 hv0 hs hg hv ls lg lv hr n1' n2 (by omega) (by omega) ht
      by_cases hl : v.length = s.length
      · exact calls_far_full s0 g0 v0 s g v t at_ x hs0 hg0 hv0 hs hg hv ls lg lv hr n1' n2 (by omega) hl
      by_cases v1 : v.length < 1
      · exact calls_far_less_b s0 g0 v0 s g v t at_ x hs0 hg0 hv0 hs hg hv ls lg lv hr n1' n2 v1 (by omega) hl
      by_cases v2 : 16 < v.length
      · exact calls_far_less_c s0 g0 v0 s g v t at_ x hs0 hg0 hv0 hs hg hv ls lg lv hr n1' n2 v2 (by omega) hl
      exact calls_far_less_a s0 g0 v0 s g v t at_ x hs0 hg0 hv0 hs hg hv ls lg lv hr n1' n2 (by omega) (by omega) (by omega) hl
    obtain ⟨n, hi⟩ : ∃ n : Nat, at_ = n := ⟨at_.toNat, by omega⟩
    have hn : n < s.length := by omega
    by_cases ht : t = 1099511627776
    · by_cases v1 : v.length < 1
      · exact calls_in_late_b s0 g0 v0 s g v t at_ x hs0 hg0 hv0 hs hg hv ls lg lv hr n hi hn v1 ht
      by_cases v2 : 16 < v.length
      · exact calls_in_late_c s0 g0 v0 s g v t at_ x hs0 hg0 hv0 hs hg hv ls lg lv hr n hi hn v2 ht
      exact calls_in_late_a s0 g0 v0 s g v t at_ x hs0 hg0 hv0 hs hg hv ls lg lv hr n hi hn (by omega) (by omega) ht
    by_cases hl : v.length = s.length
    · exact calls_in_full s0 g0 v0 s g v t at_ x hs0 hg0 hv0 hs hg hv ls lg lv hr n hi hn (by omega) hl
    by_cases v1 : v.length < 1
    · exact calls_in_less_b s0 g0 v0 s g v t at_ x hs0 hg0 hv0 hs hg hv ls lg lv hr n hi hn v1 (by omega) hl
    by_cases v2 : 16 < v.length
    · exact calls_in_less_c s0 g0 v0 s g v t at_ x hs0 hg0 hv0 hs hg hv ls lg lv hr n hi hn v2 (by omega) hl
    exact calls_in_less_a s0 g0 v0 s g v t at_ x hs0 hg0 hv0 hs hg hv ls lg lv hr n hi hn (by omega) (by omega) (by omega) hl
  · have hr : rightG s g t = false := by simpa using hr
    by_cases v1 : v.length < 1
    · exact calls_b2 s0 g0 v0 s g v t at_ x hs0 hg0 hv0 hs hg hv ls lg lv hr v1
    by_cases v2 : 16 < v.length
    · exact calls_b3 s0 g0 v0 s g v t at_ x hs0 hg0 hv0 hs hg hv ls lg lv hr v2
    exact calls_b1 s0 g0 v0 s g v t at_ x hs0 hg0 hv0 hs hg hv ls lg lv hr (by omega) (by omega)

set_option maxRecDepth 100000 in
theorem calls_args (l : List SV) (h : Args tab 9 [24, 22, 3, 2] l) : Eff Try.prog 3 l [] 0 (fun r _ _ => r = .b true) := by
  obtain ⟨_, _, rfl, ⟨_, _, rfl, ⟨ys, rfl, hl1, he1⟩, _, _, rfl, ⟨zs, rfl, hl2, he2⟩, _, _, rfl, ⟨t, rfl, _, _⟩, rfl⟩, _, _, rfl, ⟨vs, rfl, hl3, he3⟩, _, _, rfl, ⟨at_, rfl, _, _⟩, _, _, rfl, ⟨x, rfl, _, _⟩, rfl⟩ := h
  obtain ⟨s, rfl, _⟩ := ints_of (T := tab) (t := 2) rfl rfl ys he1
  obtain ⟨g, rfl, _⟩ := ints_of (T := tab) (t := 2) rfl rfl zs he2
  obtain ⟨v, rfl, _⟩ := ints_of (T := tab) (t := 2) rfl rfl vs he3
  exact calls_eff s g v t at_ x (by simpa using hl1) (by simpa using hl2) (by simpa using hl3)

end Go.Proofs.Ytkilkilejnaflaa
