import Derived.Test.YtkcdmibpmoknmaaF8a
import Derived.Test.YtkcdmibpmoknmaaF8r
import Derived.Test.YtkcdmibpmoknmaaF8f
import Derived.Test.YtkcdmibpmoknmaaF8b
open Go Go.Proofs Go.Sy
namespace Go.Proofs.Ytkcdmibpmoknmaa

theorem texts_of {n : Nat} {t : TypeId} {y : Ty} (ht : aget t tab = some y) (hy : y.td = .str) : ∀ (ys : List (List DV)), (∀ el ∈ ys, Tyd tab (n + 1) t el) → ∃ l : List ByteArray, ys = l.map (fun v => [.v (.string v)])
  | [], _ => ⟨[], rfl⟩
  | el :: ys, h => by
    obtain ⟨l, rfl⟩ := texts_of ht hy ys fun e he => h e (List.mem_cons_of_mem _ he)
    have h1 := h el List.mem_cons_self
    simp only [Tyd, ht, hy] at h1
    obtain ⟨z, rfl, _⟩ := h1
    exact ⟨z :: l, rfl⟩

set_option maxRecDepth 100000 in
theorem calls_args (a : List SV) (h : Args tab 9 [3, 37, 9] a) : Eff Try.prog 5 a [] 0 (fun r _ _ => r = .b true) := by
  obtain ⟨_, _, rfl, ⟨size, rfl, _, _⟩, _, _, rfl, ⟨_, _, rfl, ⟨ys, rfl, hl0, he⟩, _, _, rfl, ⟨c, rfl, _, _⟩, _, _, rfl, ⟨b, rfl⟩, rfl⟩, _, _, rfl, ⟨x, rfl, _⟩, rfl⟩ := h
  obtain ⟨l0, rfl⟩ := texts_of (t := 9) rfl rfl ys he
  have hl0 : l0.length ≤ 9223372036854775807 := by simpa using hl0
  obtain ⟨l, hl⟩ : ∃ l, l = l0.take 20 := ⟨_, rfl⟩
  have ll : l.length ≤ 20 := by rw [hl]; simp; omega
  have S : size < 1 ∨ 16 < size ∨ (1 ≤ size ∧ size ≤ 16) := by omega
  cases hr : rightR l.length c
  · obtain s | s | ⟨s, s'⟩ := S
    · exact calls_b2 size c b l0 l x hl0 hl ll hr s
    · exact calls_b3 size c b l0 l x hl0 hl ll hr s
    · exact calls_b1 size c b l0 l x hl0 hl ll hr s s'
  cases hz : l with
  | nil =>
    obtain s | s | ⟨s, s'⟩ := S
    · exact calls_e2 size c b l0 l x hl0 hl ll hr hz s
    · exact calls_e3 size c b l0 l x hl0 hl ll hr hz s
    · exact calls_e1 size c b l0 l x hl0 hl ll hr hz s s'
  | cons y l' =>
    have h3 := (rightR_get hr).2.2
    by_cases hc : (l.length : Int) < c
    · obtain s | s | ⟨s, s'⟩ := S
      · exact calls_r2 size c b l0 l x hl0 hl ll hr y l' hz hc s
      · exact calls_r3 size c b l0 l x hl0 hl ll hr y l' hz hc s
      · exact calls_r1 size c b l0 l x hl0 hl ll hr y l' hz hc s s'
    have hc : (l.length : Int) = c := by omega
    cases hb : b
    · subst hb
      obtain s | s | ⟨s, s'⟩ := S
      · exact calls_w2 size c false l0 l x hl0 hl ll hr y l' hz hc rfl s
      · exact calls_w3 size c false l0 l x hl0 hl ll hr y l' hz hc rfl s
      · exact calls_w1 size c false l0 l x hl0 hl ll hr y l' hz hc rfl s s'
    · subst hb
      obtain s | s | ⟨s, s'⟩ := S
      · exact calls_f2 size c true l0 l x hl0 hl ll hr y l' hz hc rfl s
      · exact calls_f3 size c true l0 l x hl0 hl ll hr y l' hz hc rfl s
      · exact calls_f1 size c true l0 l x hl0 hl ll hr y l' hz hc rfl s s'

end Go.Proofs.Ytkcdmibpmoknmaa
