/-
  What is read behind so many stuffed bits; no program in sight. Condition: what the theorems state ahead.
-/
import Derived.Test.YthdcegeampcalaaGreatDoorF16
open Go Go.Proofs Go.Sy Go.Stuff
namespace Go.Proofs.YthdcegeampcalaaGreatDoor
/-! ### A stuffed row, read bit by bit (plain) -/
theorem sst_in {x : X} {c : UInt8} (hx : x.2 ≤ 4) : sst x c = if c = x.1 then (c, x.2 + 1) else (c, 1) := by
  unfold sst
  rw [if_neg (by omega)]
  by_cases h : c = x.1
  · rw [if_pos h, if_pos h, h]
  · rw [if_neg h, if_neg h]
theorem sst_good {x : X} {c : UInt8} (hx : x.2 ≤ 4) (hc : isB c) : isB (sst x c).1 ∧ 1 ≤ (sst x c).2 ∧ (sst x c).2 ≤ 5 := by
  rw [sst_in hx]
  by_cases h : c = x.1
  · rw [if_pos h]; exact ⟨hc, by simp, by show x.2 + 1 ≤ 5; omega⟩
  · rw [if_neg h]; exact ⟨hc, Nat.le_refl _, by show (1 : Nat) ≤ 5; omega⟩
theorem stuff_pre (l : List UInt8) : ∀ (x : X), x.2 ≤ 4 → (∀ c ∈ l, isB c) → ∀ i, i ≤ (stuffL x l).length →
    ∃ n y, n ≤ l.length ∧ unst x ((stuffL x l).take i) = some (l.take n, y) ∧ y.2 ≤ 5 ∧ (i < (stuffL x l).length → n < l.length ∨ y.2 = 5) ∧ (i = (stuffL x l).length → n = l.length ∧ y.2 ≤ 4) ∧ ((i = 0 ∧ y = x) ∨ (isB y.1 ∧ 1 ≤ y.2)) := by
  induction l with
  | nil =>
    intro x hx _ i hi
    have hi : i = 0 := by simpa [stuffL] using hi
    subst hi
    exact ⟨0, x, Nat.le_refl _, rfl, by omega, fun h => by simp [stuffL] at h, fun _ => ⟨rfl, hx⟩, .inl ⟨rfl, rfl⟩⟩
  | cons c l ih =>
    intro x hx hb i hi
    have hc := hb c (by simp)
    have hl : ∀ d ∈ l, isB d := fun d hd => hb d (by simp [hd])
    have hk : kind x c = 1 := kind_data c hx
    have hg := sst_good hx hc
    cases i with
    | zero => exact ⟨0, x, Nat.zero_le _, rfl, by omega, fun _ => .inl (by simp), fun h => by simp only [stuffL] at h; split at h <;> simp at h, .inl ⟨rfl, rfl⟩⟩
    | succ i =>
      simp only [stuffL] at hi ⊢
      by_cases h5 : (sst x c).2 = 5
      · rw [if_pos h5] at hi ⊢
        have hcc : sst x c = (c, 5) := by
          rw [sst_in hx] at h5 ⊢
          by_cases h : c = x.1
          · rw [if_pos h] at h5 ⊢
            exact Prod.ext rfl h5
          · rw [if_neg h] at h5; simp at h5
        have ho : sst (sst x c) (oth c) = (oth c, 1) := by rw [hcc]; exact sst_oth hc
        have hk2 : kind (sst x c) (oth c) = 2 := by
          rw [hcc]; unfold kind
          rw [if_pos rfl, if_neg (oth_ne hc)]
        rw [ho] at hi ⊢
        cases i with
        | zero =>
          refine ⟨1, sst x c, by simp, ?_, hg.2.2, fun _ => .inr h5, fun h => by simp at h, .inr ⟨hg.1, hg.2.1⟩⟩
          simp [unst, hk]
        | succ j =>
          simp only [List.length_cons] at hi ⊢
          obtain ⟨n, y, g1, g2, g3, g4, g5, g6⟩ := ih (oth c, 1) (by show (1 : Nat) ≤ 4; omega) hl j (by omega)
          refine ⟨n + 1, y, by simp; omega, ?_, g3, fun h => ?_, fun h => ?_, .inr ?_⟩
          · simp only [List.take_succ_cons, unst, hk, hk2, ho, g2]
            simp
          · rcases g4 (by omega) with h | h
            · exact .inl (by omega)
            · exact .inr h
          · obtain ⟨q1, q2⟩ := g5 (by omega)
            exact ⟨by omega, q2⟩
          · rcases g6 with ⟨_, rfl⟩ | g6
            · exact ⟨oth_b hc, Nat.le_refl _⟩
            · exact g6
      · rw [if_neg h5] at hi ⊢
        simp only [List.length_cons] at hi ⊢
        obtain ⟨n, y, g1, g2, g3, g4, g5, g6⟩ := ih (sst x c) (by omega) hl i (by omega)
        refine ⟨n + 1, y, by simp; omega, ?_, g3, fun h => ?_, fun h => ?_, .inr ?_⟩
        · simp only [List.take_succ_cons, unst, hk, g2]
          simp
        · rcases g4 (by omega) with h | h
          · exact .inl (by omega)
          · exact .inr h
        · obtain ⟨q1, q2⟩ := g5 (by omega)
          exact ⟨by omega, q2⟩
        · rcases g6 with ⟨_, rfl⟩ | g6
          · exact ⟨hg.1, hg.2.1⟩
          · exact g6
/-- What is known behind so many stuffed bits: the bits that are not stuffed, and what stuffing knows. -/
def rd (f : Frm) (i : Nat) : List UInt8 × X := (unst x0 ((bodyF f).take i)).getD ([], x0)
structure Rd (f : Frm) (i : Nat) : Prop where
  some : unst x0 ((bodyF f).take i) = some (rd f i)
  len : (rd f i).1.length ≤ (sumF f).length
  pre : (rd f i).1 = (sumF f).take (rd f i).1.length
  five : (rd f i).2.2 ≤ 5
  before : i < (bodyF f).length → (rd f i).1.length < (sumF f).length ∨ (rd f i).2.2 = 5
  done : i = (bodyF f).length → (rd f i).1.length = (sumF f).length ∧ (rd f i).2.2 ≤ 4
  good : 1 ≤ i → isB (rd f i).2.1 ∧ 1 ≤ (rd f i).2.2
theorem rd_of (f : Frm) {i : Nat} (hi : i ≤ (bodyF f).length) : Rd f i := by
  obtain ⟨n, y, g1, g2, g3, g4, g5, g6⟩ := stuff_pre (sumF f) x0 (by decide) (sum_bits f) i hi
  have e : rd f i = ((sumF f).take n, y) := by unfold rd; rw [show (bodyF f).take i = (stuffL x0 (sumF f)).take i from rfl, g2]; rfl
  have hl : ((sumF f).take n).length = n := by rw [List.length_take, Nat.min_eq_left g1]
  refine ⟨by rw [e]; exact g2, ?_, ?_, ?_, ?_, ?_, fun h => ?_⟩
  · rw [e, hl]; exact g1
  · rw [e]
    show (sumF f).take n = (sumF f).take ((sumF f).take n).length
    rw [hl]
  · rw [e]; exact g3
  · rw [e, hl]; exact g4
  · rw [e, hl]; exact g5
  · rw [e]
    rcases g6 with ⟨h0, _⟩ | g6
    · omega
    · exact g6
theorem unst_snoc' {l : List UInt8} {i : Nat} (h : i < l.length) {o : List UInt8} {x : X} (hu : unst x0 (l.take i) = some (o, x)) : unst x0 (l.take (i + 1)) = if kind x l[i] = 3 then none else some (if kind x l[i] = 1 then o ++ [l[i]] else o, sst x l[i]) := by
  rw [List.take_succ_eq_append_getElem h, unst_app, hu]
  simp only [Option.bind_some, unst]
  split
  · rfl
  · simp only [Option.map_some]
    split <;> simp
theorem rd_succ (f : Frm) {i : Nat} (hi : i < (bodyF f).length) : kind (rd f i).2 (bodyF f)[i] ≠ 3 ∧ rd f (i + 1) = (if kind (rd f i).2 (bodyF f)[i] = 1 then (rd f i).1 ++ [(bodyF f)[i]] else (rd f i).1, sst (rd f i).2 (bodyF f)[i]) := by
  have h1 := (rd_of f (Nat.le_of_lt hi)).some
  have h2 := (rd_of f hi).some
  rw [unst_snoc' hi (o := (rd f i).1) (x := (rd f i).2) h1] at h2
  split at h2
  · cases h2
  · rename_i h3
    exact ⟨h3, (Option.some.inj h2).symm⟩
theorem body_bits (f : Frm) : ∀ b ∈ bodyF f, isB b := stuff_bits (sumF f) x0 (sum_bits f)
theorem body_pos {f : Frm} (hr : rightF f = true) : 34 ≤ (bodyF f).length := by
  have h1 := (body_len hr).1
  have h2 := head_le hr
  have h3 := sum_len f
  omega
theorem sum_cons (f : Frm) : ∃ l, sumF f = 48 :: l := ⟨_, rfl⟩
theorem body_0 {f : Frm} (h : 0 < (bodyF f).length) : (bodyF f)[0] = 48 := by
  obtain ⟨l, hl⟩ := sum_cons f
  have : bodyF f = 48 :: stuffL (48, 1) l := by
    unfold bodyF
    rw [hl]
    rfl
  simp [this]
theorem rd_one {f : Frm} (hr : rightF f = true) : rd f 1 = ([48], (48, 1)) := by
  have hp := body_pos hr
  have h := (rd_succ f (i := 0) (by omega)).2
  have h0 : rd f 0 = ([], x0) := rfl
  rw [h0, body_0 (by omega)] at h
  exact h
/-- What is read begins as the row does. -/
theorem rd_zero {f : Frm} (hr : rightF f = true) {i : Nat} (h1 : 1 ≤ i) (hi : i ≤ (bodyF f).length) : 1 ≤ (rd f i).1.length := by
  induction i with
  | zero => omega
  | succ i ih =>
    cases i with
    | zero => rw [rd_one hr]; exact Nat.le_refl _
    | succ j =>
      have h2 := ih (by omega) (by omega)
      rw [(rd_succ f (i := j + 1) (by omega)).2]
      show 1 ≤ (if _ then _ else _ : List UInt8).length
      split
      · simp
      · exact h2
end Go.Proofs.YthdcegeampcalaaGreatDoor
