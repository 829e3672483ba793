import Derived.Test.YtclmbbcchgfedaaDoorF3
open Go Go.Proofs Go.Sy
namespace Go.Proofs.YtclmbbcchgfedaaDoor

theorem numOf_snoc (l : List UInt8) (c : UInt8) : numOf (l ++ [c]) = numOf l <<< 1 ||| (if c == 49 then 1#64 else 0#64) := by
  unfold numOf
  rw [List.foldl_append]
  rfl
theorem snoc_ind {p : List UInt8 → Prop} (h0 : p []) (h1 : ∀ l c, p l → p (l ++ [c])) : ∀ l, p l := by
  intro l
  have : ∀ m : List UInt8, p m.reverse := by
    intro m
    induction m with
    | nil => exact h0
    | cons c m ih => rw [List.reverse_cons]; exact h1 _ c ih
  have h := this l.reverse
  rwa [List.reverse_reverse] at h
theorem bit_ite (b : Bool) (j : Nat) : (if b then 1#64 else 0#64).getLsbD j = (decide (j = 0) && b) := by
  cases b
  · simp
  · rw [if_pos rfl, BitVec.getLsbD_one]
    simp
theorem numOf_bit : ∀ (l : List UInt8), l.length ≤ 64 → ∀ j, (numOf l).getLsbD j = (decide (j < l.length) && (l.getD (l.length - 1 - j) 0 == 49)) := by
  refine snoc_ind ?_ ?_
  · intro _ j
    simp [numOf]
  · intro l c ih hl j
    rw [List.length_append, List.length_singleton] at hl ⊢
    rw [numOf_snoc, BitVec.getLsbD_or, BitVec.getLsbD_shiftLeft, bit_ite]
    by_cases hj : j = 0
    · subst hj
      rw [show l.length + 1 - 1 - 0 = l.length by omega, List.getD_eq_getElem?_getD, List.getElem?_append_right (Nat.le_refl _)]
      simp
    · have hj1 : decide (j < 1) = false := by simpa using hj
      have hj0 : decide (j = 0) = false := by simpa using hj
      rw [hj1, hj0, ih (by omega)]
      by_cases h : j < l.length + 1
      · rw [show l.length + 1 - 1 - j = l.length - 1 - (j - 1) by omega, List.getD_eq_getElem?_getD, List.getD_eq_getElem?_getD, List.getElem?_append_left (by omega)]
        have e1 : decide (j < 64) = true := by simp; omega
        have e2 : decide (j - 1 < l.length) = true := by simp; omega
        have e3 : decide (j < l.length + 1) = true := by simpa using h
        rw [e1, e2, e3]
        simp
      · have e2 : decide (j - 1 < l.length) = false := by simp; omega
        have e3 : decide (j < l.length + 1) = false := by simpa using h
        rw [e2, e3]
        simp
theorem bitsOf_at (n : BitVec 64) {w i : Nat} (h : i < w) : (bitsOf n w)[i]'(by rw [bitsOf_len]; exact h) = bv (n.getLsbD (w - 1 - i)) := by
  simp [bitsOf]
theorem bv_49 (b : Bool) : (bv b == 49) = b := by cases b <;> rfl
theorem bv_bit (b : Bool) : bit (bv b) = true := by cases b <;> rfl
theorem bitsOf_well (n : BitVec 64) (w : Nat) (h : w ≤ 4000) : wellB (bitsOf n w) = true := by
  unfold wellB
  rw [bitsOf_len]
  simp only [Bool.and_eq_true, decide_eq_true_eq]
  refine ⟨h, List.all_eq_true.2 fun b hb => ?_⟩
  unfold bitsOf at hb
  obtain ⟨j, _, rfl⟩ := List.mem_map.1 hb
  exact bv_bit _
theorem numOf_bitsOf (n : BitVec 64) : numOf (bitsOf n 64) = n := by
  apply BitVec.eq_of_getLsbD_eq
  intro j hj
  rw [numOf_bit _ (by rw [bitsOf_len]; decide), bitsOf_len, List.getD_eq_getElem?_getD, List.getElem?_eq_getElem (by rw [bitsOf_len]; omega), Option.getD_some, bitsOf_at n (by omega), bv_49]
  have : decide (j < 64) = true := by simpa using hj
  rw [this, Bool.true_and]
  congr 1
  omega
theorem numOf_small (l : List UInt8) (h : l.length ≤ 64) : numOf l >>> l.length = 0#64 := by
  apply BitVec.eq_of_getLsbD_eq
  intro j hj
  rw [BitVec.getLsbD_ushiftRight, numOf_bit l h, show decide (l.length + j < l.length) = false by simp]
  simp
theorem bitsOf_numOf {l : List UInt8} (hw : wellB l = true) (h : l.length ≤ 64) : bitsOf (numOf l) l.length = l := by
  apply List.ext_getElem (bitsOf_len _ _)
  intro i h1 h2
  rw [bitsOf_at _ h2, numOf_bit l h, List.getD_eq_getElem?_getD, show l.length - 1 - (l.length - 1 - i) = i by omega, List.getElem?_eq_getElem h2, Option.getD_some]
  have : decide (l.length - 1 - i < l.length) = true := by simp; omega
  rw [this, Bool.true_and]
  rcases well_bits hw i h2 with e | e <;> rw [e] <;> rfl
theorem numOf_app (a b : List UInt8) (ha : a.length ≤ 32) (hb : b.length ≤ 32) : numOf (a ++ b) = numOf a <<< b.length ||| numOf b := by
  apply BitVec.eq_of_getLsbD_eq
  intro j hj
  rw [BitVec.getLsbD_or, BitVec.getLsbD_shiftLeft, numOf_bit _ (by rw [List.length_append]; omega), numOf_bit a (by omega), numOf_bit b (by omega), List.length_append]
  have e1 : decide (j < 64) = true := by simpa using hj
  rw [e1, Bool.true_and]
  by_cases h : j < b.length
  · rw [List.getD_eq_getElem?_getD, List.getD_eq_getElem?_getD, List.getD_eq_getElem?_getD, List.getElem?_append_right (by omega), show a.length + b.length - 1 - j - a.length = b.length - 1 - j by omega]
    have e2 : decide (j < a.length + b.length) = true := by simp; omega
    have e3 : decide (j < b.length) = true := by simpa using h
    rw [e2, e3]
    simp
  · have e3 : decide (j < b.length) = false := by simpa using h
    rw [e3]
    by_cases h2 : j < a.length + b.length
    · rw [List.getD_eq_getElem?_getD, List.getD_eq_getElem?_getD, List.getElem?_append_left (by omega), show a.length + b.length - 1 - j = a.length - 1 - (j - b.length) by omega]
      have e2 : decide (j < a.length + b.length) = true := by simpa using h2
      have e4 : decide (j - b.length < a.length) = true := by simp; omega
      rw [e2, e4]
      simp
    · have e2 : decide (j < a.length + b.length) = false := by simpa using h2
      have e4 : decide (j - b.length < a.length) = false := by simp; omega
      rw [e2, e4]
      simp
theorem wellB_app (a b : List UInt8) (ha : a.length ≤ 32) (hb : b.length ≤ 32) : wellB (a ++ b) = (wellB a && wellB b) := by
  unfold wellB
  have e1 : decide ((a ++ b).length ≤ 4000) = true := by simp; omega
  have e2 : decide (a.length ≤ 4000) = true := by simp; omega
  have e3 : decide (b.length ≤ 4000) = true := by simp; omega
  rw [e1, e2, e3, List.all_append, Bool.true_and, Bool.true_and, Bool.true_and]
theorem ge_shl (n : BitVec 64) {k : Nat} (hk : k < 64) : decide ((n.toNat : Int) ≥ (((1#64) <<< k).toNat : Int)) = !(n >>> k == 0#64) := by
  have e : ((1#64) <<< k).toNat = 2 ^ k := by
    rw [BitVec.toNat_shiftLeft, BitVec.toNat_ofNat, Nat.shiftLeft_eq, Nat.one_mod_two_pow (by omega), Nat.one_mul, Nat.mod_eq_of_lt (Nat.pow_lt_pow_right (by omega) hk)]
  have e2 : n >>> k = 0#64 ↔ n.toNat < 2 ^ k := by
    rw [← BitVec.toNat_inj, BitVec.toNat_ushiftRight, Nat.shiftRight_eq_div_pow, BitVec.toNat_ofNat, Nat.zero_mod, Nat.div_eq_zero_iff]
    have := Nat.two_pow_pos k
    omega
  rw [e, Bool.eq_iff_iff, decide_eq_true_eq, Bool.not_eq_true', beq_eq_false_iff_ne, ne_eq, e2]
  omega
end Go.Proofs.YtclmbbcchgfedaaDoor
