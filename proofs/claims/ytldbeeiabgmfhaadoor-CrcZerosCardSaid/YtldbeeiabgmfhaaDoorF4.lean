import Derived.Test.YtldbeeiabgmfhaaDoorF3
open Go Go.Proofs Go.Sy
namespace Go.Proofs.YtldbeeiabgmfhaaDoor

abbrev bC (x : Bool) : List SV := [U (if x then 1 else 0)]
theorem bC_ids (rs : List Bool) (m : Nat) : ∀ e ∈ rs.map bC, SV.idsLt.go m e = true := by
  intro e he
  obtain ⟨b, _, rfl⟩ := List.mem_map.1 he
  rfl
/-- The division, on paper. -/
def padB (l : List UInt8) : List Bool := bb l ++ List.replicate 15 false
def pP (m : Nat) : Bool := (50585#64).getLsbD (15 - m)
def dv (B : List Bool) (i j : Nat) : Bool := if j < i then false else if j < i + 15 then (B.getD j false ^^ (Crc.run 0#15 (B.take i)).getLsbD (14 - (j - i))) else B.getD j false
def rowD (B : List Bool) (i : Nat) : List Bool := (List.range B.length).map (dv B i)
def ev' (B : List Bool) (i k j : Nat) : Bool := if i ≤ j ∧ j < i + k then (dv B i j ^^ pP (j - i)) else dv B i j
def rowE (B : List Bool) (i k : Nat) : List Bool := (List.range B.length).map (ev' B i k)
theorem rowE_len (B : List Bool) (i k : Nat) : (rowE B i k).length = B.length := by simp [rowE]
theorem rowD_len (B : List Bool) (i : Nat) : (rowD B i).length = B.length := by simp [rowD]
theorem rowE_at (B : List Bool) (i k : Nat) {j : Nat} (h : j < B.length) : (rowE B i k)[j]? = some (ev' B i k j) := by simp [rowE, h]
theorem rowD_at (B : List Bool) (i : Nat) {j : Nat} (h : j < B.length) : (rowD B i)[j]? = some (dv B i j) := by simp [rowD, h]
theorem rowE_0 (B : List Bool) (i : Nat) : rowE B i 0 = rowD B i := by
  unfold rowE rowD
  refine List.map_congr_left fun j _ => ?_
  unfold ev'
  rw [if_neg (by omega)]
theorem rowE_set (B : List Bool) (i : Nat) {k : Nat} (h : i + k < B.length) : (rowE B i k).set (i + k) (dv B i (i + k) ^^ pP k) = rowE B i (k + 1) := by
  apply List.ext_getElem?
  intro j
  by_cases hj : j < B.length
  · rw [rowE_at _ _ _ hj, List.getElem?_set]
    split
    · rename_i e
      subst e
      rw [if_pos (by rw [rowE_len]; exact h)]
      unfold ev'
      rw [if_pos (by omega), Nat.add_sub_cancel_left]
    · rename_i e
      rw [rowE_at _ _ _ hj]
      unfold ev'
      by_cases g : i ≤ j ∧ j < i + k
      · rw [if_pos g, if_pos (by omega)]
      · rw [if_neg g, if_neg (by omega)]
  · rw [List.getElem?_eq_none (by rw [List.length_set, rowE_len]; omega), List.getElem?_eq_none (by rw [rowE_len]; omega)]
theorem dv_at (B : List Bool) (i k : Nat) (hk : k < 16) (hi : i + 15 < B.length) : ev' B i k (i + k) = dv B i (i + k) := by unfold ev'; rw [if_neg (by omega)]
theorem dv_top (B : List Bool) (i : Nat) : dv B i i = (B.getD i false ^^ (Crc.run 0#15 (B.take i)).getLsbD 14) := by
  unfold dv
  rw [if_neg (by omega), if_pos (by omega), Nat.sub_self]
theorem pP_poly {q : Nat} (h : q < 15) : (50585#64).getLsbD q = Crc.poly.getLsbD q := by
  have : ∀ q : Fin 15, (50585#64).getLsbD q.1 = Crc.poly.getLsbD q.1 := by decide
  exact this ⟨q, h⟩
theorem run_succ (B : List Bool) {i : Nat} (h : i < B.length) : Crc.run 0#15 (B.take (i + 1)) = Crc.st (Crc.run 0#15 (B.take i)) (B.getD i false) := by
  rw [List.take_succ_eq_append_getElem h, Crc.run_app, List.getD_eq_getElem?_getD, List.getElem?_eq_getElem h]
  rfl
theorem st_bit (s : BitVec 15) (b : Bool) (q : Nat) (h : q < 15) : (Crc.st s b).getLsbD q = ((decide (0 < q) && s.getLsbD (q - 1)) ^^ ((b ^^ s.getLsbD 14) && Crc.poly.getLsbD q)) := by
  unfold Crc.st
  rw [BitVec.getLsbD_xor, BitVec.getLsbD_shiftLeft]
  have h1 : decide (q < 15) = true := by simpa using h
  rw [h1]
  have h2 : (!decide (q < 1)) = decide (0 < q) := by rw [Bool.eq_iff_iff]; simp; omega
  rw [h2]
  cases s.getLsbD 14 <;> cases b <;> simp
theorem dv_lt {B : List Bool} {i j : Nat} (h : j < i) : dv B i j = false := by unfold dv; rw [if_pos h]
theorem dv_mid {B : List Bool} {i j : Nat} (h : i ≤ j) (h2 : j < i + 15) : dv B i j = (B.getD j false ^^ (Crc.run 0#15 (B.take i)).getLsbD (14 - (j - i))) := by unfold dv; rw [if_neg (by omega), if_pos h2]
theorem dv_ge {B : List Bool} {i j : Nat} (h : i + 15 ≤ j) : dv B i j = B.getD j false := by unfold dv; rw [if_neg (by omega), if_neg (by omega)]
theorem ev_in {B : List Bool} {i j : Nat} (h : i ≤ j) (h2 : j < i + 16) : ev' B i 16 j = (dv B i j ^^ pP (j - i)) := by unfold ev'; rw [if_pos ⟨h, h2⟩]
theorem ev_out {B : List Bool} {i j : Nat} (h : j < i ∨ i + 16 ≤ j) : ev' B i 16 j = dv B i j := by unfold ev'; rw [if_neg (by omega)]
theorem dv_step (B : List Bool) (i j : Nat) (hi : i < B.length) : dv B (i + 1) j = if dv B i i then ev' B i 16 j else dv B i j := by
  have ht := dv_top B i
  have hs := run_succ B hi
  by_cases h1 : j < i
  · rw [dv_lt (by omega : j < i + 1), ev_out (.inl h1), dv_lt h1, ite_self]
  · by_cases h2 : j = i
    · subst h2
      rw [dv_lt (by omega : j < j + 1), ev_in (Nat.le_refl _) (by omega), Nat.sub_self, show pP 0 = true by decide]
      cases dv B j j <;> rfl
    · by_cases h3 : j < i + 15
      · rw [dv_mid (by omega : i + 1 ≤ j) (by omega), ev_in (by omega) (by omega), dv_mid (by omega : i ≤ j) h3, hs, ht]
        generalize Crc.run 0#15 (B.take i) = s
        generalize B.getD i false = bi
        have hq : 14 - (j - (i + 1)) = 15 - (j - i) := by omega
        have hq1 : 14 - (j - i) = 15 - (j - i) - 1 := by omega
        rw [hq, hq1, st_bit s bi _ (by omega)]
        unfold pP
        rw [pP_poly (by omega : 15 - (j - i) < 15)]
        have h4 : decide (0 < 15 - (j - i)) = true := by simp; omega
        rw [h4]
        cases (bi ^^ s.getLsbD 14) <;> simp
      · by_cases h4 : j = i + 15
        · subst h4
          rw [dv_mid (by omega : i + 1 ≤ i + 15) (by omega), ev_in (by omega) (by omega), dv_ge (Nat.le_refl _), hs, ht]
          generalize Crc.run 0#15 (B.take i) = s
          generalize B.getD i false = bi
          rw [show 14 - (i + 15 - (i + 1)) = 0 by omega, show i + 15 - i = 15 by omega, st_bit s bi 0 (by omega)]
          have h5 : pP 15 = true := by decide
          have h6 : Crc.poly.getLsbD 0 = true := by decide
          rw [h5, h6]
          cases (bi ^^ s.getLsbD 14) <;> simp
        · rw [dv_ge (by omega : i + 1 + 15 ≤ j), ev_out (.inr (by omega)), dv_ge (by omega : i + 15 ≤ j), ite_self]
theorem rowD_no (B : List Bool) {i : Nat} (hi : i < B.length) (h : dv B i i = false) : rowD B i = rowD B (i + 1) := by
  unfold rowD
  refine List.map_congr_left fun j _ => ?_
  rw [dv_step B i j hi, h]
  rfl
theorem rowD_yes (B : List Bool) {i : Nat} (hi : i < B.length) (h : dv B i i = true) : rowE B i 16 = rowD B (i + 1) := by
  unfold rowD rowE
  refine List.map_congr_left fun j _ => ?_
  rw [dv_step B i j hi, h]
  rfl
theorem rowD_0 (B : List Bool) : rowD B 0 = B := by
  apply List.ext_getElem (rowD_len _ _)
  intro j h1 h2
  have := rowD_at B 0 h2
  rw [List.getElem?_eq_getElem h1] at this
  rw [Option.some.inj this]
  unfold dv
  rw [if_neg (Nat.not_lt_zero _), List.take_zero, Crc.run_nil, List.getD_eq_getElem?_getD, List.getElem?_eq_getElem h2]
  simp
end Go.Proofs.YtldbeeiabgmfhaaDoor
