import Derived.Test.YtldbeeiabgmfhaaDoorF7
open Go Go.Proofs Go.Sy
namespace Go.Proofs.YtldbeeiabgmfhaaDoor

theorem bb_bits (x : BitVec 15) : bb (bitsOf ((sw x).setWidth 64) 15) = Crc.bits15 x := by
  unfold bb bitsOf Crc.bits15
  rw [List.map_map]
  refine List.map_congr_left fun j hj => ?_
  have hj : j < 15 := List.mem_range.1 hj
  simp only [Function.comp_apply]
  have e : ((sw x).setWidth 64).getLsbD (15 - 1 - j) = x.getLsbD (14 - j) := by
    unfold sw
    rw [BitVec.getLsbD_setWidth, BitVec.getLsbD_setWidth, show 15 - 1 - j = 14 - j by omega, show decide (14 - j < 64) = true by simp; omega, show decide (14 - j < 32) = true by simp; omega, Bool.true_and, Bool.true_and]
  rw [e]
  cases x.getLsbD (14 - j) <;> rfl
theorem crc_frm (l : List UInt8) : crc (frm l) = 0#32 := by
  unfold frm
  have h : Crc.run 0#15 (bb (l ++ bitsOf ((crc l).setWidth 64) 15)) = 0#15 := by
    unfold bb
    rw [List.map_append, Crc.run_app]
    have := bb_bits (Crc.run 0#15 (bb l))
    unfold bb at this
    show Crc.run _ ((bitsOf ((sw (Crc.run 0#15 (l.map (· == 49)))).setWidth 64) 15).map (· == 49)) = _
    rw [this]
    exact Crc.run_own _
  show sw (Crc.run 0#15 (bb (l ++ bitsOf ((crc l).setWidth 64) 15))) = 0#32
  rw [h]
  rfl
theorem bitsOf_bits (n : BitVec 64) (w : Nat) : ∀ b ∈ bitsOf n w, bit b = true := by
  intro b hb
  unfold bitsOf at hb
  obtain ⟨j, _, rfl⟩ := List.mem_map.1 hb
  exact bv_bit _
theorem frm_bits {l : List UInt8} (hb : ∀ b ∈ l, bit b = true) : ∀ b ∈ frm l, bit b = true := by
  intro b h
  rcases List.mem_append.1 h with h | h
  · exact hb b h
  · exact bitsOf_bits _ _ b h
theorem frm_len (l : List UInt8) : (frm l).length = l.length + 15 := by unfold frm; rw [List.length_append, bitsOf_len]
theorem sw_eq0 (x : BitVec 15) : sw x = 0#32 ↔ x = 0#15 := by
  constructor
  · intro h
    apply BitVec.eq_of_getLsbD_eq
    intro i hi
    have := congrArg (fun z => z.getLsbD i) h
    unfold sw at this
    simp only [BitVec.getLsbD_setWidth, BitVec.getLsbD_zero] at this
    rw [BitVec.getLsbD_zero]
    have h2 : decide (i < 32) = true := by simp; omega
    rw [h2, Bool.true_and] at this
    exact this
  · rintro rfl; rfl

/-- A row with some of its bits turned. -/
def tn (t : List UInt8) (at_ : Nat) (p : BitVec 32) (i : Nat) : List UInt8 := (List.range t.length).map fun j => if at_ ≤ j ∧ j < at_ + i ∧ p.getLsbD (j - at_) = true then opp (t.getD j 0) else t.getD j 0
theorem tn_len (t : List UInt8) (a : Nat) (p : BitVec 32) (i : Nat) : (tn t a p i).length = t.length := by simp [tn]
theorem tn_at (t : List UInt8) (a : Nat) (p : BitVec 32) (i : Nat) {j : Nat} (h : j < t.length) : (tn t a p i)[j]? = some (if a ≤ j ∧ j < a + i ∧ p.getLsbD (j - a) = true then opp (t.getD j 0) else t.getD j 0) := by simp [tn, h]
theorem getD_at (t : List UInt8) {j : Nat} (h : j < t.length) : t.getD j 0 = t[j] := by rw [List.getD_eq_getElem?_getD, List.getElem?_eq_getElem h]; rfl
theorem tn_0 (t : List UInt8) (a : Nat) (p : BitVec 32) : tn t a p 0 = t := by
  apply List.ext_getElem (tn_len _ _ _ _)
  intro j h1 h2
  have := tn_at t a p 0 h2
  rw [List.getElem?_eq_getElem h1, if_neg (by omega), getD_at t h2] at this
  exact Option.some.inj this
theorem tn_same (t : List UInt8) (a : Nat) (p : BitVec 32) (i : Nat) (h : t.length ≤ a + i ∨ p.getLsbD i = false) : tn t a p (i + 1) = tn t a p i := by
  unfold tn
  refine List.map_congr_left fun j hj => ?_
  have hj : j < t.length := List.mem_range.1 hj
  by_cases g : a ≤ j ∧ j < a + i ∧ p.getLsbD (j - a) = true
  · rw [if_pos g, if_pos ⟨g.1, by omega, g.2.2⟩]
  · rw [if_neg g, if_neg]
    rintro ⟨g1, g2, g3⟩
    apply g
    refine ⟨g1, ?_, g3⟩
    rcases Nat.lt_or_ge j (a + i) with q | q
    · exact q
    · have e : j - a = i := by omega
      rw [e] at g3
      rcases h with h | h
      · omega
      · rw [h] at g3; cases g3
theorem tn_turn (t : List UInt8) (a : Nat) (p : BitVec 32) (i : Nat) (h : a + i < t.length) (hp : p.getLsbD i = true) : (tn t a p i).set (a + i) (opp ((tn t a p i).getD (a + i) 0)) = tn t a p (i + 1) := by
  have hold : (tn t a p i).getD (a + i) 0 = t.getD (a + i) 0 := by
    rw [List.getD_eq_getElem?_getD, tn_at t a p i h, if_neg (by omega)]; rfl
  rw [hold]
  apply List.ext_getElem?
  intro j
  by_cases hj : j < t.length
  · rw [tn_at _ _ _ _ hj, List.getElem?_set]
    split
    · rename_i e
      subst e
      rw [if_pos (by rw [tn_len]; exact h), if_pos ⟨by omega, by omega, by rw [Nat.add_sub_cancel_left]; exact hp⟩]
    · rename_i e
      rw [tn_at _ _ _ _ hj]
      by_cases g : a ≤ j ∧ j < a + i ∧ p.getLsbD (j - a) = true
      · rw [if_pos g, if_pos ⟨g.1, by omega, g.2.2⟩]
      · rw [if_neg g, if_neg (fun ⟨g1, g2, g3⟩ => g ⟨g1, by omega, g3⟩)]
  · rw [List.getElem?_eq_none (by rw [List.length_set, tn_len]; omega), List.getElem?_eq_none (by rw [tn_len]; omega)]
def df (n a : Nat) (p : BitVec 32) : List Bool := (List.range n).map fun j => decide (a ≤ j ∧ j < a + 15) && p.getLsbD (j - a)
theorem opp_49 {c : UInt8} (h : bit c = true) : (opp c == 49) = !(c == 49) := by rcases bit_or h with rfl | rfl <;> rfl
theorem opp_bit (c : UInt8) : bit (opp c) = true := by unfold opp; split <;> rfl
theorem bb_tn (t : List UInt8) (a : Nat) (p : BitVec 32) (hb : ∀ c ∈ t, bit c = true) : bb (tn t a p 15) = List.zipWith xor (bb t) (df t.length a p) := by
  apply List.ext_getElem (by simp [bb, tn_len, df])
  intro j h1 h2
  have hj : j < t.length := by simpa [bb, tn_len] using h1
  have e := tn_at t a p 15 hj
  rw [List.getElem?_eq_getElem (by rw [tn_len]; exact hj), getD_at t hj] at e
  have hbj := hb t[j] (List.getElem_mem hj)
  simp only [bb, List.getElem_map, List.getElem_zipWith, df, List.getElem_range]
  rw [Option.some.inj e]
  by_cases g : a ≤ j ∧ j < a + 15 ∧ p.getLsbD (j - a) = true
  · rw [if_pos g, opp_49 hbj, show decide (a ≤ j ∧ j < a + 15) = true by simpa using ⟨g.1, g.2.1⟩, g.2.2]
    simp
  · rw [if_neg g]
    have : (decide (a ≤ j ∧ j < a + 15) && p.getLsbD (j - a)) = false := by
      rw [Bool.and_eq_false_iff]
      by_cases q : a ≤ j ∧ j < a + 15
      · right
        cases hq : p.getLsbD (j - a)
        · rfl
        · exact absurd ⟨q.1, q.2, hq⟩ g
      · left; simpa using q
    rw [this, Bool.xor_false]
theorem tn_bits (t : List UInt8) (a : Nat) (p : BitVec 32) (i : Nat) (hb : ∀ c ∈ t, bit c = true) : ∀ c ∈ tn t a p i, bit c = true := by
  intro c hc
  unfold tn at hc
  obtain ⟨j, hj, rfl⟩ := List.mem_map.1 hc
  have hj : j < t.length := List.mem_range.1 hj
  split
  · exact opp_bit _
  · rw [getD_at t hj]; exact hb _ (List.getElem_mem hj)
theorem df_parts (n a : Nat) (p : BitVec 32) (h : a < n) : df n a p = List.replicate a false ++ ((List.range (min 15 (n - a))).map (fun j => p.getLsbD j) ++ List.replicate (n - (a + min 15 (n - a))) false) := by
  apply List.ext_getElem (by simp [df]; omega)
  intro j h1 h2
  have hj : j < n := by simpa [df] using h1
  simp only [df, List.getElem_map, List.getElem_range]
  by_cases q : j < a
  · rw [List.getElem_append_left (by simpa using q), List.getElem_replicate, show decide (a ≤ j ∧ j < a + 15) = false by simp; omega, Bool.false_and]
  · rw [List.getElem_append_right (by simp; omega)]
    by_cases q2 : j < a + min 15 (n - a)
    · rw [List.getElem_append_left (by simp; omega)]
      simp only [List.length_replicate, List.getElem_map, List.getElem_range]
      rw [show decide (a ≤ j ∧ j < a + 15) = true by simp; omega, Bool.true_and]
    · rw [List.getElem_append_right (by simp; omega), List.getElem_replicate, show decide (a ≤ j ∧ j < a + 15) = false by simp; omega, Bool.false_and]
theorem df_zero (n a : Nat) (p : BitVec 32) (h : a < n) (hr : Crc.run 0#15 (df n a p) = 0#15) : ∀ j, j < 15 → a + j < n → p.getLsbD j = false := by
  rw [df_parts n a p h, Crc.run_app, Crc.run_zeros, Crc.run_app] at hr
  have hr := Crc.run_inj0 _ _ hr
  have hb := Crc.run_burst _ (by simp; omega) hr
  intro j hj hn
  have := congrArg (fun z => z[j]?) hb
  simp only [List.getElem?_map, List.length_map, List.length_range] at this
  rw [List.getElem?_range (by omega), List.getElem?_replicate, if_pos (by omega)] at this
  exact Option.some.inj this
theorem tn_still (t : List UInt8) (a : Nat) (p : BitVec 32) (h : ∀ j, j < 15 → a + j < t.length → p.getLsbD j = false) : tn t a p 15 = t := by
  apply List.ext_getElem (tn_len _ _ _ _)
  intro j h1 h2
  have := tn_at t a p 15 h2
  rw [List.getElem?_eq_getElem h1, getD_at t h2, if_neg] at this
  · exact Option.some.inj this
  · rintro ⟨g1, g2, g3⟩
    have := h (j - a) (by omega) (by omega)
    rw [this] at g3; cases g3
theorem turned_law (t : List UInt8) (a : Nat) (p : BitVec 32) (ha : a < t.length) (hb : ∀ c ∈ t, bit c = true) (hl : t.length ≤ 4000) (h15 : 15 ≤ t.length) (h0 : crc t = 0#32) : chk (tn t a p 15) = (tn t a p 15 == t) := by
  have hw : wellB (tn t a p 15) = true := well_of (by rw [tn_len]; exact hl) (tn_bits t a p 15 hb)
  have h0' : Crc.run 0#15 (bb t) = 0#15 := (sw_eq0 _).1 h0
  have hc : crc (tn t a p 15) = sw (Crc.run 0#15 (df t.length a p)) := by
    unfold crc
    rw [bb_tn t a p hb]
    have := Crc.run_lin 0#15 0#15 (bb t) (df t.length a p) (by simp [bb, df])
    rw [h0', BitVec.xor_self, BitVec.zero_xor] at this
    rw [this]
  unfold chk
  rw [hw, tn_len, show decide (15 ≤ t.length) = true by simpa using h15, Bool.true_and, Bool.true_and, hc, Bool.eq_iff_iff, beq_iff_eq, beq_iff_eq, sw_eq0]
  constructor
  · intro h
    exact tn_still t a p (df_zero _ _ _ ha h)
  · intro h
    have hc2 : crc (tn t a p 15) = 0#32 := by rw [h]; exact h0
    rw [hc, sw_eq0] at hc2
    exact hc2
end Go.Proofs.YtldbeeiabgmfhaaDoor
