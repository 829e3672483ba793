/-
  CHAPTER 14, PLAIN, part 2: bits of bytes, and the numbers that they are; no program in sight.
-/
import Derived.Test.YthibaeeoegoliaaM
namespace Go.Signal

def bitU (x : UInt8) (k : Nat) : Bool := x.toNat.testBit k
def setN (x k : Nat) (b : Bool) : Nat := if b then x ||| 2 ^ k else if x.testBit k then x - 2 ^ k else x
def setU (x : UInt8) (k : Nat) (b : Bool) : UInt8 := UInt8.ofNat (setN x.toNat k b)
def all8 (f : Nat → Nat → Bool) : Bool := (List.range 256).all fun x => (List.range 8).all fun k => f x k
theorem all8_at {f : Nat → Nat → Bool} (h : all8 f = true) {x k : Nat} (hx : x < 256) (hk : k < 8) : f x k = true :=
  List.all_eq_true.1 (List.all_eq_true.1 h x (List.mem_range.2 hx)) k (List.mem_range.2 hk)
theorem setN_chk : all8 (fun x k => decide (setN x k true < 256) && decide (setN x k false < 256) && (List.range 8).all fun j => ((setN x k true).testBit j == (j == k || x.testBit j)) && ((setN x k false).testBit j == (j != k && x.testBit j))) = true := by kernel_rfl
theorem setN_lt {x k : Nat} (hx : x < 256) (hk : k < 8) (b : Bool) : setN x k b < 256 := by
  have := all8_at setN_chk hx hk
  simp only [Bool.and_eq_true, decide_eq_true_eq] at this
  cases b
  · exact this.1.2
  · exact this.1.1
theorem setN_bit {x k j : Nat} (hx : x < 256) (hk : k < 8) (hj : j < 8) (b : Bool) : (setN x k b).testBit j = if j = k then b else x.testBit j := by
  have := all8_at setN_chk hx hk
  simp only [Bool.and_eq_true] at this
  have := List.all_eq_true.1 this.2 j (List.mem_range.2 hj)
  simp only [Bool.and_eq_true, beq_iff_eq] at this
  cases b
  · rw [this.2]
    by_cases h : j = k
    · rw [if_pos h]; simp [h]
    · rw [if_neg h]; simp [h]
  · rw [this.1]
    by_cases h : j = k
    · rw [if_pos h]; simp [h]
    · rw [if_neg h]; simp [h]
theorem setU_nat (x : UInt8) {k : Nat} (hk : k < 8) (b : Bool) : (setU x k b).toNat = setN x.toNat k b := by
  unfold setU
  rw [UInt8.toNat_ofNat']
  exact Nat.mod_eq_of_lt (setN_lt x.toNat_lt hk b)
theorem bitU_set (x : UInt8) {k j : Nat} (hk : k < 8) (hj : j < 8) (b : Bool) : bitU (setU x k b) j = if j = k then b else bitU x j := by
  unfold bitU
  rw [setU_nat x hk]
  exact setN_bit x.toNat_lt hk hj b
theorem u8_ext {x y : UInt8} (h : ∀ k, k < 8 → bitU x k = bitU y k) : x = y := by
  apply UInt8.toNat_inj.1
  apply Nat.eq_of_testBit_eq
  intro i
  by_cases hi : i < 8
  · exact h i hi
  · have h1 : x.toNat < 2 ^ i := Nat.lt_of_lt_of_le x.toNat_lt (Nat.pow_le_pow_right (n := 2) (by decide) (show 8 ≤ i by omega))
    have h2 : y.toNat < 2 ^ i := Nat.lt_of_lt_of_le y.toNat_lt (Nat.pow_le_pow_right (n := 2) (by decide) (show 8 ≤ i by omega))
    rw [Nat.testBit_lt_two_pow h1, Nat.testBit_lt_two_pow h2]

/-- A bit of bytes; bytes with a bit so. -/
def bitAt (d : List UInt8) (a : Nat) : Bool := bitU (d.getD (a / 8) 0) (a % 8)
def setBit (d : List UInt8) (a : Nat) (b : Bool) : List UInt8 := d.set (a / 8) (setU (d.getD (a / 8) 0) (a % 8) b)
theorem setBit_len (d : List UInt8) (a : Nat) (b : Bool) : (setBit d a b).length = d.length := List.length_set ..
theorem bitAt_set (d : List UInt8) {a : Nat} (b : Bool) (h : a < 8 * d.length) (a' : Nat) : bitAt (setBit d a b) a' = if a' = a then b else bitAt d a' := by
  unfold bitAt setBit
  by_cases hb : a' / 8 = a / 8
  · have : (d.set (a / 8) (setU (d.getD (a / 8) 0) (a % 8) b)).getD (a' / 8) 0 = setU (d.getD (a / 8) 0) (a % 8) b := by
      rw [hb, List.getD_eq_getElem?_getD, List.getElem?_set_self (by omega)]
      rfl
    rw [this, bitU_set _ (Nat.mod_lt _ (by decide)) (Nat.mod_lt _ (by decide)), hb]
    by_cases hc : a' = a
    · subst hc; rw [if_pos rfl, if_pos rfl]
    · rw [if_neg hc, if_neg (by omega)]
  · have : (d.set (a / 8) (setU (d.getD (a / 8) 0) (a % 8) b)).getD (a' / 8) 0 = d.getD (a' / 8) 0 := by
      rw [List.getD_eq_getElem?_getD, List.getElem?_set_ne (fun e => hb e.symm)]
      exact (List.getD_eq_getElem?_getD ..).symm
    rw [this, if_neg (fun e => hb (by rw [e]))]
theorem ext_bits {d e : List UInt8} (hl : d.length = e.length) (h : ∀ a, a < 8 * d.length → bitAt d a = bitAt e a) : d = e := by
  apply List.ext_getElem hl
  intro i h1 h2
  apply u8_ext
  intro k hk
  have := h (8 * i + k) (by omega)
  unfold bitAt at this
  rw [show (8 * i + k) / 8 = i by omega, show (8 * i + k) % 8 = k by omega] at this
  rw [List.getD_eq_getElem?_getD, List.getD_eq_getElem?_getD, List.getElem?_eq_getElem h1, List.getElem?_eq_getElem h2] at this
  exact this
def putL (d : List UInt8) : List Nat → Int → List UInt8
  | [], _ => d
  | a :: l, v => putL (setBit d a (v % 2 == 1)) l (v / 2)
theorem putL_len (l : List Nat) : ∀ (d : List UInt8) (v : Int), (putL d l v).length = d.length := by
  induction l with
  | nil => exact fun _ _ => rfl
  | cons a l ih => exact fun d v => (ih _ _).trans (setBit_len _ _ _)
theorem putL_snoc (a : Nat) (l : List Nat) : ∀ (d : List UInt8) (v : Int), putL d (l ++ [a]) v = setBit (putL d l v) a ((v / ((2 ^ l.length : Nat) : Int)) % 2 == 1) := by
  induction l with
  | nil => intro d v; show setBit d a (v % 2 == 1) = setBit d a (v / ((2 ^ 0 : Nat) : Int) % 2 == 1); rw [show ((2 ^ 0 : Nat) : Int) = 1 from rfl, Int.ediv_one]
  | cons b l ih =>
    intro d v
    show putL (setBit d b (v % 2 == 1)) (l ++ [a]) (v / 2) = setBit (putL (setBit d b (v % 2 == 1)) l (v / 2)) a _
    rw [ih]
    congr 3
    rw [Int.ediv_ediv_of_nonneg (by decide), List.length_cons, Nat.pow_succ]
    congr 1
    push_cast
    rw [Int.mul_comm]
theorem putL_out {a : Nat} (l : List Nat) : ∀ (d : List UInt8) (v : Int), (∀ x ∈ l, x < 8 * d.length) → a ∉ l → bitAt (putL d l v) a = bitAt d a := by
  induction l with
  | nil => exact fun _ _ _ _ => rfl
  | cons b l ih =>
    intro d v hl ha
    show bitAt (putL (setBit d b (v % 2 == 1)) l (v / 2)) a = _
    rw [ih _ _ (fun x hx => by rw [setBit_len]; exact hl x (List.mem_cons_of_mem _ hx)) (fun h => ha (List.mem_cons_of_mem _ h))]
    rw [bitAt_set _ _ (hl b (List.mem_cons_self ..)), if_neg (fun e => ha (by rw [e]; exact List.mem_cons_self ..))]
/-- The lowest n bits of a number. -/
def vbits : Int → Nat → List Bool
  | _, 0 => []
  | v, n + 1 => (v % 2 == 1) :: vbits (v / 2) n
theorem vbits_len (n : Nat) : ∀ v, (vbits v n).length = n := by
  induction n with
  | zero => exact fun _ => rfl
  | succ n ih => exact fun v => congrArg Nat.succ (ih _)
theorem putL_in (l : List Nat) : ∀ (d : List UInt8) (v : Int), (∀ x ∈ l, x < 8 * d.length) → l.Nodup → l.map (bitAt (putL d l v)) = vbits v l.length := by
  induction l with
  | nil => exact fun _ _ _ _ => rfl
  | cons b l ih =>
    intro d v hl hn
    rw [List.nodup_cons] at hn
    have hl2 : ∀ x ∈ l, x < 8 * (setBit d b (v % 2 == 1)).length := fun x hx => by rw [setBit_len]; exact hl x (List.mem_cons_of_mem _ hx)
    show bitAt (putL (setBit d b (v % 2 == 1)) l (v / 2)) b :: l.map (bitAt (putL (setBit d b (v % 2 == 1)) l (v / 2))) = (v % 2 == 1) :: vbits (v / 2) l.length
    rw [ih _ _ hl2 hn.2, putL_out l _ _ hl2 hn.1, bitAt_set _ _ (hl b (List.mem_cons_self ..)), if_pos rfl]
/-- What bits are, the lowest first; the highest one a sign. -/
def numL : List Bool → Int
  | [] => 0
  | b :: l => (if b then 1 else 0) + 2 * numL l
def sgnL : List Bool → Int
  | [] => 0
  | [b] => if b then -1 else 0
  | b :: c :: l => (if b then 1 else 0) + 2 * sgnL (c :: l)
theorem numL_ge (l : List Bool) : 0 ≤ numL l := by
  induction l with
  | nil => exact Int.le_refl _
  | cons b l ih => show 0 ≤ (if b then (1 : Int) else 0) + 2 * numL l; split <;> omega
theorem numL_lt (l : List Bool) : numL l < ((2 ^ l.length : Nat) : Int) := by
  induction l with
  | nil => decide
  | cons b l ih =>
    show (if b then (1 : Int) else 0) + 2 * numL l < ((2 ^ (l.length + 1) : Nat) : Int)
    rw [Nat.pow_succ]; push_cast at ih ⊢
    split <;> omega
theorem sgnL_in (l : List Bool) : ∀ b, -((2 ^ l.length : Nat) : Int) ≤ sgnL (b :: l) ∧ sgnL (b :: l) < ((2 ^ l.length : Nat) : Int) := by
  induction l with
  | nil => intro b; cases b <;> decide
  | cons c l ih =>
    intro b
    have := ih c
    show -((2 ^ (l.length + 1) : Nat) : Int) ≤ (if b then (1 : Int) else 0) + 2 * sgnL (c :: l) ∧ (if b then (1 : Int) else 0) + 2 * sgnL (c :: l) < ((2 ^ (l.length + 1) : Nat) : Int)
    rw [Nat.pow_succ]; push_cast at this ⊢
    split <;> omega
theorem num_vbits (n : Nat) : ∀ v : Int, 0 ≤ v → v < ((2 ^ n : Nat) : Int) → numL (vbits v n) = v := by
  induction n with
  | zero => intro v h0 h1; rw [show ((2 ^ 0 : Nat) : Int) = 1 from rfl] at h1; show (0 : Int) = v; omega
  | succ n ih =>
    intro v h0 h1
    rw [Nat.pow_succ] at h1; push_cast at h1
    show (if (v % 2 == 1) = true then (1 : Int) else 0) + 2 * numL (vbits (v / 2) n) = v
    rw [ih (v / 2) (by omega) (by push_cast; omega)]
    by_cases h : v % 2 = 1
    · rw [if_pos (by rw [h]; rfl)]; omega
    · rw [if_neg (by simpa using h)]; omega
theorem sgn_vbits (n : Nat) : ∀ v : Int, -((2 ^ n : Nat) : Int) ≤ v → v < ((2 ^ n : Nat) : Int) → sgnL (vbits v (n + 1)) = v := by
  induction n with
  | zero =>
    intro v h0 h1
    rw [show ((2 ^ 0 : Nat) : Int) = 1 from rfl] at h0 h1
    show (if (v % 2 == 1) = true then (-1 : Int) else 0) = v
    by_cases h : v % 2 = 1
    · rw [if_pos (by rw [h]; rfl)]; omega
    · rw [if_neg (by simpa using h)]; omega
  | succ n ih =>
    intro v h0 h1
    rw [Nat.pow_succ] at h0 h1; push_cast at h0 h1
    show (if (v % 2 == 1) = true then (1 : Int) else 0) + 2 * sgnL (vbits (v / 2) (n + 1)) = v
    rw [ih (v / 2) (by push_cast; omega) (by push_cast; omega)]
    by_cases h : v % 2 = 1
    · rw [if_pos (by rw [h]; rfl)]; omega
    · rw [if_neg (by simpa using h)]; omega
theorem vbits_num (l : List Bool) : vbits (numL l) l.length = l := by
  induction l with
  | nil => rfl
  | cons b l ih =>
    show (((if b then (1 : Int) else 0) + 2 * numL l) % 2 == 1) :: vbits (((if b then (1 : Int) else 0) + 2 * numL l) / 2) l.length = b :: l
    cases b
    · rw [show ((if false = true then (1 : Int) else 0) + 2 * numL l) / 2 = numL l from by rw [if_neg (by decide)]; omega, ih]
      congr 1
      rw [beq_eq_false_iff_ne, if_neg (by decide)]; omega
    · rw [show ((if true = true then (1 : Int) else 0) + 2 * numL l) / 2 = numL l from by rw [if_pos rfl]; omega, ih]
      congr 1
      rw [beq_iff_eq, if_pos rfl]; omega
theorem vbits_sgn (l : List Bool) : vbits (sgnL l) l.length = l := by
  induction l with
  | nil => rfl
  | cons b l ih =>
    cases l with
    | nil => cases b <;> decide
    | cons c l =>
      show (((if b then (1 : Int) else 0) + 2 * sgnL (c :: l)) % 2 == 1) :: vbits (((if b then (1 : Int) else 0) + 2 * sgnL (c :: l)) / 2) (c :: l).length = b :: c :: l
      cases b
      · rw [show ((if false = true then (1 : Int) else 0) + 2 * sgnL (c :: l)) / 2 = sgnL (c :: l) from by rw [if_neg (by decide)]; omega, ih]
        congr 1
        rw [beq_eq_false_iff_ne, if_neg (by decide)]; omega
      · rw [show ((if true = true then (1 : Int) else 0) + 2 * sgnL (c :: l)) / 2 = sgnL (c :: l) from by rw [if_pos rfl]; omega, ih]
        congr 1
        rw [beq_iff_eq, if_pos rfl]; omega
/-- What is put again as it was got. -/
theorem put_got {d e : List UInt8} {l : List Nat} {v : Int} (hle : e.length = d.length) (hl : ∀ x ∈ l, x < 8 * d.length) (hn : l.Nodup) (ho : ∀ a, a ∉ l → bitAt e a = bitAt d a) (hv : vbits v l.length = l.map (bitAt d)) : putL e l v = d := by
  have hl2 : ∀ x ∈ l, x < 8 * e.length := fun x hx => by rw [hle]; exact hl x hx
  apply ext_bits ((putL_len _ _ _).trans hle)
  intro a _
  by_cases ha : a ∈ l
  · have h1 := putL_in l e v hl2 hn
    rw [hv] at h1
    exact (List.map_inj_left.1 h1) a ha
  · rw [putL_out l e v hl2 ha, ho a ha]
/-- The rank of a place on the way down. -/
def rank (a : Nat) : Nat := 8 * (a / 8) + 7 - a % 8
theorem rank_nxt (a : Nat) : rank (nxt true a) = rank a + 1 := by
  unfold nxt rank
  rw [if_pos rfl]
  split <;> omega
theorem rank_iter (a n : Nat) : rank (iter true a n) = rank a + n := by
  induction n with
  | zero => rfl
  | succ n ih => show rank (nxt true _) = _; rw [rank_nxt, ih]; rfl
theorem iter_up (a n : Nat) : iter false a n = a + n := by
  induction n with
  | zero => rfl
  | succ n ih => show nxt false _ = _; rw [ih]; rfl
theorem iter_inj (big : Bool) (a : Nat) {i j : Nat} (h : iter big a i = iter big a j) : i = j := by
  cases big with
  | false => rw [iter_up, iter_up] at h; omega
  | true =>
    have := congrArg rank h
    rw [rank_iter, rank_iter] at this
    omega
theorem mem_ats {big : Bool} {a x : Nat} : ∀ {n : Nat}, x ∈ ats big a n → ∃ i, i < n ∧ x = iter big a i
  | 0, h => by cases h
  | n + 1, h => by
    rw [ats_snoc, List.mem_append, List.mem_singleton] at h
    rcases h with h | rfl
    · obtain ⟨i, hi, rfl⟩ := mem_ats h
      exact ⟨i, by omega, rfl⟩
    · exact ⟨n, by omega, rfl⟩
theorem ats_nodup (big : Bool) (a n : Nat) : (ats big a n).Nodup := by
  induction n with
  | zero => exact List.nodup_nil
  | succ n ih =>
    rw [ats_snoc, List.nodup_append]
    refine ⟨ih, by simp, ?_⟩
    intro x hx y hy
    rw [List.mem_singleton] at hy
    subst hy
    rintro rfl
    obtain ⟨i, hi, he⟩ := mem_ats hx
    have := iter_inj big a he
    omega
theorem places_nodup {s : Sig} {l : List Nat} (h : places s = some l) : l.Nodup := by
  unfold places at h
  split at h
  · cases h
  · split at h
    · cases h
    · cases h
      split
      · exact ((List.reverse_perm _).nodup_iff).2 (ats_nodup _ _ _)
      · exact ats_nodup _ _ _
end Go.Signal
