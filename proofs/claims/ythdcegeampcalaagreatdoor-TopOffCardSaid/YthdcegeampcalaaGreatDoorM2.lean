/-
  The plain law of sums of rows; no program in sight. Condition: what the theorems state ahead.
-/
import Derived.Test.YthdcegeampcalaaGreatDoorEd
namespace Go.Crc

abbrev poly : BitVec 15 := 0x4599#15
/-- What a sum becomes by a bit. -/
def st (x : BitVec 15) (b : Bool) : BitVec 15 := (x <<< 1) ^^^ (if x.getLsbD 14 != b then poly else 0#15)
def run (x : BitVec 15) (l : List Bool) : BitVec 15 := l.foldl st x

theorem run_nil (x : BitVec 15) : run x [] = x := rfl
theorem run_cons (x : BitVec 15) (b : Bool) (l : List Bool) : run x (b :: l) = run (st x b) l := rfl
theorem run_app (x : BitVec 15) (l m : List Bool) : run x (l ++ m) = run (run x l) m := List.foldl_append
theorem st_lin (x y : BitVec 15) (b c : Bool) : st (x ^^^ y) (b ^^ c) = st x b ^^^ st y c := by
  unfold st
  rw [BitVec.getLsbD_xor, BitVec.shiftLeft_xor_distrib]
  apply BitVec.eq_of_getLsbD_eq
  intro i _
  cases x.getLsbD 14 <;> cases y.getLsbD 14 <;> cases b <;> cases c <;> simp only [BitVec.getLsbD_xor, Bool.true_bne, Bool.false_bne, Bool.not_true, Bool.not_false, Bool.true_xor, Bool.false_xor, if_true, if_false, BitVec.getLsbD_zero, Bool.xor_false, Bool.false_eq_true, ite_true, ite_false] <;> cases (x <<< 1).getLsbD i <;> cases (y <<< 1).getLsbD i <;> cases poly.getLsbD i <;> rfl
theorem run_lin (x y : BitVec 15) : ∀ (l m : List Bool), l.length = m.length → run (x ^^^ y) (List.zipWith xor l m) = run x l ^^^ run y m
  | [], [], _ => rfl
  | b :: l, c :: m, h => by
    rw [List.zipWith_cons_cons, run_cons, run_cons, run_cons, st_lin]
    exact run_lin (st x b) (st y c) l m (by simpa using h)
  termination_by l => l.length
theorem poly0 : poly.getLsbD 0 = true := by decide
theorem st_low (x : BitVec 15) (b : Bool) : (st x b).getLsbD 0 = (x.getLsbD 14 != b) := by
  unfold st
  rw [BitVec.getLsbD_xor]
  cases h : (x.getLsbD 14 != b)
  · simp
  · simp
    decide
theorem st_zero : st 0#15 false = 0#15 := by decide
theorem run_zeros : ∀ n, run 0#15 (List.replicate n false) = 0#15
  | 0 => rfl
  | n + 1 => by rw [List.replicate_succ, run_cons, st_zero]; exact run_zeros n
/-- What leads to 0 in a few bits is just these bits. -/
theorem run_back : ∀ (l : List Bool) (x : BitVec 15), l.length ≤ 15 → run x l = 0#15 → (∀ i, i < l.length → x.getLsbD (14 - i) = l.getD i false) ∧ ∀ j, j + l.length < 15 → x.getLsbD j = false
  | [], x, _, h => by
    rw [run_nil] at h
    subst h
    exact ⟨fun i hi => absurd hi (Nat.not_lt_zero _), fun j _ => by simp⟩
  | b :: l, x, hl, h => by
    rw [run_cons] at h
    simp only [List.length_cons] at hl ⊢
    obtain ⟨h1, h2⟩ := run_back l (st x b) (by omega) h
    have h0 := h2 0 (by omega)
    rw [st_low] at h0
    have hx : st x b = x <<< 1 := by
      unfold st
      rw [h0]
      simp
    have hb : x.getLsbD 14 = b := by simpa using h0
    rw [hx] at h1 h2
    refine ⟨fun i hi => ?_, fun j hj => ?_⟩
    · cases i with
      | zero => simpa using hb
      | succ i =>
        have := h1 i (by omega)
        rw [BitVec.getLsbD_shiftLeft] at this
        rw [List.getD_cons_succ, ← this]
        have e : 14 - i - 1 = 14 - (i + 1) := by omega
        simp [e]
        omega
    · have := h2 (j + 1) (by omega)
      rw [BitVec.getLsbD_shiftLeft] at this
      simpa using (by simpa using this : j + 1 < 15 → x.getLsbD j = false) (by omega)
theorem run_burst (l : List Bool) (hl : l.length ≤ 15) (h : run 0#15 l = 0#15) : l = List.replicate l.length false := by
  obtain ⟨h1, _⟩ := run_back l 0#15 hl h
  apply List.ext_getElem (by simp)
  intro i hi hi'
  have := h1 i hi
  rw [BitVec.getLsbD_zero, List.getD_eq_getElem?_getD, List.getElem?_eq_getElem hi] at this
  simpa using this.symm
theorem run_inj0 : ∀ (n : Nat) (x : BitVec 15), run x (List.replicate n false) = 0#15 → x = 0#15
  | 0, _, h => h
  | n + 1, x, h => by
    rw [List.replicate_succ, run_cons] at h
    have h := run_inj0 n _ h
    have h0 : (st x false).getLsbD 0 = false := by rw [h]; simp
    rw [st_low] at h0
    have hx : st x false = x <<< 1 := by unfold st; rw [h0]; simp
    rw [hx] at h
    have hb : x.getLsbD 14 = false := by simpa using h0
    apply BitVec.eq_of_getLsbD_eq
    intro i hi
    rw [BitVec.getLsbD_zero]
    by_cases e : i = 14
    · rw [e]; exact hb
    · have := congrArg (fun z => z.getLsbD (i + 1)) h
      simp only [BitVec.getLsbD_shiftLeft, BitVec.getLsbD_zero] at this
      simpa using (by simpa using this : i + 1 < 15 → x.getLsbD i = false) (by omega)
/-- The bits of a sum, the highest first. -/
def bits15 (x : BitVec 15) : List Bool := (List.range 15).map fun j => x.getLsbD (14 - j)
theorem bits15_len (x : BitVec 15) : (bits15 x).length = 15 := by simp [bits15]
theorem run_own : ∀ (x : BitVec 15), run x (bits15 x) = 0#15 := by
  have key : ∀ (x : BitVec 15) (n j : Nat), n + j = 15 → run (x <<< j) (((List.range 15).drop j).map fun i => x.getLsbD (14 - i)) = 0#15 := by
    intro x n
    induction n with
    | zero =>
      intro j hj
      obtain rfl : j = 15 := by omega
      rw [List.drop_of_length_le (by simp), List.map_nil, run_nil]
      apply BitVec.eq_of_getLsbD_eq
      intro i hi
      rw [BitVec.getLsbD_shiftLeft]
      simp
    | succ n ih =>
      intro j hj
      rw [List.drop_eq_getElem_cons (by simp; omega), List.map_cons, run_cons]
      have e : st (x <<< j) (x.getLsbD (14 - (List.range 15)[j]'(by simp; omega))) = x <<< (j + 1) := by
        have hb : (x <<< j).getLsbD 14 = x.getLsbD (14 - j) := by
          rw [BitVec.getLsbD_shiftLeft]; simp; omega
        unfold st
        rw [List.getElem_range, hb]
        simp [BitVec.shiftLeft_add]
      rw [e]
      exact ih (j + 1) (by omega)
  intro x
  have := key x 15 0 rfl
  simpa [bits15] using this
end Go.Crc
