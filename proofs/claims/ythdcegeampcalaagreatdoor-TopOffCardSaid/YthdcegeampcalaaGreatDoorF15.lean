/-
  The parts of a frame's head; no program in sight. Condition: what the theorems state ahead.
-/
import Derived.Test.YthdcegeampcalaaGreatDoorF14
open Go Go.Proofs Go.Sy Go.Stuff
namespace Go.Proofs.YthdcegeampcalaaGreatDoor

theorem numOf_snoc (l : List UInt8) (c : UInt8) : numOf (l ++ [c]) = numOf l <<< 1 ||| (if c == 49 then 1#64 else 0#64) := by
  unfold numOf
  rw [List.foldl_append]
  rfl
theorem snoc_ind {p : List UInt8 → Prop} (h0 : p []) (h1 : ∀ l c, p l → p (l ++ [c])) : ∀ l, p l := by
  intro l
  have : ∀ m : List UInt8, p m.reverse := by
    intro m
    induction m with
    | nil => exact h0
    | cons c m ih => rw [List.reverse_cons]; exact h1 _ c ih
  have h := this l.reverse
  rwa [List.reverse_reverse] at h
theorem bit_ite (b : Bool) (j : Nat) : (if b then 1#64 else 0#64).getLsbD j = (decide (j = 0) && b) := by
  cases b
  · simp
  · rw [if_pos rfl, BitVec.getLsbD_one]
    simp
theorem numOf_bit : ∀ (l : List UInt8), l.length ≤ 64 → ∀ j, (numOf l).getLsbD j = (decide (j < l.length) && (l.getD (l.length - 1 - j) 0 == 49)) := by
  refine snoc_ind ?_ ?_
  · intro _ j
    simp [numOf]
  · intro l c ih hl j
    rw [List.length_append, List.length_singleton] at hl ⊢
    rw [numOf_snoc, BitVec.getLsbD_or, BitVec.getLsbD_shiftLeft, bit_ite]
    by_cases hj : j = 0
    · subst hj
      rw [show l.length + 1 - 1 - 0 = l.length by omega, List.getD_eq_getElem?_getD, List.getElem?_append_right (Nat.le_refl _)]
      simp
    · have hj1 : decide (j < 1) = false := by simpa using hj
      have hj0 : decide (j = 0) = false := by simpa using hj
      rw [hj1, hj0, ih (by omega)]
      by_cases h : j < l.length + 1
      · rw [show l.length + 1 - 1 - j = l.length - 1 - (j - 1) by omega, List.getD_eq_getElem?_getD, List.getD_eq_getElem?_getD, List.getElem?_append_left (by omega)]
        have e1 : decide (j < 64) = true := by simp; omega
        have e2 : decide (j - 1 < l.length) = true := by simp; omega
        have e3 : decide (j < l.length + 1) = true := by simpa using h
        rw [e1, e2, e3]
        simp
      · have e2 : decide (j - 1 < l.length) = false := by simp; omega
        have e3 : decide (j < l.length + 1) = false := by simpa using h
        rw [e2, e3]
        simp
theorem bitsOf_at (n : BitVec 64) {w i : Nat} (h : i < w) : (bitsOf n w)[i]'(by rw [bitsOf_len]; exact h) = bv (n.getLsbD (w - 1 - i)) := by
  simp [bitsOf]
theorem bv_49 (b : Bool) : (bv b == 49) = b := by cases b <;> rfl
theorem bv_bit (b : Bool) : bit (bv b) = true := by cases b <;> rfl
theorem numOf_of (n : BitVec 64) (w : Nat) (hw : w ≤ 64) (hn : w < 64 → n >>> w = 0#64) : numOf (bitsOf n w) = n := by
  apply BitVec.eq_of_getLsbD_eq
  intro j hj
  rw [numOf_bit _ (by rw [bitsOf_len]; exact hw), bitsOf_len]
  by_cases h : j < w
  · rw [List.getD_eq_getElem?_getD, List.getElem?_eq_getElem (by rw [bitsOf_len]; omega), Option.getD_some, bitsOf_at n (by omega), bv_49, show decide (j < w) = true by simpa using h, Bool.true_and]
    congr 1
    omega
  · rw [show decide (j < w) = false by simpa using h, Bool.false_and]
    have := congrArg (fun z => z.getLsbD (j - w)) (hn (by omega))
    simp only [BitVec.getLsbD_ushiftRight, BitVec.getLsbD_zero] at this
    rw [show w + (j - w) = j by omega] at this
    exact this.symm
/-- So many bits of a row, from one on. -/
def sub (s : List UInt8) (i w : Nat) : List UInt8 := (s.take (i + w)).drop i
theorem sub_mid (a b c : List UInt8) (i w : Nat) (hi : i = a.length) (hw : w = b.length) : sub (a ++ (b ++ c)) i w = b := by
  subst hi hw
  unfold sub
  rw [List.take_length_add_append, List.drop_left, List.take_left]
theorem getD_mid (a c : List UInt8) (x : UInt8) (i : Nat) (hi : i = a.length) : (a ++ x :: c).getD i 0 = x := by
  subst hi
  rw [List.getD_eq_getElem?_getD, List.getElem?_append_right (Nat.le_refl _), Nat.sub_self]
  rfl
set_option maxRecDepth 100000 in
theorem part_eff (s : List UInt8) (hs : wellB s = true) (i w : Nat) (h : i + w ≤ s.length) (hw : w ≤ 64) : Eff Tryz.prog 45 [.i i, .i w, .ip [.v (.string (strL s))]] [] 0 (fun r _ _ => r = U64 (numOf (sub s i w))) := by
  have hl : (sub s i w).length ≤ 64 := by unfold sub; simp only [List.length_drop, List.length_take]; omega
  have c1 := num_ok (sub s i w) (wellB_sub hs (fun b hb => List.mem_of_mem_take (List.mem_of_mem_drop hb)) (by unfold sub; simp only [List.length_drop, List.length_take]; omega)) hl
  have hx : (strL s).extract i (i + w) = strL (sub s i w) := str_ext s i (i + w)
  have hsz : (strL s).size = s.length := strL_size s
  have hsl : s.length ≤ 4000 := by unfold wellB at hs; simp only [Bool.and_eq_true, decide_eq_true_eq] at hs; exact hs.1
  generalize sub s i w = m at *
  refine eff_of Tryz.func45 rfl rfl rfl fun cx e hP => ?_
  refine AWP.runL e tab_ok L45 300 rfl (by  (simp [in64] <;> omega)) ?_
  refine AWP.eqT 14 (.s (strL m)) rfl (congrArg SV.s hx) ?_
  repeat (

      (refine AWP.callQ e rfl rfl ?_; (first | refine CallQ.mk (c1) rfl rfl ?_); refine AWP.runL e tab_ok L45 300 rfl (by trivial ) ?_)

    )
  refine AWP.ret e tab_ok rfl ?_
  rw [hP]
  all_goals rfl
/-! ### What stands where in a head -/
def preL (f : Frm) : List UInt8 := 48 :: (idL f ++ (bv f.rem :: 48 :: 48 :: bitsOf (BitVec.ofInt 64 f.dlc) 4))
theorem head_pre (f : Frm) : headL f = preL f ++ f.data.flatMap byteB := by unfold headL preL; simp
theorem idL_len (f : Frm) : (idL f).length = fixN f - 8 := by unfold idL fixN; cases f.ext <;> simp [bitsOf_len]
theorem pre_len (f : Frm) : (preL f).length = fixN f := by
  unfold preL
  simp only [List.length_cons, List.length_append, bitsOf_len, idL_len]
  unfold fixN
  cases f.ext <;> rfl
theorem head_byte (f : Frm) {i : Nat} (h : i < f.data.length) : sub (headL f) (fixN f + 8 * i) 8 = byteB f.data[i] := by
  have e : f.data.flatMap byteB = (f.data.take i).flatMap byteB ++ (byteB f.data[i] ++ (f.data.drop (i + 1)).flatMap byteB) := by
    conv => lhs; rw [← List.take_append_drop i f.data, List.drop_eq_getElem_cons h]
    rw [List.flatMap_append, List.flatMap_cons]
  rw [head_pre, e, ← List.append_assoc]
  refine sub_mid _ _ _ _ _ ?_ (byteB_len _).symm
  rw [List.length_append, pre_len, flat_len, List.length_take, Nat.min_eq_left (by omega)]
theorem head_dlc (f : Frm) : sub (headL f) (fixN f - 4) 4 = bitsOf (BitVec.ofInt 64 f.dlc) 4 := by
  have e : headL f = (48 :: (idL f ++ [bv f.rem, 48, 48])) ++ (bitsOf (BitVec.ofInt 64 f.dlc) 4 ++ f.data.flatMap byteB) := by unfold headL; simp
  rw [e]
  refine sub_mid _ _ _ _ _ ?_ (bitsOf_len _ _).symm
  simp only [List.length_cons, List.length_append, idL_len, List.length_nil]
  unfold fixN
  cases f.ext <;> rfl
theorem head_rem (f : Frm) : (headL f).getD (fixN f - 7) 0 = bv f.rem := by
  have e : headL f = (48 :: idL f) ++ bv f.rem :: (48 :: 48 :: (bitsOf (BitVec.ofInt 64 f.dlc) 4 ++ f.data.flatMap byteB)) := by unfold headL; simp
  rw [e]
  refine getD_mid _ _ _ _ ?_
  simp only [List.length_cons, idL_len]
  unfold fixN
  cases f.ext <;> rfl
theorem head_ext (f : Frm) : (headL f).getD 13 0 = if f.ext then 49 else 48 := by
  cases he : f.ext
  · have e : headL f = (48 :: (idL f ++ [bv f.rem])) ++ 48 :: ((48 : UInt8) :: (bitsOf (BitVec.ofInt 64 f.dlc) 4 ++ f.data.flatMap byteB)) := by unfold headL; simp
    rw [e]
    refine getD_mid _ _ _ _ ?_
    simp only [List.length_cons, List.length_append, idL_len, List.length_nil]
    unfold fixN
    rw [he]; rfl
  · have e : headL f = ((48 : UInt8) :: (bitsOf ((f.id >>> 18).setWidth 64) 11 ++ ([49] : List UInt8))) ++ (49 : UInt8) :: (bitsOf ((f.id &&& 262143#32).setWidth 64) 18 ++ (bv f.rem :: 48 :: 48 :: (bitsOf (BitVec.ofInt 64 f.dlc) 4 ++ f.data.flatMap byteB))) := by
      unfold headL idL
      rw [he]
      simp
    rw [e]
    refine getD_mid _ _ _ _ ?_
    simp [bitsOf_len]
theorem head_id (f : Frm) : sub (headL f) 1 11 = if f.ext then bitsOf ((f.id >>> 18).setWidth 64) 11 else bitsOf (f.id.setWidth 64) 11 := by
  cases he : f.ext
  · have e : headL f = ([48] : List UInt8) ++ (bitsOf (f.id.setWidth 64) 11 ++ (bv f.rem :: 48 :: 48 :: (bitsOf (BitVec.ofInt 64 f.dlc) 4 ++ f.data.flatMap byteB))) := by
      unfold headL idL
      rw [he]
      simp
    rw [e]
    exact sub_mid _ _ _ _ _ rfl (bitsOf_len _ _).symm
  · have e : headL f = ([48] : List UInt8) ++ (bitsOf ((f.id >>> 18).setWidth 64) 11 ++ ((49 : UInt8) :: 49 :: (bitsOf ((f.id &&& 262143#32).setWidth 64) 18 ++ (bv f.rem :: 48 :: 48 :: (bitsOf (BitVec.ofInt 64 f.dlc) 4 ++ f.data.flatMap byteB))))) := by
      unfold headL idL
      rw [he]
      simp
    rw [e]
    exact sub_mid _ _ _ _ _ rfl (bitsOf_len _ _).symm
theorem head_low (f : Frm) (he : f.ext = true) : sub (headL f) 14 18 = bitsOf ((f.id &&& 262143#32).setWidth 64) 18 := by
  have e : headL f = ((48 : UInt8) :: (bitsOf ((f.id >>> 18).setWidth 64) 11 ++ ([49, 49] : List UInt8))) ++ (bitsOf ((f.id &&& 262143#32).setWidth 64) 18 ++ (bv f.rem :: 48 :: 48 :: (bitsOf (BitVec.ofInt 64 f.dlc) 4 ++ f.data.flatMap byteB))) := by
    unfold headL idL
    rw [he]
    simp
  rw [e]
  refine sub_mid _ _ _ _ _ ?_ (bitsOf_len _ _).symm
  simp [bitsOf_len]
theorem ext_head (f : Frm) (m : List UInt8) (h : 14 ≤ m.length) (hm : m.take 14 = (headL f).take 14) : extS m = f.ext := by
  unfold extS
  have e1 : m.getD 13 0 = (m.take 14).getD 13 0 := by rw [List.getD_eq_getElem?_getD, List.getD_eq_getElem?_getD, List.getElem?_take]; rfl
  have e2 : (headL f).getD 13 0 = ((headL f).take 14).getD 13 0 := by rw [List.getD_eq_getElem?_getD, List.getD_eq_getElem?_getD, List.getElem?_take]; rfl
  rw [e1, hm, ← e2, head_ext]
  cases f.ext <;> rfl
end Go.Proofs.YthdcegeampcalaaGreatDoor
