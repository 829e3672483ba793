/-
  A frame's bits, for every frame that may be. Condition: what the theorems state ahead.
-/
import Derived.Test.YthdcegeampcalaaGreatDoorF12
open Go Go.Proofs Go.Sy Go.Stuff
namespace Go.Proofs.YthdcegeampcalaaGreatDoor
theorem bitsOf_bits (n : BitVec 64) (w : Nat) : ∀ b ∈ bitsOf n w, bit b = true := by
  intro b hb
  unfold bitsOf at hb
  obtain ⟨j, _, rfl⟩ := List.mem_map.1 hb
  cases n.getLsbD (w - 1 - j) <;> rfl
theorem flat_bits (l : List UInt8) : ∀ b ∈ l.flatMap byteB, bit b = true := by
  intro b hb
  obtain ⟨a, _, h⟩ := List.mem_flatMap.1 hb
  exact bitsOf_bits _ _ b h
theorem head_bits (f : Frm) : ∀ b ∈ headL f, bit b = true := by
  unfold headL idL
  cases f.ext
  · intro b hb
    simp only [cond_false, List.mem_cons, List.mem_append] at hb
    rcases hb with rfl | hb | rfl | rfl | rfl | hb | hb
    · rfl
    · exact bitsOf_bits _ _ b hb
    · cases f.rem <;> rfl
    · rfl
    · rfl
    · exact bitsOf_bits _ _ b hb
    · exact flat_bits _ b hb
  · intro b hb
    simp only [cond_true, List.mem_cons, List.mem_append, List.not_mem_nil, or_false] at hb
    rcases hb with rfl | (hb | (rfl | rfl) | hb) | rfl | rfl | rfl | hb | hb
    · rfl
    · exact bitsOf_bits _ _ b hb
    · rfl
    · rfl
    · exact bitsOf_bits _ _ b hb
    · cases f.rem <;> rfl
    · rfl
    · rfl
    · exact bitsOf_bits _ _ b hb
    · exact flat_bits _ b hb
/-- How many bits stand ahead of the bytes. -/
def fixN (f : Frm) : Nat := bif f.ext then 39 else 19
theorem head_len (f : Frm) : (headL f).length = fixN f + 8 * f.data.length := by
  unfold headL idL fixN
  cases f.ext <;> simp only [cond_true, cond_false, List.length_cons, List.length_append, bitsOf_len, flat_len, List.length_nil] <;> omega
theorem wellB_of {l : List UInt8} (hl : l.length ≤ 4000) (hb : ∀ b ∈ l, bit b = true) : wellB l = true := by
  unfold wellB
  rw [Bool.and_eq_true]
  exact ⟨by simpa using hl, List.all_eq_true.2 hb⟩
theorem frm_bits {l : List UInt8} (hb : ∀ b ∈ l, bit b = true) : ∀ b ∈ frm l, bit b = true := by
  intro b h
  rcases List.mem_append.1 h with h | h
  · exact hb b h
  · exact bitsOf_bits _ _ b h
theorem frm_len (l : List UInt8) : (frm l).length = l.length + 15 := by unfold frm; rw [List.length_append, bitsOf_len]
/-- A frame's head with its sum; stuffed; and what stands on a bus. -/
def sumF (f : Frm) : List UInt8 := frm (headL f)
def bodyF (f : Frm) : List UInt8 := stuffL x0 (sumF f)
def ones : List UInt8 := [49, 49, 49, 49, 49, 49, 49, 49, 49, 49]
def bitsF (f : Frm) : List UInt8 := bodyF f ++ ones
theorem head_le {f : Frm} (hr : rightF f = true) : 19 ≤ (headL f).length ∧ (headL f).length ≤ 103 := by
  obtain ⟨_, _, _, h4⟩ := right_facts hr
  rw [head_len]
  unfold fixN
  cases f.ext <;> simp <;> omega
theorem sum_bits (f : Frm) : ∀ b ∈ sumF f, isB b := fun b hb => bit_or (frm_bits (head_bits f) b hb)
theorem sum_len (f : Frm) : (sumF f).length = (headL f).length + 15 := frm_len _
theorem sum_well {f : Frm} (hr : rightF f = true) : wellB (sumF f) = true := by
  refine wellB_of ?_ (frm_bits (head_bits f))
  have := head_le hr
  rw [show (sumF f).length = (headL f).length + 15 from frm_len _]; omega
theorem body_len {f : Frm} (hr : rightF f = true) : (sumF f).length ≤ (bodyF f).length ∧ (bodyF f).length ≤ 147 := by
  have h1 := stuff_len (sumF f) x0 (by decide) (sum_bits f)
  have h2 := head_le hr
  have h3 := sum_len f
  have h4 : x0.2 = 0 := rfl
  refine ⟨h1.1, ?_⟩
  show (stuffL x0 (sumF f)).length ≤ 147
  omega
theorem str_appE (a b : List UInt8) : strL a ++ strL b = strL (a ++ b) := str_app a b
set_option maxRecDepth 100000 in
set_option maxHeartbeats 1000000 in
theorem bits_eff (f : Frm) (hr : rightF f = true) : Eff Tryz.prog 11 [.agg (fS f)] [] 0 (fun r _ _ => r = .tup [.s (strL (bitsF f)), .i 0]) := by
  have c1 := fright_eff f
  have c2 := head_eff f hr
  have hw : wellB (headL f) = true := wellB_of (by have := head_le hr; omega) (head_bits f)
  have c3 := frame_ok (headL f) hw (by have := head_le hr; omega)
  have c4 := stuff_ok (sumF f) (sum_well hr)
  have hR : stuffR (sumF f) = .tup [.s (strL (bodyF f)), .i 0] := by
    unfold stuffR
    rw [if_neg]
    · rfl
    · have := (body_len hr).2
      unfold bodyF at this
      omega
  rw [hR] at c4
  have hz : (strL (bodyF f)).size ≤ 147 := by rw [strL_size]; exact (body_len hr).2
  have hz1 : (ByteArray.mk #[49, 49, 49, 49, 49, 49, 49, 49, 49, 49]).size = 10 := rfl
  rw [hr] at c1
  unfold sumF at c4
  have hJ : strL (bodyF f) ++ (ByteArray.mk #[49, 49, 49, 49, 49, 49, 49, 49, 49, 49]) = strL (bitsF f) := str_app _ _
  generalize bitsF f = B at *
  generalize bodyF f = b at *
  generalize frm (headL f) = s at *
  generalize headL f = h at *
  refine eff_of Tryz.func11 rfl rfl rfl fun cx e hP => ?_
  refine AWP.runL e tab_ok L11 300 rfl (by trivial ) ?_
  repeat (
    first
      | (refine AWP.askT rfl ?_; ( (refine Told.f rfl ?_) ); refine AWP.runL e tab_ok L11 300 rfl (by trivial ) ?_)
      | (refine AWP.callQ e rfl rfl ?_; (first | refine CallQ.mk (c1) rfl rfl ?_ | refine CallQ.mk (c2) rfl rfl ?_ | refine CallQ.mk (c3) rfl rfl ?_ | refine CallQ.mk (c4) rfl rfl ?_); refine AWP.runL e tab_ok L11 300 rfl (by first | trivial | (simp [in64] <;> omega)) ?_)

    )
  refine AWP.eqT 2 (.s (strL B)) rfl (congrArg SV.s hJ) ?_
  refine AWP.ret e tab_ok rfl ?_
  rw [hP]
  all_goals rfl
end Go.Proofs.YthdcegeampcalaaGreatDoor
