import Derived.Test.YtjhfeeacdickbaaF7
open Go Go.Proofs Go.Sy
namespace Go.Proofs.Ytjhfeeacdickbaa

def bch (b : Bool) : UInt8 := if b then 49 else 48
def bitsL (n : BitVec 64) : Nat → List UInt8
  | 0 => []
  | i + 1 => bch (n.getLsbD i) :: bitsL n i
theorem bitsL_len (n : BitVec 64) : ∀ i, (bitsL n i).length = i
  | 0 => rfl
  | i + 1 => by rw [bitsL, List.length_cons, bitsL_len n i]
theorem bitsL_get (n : BitVec 64) : ∀ (w p : Nat), p < w → (bitsL n w)[p]? = some (bch (n.getLsbD (w - 1 - p)))
  | w + 1, 0, _ => by rw [bitsL]; rfl
  | w + 1, p + 1, h => by
    rw [bitsL, List.getElem?_cons_succ, bitsL_get n w p (by omega)]
    congr 3
    omega
theorem strL_cons (c : UInt8) (l : List UInt8) : (ByteArray.mk #[c]) ++ strL l = strL (c :: l) := by
  apply ByteArray.ext
  rw [ByteArray.data_append]
  apply Array.ext'
  rw [Array.toList_append]
  simp [strL]
theorem half64 (n : BitVec 64) (j : Nat) : IntKind.wrap .u64 (Int.tdiv (((n >>> j).toNat : Nat) : Int) 2) = ((n >>> (j + 1)).toNat : Int) := by
  have : Int.tdiv (((n >>> j).toNat : Nat) : Int) 2 = ((n >>> (j + 1)).toNat : Int) := by
    rw [Int.tdiv_eq_ediv_of_nonneg (by omega)]
    rw [BitVec.toNat_ushiftRight, BitVec.toNat_ushiftRight, Nat.shiftRight_succ]
    rfl
  rw [this, u64w]
theorem odd64 (n : BitVec 64) (j : Nat) : ((Int.tmod (((n >>> j).toNat : Nat) : Int) 2) == 1) = n.getLsbD j := by
  have h1 : Int.tmod (((n >>> j).toNat : Nat) : Int) 2 = (((n >>> j).toNat % 2 : Nat) : Int) := by
    rw [Int.tmod_eq_emod_of_nonneg (by omega)]; rfl
  rw [h1, BitVec.toNat_ushiftRight, BitVec.getLsbD, Nat.testBit, Bool.eq_iff_iff, beq_iff_eq, Nat.and_comm, Nat.and_one_is_mod, bne_iff_ne]
  omega

set_option maxHeartbeats 1000000 in
set_option maxRecDepth 100000 in
theorem of_eff (n : BitVec 64) (w : Nat) (hw : w ≤ 64) : Eff Try.prog 29 [U64 n, .i w] [] 0 (fun r _ _ => r = .s (strL (bitsL n w))) := by
  refine eff_of Try.func29 rfl rfl rfl fun cx e hP => ?_
  refine AWP.runL e tab_ok L29 300 rfl (by first | trivial | (simp [in64] <;> omega)) ?_
  refine AWP.loop (ι := Nat) (fun i => ⟨[(6, .i i), (0, U64 (n >>> i)), (1, .i w), (5, .s (strL (bitsL n i)))], [], 0⟩) (fun i => i ≤ w) (fun i => w - i) 0 (Nat.zero_le _) ?_ ?_
  · intro g
    refine AWP.less e ?_ ?_ ?_ ?_ ?_ (g) <;> (repeat' (first | exact True.intro | (refine And.intro ?_ ?_) | rfl | assumption))
  rintro i Φ hI next
  have hI : i ≤ w := hI
  refine AWP.runL e tab_ok L29 300 rfl (by first | trivial | (simp [in64] <;> omega)) ?_
  refine AWP.cond2 rfl (fun hlt => ?_) (fun hlt => ?_)
  rotate_left
  · obtain rfl : i = w := by simp at hlt; omega
    refine AWP.runL e tab_ok L29 300 rfl (by first | trivial | (simp [in64] <;> omega)) ?_
    refine AWP.ret e tab_ok rfl ?_
    rw [hP]
    all_goals first | rfl | (simp [strip]; done)
  have hlt : i < w := by simp at hlt; omega
  have nx := next (i + 1) hlt (by show w - (i + 1) < w - i; omega)
  have hsz : (strL (bitsL n i)).size = i := by rw [strL_size, bitsL_len]
  have h49 : (ByteArray.mk #[49]).size = 1 := rfl
  have h48 : (ByteArray.mk #[48]).size = 1 := rfl
  have hb := odd64 n i
  rcases cases_b (n.getLsbD i) with b | b <;> rw [b] at hb
  · refine AWP.runL e tab_ok L29 300 rfl (by first | trivial | (simp [in64] <;> omega)) ?_
    repeat (
      first
        | (refine AWP.askT rfl ?_; (first | (refine Told.t rfl ?_) | (refine Told.f rfl ?_) | (refine Told.t ?_ ?_; (focus assumption)) | (refine Told.f ?_ ?_; (focus assumption)) | (refine Told.t ?_ ?_; (focus (first | (simp; omega) | (simp [*]; done)); done)) | (refine Told.f ?_ ?_; (focus (first | (simp; omega) | (simp [*]; done)); done))); refine AWP.runL e tab_ok L29 300 rfl (by first | trivial | (simp [in64] <;> omega)) ?_)
        | (refine AWP.eq_agg e tab_ok rfl rfl rfl (.inl ⟨rfl, rfl⟩) ?_ 5 (by omega) rfl ?_ rfl rfl rfl rfl rfl rfl rfl ?_; (focus kernel_rfl); (focus kernel_rfl); refine AWP.runL e tab_ok L29 300 rfl (by first | trivial | (simp [in64] <;> omega)) ?_)
        | (refine AWP.eq_agg e tab_ok rfl rfl rfl (.inr ⟨rfl, rfl⟩) ?_ 5 (by omega) rfl ?_ rfl rfl rfl rfl rfl rfl rfl ?_; (focus kernel_rfl); (focus kernel_rfl); refine AWP.runL e tab_ok L29 300 rfl (by first | trivial | (simp [in64] <;> omega)) ?_)
      )
    refine AWP.eqT 0 (U64 (n >>> (i + 1))) rfl (congrArg (fun z => SV.d (.v (.int .u64 z))) (half64 n i)) ?_
    refine AWP.eqT 5 (.s (strL (bitsL n (i + 1)))) rfl (congrArg SV.s ((strL_cons _ _).trans (by rw [bitsL, b]; rfl))) ?_
    refine AWP.less e ?_ ?_ ?_ ?_ ?_ (nx) <;> (repeat' (first | exact True.intro | (refine And.intro ?_ ?_) | rfl | assumption))
  · refine AWP.runL e tab_ok L29 300 rfl (by first | trivial | (simp [in64] <;> omega)) ?_
    repeat (
      first
        | (refine AWP.askT rfl ?_; (first | (refine Told.t rfl ?_) | (refine Told.f rfl ?_) | (refine Told.t ?_ ?_; (focus assumption)) | (refine Told.f ?_ ?_; (focus assumption)) | (refine Told.t ?_ ?_; (focus (first | (simp; omega) | (simp [*]; done)); done)) | (refine Told.f ?_ ?_; (focus (first | (simp; omega) | (simp [*]; done)); done))); refine AWP.runL e tab_ok L29 300 rfl (by first | trivial | (simp [in64] <;> omega)) ?_)
        | (refine AWP.eq_agg e tab_ok rfl rfl rfl (.inl ⟨rfl, rfl⟩) ?_ 5 (by omega) rfl ?_ rfl rfl rfl rfl rfl rfl rfl ?_; (focus kernel_rfl); (focus kernel_rfl); refine AWP.runL e tab_ok L29 300 rfl (by first | trivial | (simp [in64] <;> omega)) ?_)
        | (refine AWP.eq_agg e tab_ok rfl rfl rfl (.inr ⟨rfl, rfl⟩) ?_ 5 (by omega) rfl ?_ rfl rfl rfl rfl rfl rfl rfl ?_; (focus kernel_rfl); (focus kernel_rfl); refine AWP.runL e tab_ok L29 300 rfl (by first | trivial | (simp [in64] <;> omega)) ?_)
      )
    refine AWP.eqT 0 (U64 (n >>> (i + 1))) rfl (congrArg (fun z => SV.d (.v (.int .u64 z))) (half64 n i)) ?_
    refine AWP.eqT 5 (.s (strL (bitsL n (i + 1)))) rfl (congrArg SV.s ((strL_cons _ _).trans (by rw [bitsL, b]; rfl))) ?_
    refine AWP.less e ?_ ?_ ?_ ?_ ?_ (nx) <;> (repeat' (first | exact True.intro | (refine And.intro ?_ ?_) | rfl | assumption))

theorem up64 {n : Nat} (x : BitVec n) (hn : n ≤ 64) : IntKind.wrap .u64 (x.toNat : Int) = ((x.setWidth 64).toNat : Int) := by
  rw [wrapN .u64 rfl, BitVec.toNat_setWidth]
  rfl
theorem bit_byte (n : BitVec 64) (w p : Nat) (h : p < w) : byteAt (strL (bitsL n w)) (p : Int) = ((bch (n.getLsbD (w - 1 - p))).toNat : Int) := by
  unfold byteAt
  rw [strL_data, Int.toNat_natCast, List.getD_eq_getElem?_getD, bitsL_get n w p h]
  rfl
theorem bit_is (n : BitVec 64) (w p : Nat) (h : p < w) : (byteAt (strL (bitsL n w)) (p : Int) == 49) = n.getLsbD (w - 1 - p) := by
  rw [bit_byte n w p h]
  cases n.getLsbD (w - 1 - p) <;> rfl
theorem bit_ne (n m : BitVec 64) (w p : Nat) (h : p < w) : (byteAt (strL (bitsL n w)) (p : Int) != byteAt (strL (bitsL m w)) (p : Int)) = (n.getLsbD (w - 1 - p) != m.getLsbD (w - 1 - p)) := by
  rw [bit_byte n w p h, bit_byte m w p h]
  cases n.getLsbD (w - 1 - p) <;> cases m.getLsbD (w - 1 - p) <;> rfl
theorem any_mono {a b : ByteArray} {i : Nat} (h : anyB a b (i + 1) = true) : ∀ n, i + 1 ≤ n → anyB a b n = true
  | 0, hn => by omega
  | n + 1, hn => by
    by_cases e : n = i
    · rw [e]; exact h
    · rw [anyB, any_mono h n (by omega), Bool.true_or]
theorem and_hit {x y : BitVec 8} {k : Nat} (hk : k < 8) (h1 : x.getLsbD k = true) (h2 : y.getLsbD k = true) : (x &&& y == 0#8) = false := by
  rw [beq_eq_false_iff_ne]
  intro h
  have := congrArg (·.getLsbD k) h
  simp [h1, h2] at this
theorem and_miss {x y : BitVec 8} (h : ∀ k, k < 8 → ¬ (x.getLsbD (7 - k) = true ∧ y.getLsbD (7 - k) = true)) : (x &&& y == 0#8) = true := by
  rw [beq_iff_eq]
  apply BitVec.eq_of_getLsbD_eq
  intro k hk
  rw [BitVec.getLsbD_and, BitVec.getLsbD_zero]
  have := h (7 - k) (by omega)
  rw [show 7 - (7 - k) = k by omega] at this
  cases c1 : x.getLsbD k <;> cases c2 : y.getLsbD k <;> simp_all
theorem below_succ {p : Nat → Prop} {i : Nat} (h : ∀ k, k < i → p k) (hi : p i) (k : Nat) (hk : k < i + 1) : p k := by
  by_cases e : k = i
  · subst e; exact hi
  · exact h k (by omega)
theorem id_all {a b m : BitVec 32} (hm : m >>> 29 = 0#32) (h : ∀ p, p < 29 → ¬ (m.getLsbD (28 - p) = true ∧ a.getLsbD (28 - p) ≠ b.getLsbD (28 - p))) : (a ^^^ b) &&& m = 0#32 := by
  apply BitVec.eq_of_getLsbD_eq
  intro k hk
  rw [BitVec.getLsbD_and, BitVec.getLsbD_xor, BitVec.getLsbD_zero]
  by_cases c : k < 29
  · have := h (28 - k) (by omega)
    rw [show 28 - (28 - k) = k by omega] at this
    cases c1 : m.getLsbD k
    · simp
    · cases c2 : a.getLsbD k <;> cases c3 : b.getLsbD k <;> simp_all
  · rw [shr0_bit hm k (by omega), Bool.and_false]
theorem id_one {a b m : BitVec 32} {k : Nat} (hk : k < 32) (h1 : m.getLsbD k = true) (h2 : a.getLsbD k ≠ b.getLsbD k) : ((a ^^^ b) &&& m == 0#32) = false := by
  rw [beq_eq_false_iff_ne]
  intro h
  have := congrArg (·.getLsbD k) h
  simp [h1] at this
  exact h2 this
theorem shr_up {m : BitVec 32} {ext : Bool} (h : m >>> wd ext = 0#32) : m >>> 29 = 0#32 := by
  apply BitVec.eq_of_getLsbD_eq
  intro k hk
  rw [BitVec.getLsbD_ushiftRight, BitVec.getLsbD_zero]
  exact shr0_bit h _ (by cases ext <;> simp [wd] <;> omega)
end Go.Proofs.Ytjhfeeacdickbaa
