/-
  SYMBOLIC STATES, over any program, part 35: numbers of a kind without a sign, as rows of bits.
-/
import Derived.Test.YtmmpblbdjnlciaaSyy
namespace Go.Sy
open Go.RowKit

theorem wrapN (k : IntKind) (hk : k.signed = false) (n : Nat) : k.wrap (n : Int) = ((n % 2 ^ k.bits : Nat) : Int) := by
  unfold IntKind.wrap
  simp only [hk, Bool.false_and, Bool.false_eq_true, if_false]
  norm_cast

theorem wrapBV (k : IntKind) (hk : k.signed = false) (x : BitVec k.bits) : k.wrap (x.toNat : Int) = (x.toNat : Int) := by
  rw [wrapN k hk, Nat.mod_eq_of_lt x.isLt]

theorem fdivN (a b : Nat) : ((a : Int)).fdiv (b : Int) = ((a / b : Nat) : Int) := by
  rw [Int.fdiv_eq_ediv_of_nonneg _ (by omega)]; rfl

theorem shrBV {n : Nat} (x : BitVec n) (i m : Nat) (hm : m = n) : ((x.toNat : Int)).fdiv (2 ^ (min ((i : Nat) : Int).toNat m)) = ((x >>> i).toNat : Int) := by
  subst hm
  have : ((2 : Int) ^ (min ((i : Nat) : Int).toNat m)) = ((2 ^ (min i m) : Nat) : Int) := by
    rw [Int.toNat_natCast]; push_cast; rfl
  rw [this, fdivN, BitVec.toNat_ushiftRight, Nat.shiftRight_eq_div_pow]
  by_cases h : i ≤ m
  · rw [Nat.min_eq_left h]
  · rw [Nat.min_eq_right (by omega)]
    have h1 := x.isLt
    rw [Nat.div_eq_of_lt h1, Nat.div_eq_of_lt (Nat.lt_of_lt_of_le h1 (Nat.pow_le_pow_right (by omega) (by omega)))]

theorem shlBV (k : IntKind) (hk : k.signed = false) (x : BitVec k.bits) (i m : Nat) (hm : m = k.bits) : k.wrap ((x.toNat : Int) * 2 ^ (min ((i : Nat) : Int).toNat m)) = ((x <<< i).toNat : Int) := by
  subst hm
  have : (x.toNat : Int) * ((2 : Int) ^ (min ((i : Nat) : Int).toNat k.bits)) = ((x.toNat * 2 ^ (min i k.bits) : Nat) : Int) := by
    rw [Int.toNat_natCast]; push_cast; rfl
  rw [this, wrapN k hk, BitVec.toNat_shiftLeft, Nat.shiftLeft_eq]
  by_cases h : i ≤ k.bits
  · rw [Nat.min_eq_left h]
  · rw [Nat.min_eq_right (by omega)]
    have e1 : (x.toNat * 2 ^ k.bits) % 2 ^ k.bits = 0 := Nat.mul_mod_left _ _
    have e2 : (x.toNat * 2 ^ i) % 2 ^ k.bits = 0 := by
      rw [show i = k.bits + (i - k.bits) by omega, Nat.pow_add, Nat.mul_left_comm]
      exact Nat.mul_mod_right _ _
    rw [e1, e2]

abbrev U8 (x : BitVec 8) : SV := .d (.v (.int .u8 (x.toNat : Int)))
abbrev U16 (x : BitVec 16) : SV := .d (.v (.int .u16 (x.toNat : Int)))
abbrev U32 (x : BitVec 32) : SV := .d (.v (.int .u32 (x.toNat : Int)))
abbrev U64 (x : BitVec 64) : SV := .d (.v (.int .u64 (x.toNat : Int)))

theorem u8w (x : BitVec 8) : IntKind.wrap .u8 (x.toNat : Int) = x.toNat := wrapBV .u8 rfl x
theorem u16w (x : BitVec 16) : IntKind.wrap .u16 (x.toNat : Int) = x.toNat := wrapBV .u16 rfl x
theorem u32w (x : BitVec 32) : IntKind.wrap .u32 (x.toNat : Int) = x.toNat := wrapBV .u32 rfl x
theorem u64w (x : BitVec 64) : IntKind.wrap .u64 (x.toNat : Int) = x.toNat := wrapBV .u64 rfl x

theorem u16shl (x : BitVec 16) (i : Nat) : IntKind.wrap .u16 ((x.toNat : Int) * 2 ^ (min ((i : Nat) : Int).toNat 16)) = ((x <<< i).toNat : Int) := shlBV .u16 rfl x i 16 rfl
theorem u32shl (x : BitVec 32) (i : Nat) : IntKind.wrap .u32 ((x.toNat : Int) * 2 ^ (min ((i : Nat) : Int).toNat 32)) = ((x <<< i).toNat : Int) := shlBV .u32 rfl x i 32 rfl
theorem u64shl (x : BitVec 64) (i : Nat) : IntKind.wrap .u64 ((x.toNat : Int) * 2 ^ (min ((i : Nat) : Int).toNat 64)) = ((x <<< i).toNat : Int) := shlBV .u64 rfl x i 64 rfl
theorem u16shr (x : BitVec 16) (i : Nat) : ((x.toNat : Int)).fdiv (2 ^ (min ((i : Nat) : Int).toNat 16)) = ((x >>> i).toNat : Int) := shrBV x i 16 rfl
theorem u32shr (x : BitVec 32) (i : Nat) : ((x.toNat : Int)).fdiv (2 ^ (min ((i : Nat) : Int).toNat 32)) = ((x >>> i).toNat : Int) := shrBV x i 32 rfl
theorem u64shr (x : BitVec 64) (i : Nat) : ((x.toNat : Int)).fdiv (2 ^ (min ((i : Nat) : Int).toNat 64)) = ((x >>> i).toNat : Int) := shrBV x i 64 rfl

/-- A number that is handed in, as a row of bits. -/
theorem bv_of {n : Nat} {z : Int} (h0 : 0 ≤ z) (h1 : z < 2 ^ n) : ∃ x : BitVec n, z = (x.toNat : Int) := by
  refine ⟨BitVec.ofNat n z.toNat, ?_⟩
  rw [BitVec.toNat_ofNat, Nat.mod_eq_of_lt]
  · omega
  · have : ((z.toNat : Nat) : Int) = z := Int.toNat_of_nonneg h0
    have h2 : ((z.toNat : Nat) : Int) < ((2 ^ n : Nat) : Int) := by rw [this]; push_cast; exact h1
    exact_mod_cast h2

theorem bv_eq0 {n : Nat} (x : BitVec n) : ((x.toNat : Int) = 0) ↔ x = 0#n := by
  constructor
  · intro h
    apply BitVec.eq_of_toNat_eq
    simp
    omega
  · rintro rfl; simp
theorem bv_inj {n : Nat} (x y : BitVec n) : ((x.toNat : Int) = (y.toNat : Int)) ↔ x = y := by
  constructor
  · intro h
    exact BitVec.eq_of_toNat_eq (by omega)
  · rintro rfl; rfl
end Go.Sy
