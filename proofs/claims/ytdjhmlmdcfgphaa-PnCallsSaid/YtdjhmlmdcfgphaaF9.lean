import Derived.Test.YtdjhmlmdcfgphaaF8
open Go Go.Proofs Go.Sy
namespace Go.Proofs.Ytdjhmlmdcfgphaa

def toldE (s : ByteArray) : Int := if 2 ≤ s.size then 0 else 23
theorem told_eff (s : ByteArray) : Eff Try.prog 17 [.s s] [] 0 (fun r _ _ => r = .tup [U16 (toldN s), .i (toldE s)]) := by
  unfold toldN toldE
  by_cases h : 2 ≤ s.size
  · rw [if_pos h, if_pos h]; exact told_ok s h
  · rw [if_neg h, if_neg h]; exact told_short s (by omega)
theorem mul256 (x : BitVec 16) : IntKind.wrap .u16 (256 * (x.toNat : Int)) = ((x <<< 8).toNat : Int) := by
  rw [← u16shl]
  congr 1
  rw [Int.mul_comm]
  rfl
theorem want_val (s : ByteArray) (h : 2 ≤ s.size) : IntKind.wrap .u16 (IntKind.wrap .u16 ((byteB s 0).toNat : Int) + IntKind.wrap .u16 (256 * IntKind.wrap .u16 ((byteB s 1).toNat : Int))) = ((toldN s).toNat : Int) := by
  rw [up16, up16, mul256, add16, toldN, if_pos h, toldB]
  refine congrArg (fun (z : BitVec 16) => (z.toNat : Int)) (BitVec.add_eq_or_of_and_eq_zero _ _ ?_)
  apply BitVec.eq_of_getLsbD_eq
  intro k hk
  simp only [BitVec.getLsbD_and, BitVec.getLsbD_setWidth, BitVec.getLsbD_shiftLeft, hk, decide_true, Bool.true_and, BitVec.getLsbD_zero]
  by_cases c : k < 8
  · simp [c]
  · have : (byteB s 0).getLsbD k = false := BitVec.getLsbD_of_ge _ _ (by omega)
    rw [this, Bool.false_and]

theorem extract_le (s : ByteArray) : ∃ D : ByteArray, D = s.extract 0 (if (10 : Int) < (s.size : Int) then (10 : Int) else (s.size : Int)).toNat ∧ D.size ≤ 10 := by
  refine ⟨_, rfl, ?_⟩
  rw [ByteArray.size_extract]
  split <;> omega

abbrev cT (net : Int) (on : Bool) (told : BitVec 16) (D : ByteArray) (we se te tle : Int) (ts : ByteArray) : List (Nat × SV) := [(5, U16 told), (4, .b on), (3, .i net), (6, .s D), (7, .ptr 0 0), (17, .ptr 2 0), (18, .i we), (19, .ptr 3 0), (20, .i se), (21, .ptr 4 0), (22, .i te), (23, .s ts), (24, .i tle), (25, U16 (toldN D)), (26, .i (toldE D))]

theorem rem8 (o : BitVec 16) : IntKind.wrap .u8 (Int.tmod (o.toNat : Int) 256) = ((o.setWidth 8).toNat : Int) := by
  rw [show Int.tmod (o.toNat : Int) 256 = ((o.toNat % 256 : Nat) : Int) by rw [Int.tmod_eq_emod_of_nonneg (by omega)]; rfl, wrapN .u8 rfl, BitVec.toNat_setWidth]
  show ((o.toNat % 256 % 256 : Nat) : Int) = ((o.toNat % 256 : Nat) : Int)
  rw [Nat.mod_mod]
theorem quo8 (o : BitVec 16) : IntKind.wrap .u8 (IntKind.wrap .u16 (Int.tdiv (o.toNat : Int) 256)) = (((o >>> 8).setWidth 8).toNat : Int) := by
  rw [show Int.tdiv (o.toNat : Int) 256 = ((o >>> 8).toNat : Int) by rw [Int.tdiv_eq_ediv_of_nonneg (by omega), BitVec.toNat_ushiftRight, Nat.shiftRight_eq_div_pow]; rfl, u16w, lo8]
theorem bytes_hl (o : BitVec 16) : ∀ j b, ([⟨o.setWidth 8⟩, ⟨(o >>> 8).setWidth 8⟩] : List UInt8)[j]? = some b → [[SV.d (.v (.int .u8 (IntKind.wrap .u8 (Int.tmod (o.toNat : Int) 256))))], [SV.d (.v (.int .u8 (IntKind.wrap .u8 (IntKind.wrap .u16 (Int.tdiv (o.toNat : Int) 256)))))]][0 + j]? = some (u8S b) := by
  intro j b hb
  match j, hb with
  | 0, hb => cases hb; exact congrArg (fun z => some [SV.d (.v (.int .u8 z))]) (rem8 o)
  | 1, hb => cases hb; exact congrArg (fun z => some [SV.d (.v (.int .u8 z))]) (quo8 o)

end Go.Proofs.Ytdjhmlmdcfgphaa
