/-
  A text's checking sum, for every text of bits. Condition: what the theorems state ahead.
-/
import Derived.Test.YthdcegeampcalaaGreatDoorF6
import Derived.Test.YthdcegeampcalaaGreatDoorM2
open Go Go.Proofs Go.Sy
namespace Go.Proofs.YthdcegeampcalaaGreatDoor

/-- What a sum becomes by a bit. -/
def cst (s : BitVec 32) (b : UInt8) : BitVec 32 := if s.getLsbD 14 != (b == 49) then ((s <<< 1) &&& 32767#32) ^^^ 17817#32 else (s <<< 1) &&& 32767#32
theorem and1_32 (x : BitVec 32) (k : Nat) : x >>> k &&& 1#32 = if x.getLsbD k then 1#32 else 0#32 := by
  apply BitVec.eq_of_getLsbD_eq
  intro i hi
  rw [BitVec.getLsbD_and, BitVec.getLsbD_ushiftRight]
  by_cases h0 : i = 0
  · subst h0
    rw [Nat.add_zero]
    cases x.getLsbD k <;> simp
  · have : (1#32).getLsbD i = false := by
      rw [BitVec.getLsbD_one]; simp; omega
    rw [this, Bool.and_false]
    cases x.getLsbD k
    · simp
    · rw [if_pos rfl, this]
theorem top14 (s : BitVec 32) : (IntKind.wrap .u32 (((BitVec.ofInt IntKind.u32.bits ((s.toNat : Int).fdiv (2 ^ (min (14 : Int).toNat IntKind.u32.bits))) &&& BitVec.ofInt IntKind.u32.bits 1).toNat : Nat) : Int) == 1) = s.getLsbD 14 := by
  rw [show (s.toNat : Int).fdiv (2 ^ (min (14 : Int).toNat IntKind.u32.bits)) = ((s >>> 14).toNat : Int) from u32shr s 14, show (1 : Int) = ((1#32).toNat : Int) from rfl, u32and, and1_32]
  cases s.getLsbD 14 <;> rfl
theorem shl1 (s : BitVec 32) : IntKind.wrap .u32 (((BitVec.ofInt IntKind.u32.bits (IntKind.wrap .u32 ((s.toNat : Int) * 2 ^ (min (1 : Int).toNat IntKind.u32.bits))) &&& BitVec.ofInt IntKind.u32.bits 32767).toNat : Nat) : Int) = (((s <<< 1) &&& 32767#32).toNat : Int) := by
  rw [show IntKind.wrap .u32 ((s.toNat : Int) * 2 ^ (min (1 : Int).toNat IntKind.u32.bits)) = ((s <<< 1).toNat : Int) from u32shl s 1]
  exact u32and (s <<< 1) 32767#32

set_option maxRecDepth 100000 in
theorem step_eff (s : BitVec 32) (b : UInt8) : Eff Tryz.prog 57 [U32 s, U b] [] 0 (fun r _ _ => r = U32 (cst s b)) := by
  have h1 : (!((IntKind.wrap .u32 (((BitVec.ofInt IntKind.u32.bits ((s.toNat : Int).fdiv (2 ^ (min (14 : Int).toNat IntKind.u32.bits))) &&& BitVec.ofInt IntKind.u32.bits 1).toNat : Nat) : Int) == 1) == ((b.toNat : Int) == 49))) = (s.getLsbD 14 != (b == 49)) := by
    rw [top14]
    exact congrArg (fun z => !(s.getLsbD 14 == z)) (u_eq b 49)
  have h3 := shl1 s
  refine eff_of Tryz.func57 rfl rfl rfl fun cx e hP => ?_
  unfold cst at hP
  generalize hA : (s <<< 1) &&& 32767#32 = A at *
  rcases cases_b (s.getLsbD 14 != (b == 49)) with g1 | g1 <;> rw [g1] at hP h1
  · refine AWP.runL e tab_ok L57 300 rfl (by trivial ) ?_
    repeat (
      (refine AWP.askT rfl ?_; ( (refine Told.t ?_ ?_; (focus assumption)) ); refine AWP.runL e tab_ok L57 300 rfl (by trivial ) ?_)

      )
    refine AWP.eqT 4 (U32 (A ^^^ 17817#32)) rfl (congrArg (fun z => SV.d (.v (.int .u32 z))) ((congrArg (fun z => IntKind.wrap .u32 (((BitVec.ofInt IntKind.u32.bits z ^^^ BitVec.ofInt IntKind.u32.bits 17817).toNat : Nat) : Int)) h3).trans (u32xor A 17817#32))) ?_
    refine AWP.ret e tab_ok rfl ?_
    rw [hP]
    all_goals rfl
  · refine AWP.runL e tab_ok L57 300 rfl (by trivial ) ?_
    repeat (
      (refine AWP.askT rfl ?_; ( (refine Told.f ?_ ?_; (focus assumption)) ); refine AWP.runL e tab_ok L57 300 rfl (by trivial ) ?_)

      )
    refine AWP.eqT 4 (U32 A) rfl (congrArg (fun z => SV.d (.v (.int .u32 z))) h3) ?_
    refine AWP.ret e tab_ok rfl ?_
    rw [hP]
    all_goals rfl

/-- As a row of fifteen bits. -/
def sw (x : BitVec 15) : BitVec 32 := x.setWidth 32
theorem sw_st (x : BitVec 15) (b : UInt8) : cst (sw x) b = sw (Crc.st x (b == 49)) := by
  have e : ((sw x) <<< 1) &&& 32767#32 = sw (x <<< 1) := by
    apply BitVec.eq_of_getLsbD_eq
    intro i hi
    have hm : (32767#32).getLsbD i = decide (i < 15) := by
      have : ∀ i : Fin 32, (32767#32).getLsbD i.1 = decide (i.1 < 15) := by decide
      exact this ⟨i, hi⟩
    unfold sw
    rw [BitVec.getLsbD_and, hm, BitVec.getLsbD_shiftLeft, BitVec.getLsbD_setWidth, BitVec.getLsbD_setWidth, BitVec.getLsbD_shiftLeft]
    by_cases h : i < 15
    · have h1 : decide (i < 15) = true := by simpa using h
      have h2 : decide (i < 32) = true := by simpa using hi
      have h3 : decide (i - 1 < 32) = true := by simp; omega
      rw [h1, h2, h3]
      simp
    · have h1 : decide (i < 15) = false := by simpa using h
      rw [h1]
      simp
  have e2 : (sw x).getLsbD 14 = x.getLsbD 14 := by unfold sw; rw [BitVec.getLsbD_setWidth]; simp
  have e3 : ∀ y : BitVec 15, sw y ^^^ 17817#32 = sw (y ^^^ Crc.poly) := fun y => by
    unfold sw
    rw [BitVec.setWidth_xor]
    rfl
  unfold cst Crc.st
  rw [e, e2, e3]
  split
  · rfl
  · rw [BitVec.xor_zero]
def bb (l : List UInt8) : List Bool := l.map (· == 49)
/-- A row's sum. -/
def crc (l : List UInt8) : BitVec 32 := sw (Crc.run 0#15 (bb l))
theorem crc_succ {l : List UInt8} {i : Nat} (h : i < l.length) : crc (l.take (i + 1)) = cst (crc (l.take i)) l[i] := by
  unfold crc bb
  rw [List.take_succ_eq_append_getElem h, List.map_append, Crc.run_app, sw_st]
  rfl

/-! ### The reference's step -/
theorem bit14 (s : BitVec 32) : s.getLsbD 14 = decide (s.toNat / 16384 % 2 = 1) := by
  rw [BitVec.getLsbD, Nat.testBit_eq_decide_div_mod_eq]
theorem low15 (s : BitVec 32) : (((s <<< 1) &&& 32767#32).toNat : Int) = ((2 * (s.toNat % 32768) % 32768 : Nat) : Int) := by
  rw [BitVec.toNat_and, BitVec.toNat_shiftLeft, Nat.shiftLeft_eq]
  rw [show (32767#32).toNat = 2 ^ 15 - 1 from rfl, Nat.and_two_pow_sub_one_eq_mod]
  omega
/-! ### A row's sum -/
set_option maxRecDepth 100000 in
theorem crc_bad (l : List UInt8) (hw : wellB l = false) : Eff Tryz.prog 31 [.s (strL l)] [] 0 (fun r _ _ => r = .tup [U32 0#32, .i 1]) := by
  have c1 := right_eff l
  rw [hw] at c1
  refine eff_of Tryz.func31 rfl rfl rfl fun cx e hP => ?_
  refine AWP.runL e tab_ok L31 300 rfl (by trivial ) ?_
  repeat (
    first
      | (refine AWP.askT rfl ?_; ((refine Told.t rfl ?_) ); refine AWP.runL e tab_ok L31 300 rfl (by trivial ) ?_)
      | (refine AWP.callQ e rfl rfl ?_; (first | refine CallQ.mk (c1) rfl rfl ?_); refine AWP.runL e tab_ok L31 300 rfl (by trivial ) ?_)

    )
  refine AWP.ret e tab_ok rfl ?_
  rw [hP]
  all_goals rfl
set_option maxRecDepth 100000 in
theorem crc_ok (l : List UInt8) (hw : wellB l = true) : Eff Tryz.prog 31 [.s (strL l)] [] 0 (fun r _ _ => r = .tup [U32 (crc l), .i 0]) := by
  have c1 := right_eff l
  rw [hw] at c1
  have hl : l.length ≤ 4000 := by unfold wellB at hw; simp only [Bool.and_eq_true, decide_eq_true_eq] at hw; exact hw.1
  have hsz : (strL l).size = l.length := strL_size l
  refine eff_of Tryz.func31 rfl rfl rfl fun cx e hP => ?_
  refine AWP.runL e tab_ok L31 300 rfl (by trivial ) ?_
  repeat (
    first
      | (refine AWP.askT rfl ?_; ( (refine Told.f rfl ?_) ); refine AWP.runL e tab_ok L31 300 rfl (by trivial ) ?_)
      | (refine AWP.callQ e rfl rfl ?_; (first | refine CallQ.mk (c1) rfl rfl ?_); refine AWP.runL e tab_ok L31 300 rfl (by trivial ) ?_)

    )
  refine AWP.enter e rfl Tryz.func55 rfl rfl rfl rfl fun cx' e' hP' => ?_
  refine AWP.runL e' tab_ok L55 300 rfl (by trivial ) ?_
  refine AWP.loop (ι := Nat) (fun i => ⟨[(7, .i i), (6, .i l.length), (0, .s (strL l)), (1, .fn (.func 56) [] [.ptr 0 0])], [(0, .box [U32 (crc (l.take i))])], 1⟩) (fun i => i ≤ l.length) (fun i => l.length - i) 0 (Nat.zero_le _) ?_ ?_
  · intro g
    refine AWP.less e' ?_ ?_ ?_ ?_ ?_ (g) <;> (repeat' (first | exact True.intro | (refine And.intro ?_ ?_) | rfl))
  rintro i Φ hi next
  have hi : i ≤ l.length := hi
  refine AWP.runL e' tab_ok L55 300 rfl (by trivial ) ?_
  refine AWP.cond2 rfl (fun hlt => ?_) (fun hlt => ?_)
  · have hlt : i < l.length := by simpa using hlt
    have nx := next (i + 1) hlt (by show l.length - (i + 1) < l.length - i; omega)
    rw [crc_succ hlt] at nx
    have hb : byteAt (strL l) i = ((l[i]).toNat : Int) := b_at l i hlt
    have c2 := step_eff (crc (l.take i)) l[i]
    clear next
    generalize l[i] = b at *
    generalize crc (l.take i) = s at *
    refine AWP.runL e' tab_ok L55 300 rfl (by  (simp [in64] <;> omega)) ?_
    refine AWP.eqT 13 (U b) rfl (congrArg (fun z => SV.d (.v (.int .u8 z))) hb) ?_
    refine AWP.enter e' rfl Tryz.func56 rfl rfl rfl rfl fun cx'' e'' hP'' => ?_
    refine AWP.runL e'' tab_ok L56 300 rfl (by trivial ) ?_
    repeat (

        (refine AWP.callQ e'' rfl rfl ?_; (first | refine CallQ.mk (c2) rfl rfl ?_); refine AWP.runL e'' tab_ok L56 300 rfl (by trivial ) ?_)

      )
    ( (refine AWP.fin e'' tab_ok rfl ?_)); rw [hP'']; show AWP cx' _ _
    refine AWP.runL e' tab_ok L55 300 rfl (by  (simp [in64] <;> omega)) ?_
    refine AWP.less e' ?_ ?_ ?_ ?_ ?_ (nx) <;> (repeat' (first | exact True.intro | (refine And.intro ?_ ?_) | rfl))
  · have hlt : ¬ i < l.length := by simpa using hlt
    obtain rfl : i = l.length := by omega
    rw [List.take_length]
    refine AWP.runL e' tab_ok L55 300 rfl (by trivial ) ?_
    ( (refine AWP.fin e' tab_ok rfl ?_)); rw [hP']; show AWP cx _ _
    refine AWP.runL e tab_ok L31 300 rfl (by trivial ) ?_
    refine AWP.ret e tab_ok rfl ?_
    rw [hP]
    all_goals rfl

/-- The row with its sum behind it. -/
def frm (l : List UInt8) : List UInt8 := l ++ bitsOf ((crc l).setWidth 64) 15
theorem crc_small (l : List UInt8) : (crc l).setWidth 64 >>> 15 = 0#64 := by
  apply BitVec.eq_of_getLsbD_eq
  intro i hi
  unfold crc sw
  rw [BitVec.getLsbD_ushiftRight, BitVec.getLsbD_setWidth, BitVec.getLsbD_setWidth]
  simp
theorem up64 (x : BitVec 32) : IntKind.wrap .u64 (x.toNat : Int) = ((x.setWidth 64).toNat : Int) := by
  rw [wrap_nat .u64 rfl (by have := x.isLt; show _ < 18446744073709551616; omega), BitVec.toNat_setWidth, Nat.mod_eq_of_lt (by have := x.isLt; omega)]
set_option maxRecDepth 100000 in
theorem frame_bad (l : List UInt8) (hw : wellB l = false ∨ 3985 < l.length) : Eff Tryz.prog 19 [.s (strL l)] [] 0 (fun r _ _ => r = .tup [.s ⟨#[]⟩, .i 1]) := by
  have hsz : (strL l).size = l.length := strL_size l
  rcases cases_b (wellB l) with h | h
  · have hl : 3985 < l.length := by rcases hw with hw | hw; (rw [h] at hw; cases hw); exact hw
    have hl2 : l.length ≤ 4000 := by unfold wellB at h; simp only [Bool.and_eq_true, decide_eq_true_eq] at h; exact h.1
    have c1 := crc_ok l h
    refine eff_of Tryz.func19 rfl rfl rfl fun cx e hP => ?_
    refine AWP.runL e tab_ok L19 300 rfl (by trivial ) ?_
    repeat (
      first
        | (refine AWP.askT rfl ?_; (first | (refine Told.f rfl ?_) | (refine Told.t ?_ ?_; (focus ((simp; omega)); done))); refine AWP.runL e tab_ok L19 300 rfl (by trivial ) ?_)
        | (refine AWP.callQ e rfl rfl ?_; (first | refine CallQ.mk (c1) rfl rfl ?_); refine AWP.runL e tab_ok L19 300 rfl (by trivial ) ?_)

      )
    refine AWP.ret e tab_ok rfl ?_
    rw [hP]
    all_goals rfl
  · have c1 := crc_bad l h
    refine eff_of Tryz.func19 rfl rfl rfl fun cx e hP => ?_
    refine AWP.runL e tab_ok L19 300 rfl (by trivial ) ?_
    repeat (
      first
        | (refine AWP.askT rfl ?_; ((refine Told.t rfl ?_) ); refine AWP.runL e tab_ok L19 300 rfl (by trivial ) ?_)
        | (refine AWP.callQ e rfl rfl ?_; (first | refine CallQ.mk (c1) rfl rfl ?_); refine AWP.runL e tab_ok L19 300 rfl (by trivial ) ?_)

      )
    refine AWP.ret e tab_ok rfl ?_
    rw [hP]
    all_goals rfl
set_option maxRecDepth 100000 in
theorem frame_ok (l : List UInt8) (hw : wellB l = true) (hl : l.length ≤ 3985) : Eff Tryz.prog 19 [.s (strL l)] [] 0 (fun r _ _ => r = .tup [.s (strL (frm l)), .i 0]) := by
  have hsz : (strL l).size = l.length := strL_size l
  have c1 := crc_ok l hw
  have c2 := of_ok ((crc l).setWidth 64) 15 (by decide) (fun _ => crc_small l)
  have hz : (strL (bitsOf ((crc l).setWidth 64) 15)).size = 15 := by rw [strL_size, bitsOf_len]
  have hu := up64 (crc l)
  unfold frm
  generalize crc l = s at *
  refine eff_of Tryz.func19 rfl rfl rfl fun cx e hP => ?_
  refine AWP.runL e tab_ok L19 300 rfl (by trivial ) ?_
  repeat (
    first
      | (refine AWP.askT rfl ?_; (first | (refine Told.f rfl ?_) | (refine Told.f ?_ ?_; (focus ((simp; omega)); done))); refine AWP.runL e tab_ok L19 300 rfl (by trivial ) ?_)
      | (refine AWP.callQ e rfl rfl ?_; (first | refine CallQ.mk (c1) rfl rfl ?_); refine AWP.runL e tab_ok L19 300 rfl (by trivial ) ?_)

    )
  refine AWP.eqT 21 (U64 (s.setWidth 64)) rfl (congrArg (fun z => SV.d (.v (.int .u64 z))) hu) ?_
  repeat (

      (refine AWP.callQ e rfl rfl ?_; (first | refine CallQ.mk (c2) rfl rfl ?_); refine AWP.runL e tab_ok L19 300 rfl (by  (simp [in64] <;> omega)) ?_)

    )
  refine AWP.eqT 2 (.s (strL (l ++ bitsOf (s.setWidth 64) 15))) rfl (congrArg SV.s (str_app _ _)) ?_
  refine AWP.ret e tab_ok rfl ?_
  rw [hP]
  all_goals rfl
def chk (l : List UInt8) : Bool := wellB l && (decide (15 ≤ l.length) && (crc l == 0#32))
set_option maxRecDepth 100000 in
theorem check_eff (l : List UInt8) : Eff Tryz.prog 25 [.s (strL l)] [] 0 (fun r _ _ => r = .b (chk l)) := by
  have hsz : (strL l).size = l.length := strL_size l
  refine eff_of Tryz.func25 rfl rfl rfl fun cx e hP => ?_
  unfold chk at hP
  rcases cases_b (wellB l) with h | h
  · have hl2 : l.length ≤ 4000 := by unfold wellB at h; simp only [Bool.and_eq_true, decide_eq_true_eq] at h; exact h.1
    have c1 := crc_ok l h
    have h0 : (((crc l).toNat : Int) == 0) = (crc l == 0#32) := by
      rw [Bool.eq_iff_iff, beq_iff_eq, beq_iff_eq]; exact bv_eq0 _
    rw [h, ← h0] at hP
    by_cases g : 15 ≤ l.length
    · rw [show decide (15 ≤ l.length) = true by simpa using g] at hP
      refine AWP.runL e tab_ok L25 300 rfl (by trivial ) ?_
      repeat (
        first
          | (refine AWP.askT rfl ?_; (first | (refine Told.t rfl ?_) | (refine Told.t ?_ ?_; (focus ((simp; omega)); done))); refine AWP.runL e tab_ok L25 300 rfl (by trivial ) ?_)
          | (refine AWP.callQ e rfl rfl ?_; (first | refine CallQ.mk (c1) rfl rfl ?_); refine AWP.runL e tab_ok L25 300 rfl (by trivial ) ?_)

        )
      refine AWP.ret e tab_ok rfl ?_
      rw [hP]
      all_goals rfl
    · rw [show decide (15 ≤ l.length) = false by simpa using g] at hP
      refine AWP.runL e tab_ok L25 300 rfl (by trivial ) ?_
      repeat (
        first
          | (refine AWP.askT rfl ?_; (first | (refine Told.t rfl ?_) | (refine Told.f ?_ ?_; (focus ((simp; omega)); done))); refine AWP.runL e tab_ok L25 300 rfl (by trivial ) ?_)
          | (refine AWP.callQ e rfl rfl ?_; (first | refine CallQ.mk (c1) rfl rfl ?_); refine AWP.runL e tab_ok L25 300 rfl (by trivial ) ?_)

        )
      refine AWP.ret e tab_ok rfl ?_
      rw [hP]
      all_goals rfl
  · have c1 := crc_bad l h
    rw [h] at hP
    refine AWP.runL e tab_ok L25 300 rfl (by trivial ) ?_
    repeat (
      first
        | (refine AWP.askT rfl ?_; ( (refine Told.f rfl ?_) ); refine AWP.runL e tab_ok L25 300 rfl (by trivial ) ?_)
        | (refine AWP.callQ e rfl rfl ?_; (first | refine CallQ.mk (c1) rfl rfl ?_); refine AWP.runL e tab_ok L25 300 rfl (by trivial ) ?_)

      )
    refine AWP.ret e tab_ok rfl ?_
    rw [hP]
    all_goals rfl

end Go.Proofs.YthdcegeampcalaaGreatDoor
