import Derived.Test.YthibaeeoegoliaaF17
open Go Go.Proofs Go.RowKit Go.Sy Go.Signal
namespace Go.Proofs.Ythibaeeoegoliaa

/-! ### the reference's -/
/-- 2 to the k, doubled step by step; a number halved step by step. -/
theorem with_chk : all8 (fun x k => IntKind.wrap .u8 ((BitVec.ofInt IntKind.u8.bits (x : Int) ||| BitVec.ofInt IntKind.u8.bits ((2 ^ k : Nat) : Int)).toNat : Int) == ((setN x k true : Nat) : Int) &&
    IntKind.wrap .u8 (((setN x k true : Nat) : Int) - ((2 ^ k : Nat) : Int)) == ((setN x k false : Nat) : Int)) = true := by kernel_rfl
theorem with_or (x : UInt8) {k : Nat} (hk : k < 8) : IntKind.wrap .u8 ((BitVec.ofInt IntKind.u8.bits (x.toNat : Int) ||| BitVec.ofInt IntKind.u8.bits ((2 ^ k : Nat) : Int)).toNat : Int) = ((setU x k true).toNat : Int) := by
  have h := all8_at with_chk x.toNat_lt hk
  rw [Bool.and_eq_true] at h
  rw [setU_nat x hk]
  exact eq_of_beq h.1
theorem with_sub (x : UInt8) {k : Nat} (hk : k < 8) : IntKind.wrap .u8 (((setU x k true).toNat : Int) - ((2 ^ k : Nat) : Int)) = ((setU x k false).toNat : Int) := by
  have h := all8_at with_chk x.toNat_lt hk
  rw [Bool.and_eq_true] at h
  rw [setU_nat x hk, setU_nat x hk]
  exact eq_of_beq h.2
theorem dbl (i : Nat) (hi : i < 7) : IntKind.wrap .u8 (2 * ((2 ^ i : Nat) : Int)) = ((2 ^ (i + 1) : Nat) : Int) := by
  have : i = 0 ∨ i = 1 ∨ i = 2 ∨ i = 3 ∨ i = 4 ∨ i = 5 ∨ i = 6 := by omega
  rcases this with rfl | rfl | rfl | rfl | rfl | rfl | rfl <;> decide
set_option maxRecDepth 100000 in
set_option maxHeartbeats 4000000 in
theorem With_eff (d : List UInt8) (x : Nat) (b : Bool) (hd : d.length ≤ 1000) (hx : x < 8 * d.length) : Eff Try.prog 30 [.s (strL d), .i x, .b b] [] 0 (fun r _ _ => r = .s (strL (setBit d x b))) := by
  have hz : (strL d).size = d.length := strL_size d
  have hq := div8 x
  have hr := mod8 x
  refine eff_of Try.func30 rfl rfl rfl fun cx e hP => ?_
  refine AWP.runL e tab_ok L30 300 rfl (by first | trivial | (simp [in64] <;> omega) | (simp only [in64, true_and, and_true]; omega)) ?_
  refine AWP.strBytes e tab_ok rfl rfl rfl rfl rfl rfl rfl rfl (by rw [hz]; omega) fun C hC => ?_
  rw [strL_data, hz]
  refine AWP.runL e tab_ok L30 300 rfl (by first | trivial | (simp [in64] <;> omega) | (simp only [in64, true_and, and_true]; omega)) ?_
  refine AWP.loop (ι := Nat) (fun i => ⟨[(9, .i i), (8, .d (.v (.int .u8 ((2 ^ i : Nat) : Int)))), (7, .own 0 1 0 d.length C), (1, .i x), (2, .b b)], [(0, .row 5 true 1 (d.map u8S) C)], 1⟩) (fun i => i ≤ x % 8) (fun i => x % 8 - i) 0 (Nat.zero_le _) ?_ ?_
  · intro g
    refine AWP.less e ?_ ?_ ?_ ?_ ?_ (g) <;> (repeat' (first | exact True.intro | (refine And.intro ?_ ?_) | rfl | assumption))
    exact u8_ids _ 1
  intro i Φ hi next
  refine AWP.runL e tab_ok L30 300 rfl (by first | trivial | (simp [in64] <;> omega) | (simp only [in64, true_and, and_true]; omega)) ?_
  refine AWP.cond2 rfl (fun hil => ?_) (fun hil => ?_)
  · have hil : i < x % 8 := by rw [hr] at hil; have := of_decide_eq_true hil; omega
    have nx := next (i + 1) hil (by omega)
    clear next
    have hd1 := dbl i (by omega)
    generalize (2 ^ (i + 1) : Nat) = y at *
    generalize (2 ^ i : Nat) = z at *
    refine AWP.runL e tab_ok L30 300 rfl (by first | trivial | (simp [in64] <;> omega) | (simp only [in64, true_and, and_true]; omega)) ?_
    refine AWP.eqT 8 (.d (.v (.int .u8 (y : Int)))) rfl (congrArg (fun z => SV.d (.v (.int .u8 z))) hd1) ?_
    refine AWP.less e ?_ ?_ ?_ ?_ ?_ (nx) <;> (repeat' (first | exact True.intro | (refine And.intro ?_ ?_) | rfl | assumption))
    exact u8_ids _ 1
  · have hil : ¬ i < x % 8 := by rw [hr] at hil; have := of_decide_eq_false hil; omega
    obtain rfl : i = x % 8 := by have : i ≤ x % 8 := hi; omega
    have hx8 : x / 8 < d.length := by omega
    have hm : x % 8 < 8 := Nat.mod_lt x (show 0 < 8 by decide)
    have g1 := u8_at d hx8
    have k1 := with_or (d.getD (x / 8) 0) hm
    have k2 := with_sub (d.getD (x / 8) 0) hm
    have s1 : (d.map u8S).set (x / 8) (u8S (setU (d.getD (x / 8) 0) (x % 8) true)) = (d.set (x / 8) (setU (d.getD (x / 8) 0) (x % 8) true)).map u8S := u8_set _ _ _
    have g2 := u8_at (d.set (x / 8) (setU (d.getD (x / 8) 0) (x % 8) true)) (show x / 8 < _ by rw [List.length_set]; exact hx8)
    rw [show (d.set (x / 8) (setU (d.getD (x / 8) 0) (x % 8) true)).getD (x / 8) 0 = setU (d.getD (x / 8) 0) (x % 8) true from by rw [List.getD_eq_getElem?_getD, List.getElem?_set_self hx8]; rfl] at g2
    have s2 : ((d.set (x / 8) (setU (d.getD (x / 8) 0) (x % 8) true)).map u8S).set (x / 8) (u8S (setU (d.getD (x / 8) 0) (x % 8) false)) = (setBit d x false).map u8S := by
      rw [u8_set, List.set_set]; rfl
    generalize (2 ^ (x % 8) : Nat) = z at *
    refine AWP.runL e tab_ok L30 300 rfl (by first | trivial | (simp [in64] <;> omega) | (simp only [in64, true_and, and_true]; omega)) ?_
    refine AWP.idx_own e tab_ok rfl rfl rfl rfl (x / 8) hq hx8 ?_
    refine AWP.load_el e tab_ok rfl rfl rfl rfl (by rw [Nat.zero_add]; exact g1) rfl ?_
    refine AWP.runL e tab_ok L30 300 rfl (by first | trivial | (simp [in64] <;> omega) | (simp only [in64, true_and, and_true]; omega)) ?_
    refine AWP.eqT 29 (.d (.v (.int .u8 ((setU (d.getD (x / 8) 0) (x % 8) true).toNat : Int)))) rfl (congrArg (fun z => SV.d (.v (.int .u8 z))) k1) ?_
    refine AWP.idx_own e tab_ok rfl rfl rfl rfl (x / 8) hq hx8 ?_
    refine AWP.store_el e tab_ok rfl rfl rfl rfl rfl (by rw [Nat.zero_add]; exact g1) rfl rfl rfl rfl ?_
    rw [Nat.zero_add, s1]
    cases b with
    | true =>
      refine AWP.runL e tab_ok L30 300 rfl (by first | trivial | (simp [in64] <;> omega) | (simp only [in64, true_and, and_true]; omega)) ?_
      repeat (
        first
          | (refine AWP.askT rfl ?_; (first | (refine Told.t rfl ?_) | (refine Told.f rfl ?_) | (refine Told.t ?_ ?_; (focus assumption)) | (refine Told.f ?_ ?_; (focus assumption)) | (refine Told.t ?_ ?_; (focus (first | (simp; omega) | (simp [*]; done)); done)) | (refine Told.f ?_ ?_; (focus (first | (simp; omega) | (simp [*]; done)); done))); refine AWP.runL e tab_ok L30 300 rfl (by first | trivial | (simp [in64] <;> omega) | (simp only [in64, true_and, and_true]; omega)) ?_)
          | (refine AWP.eq_agg e tab_ok rfl rfl rfl (.inl ⟨rfl, rfl⟩) ?_ 5 (by omega) rfl ?_ rfl rfl rfl rfl rfl rfl rfl ?_; (focus kernel_rfl); (focus kernel_rfl); refine AWP.runL e tab_ok L30 300 rfl (by first | trivial | (simp [in64] <;> omega) | (simp only [in64, true_and, and_true]; omega)) ?_)
          | (refine AWP.eq_agg e tab_ok rfl rfl rfl (.inr ⟨rfl, rfl⟩) ?_ 5 (by omega) rfl ?_ rfl rfl rfl rfl rfl rfl rfl ?_; (focus kernel_rfl); (focus kernel_rfl); refine AWP.runL e tab_ok L30 300 rfl (by first | trivial | (simp [in64] <;> omega) | (simp only [in64, true_and, and_true]; omega)) ?_)
        )
      refine AWP.bytesStr e tab_ok (setBit d x true) rfl rfl rfl rfl rfl rfl rfl rfl rfl ?_ ?_ ?_
      · exact (setBit_len _ _ _).symm
      · intro q b hb
        rw [Nat.zero_add]
        show ((setBit d x true).map u8S)[q]? = _
        rw [List.getElem?_map, hb]
        rfl
      refine AWP.runL e tab_ok L30 300 rfl (by first | trivial | (simp [in64] <;> omega) | (simp only [in64, true_and, and_true]; omega)) ?_
      refine AWP.ret e tab_ok rfl ?_
      rw [hP]
      all_goals first | rfl | (simp [strip]; done)
    | false =>
      refine AWP.runL e tab_ok L30 300 rfl (by first | trivial | (simp [in64] <;> omega) | (simp only [in64, true_and, and_true]; omega)) ?_
      repeat (
        first
          | (refine AWP.askT rfl ?_; (first | (refine Told.t rfl ?_) | (refine Told.f rfl ?_) | (refine Told.t ?_ ?_; (focus assumption)) | (refine Told.f ?_ ?_; (focus assumption)) | (refine Told.t ?_ ?_; (focus (first | (simp; omega) | (simp [*]; done)); done)) | (refine Told.f ?_ ?_; (focus (first | (simp; omega) | (simp [*]; done)); done))); refine AWP.runL e tab_ok L30 300 rfl (by first | trivial | (simp [in64] <;> omega) | (simp only [in64, true_and, and_true]; omega)) ?_)
          | (refine AWP.eq_agg e tab_ok rfl rfl rfl (.inl ⟨rfl, rfl⟩) ?_ 5 (by omega) rfl ?_ rfl rfl rfl rfl rfl rfl rfl ?_; (focus kernel_rfl); (focus kernel_rfl); refine AWP.runL e tab_ok L30 300 rfl (by first | trivial | (simp [in64] <;> omega) | (simp only [in64, true_and, and_true]; omega)) ?_)
          | (refine AWP.eq_agg e tab_ok rfl rfl rfl (.inr ⟨rfl, rfl⟩) ?_ 5 (by omega) rfl ?_ rfl rfl rfl rfl rfl rfl rfl ?_; (focus kernel_rfl); (focus kernel_rfl); refine AWP.runL e tab_ok L30 300 rfl (by first | trivial | (simp [in64] <;> omega) | (simp only [in64, true_and, and_true]; omega)) ?_)
        )
      refine AWP.idx_own e tab_ok rfl rfl rfl rfl (x / 8) hq hx8 ?_
      refine AWP.load_el e tab_ok rfl rfl rfl rfl (by rw [Nat.zero_add]; exact g2) rfl ?_
      refine AWP.runL e tab_ok L30 300 rfl (by first | trivial | (simp [in64] <;> omega) | (simp only [in64, true_and, and_true]; omega)) ?_
      refine AWP.eqT 42 (.d (.v (.int .u8 ((setU (d.getD (x / 8) 0) (x % 8) false).toNat : Int)))) rfl (congrArg (fun z => SV.d (.v (.int .u8 z))) k2) ?_
      refine AWP.idx_own e tab_ok rfl rfl rfl rfl (x / 8) hq hx8 ?_
      refine AWP.store_el e tab_ok rfl rfl rfl rfl rfl (by rw [Nat.zero_add]; exact g2) rfl rfl rfl rfl ?_
      rw [Nat.zero_add, s2]
      refine AWP.runL e tab_ok L30 300 rfl (by first | trivial | (simp [in64] <;> omega) | (simp only [in64, true_and, and_true]; omega)) ?_
      refine AWP.bytesStr e tab_ok (setBit d x false) rfl rfl rfl rfl rfl rfl rfl rfl rfl ?_ ?_ ?_
      · exact (setBit_len _ _ _).symm
      · intro q b hb
        rw [Nat.zero_add, List.getElem?_map, hb]
        rfl
      refine AWP.runL e tab_ok L30 300 rfl (by first | trivial | (simp [in64] <;> omega) | (simp only [in64, true_and, and_true]; omega)) ?_
      refine AWP.ret e tab_ok rfl ?_
      rw [hP]
      all_goals first | rfl | (simp [strip]; done)
end Go.Proofs.Ythibaeeoegoliaa
