import Derived.Test.YtldbeeiabgmfhaaDoorF5
open Go Go.Proofs Go.Sy
namespace Go.Proofs.YtldbeeiabgmfhaaDoor

theorem str_ne (a : List UInt8) : ((strL a).toList == (ByteArray.mk #[]).toList) = a.isEmpty := by
  rw [strL_toList, show (ByteArray.mk #[]).toList = [] from strL_toList []]
  cases a <;> rfl
theorem well_len {l : List UInt8} (h : wellB l = true) : l.length ≤ 4000 := by unfold wellB at h; simp only [Bool.and_eq_true, decide_eq_true_eq] at h; exact h.1
theorem z0 (s : BitVec 32) : (s == 0#32) = ((s.toNat : Int) == 0) := by
  rw [Bool.eq_iff_iff, beq_iff_eq, beq_iff_eq]; exact (bv_eq0 _).symm
abbrev cutP (s l : List UInt8) : Prop := (strL s).extract 0 (if (4010 : Int) < ((strL s).size : Int) then (4010 : Int) else ((strL s).size : Int)).toNat = strL l
set_option maxRecDepth 100000 in
set_option maxHeartbeats 2000000 in
theorem sums_bad (s l : List UInt8) (x : BitVec 32) (b : UInt8) (hl : l.length ≤ 4010) (hcut : cutP s l) (hw : wellB l = false) : Eff Tryd.prog 5 [.s (strL s), U32 x, U b] [] 0 (fun r _ _ => r = .b true) := by
  have c6 := crc_bad l hw
  have c7 := frame_bad l (.inl hw)
  have hsz : (strL l).size = l.length := strL_size l
  have c1 := step_eff x b
  have c2 := refstep_eff x b
  have c3 := alive_eff
  have c4 := check_eff l
  have c5 := refright_eff l (by omega)
  have u1 : ((((cst x b).toNat : Int)) != (((cst x b).toNat : Int))) = false := by simp
  generalize cst x b = y at *
  refine eff_of Tryd.func5 rfl rfl rfl fun cx e hP => ?_
  rw [hw] at c5
  rw [show chk l = false by unfold chk; rw [hw]; rfl] at c4
  refine AWP.runL e tab_ok L5 300 rfl (by first | trivial | (simp [] <;> omega) | (simp only [in64, true_and, and_true]; omega)) ?_
  refine AWP.eqT 0 (.s (strL l)) rfl (congrArg SV.s hcut) ?_
  refine AWP.eqT 18 (.s (strL l)) rfl (congrArg SV.s hcut) ?_
  repeat (
    first
      | (refine AWP.askT rfl ?_; (first | (refine Told.t rfl ?_) | (refine Told.f rfl ?_) | (refine Told.t ?_ ?_; (focus assumption)) | (refine Told.f ?_ ?_; (focus assumption)) | (refine Told.t ?_ ?_; (focus (first | (simp; omega) | (simp [*]; done)); done)) | (refine Told.f ?_ ?_; (focus (first | (simp; omega) | (simp [*]; done)); done))); refine AWP.runL e tab_ok L5 300 rfl (by first | trivial | (simp [in64] <;> omega) | (simp only [in64, true_and, and_true]; omega)) ?_)
      | (refine AWP.callQ e rfl rfl ?_; (first | refine CallQ.mk (c6) rfl rfl ?_ | refine CallQ.mk (c7) rfl rfl ?_ | refine CallQ.mk (c5) rfl rfl ?_ | refine CallQ.mk (c1) rfl rfl ?_ | refine CallQ.mk (c2) rfl rfl ?_ | refine CallQ.mk (c4) rfl rfl ?_ | refine CallQ.mk (c3) rfl rfl ?_); refine AWP.runL e tab_ok L5 300 rfl (by first | trivial | (simp [in64] <;> omega) | (simp only [in64, true_and, and_true]; omega)) ?_)
      | (refine AWP.eq_agg e tab_ok rfl rfl rfl (.inl ⟨rfl, rfl⟩) ?_ 5 (by omega) rfl ?_ rfl rfl rfl rfl rfl rfl rfl ?_; (focus kernel_rfl); (focus kernel_rfl); refine AWP.runL e tab_ok L5 300 rfl (by first | trivial | (simp [in64] <;> omega) | (simp only [in64, true_and, and_true]; omega)) ?_)
      | (refine AWP.eq_agg e tab_ok rfl rfl rfl (.inr ⟨rfl, rfl⟩) ?_ 5 (by omega) rfl ?_ rfl rfl rfl rfl rfl rfl rfl ?_; (focus kernel_rfl); (focus kernel_rfl); refine AWP.runL e tab_ok L5 300 rfl (by first | trivial | (simp [in64] <;> omega) | (simp only [in64, true_and, and_true]; omega)) ?_)
    )
  refine AWP.ret e tab_ok rfl ?_
  rw [hP]
  all_goals first | rfl | (simp [strip]; done)
set_option maxRecDepth 100000 in
set_option maxHeartbeats 2000000 in
theorem sums_ok (s l : List UInt8) (x : BitVec 32) (b : UInt8) (hcut : cutP s l) (hw : wellB l = true) : Eff Tryd.prog 5 [.s (strL s), U32 x, U b] [] 0 (fun r _ _ => r = .b true) := by
  have hl := well_len hw
  have c6 := crc_ok l hw
  have c8 := refcrc_eff l hw
  have u2 : ((((crc l).toNat : Int)) != (((crc l).toNat : Int))) = false := by simp
  have u3 : (!((((crc l).toNat : Int) == 0) == (((crc l).toNat : Int) == 0))) = false := by simp
  by_cases h1 : l.length < 15
  · have c7 := frame_ok l hw (by omega)
    have c9 := refof_eff ((crc l).setWidth 64) 15 (by decide)
    have hu := up64 (crc l)
    have hz : (strL (bitsOf ((crc l).setWidth 64) 15)).size = 15 := by rw [strL_size, bitsOf_len]
    have ha : strL l ++ strL (bitsOf ((crc l).setWidth 64) 15) = strL (frm l) := str_app _ _
    have g1 : ((strL (frm l)).toList == (strL (frm l)).toList) = true := by simp
    have hsz : (strL l).size = l.length := strL_size l
    have c1 := step_eff x b
    have c2 := refstep_eff x b
    have c3 := alive_eff
    have c4 := check_eff l
    have c5 := refright_eff l (by omega)
    have u1 : ((((cst x b).toNat : Int)) != (((cst x b).toNat : Int))) = false := by simp
    generalize cst x b = y at *
    refine eff_of Tryd.func5 rfl rfl rfl fun cx e hP => ?_
    rw [hw] at c5
    rw [show chk l = false by unfold chk; rw [hw, show decide (15 ≤ l.length) = false by simpa using h1]; rfl] at c4
    refine AWP.runL e tab_ok L5 300 rfl (by first | trivial | (simp [] <;> omega) | (simp only [in64, true_and, and_true]; omega)) ?_
    refine AWP.eqT 0 (.s (strL l)) rfl (congrArg SV.s hcut) ?_
    refine AWP.eqT 18 (.s (strL l)) rfl (congrArg SV.s hcut) ?_
    repeat (
      first
        | (refine AWP.askT rfl ?_; (first | (refine Told.t rfl ?_) | (refine Told.f rfl ?_) | (refine Told.t ?_ ?_; (focus assumption)) | (refine Told.f ?_ ?_; (focus assumption)) | (refine Told.t ?_ ?_; (focus (first | (simp; omega) | (simp [*]; done)); done)) | (refine Told.f ?_ ?_; (focus (first | (simp; omega) | (simp [*]; done)); done))); refine AWP.runL e tab_ok L5 300 rfl (by first | trivial | (simp [in64] <;> omega) | (simp only [in64, true_and, and_true]; omega)) ?_)
        | (refine AWP.callQ e rfl rfl ?_; (first | refine CallQ.mk (c6) rfl rfl ?_ | refine CallQ.mk (c7) rfl rfl ?_ | refine CallQ.mk (c5) rfl rfl ?_ | refine CallQ.mk (c1) rfl rfl ?_ | refine CallQ.mk (c2) rfl rfl ?_ | refine CallQ.mk (c4) rfl rfl ?_ | refine CallQ.mk (c3) rfl rfl ?_ | refine CallQ.mk (c8) rfl rfl ?_); refine AWP.runL e tab_ok L5 300 rfl (by first | trivial | (simp [in64] <;> omega) | (simp only [in64, true_and, and_true]; omega)) ?_)
        | (refine AWP.eq_agg e tab_ok rfl rfl rfl (.inl ⟨rfl, rfl⟩) ?_ 5 (by omega) rfl ?_ rfl rfl rfl rfl rfl rfl rfl ?_; (focus kernel_rfl); (focus kernel_rfl); refine AWP.runL e tab_ok L5 300 rfl (by first | trivial | (simp [in64] <;> omega) | (simp only [in64, true_and, and_true]; omega)) ?_)
        | (refine AWP.eq_agg e tab_ok rfl rfl rfl (.inr ⟨rfl, rfl⟩) ?_ 5 (by omega) rfl ?_ rfl rfl rfl rfl rfl rfl rfl ?_; (focus kernel_rfl); (focus kernel_rfl); refine AWP.runL e tab_ok L5 300 rfl (by first | trivial | (simp [in64] <;> omega) | (simp only [in64, true_and, and_true]; omega)) ?_)
      )
    refine AWP.eqT 96 (U64 ((crc l).setWidth 64)) rfl (congrArg (fun z => SV.d (.v (.int .u64 z))) hu) ?_
    repeat (
      first
        | (refine AWP.askT rfl ?_; (first | (refine Told.t rfl ?_) | (refine Told.f rfl ?_) | (refine Told.t ?_ ?_; (focus assumption)) | (refine Told.f ?_ ?_; (focus assumption)) | (refine Told.t ?_ ?_; (focus (first | (simp; omega) | (simp [*]; done)); done)) | (refine Told.f ?_ ?_; (focus (first | (simp; omega) | (simp [*]; done)); done))); refine AWP.runL e tab_ok L5 300 rfl (by first | trivial | (simp [in64] <;> omega) | (simp only [in64, true_and, and_true]; omega)) ?_)
        | (refine AWP.callQ e rfl rfl ?_; (first | refine CallQ.mk (c9) rfl rfl ?_); refine AWP.runL e tab_ok L5 300 rfl (by first | trivial | (simp [] <;> omega) | (simp only [in64, true_and, and_true]; omega)) ?_)
        | (refine AWP.eq_agg e tab_ok rfl rfl rfl (.inl ⟨rfl, rfl⟩) ?_ 5 (by omega) rfl ?_ rfl rfl rfl rfl rfl rfl rfl ?_; (focus kernel_rfl); (focus kernel_rfl); refine AWP.runL e tab_ok L5 300 rfl (by first | trivial | (simp [in64] <;> omega) | (simp only [in64, true_and, and_true]; omega)) ?_)
        | (refine AWP.eq_agg e tab_ok rfl rfl rfl (.inr ⟨rfl, rfl⟩) ?_ 5 (by omega) rfl ?_ rfl rfl rfl rfl rfl rfl rfl ?_; (focus kernel_rfl); (focus kernel_rfl); refine AWP.runL e tab_ok L5 300 rfl (by first | trivial | (simp [in64] <;> omega) | (simp only [in64, true_and, and_true]; omega)) ?_)
      )
    refine AWP.ret e tab_ok rfl ?_
    rw [hP]
    exact congrArg SV.b ((congrArg (fun z : ByteArray => (strL (frm l)).toList == z.toList) ha).trans g1)
  · have e4 : chk l = (((crc l).toNat : Int) == 0) := by unfold chk; rw [hw, show decide (15 ≤ l.length) = true by simp; omega, Bool.true_and, Bool.true_and]; exact z0 _
    by_cases h2 : l.length ≤ 3985
    · have c7 := frame_ok l hw h2
      have c9 := refof_eff ((crc l).setWidth 64) 15 (by decide)
      have hu := up64 (crc l)
      have hz : (strL (bitsOf ((crc l).setWidth 64) 15)).size = 15 := by rw [strL_size, bitsOf_len]
      have ha : strL l ++ strL (bitsOf ((crc l).setWidth 64) 15) = strL (frm l) := str_app _ _
      have g1 : ((strL (frm l)).toList == (strL (frm l)).toList) = true := by simp
      have hsz : (strL l).size = l.length := strL_size l
      have c1 := step_eff x b
      have c2 := refstep_eff x b
      have c3 := alive_eff
      have c4 := check_eff l
      have c5 := refright_eff l (by omega)
      have u1 : ((((cst x b).toNat : Int)) != (((cst x b).toNat : Int))) = false := by simp
      generalize cst x b = y at *
      refine eff_of Tryd.func5 rfl rfl rfl fun cx e hP => ?_
      rw [hw] at c5
      rw [e4] at c4
      refine AWP.runL e tab_ok L5 300 rfl (by first | trivial | (simp [] <;> omega) | (simp only [in64, true_and, and_true]; omega)) ?_
      refine AWP.eqT 0 (.s (strL l)) rfl (congrArg SV.s hcut) ?_
      refine AWP.eqT 18 (.s (strL l)) rfl (congrArg SV.s hcut) ?_
      repeat (
        first
          | (refine AWP.askT rfl ?_; (first | (refine Told.t rfl ?_) | (refine Told.f rfl ?_) | (refine Told.t ?_ ?_; (focus assumption)) | (refine Told.f ?_ ?_; (focus assumption)) | (refine Told.t ?_ ?_; (focus (first | (simp; omega) | (simp [*]; done)); done)) | (refine Told.f ?_ ?_; (focus (first | (simp; omega) | (simp [*]; done)); done))); refine AWP.runL e tab_ok L5 300 rfl (by first | trivial | (simp [in64] <;> omega) | (simp only [in64, true_and, and_true]; omega)) ?_)
          | (refine AWP.callQ e rfl rfl ?_; (first | refine CallQ.mk (c6) rfl rfl ?_ | refine CallQ.mk (c7) rfl rfl ?_ | refine CallQ.mk (c5) rfl rfl ?_ | refine CallQ.mk (c1) rfl rfl ?_ | refine CallQ.mk (c2) rfl rfl ?_ | refine CallQ.mk (c4) rfl rfl ?_ | refine CallQ.mk (c3) rfl rfl ?_ | refine CallQ.mk (c8) rfl rfl ?_); refine AWP.runL e tab_ok L5 300 rfl (by first | trivial | (simp [in64] <;> omega) | (simp only [in64, true_and, and_true]; omega)) ?_)
          | (refine AWP.eq_agg e tab_ok rfl rfl rfl (.inl ⟨rfl, rfl⟩) ?_ 5 (by omega) rfl ?_ rfl rfl rfl rfl rfl rfl rfl ?_; (focus kernel_rfl); (focus kernel_rfl); refine AWP.runL e tab_ok L5 300 rfl (by first | trivial | (simp [in64] <;> omega) | (simp only [in64, true_and, and_true]; omega)) ?_)
          | (refine AWP.eq_agg e tab_ok rfl rfl rfl (.inr ⟨rfl, rfl⟩) ?_ 5 (by omega) rfl ?_ rfl rfl rfl rfl rfl rfl rfl ?_; (focus kernel_rfl); (focus kernel_rfl); refine AWP.runL e tab_ok L5 300 rfl (by first | trivial | (simp [in64] <;> omega) | (simp only [in64, true_and, and_true]; omega)) ?_)
        )
      refine AWP.eqT 96 (U64 ((crc l).setWidth 64)) rfl (congrArg (fun z => SV.d (.v (.int .u64 z))) hu) ?_
      repeat (
        first
          | (refine AWP.askT rfl ?_; (first | (refine Told.t rfl ?_) | (refine Told.f rfl ?_) | (refine Told.t ?_ ?_; (focus assumption)) | (refine Told.f ?_ ?_; (focus assumption)) | (refine Told.t ?_ ?_; (focus (first | (simp; omega) | (simp [*]; done)); done)) | (refine Told.f ?_ ?_; (focus (first | (simp; omega) | (simp [*]; done)); done))); refine AWP.runL e tab_ok L5 300 rfl (by first | trivial | (simp [in64] <;> omega) | (simp only [in64, true_and, and_true]; omega)) ?_)
          | (refine AWP.callQ e rfl rfl ?_; (first | refine CallQ.mk (c9) rfl rfl ?_); refine AWP.runL e tab_ok L5 300 rfl (by first | trivial | (simp [] <;> omega) | (simp only [in64, true_and, and_true]; omega)) ?_)
          | (refine AWP.eq_agg e tab_ok rfl rfl rfl (.inl ⟨rfl, rfl⟩) ?_ 5 (by omega) rfl ?_ rfl rfl rfl rfl rfl rfl rfl ?_; (focus kernel_rfl); (focus kernel_rfl); refine AWP.runL e tab_ok L5 300 rfl (by first | trivial | (simp [in64] <;> omega) | (simp only [in64, true_and, and_true]; omega)) ?_)
          | (refine AWP.eq_agg e tab_ok rfl rfl rfl (.inr ⟨rfl, rfl⟩) ?_ 5 (by omega) rfl ?_ rfl rfl rfl rfl rfl rfl rfl ?_; (focus kernel_rfl); (focus kernel_rfl); refine AWP.runL e tab_ok L5 300 rfl (by first | trivial | (simp [in64] <;> omega) | (simp only [in64, true_and, and_true]; omega)) ?_)
        )
      refine AWP.ret e tab_ok rfl ?_
      rw [hP]
      exact congrArg SV.b ((congrArg (fun z : ByteArray => (strL (frm l)).toList == z.toList) ha).trans g1)
    · have c7 := frame_bad l (.inr (by omega))
      have hsz : (strL l).size = l.length := strL_size l
      have c1 := step_eff x b
      have c2 := refstep_eff x b
      have c3 := alive_eff
      have c4 := check_eff l
      have c5 := refright_eff l (by omega)
      have u1 : ((((cst x b).toNat : Int)) != (((cst x b).toNat : Int))) = false := by simp
      generalize cst x b = y at *
      refine eff_of Tryd.func5 rfl rfl rfl fun cx e hP => ?_
      rw [hw] at c5
      rw [e4] at c4
      refine AWP.runL e tab_ok L5 300 rfl (by first | trivial | (simp [] <;> omega) | (simp only [in64, true_and, and_true]; omega)) ?_
      refine AWP.eqT 0 (.s (strL l)) rfl (congrArg SV.s hcut) ?_
      refine AWP.eqT 18 (.s (strL l)) rfl (congrArg SV.s hcut) ?_
      repeat (
        first
          | (refine AWP.askT rfl ?_; (first | (refine Told.t rfl ?_) | (refine Told.f rfl ?_) | (refine Told.t ?_ ?_; (focus assumption)) | (refine Told.f ?_ ?_; (focus assumption)) | (refine Told.t ?_ ?_; (focus (first | (simp; omega) | (simp [*]; done)); done)) | (refine Told.f ?_ ?_; (focus (first | (simp; omega) | (simp [*]; done)); done))); refine AWP.runL e tab_ok L5 300 rfl (by first | trivial | (simp [in64] <;> omega) | (simp only [in64, true_and, and_true]; omega)) ?_)
          | (refine AWP.callQ e rfl rfl ?_; (first | refine CallQ.mk (c6) rfl rfl ?_ | refine CallQ.mk (c7) rfl rfl ?_ | refine CallQ.mk (c5) rfl rfl ?_ | refine CallQ.mk (c1) rfl rfl ?_ | refine CallQ.mk (c2) rfl rfl ?_ | refine CallQ.mk (c4) rfl rfl ?_ | refine CallQ.mk (c3) rfl rfl ?_ | refine CallQ.mk (c8) rfl rfl ?_); refine AWP.runL e tab_ok L5 300 rfl (by first | trivial | (simp [in64] <;> omega) | (simp only [in64, true_and, and_true]; omega)) ?_)
          | (refine AWP.eq_agg e tab_ok rfl rfl rfl (.inl ⟨rfl, rfl⟩) ?_ 5 (by omega) rfl ?_ rfl rfl rfl rfl rfl rfl rfl ?_; (focus kernel_rfl); (focus kernel_rfl); refine AWP.runL e tab_ok L5 300 rfl (by first | trivial | (simp [in64] <;> omega) | (simp only [in64, true_and, and_true]; omega)) ?_)
          | (refine AWP.eq_agg e tab_ok rfl rfl rfl (.inr ⟨rfl, rfl⟩) ?_ 5 (by omega) rfl ?_ rfl rfl rfl rfl rfl rfl rfl ?_; (focus kernel_rfl); (focus kernel_rfl); refine AWP.runL e tab_ok L5 300 rfl (by first | trivial | (simp [in64] <;> omega) | (simp only [in64, true_and, and_true]; omega)) ?_)
        )
      refine AWP.ret e tab_ok rfl ?_
      rw [hP]
      all_goals first | rfl | (simp [strip]; done)
theorem u32_of {z : Int} (h1 : IntKind.min .u32 ≤ z) (h2 : z ≤ IntKind.max .u32) : ∃ x : BitVec 32, z = (x.toNat : Int) := bv_of h1 (by have : z ≤ 4294967295 := h2; omega)
theorem u8_of {z : Int} (h1 : IntKind.min .u8 ≤ z) (h2 : z ≤ IntKind.max .u8) : ∃ x : UInt8, z = (x.toNat : Int) := by
  obtain ⟨x, h⟩ := bv_of (n := 8) h1 (by have : z ≤ 255 := h2; omega)
  exact ⟨⟨x⟩, h⟩
theorem sums_args (l : List SV) (h : Args tab 9 [9, 24, 5] l) : Eff Tryd.prog 5 l [] 0 (fun r _ _ => r = .b true) := by
  obtain ⟨_, _, rfl, ⟨s, rfl, _⟩, _, _, rfl, ⟨x, rfl, x1, x2⟩, _, _, rfl, ⟨b, rfl, b1, b2⟩, rfl⟩ := h
  obtain ⟨x, rfl⟩ := u32_of x1 x2
  obtain ⟨b, rfl⟩ := u8_of b1 b2
  rw [strL_of s]
  generalize s.data.toList = s
  have hl : (s.take 4010).length ≤ 4010 := by simp; omega
  rcases cases_b (wellB (s.take 4010)) with hw | hw
  · exact sums_ok s _ x b (cut_str s 4010) hw
  · exact sums_bad s _ x b hl (cut_str s 4010) hw

/-! ### CrcSteps -/
theorem mm (cut : Int) (n : Nat) : ∃ k : Nat, k ≤ n ∧ (if (n : Int) < (if (0 : Int) > cut then 0 else cut) then (n : Int) else (if (0 : Int) > cut then 0 else cut)) = k := by
  refine ⟨(if (n : Int) < (if (0 : Int) > cut then 0 else cut) then (n : Int) else (if (0 : Int) > cut then 0 else cut)).toNat, ?_, ?_⟩
  · split <;> split <;> omega
  · split <;> split <;> omega
set_option maxRecDepth 100000 in
set_option maxHeartbeats 2000000 in
theorem steps_ok (s l : List UInt8) (cut : Int) (hl : l.length ≤ 300) (hcut : (strL s).extract 0 (if (300 : Int) < ((strL s).size : Int) then (300 : Int) else ((strL s).size : Int)).toNat = strL l) : Eff Tryd.prog 4 [.s (strL s), .i cut] [] 0 (fun r _ _ => r = .b true) := by
  have hsz : (strL l).size = l.length := strL_size l
  have c3 := alive_eff
  have c5 := refright_eff l (by omega)
  refine eff_of Tryd.func4 rfl rfl rfl fun cx e hP => ?_
  rcases cases_b (wellB l) with hw | hw <;> rw [hw] at c5
  · obtain ⟨k, hk, hm⟩ := mm cut (strL l).size
    have hkl : k ≤ l.length := by omega
    have hwk : wellB (l.take k) = true := by
      unfold wellB at hw ⊢
      simp only [Bool.and_eq_true, decide_eq_true_eq, List.length_take] at hw ⊢
      exact ⟨by omega, List.all_eq_true.2 fun b hb => List.all_eq_true.1 hw.2 b (List.mem_of_mem_take hb)⟩
    have c6 := crc_ok _ hwk
    have c7 := crc_ok l hw
    have ht := str_take l k hkl
    have u2 : ((((crc l).toNat : Int)) == (((crc l).toNat : Int))) = true := by simp
    refine AWP.runL e tab_ok L4 300 rfl (by first | trivial | (simp [] <;> omega) | (simp only [in64, true_and, and_true]; omega)) ?_
    refine AWP.eqT 0 (.s (strL l)) rfl (congrArg SV.s hcut) ?_
    refine AWP.eqT 15 (.s (strL l)) rfl (congrArg SV.s hcut) ?_
    repeat (
      first
        | (refine AWP.askT rfl ?_; (first | (refine Told.t rfl ?_) | (refine Told.f rfl ?_) | (refine Told.t ?_ ?_; (focus assumption)) | (refine Told.f ?_ ?_; (focus assumption)) | (refine Told.t ?_ ?_; (focus (first | (simp; omega) | (simp [*]; done)); done)) | (refine Told.f ?_ ?_; (focus (first | (simp; omega) | (simp [*]; done)); done))); refine AWP.runL e tab_ok L4 300 rfl (by first | trivial | (simp [] <;> omega) | (simp only [in64, true_and, and_true]; omega)) ?_)
        | (refine AWP.callQ e rfl rfl ?_; (first | refine CallQ.mk (c5) rfl rfl ?_); refine AWP.runL e tab_ok L4 300 rfl (by first | trivial | (simp [in64] <;> omega) | (simp only [in64, true_and, and_true]; omega)) ?_)
        | (refine AWP.eq_agg e tab_ok rfl rfl rfl (.inl ⟨rfl, rfl⟩) ?_ 5 (by omega) rfl ?_ rfl rfl rfl rfl rfl rfl rfl ?_; (focus kernel_rfl); (focus kernel_rfl); refine AWP.runL e tab_ok L4 300 rfl (by first | trivial | (simp [in64] <;> omega) | (simp only [in64, true_and, and_true]; omega)) ?_)
        | (refine AWP.eq_agg e tab_ok rfl rfl rfl (.inr ⟨rfl, rfl⟩) ?_ 5 (by omega) rfl ?_ rfl rfl rfl rfl rfl rfl rfl ?_; (focus kernel_rfl); (focus kernel_rfl); refine AWP.runL e tab_ok L4 300 rfl (by first | trivial | (simp [in64] <;> omega) | (simp only [in64, true_and, and_true]; omega)) ?_)
      )
    have h27 : (strL l).extract 0 (if ((strL l).size : Int) < (if (0 : Int) > cut then 0 else cut) then ((strL l).size : Int) else (if (0 : Int) > cut then 0 else cut)).toNat = strL (l.take k) := by rw [hm]; exact ht
    refine AWP.eqT 1 (.i k) rfl (congrArg SV.i hm) ?_
    refine AWP.eqT 27 (.s (strL (l.take k))) rfl (congrArg SV.s h27) ?_
    repeat (
      first
        | (refine AWP.askT rfl ?_; (first | (refine Told.t rfl ?_) | (refine Told.f rfl ?_) | (refine Told.t ?_ ?_; (focus assumption)) | (refine Told.f ?_ ?_; (focus assumption)) | (refine Told.t ?_ ?_; (focus (first | (simp; omega) | (simp [*]; done)); done)) | (refine Told.f ?_ ?_; (focus (first | (simp; omega) | (simp [*]; done)); done))); refine AWP.runL e tab_ok L4 300 rfl (by first | trivial | (simp [in64] <;> omega) | (simp only [in64, true_and, and_true]; omega)) ?_)
        | (refine AWP.callQ e rfl rfl ?_; (first | refine CallQ.mk (c6) rfl rfl ?_); refine AWP.runL e tab_ok L4 300 rfl (by first | trivial | (simp [in64] <;> omega) | (simp only [in64, true_and, and_true]; omega)) ?_)
        | (refine AWP.eq_agg e tab_ok rfl rfl rfl (.inl ⟨rfl, rfl⟩) ?_ 5 (by omega) rfl ?_ rfl rfl rfl rfl rfl rfl rfl ?_; (focus kernel_rfl); (focus kernel_rfl); refine AWP.runL e tab_ok L4 300 rfl (by first | trivial | (simp [in64] <;> omega) | (simp only [in64, true_and, and_true]; omega)) ?_)
        | (refine AWP.eq_agg e tab_ok rfl rfl rfl (.inr ⟨rfl, rfl⟩) ?_ 5 (by omega) rfl ?_ rfl rfl rfl rfl rfl rfl rfl ?_; (focus kernel_rfl); (focus kernel_rfl); refine AWP.runL e tab_ok L4 300 rfl (by first | trivial | (simp [in64] <;> omega) | (simp only [in64, true_and, and_true]; omega)) ?_)
      )
    refine AWP.loop (ι := Nat) (fun j => ⟨[(7, .i j), (5, U32 (crc (l.take j))), (6, .i 0), (0, .s (strL l))], [], 0⟩) (fun j => j ≤ l.length) (fun j => l.length - j) k hkl ?_ ?_
    · intro g
      refine AWP.less e ?_ ?_ ?_ ?_ ?_ (g) <;> (repeat' (first | exact True.intro | (refine And.intro ?_ ?_) | rfl | assumption))
    rintro j Φ hj next
    have hj : j ≤ l.length := hj
    refine AWP.runL e tab_ok L4 300 rfl (by first | trivial | (simp [in64] <;> omega) | (simp only [in64, true_and, and_true]; omega)) ?_
    refine AWP.cond2 rfl (fun hlt => ?_) (fun hlt => ?_)
    · have hlt : j < l.length := by have := of_decide_eq_true hlt; omega
      have nx := next (j + 1) hlt (by show l.length - (j + 1) < l.length - j; omega)
      rw [crc_succ hlt] at nx
      have hb : byteAt (strL l) j = ((l[j]).toNat : Int) := b_at l j hlt
      have c2 := step_eff (crc (l.take j)) l[j]
      clear next
      generalize l[j] = b at *
      generalize crc (l.take j) = q at *
      refine AWP.runL e tab_ok L4 300 rfl (by first | trivial | (simp [] <;> omega) | (simp only [in64, true_and, and_true]; omega)) ?_
      refine AWP.eqT 41 (U b) rfl (congrArg (fun z => SV.d (.v (.int .u8 z))) hb) ?_
      repeat (
        first
          | (refine AWP.askT rfl ?_; (first | (refine Told.t rfl ?_) | (refine Told.f rfl ?_) | (refine Told.t ?_ ?_; (focus assumption)) | (refine Told.f ?_ ?_; (focus assumption)) | (refine Told.t ?_ ?_; (focus (first | (simp; omega) | (simp [*]; done)); done)) | (refine Told.f ?_ ?_; (focus (first | (simp; omega) | (simp [*]; done)); done))); refine AWP.runL e tab_ok L4 300 rfl (by first | trivial | (simp [in64] <;> omega) | (simp only [in64, true_and, and_true]; omega)) ?_)
          | (refine AWP.callQ e rfl rfl ?_; (first | refine CallQ.mk (c2) rfl rfl ?_); refine AWP.runL e tab_ok L4 300 rfl (by first | trivial | (simp [in64] <;> omega) | (simp only [in64, true_and, and_true]; omega)) ?_)
          | (refine AWP.eq_agg e tab_ok rfl rfl rfl (.inl ⟨rfl, rfl⟩) ?_ 5 (by omega) rfl ?_ rfl rfl rfl rfl rfl rfl rfl ?_; (focus kernel_rfl); (focus kernel_rfl); refine AWP.runL e tab_ok L4 300 rfl (by first | trivial | (simp [in64] <;> omega) | (simp only [in64, true_and, and_true]; omega)) ?_)
          | (refine AWP.eq_agg e tab_ok rfl rfl rfl (.inr ⟨rfl, rfl⟩) ?_ 5 (by omega) rfl ?_ rfl rfl rfl rfl rfl rfl rfl ?_; (focus kernel_rfl); (focus kernel_rfl); refine AWP.runL e tab_ok L4 300 rfl (by first | trivial | (simp [in64] <;> omega) | (simp only [in64, true_and, and_true]; omega)) ?_)
        )
      refine AWP.less e ?_ ?_ ?_ ?_ ?_ (nx) <;> (repeat' (first | exact True.intro | (refine And.intro ?_ ?_) | rfl | assumption))
    · have hlt : ¬ j < l.length := by have := of_decide_eq_false hlt; omega
      obtain rfl : j = l.length := by omega
      rw [List.take_length]
      refine AWP.runL e tab_ok L4 300 rfl (by first | trivial | (simp [in64] <;> omega) | (simp only [in64, true_and, and_true]; omega)) ?_
      repeat (
        first
          | (refine AWP.askT rfl ?_; (first | (refine Told.t rfl ?_) | (refine Told.f rfl ?_) | (refine Told.t ?_ ?_; (focus assumption)) | (refine Told.f ?_ ?_; (focus assumption)) | (refine Told.t ?_ ?_; (focus (first | (simp; omega) | (simp [*]; done)); done)) | (refine Told.f ?_ ?_; (focus (first | (simp; omega) | (simp [*]; done)); done))); refine AWP.runL e tab_ok L4 300 rfl (by first | trivial | (simp [in64] <;> omega) | (simp only [in64, true_and, and_true]; omega)) ?_)
          | (refine AWP.callQ e rfl rfl ?_; (first | refine CallQ.mk (c7) rfl rfl ?_ | refine CallQ.mk (c3) rfl rfl ?_); refine AWP.runL e tab_ok L4 300 rfl (by first | trivial | (simp [in64] <;> omega) | (simp only [in64, true_and, and_true]; omega)) ?_)
          | (refine AWP.eq_agg e tab_ok rfl rfl rfl (.inl ⟨rfl, rfl⟩) ?_ 5 (by omega) rfl ?_ rfl rfl rfl rfl rfl rfl rfl ?_; (focus kernel_rfl); (focus kernel_rfl); refine AWP.runL e tab_ok L4 300 rfl (by first | trivial | (simp [in64] <;> omega) | (simp only [in64, true_and, and_true]; omega)) ?_)
          | (refine AWP.eq_agg e tab_ok rfl rfl rfl (.inr ⟨rfl, rfl⟩) ?_ 5 (by omega) rfl ?_ rfl rfl rfl rfl rfl rfl rfl ?_; (focus kernel_rfl); (focus kernel_rfl); refine AWP.runL e tab_ok L4 300 rfl (by first | trivial | (simp [in64] <;> omega) | (simp only [in64, true_and, and_true]; omega)) ?_)
        )
      refine AWP.ret e tab_ok rfl ?_
      rw [hP]
      all_goals first | rfl | (simp [strip]; done)
  · refine AWP.runL e tab_ok L4 300 rfl (by first | trivial | (simp [] <;> omega) | (simp only [in64, true_and, and_true]; omega)) ?_
    refine AWP.eqT 0 (.s (strL l)) rfl (congrArg SV.s hcut) ?_
    refine AWP.eqT 15 (.s (strL l)) rfl (congrArg SV.s hcut) ?_
    repeat (
      first
        | (refine AWP.askT rfl ?_; (first | (refine Told.t rfl ?_) | (refine Told.f rfl ?_) | (refine Told.t ?_ ?_; (focus assumption)) | (refine Told.f ?_ ?_; (focus assumption)) | (refine Told.t ?_ ?_; (focus (first | (simp; omega) | (simp [*]; done)); done)) | (refine Told.f ?_ ?_; (focus (first | (simp; omega) | (simp [*]; done)); done))); refine AWP.runL e tab_ok L4 300 rfl (by first | trivial | (simp [in64] <;> omega) | (simp only [in64, true_and, and_true]; omega)) ?_)
        | (refine AWP.callQ e rfl rfl ?_; (first | refine CallQ.mk (c3) rfl rfl ?_ | refine CallQ.mk (c5) rfl rfl ?_); refine AWP.runL e tab_ok L4 300 rfl (by first | trivial | (simp [in64] <;> omega) | (simp only [in64, true_and, and_true]; omega)) ?_)
        | (refine AWP.eq_agg e tab_ok rfl rfl rfl (.inl ⟨rfl, rfl⟩) ?_ 5 (by omega) rfl ?_ rfl rfl rfl rfl rfl rfl rfl ?_; (focus kernel_rfl); (focus kernel_rfl); refine AWP.runL e tab_ok L4 300 rfl (by first | trivial | (simp [in64] <;> omega) | (simp only [in64, true_and, and_true]; omega)) ?_)
        | (refine AWP.eq_agg e tab_ok rfl rfl rfl (.inr ⟨rfl, rfl⟩) ?_ 5 (by omega) rfl ?_ rfl rfl rfl rfl rfl rfl rfl ?_; (focus kernel_rfl); (focus kernel_rfl); refine AWP.runL e tab_ok L4 300 rfl (by first | trivial | (simp [in64] <;> omega) | (simp only [in64, true_and, and_true]; omega)) ?_)
      )
    refine AWP.ret e tab_ok rfl ?_
    rw [hP]
    all_goals first | rfl | (simp [strip]; done)
theorem steps_args (l : List SV) (h : Args tab 9 [9, 3] l) : Eff Tryd.prog 4 l [] 0 (fun r _ _ => r = .b true) := by
  obtain ⟨_, _, rfl, ⟨s, rfl, _⟩, _, _, rfl, ⟨k, rfl, _, _⟩, rfl⟩ := h
  rw [strL_of s]
  generalize s.data.toList = s
  exact steps_ok s _ k (by simp; omega) (cut_str s 300)
end Go.Proofs.YtldbeeiabgmfhaaDoor
