import Derived.Test.YtldbeeiabgmfhaaDoorF9
open Go Go.Proofs Go.Sy
namespace Go.Proofs.YtldbeeiabgmfhaaDoor

theorem crc_zeros (k : Nat) : crc (List.replicate k 48) = 0#32 := by
  have := crc_ahead k []
  rw [List.append_nil] at this
  rw [this]; rfl
theorem zeros_bits (k : Nat) : ∀ b ∈ List.replicate k (48 : UInt8), bit b = true := fun b hb => by rw [List.eq_of_mem_replicate hb]; rfl
theorem bits_0 : bitsOf ((0#32).setWidth 64) 15 = List.replicate 15 48 := by decide
theorem frm_0 {l : List UInt8} (h : crc l = 0#32) : frm l = l ++ List.replicate 15 48 := by unfold frm; rw [h, bits_0]
theorem chk_of {l : List UInt8} (hl : l.length ≤ 4000) (hb : ∀ b ∈ l, bit b = true) (h0 : crc l = 0#32) : chk l = decide (15 ≤ l.length) := by
  unfold chk
  rw [well_of hl hb, h0]
  simp
set_option maxRecDepth 100000 in
set_option maxHeartbeats 2000000 in
theorem zeros_ok (s l : List UInt8) (z : Int) (hl : l.length ≤ 300) (hcut : (strL s).extract 0 (if (300 : Int) < ((strL s).size : Int) then (300 : Int) else ((strL s).size : Int)).toNat = strL l) : Eff Tryd.prog 7 [.s (strL s), .i z] [] 0 (fun r _ _ => r = .b true) := by
  have al := alive_eff
  obtain ⟨k, hk, hm⟩ := mz z 100
  refine eff_of Tryd.func7 rfl rfl rfl fun cx e hP => ?_
  refine AWP.runL e tab_ok L7 300 rfl (by first | trivial | (simp [] <;> omega) | (simp only [in64, true_and, and_true]; omega)) ?_
  refine AWP.eqT 0 (.s (strL l)) rfl (congrArg SV.s hcut) ?_
  refine AWP.eqT 19 (.i k) rfl (congrArg SV.i hm) ?_
  refine AWP.loop (ι := Nat) (fun i => ⟨[(20, .i i), (19, .i k), (5, .s (strL (List.replicate i 48))), (0, .s (strL l))], [], 0⟩) (fun i => i ≤ k) (fun i => k - i) 0 (Nat.zero_le _) ?_ ?_
  · intro g
    refine AWP.less e ?_ ?_ ?_ ?_ ?_ (g) <;> (repeat' (first | exact True.intro | (refine And.intro ?_ ?_) | rfl | assumption))
  clear hcut hm
  rintro i Φ hi next
  have hi : i ≤ k := hi
  refine AWP.runL e tab_ok L7 300 rfl (by first | trivial | (simp [in64] <;> omega) | (simp only [in64, true_and, and_true]; omega)) ?_
  refine AWP.cond2 rfl (fun hlt => ?_) (fun hlt => ?_)
  · have hlt : i < k := by have := of_decide_eq_true hlt; omega
    have nx := next (i + 1) hlt (by show k - (i + 1) < k - i; omega)
    have hzi : (strL (List.replicate i (48 : UInt8))).size = i := by rw [strL_size]; simp
    have hz0 : (ByteArray.mk #[48]).size = 1 := rfl
    have hst : strL (List.replicate i 48) ++ ByteArray.mk #[48] = strL (List.replicate (i + 1) 48) := by rw [List.replicate_succ', ← str_app]; rfl
    refine AWP.runL e tab_ok L7 300 rfl (by first | trivial | (simp [in64] <;> omega) | (simp only [in64, true_and, and_true]; omega)) ?_
    refine AWP.eqT 5 (.s (strL (List.replicate (i + 1) 48))) rfl (congrArg SV.s hst) ?_
    refine AWP.less e ?_ ?_ ?_ ?_ ?_ (nx) <;> (repeat' (first | exact True.intro | (refine And.intro ?_ ?_) | rfl | assumption))
  · have hlt : ¬ i < k := by have := of_decide_eq_false hlt; omega
    obtain rfl : i = k := by omega
    clear next
    have hzi : (strL (List.replicate i (48 : UInt8))).size = i := by rw [strL_size]; simp
    have hwz : wellB (List.replicate i 48) = true := well_of (by simp; omega) (zeros_bits i)
    have c1 := crc_ok (List.replicate i 48) hwz
    rw [crc_zeros] at c1
    have c2 := check_eff (List.replicate i 48)
    rw [chk_of (by simp; omega) (zeros_bits i) (crc_zeros i), List.length_replicate] at c2
    have g1 : (!(decide (15 ≤ i) == decide (((strL (List.replicate i (48 : UInt8))).size : Int) ≥ 15))) = false := by
      rw [hzi]
      have : decide (15 ≤ i) = decide ((i : Int) ≥ 15) := by rw [Bool.eq_iff_iff]; simp; omega
      rw [this]; simp
    rcases cases_b (wellB l) with hw | hw
    · have c3 := frame_ok l hw (by omega)
      have hfb := frm_bits (well_all hw)
      have hfl := frm_len l
      have hf0 := crc_frm l
      generalize frm l = t at *
      have hwt : wellB t = true := well_of (by omega) hfb
      have c4 := frame_ok t hwt (by omega)
      rw [frm_0 hf0] at c4
      have c5 := check_eff t
      rw [chk_of (by omega) hfb hf0, show decide (15 ≤ t.length) = true by simp; omega] at c5
      have hb2 : ∀ b ∈ t ++ List.replicate 15 48, bit b = true := fun b hb => (List.mem_append.1 hb).elim (hfb b) (zeros_bits 15 b)
      have h20 : crc (t ++ List.replicate 15 48) = 0#32 := by rw [← frm_0 hf0]; exact crc_frm t
      have c6 := check_eff (t ++ List.replicate 15 48)
      rw [chk_of (by simp; omega) hb2 h20, show decide (15 ≤ (t ++ List.replicate 15 (48 : UInt8)).length) = true by simp] at c6
      have hb3 : ∀ b ∈ List.replicate i 48 ++ t, bit b = true := fun b hb => (List.mem_append.1 hb).elim (zeros_bits i b) (hfb b)
      have c7 := check_eff (List.replicate i 48 ++ t)
      rw [chk_of (by simp; omega) hb3 (by rw [crc_ahead]; exact hf0), show decide (15 ≤ (List.replicate i (48 : UInt8) ++ t).length) = true by simp; omega] at c7
      have hj : strL (List.replicate i 48) ++ strL t = strL (List.replicate i 48 ++ t) := str_app _ _
      have hj2 : ((strL (t ++ List.replicate 15 48)).toList == (strL t ++ ByteArray.mk #[48, 48, 48, 48, 48, 48, 48, 48, 48, 48, 48, 48, 48, 48, 48]).toList) = true := by
        rw [show strL t ++ ByteArray.mk #[48, 48, 48, 48, 48, 48, 48, 48, 48, 48, 48, 48, 48, 48, 48] = strL (t ++ List.replicate 15 48) from str_app t (List.replicate 15 48)]
        simp
      have hzt : (strL t).size ≤ 315 := by rw [strL_size]; omega
      have hz15 : (ByteArray.mk #[48, 48, 48, 48, 48, 48, 48, 48, 48, 48, 48, 48, 48, 48, 48]).size = 15 := rfl
      clear hfb hb2 hb3 h20
      refine AWP.runL e tab_ok L7 300 rfl (by first | trivial | (simp [in64] <;> omega) | (simp only [in64, true_and, and_true]; omega)) ?_
      repeat (
        first
          | (refine AWP.askT rfl ?_; (first | (refine Told.t rfl ?_) | (refine Told.f rfl ?_) | (refine Told.t ?_ ?_; (focus assumption)) | (refine Told.f ?_ ?_; (focus assumption)) | (refine Told.t ?_ ?_; (focus (first | (simp; omega) | (simp [*]; done)); done)) | (refine Told.f ?_ ?_; (focus (first | (simp; omega) | (simp [*]; done)); done))); refine AWP.runL e tab_ok L7 300 rfl (by first | trivial | (simp [] <;> omega) | (simp only [in64, true_and, and_true]; omega)) ?_)
          | (refine AWP.callQ e rfl rfl ?_; (first | refine CallQ.mk (c1) rfl rfl ?_ | refine CallQ.mk (c2) rfl rfl ?_ | refine CallQ.mk (al) rfl rfl ?_ | refine CallQ.mk (c3) rfl rfl ?_ | refine CallQ.mk (c4) rfl rfl ?_ | refine CallQ.mk (c5) rfl rfl ?_ | refine CallQ.mk (c6) rfl rfl ?_); refine AWP.runL e tab_ok L7 300 rfl (by first | trivial | (simp [in64] <;> omega) | (simp only [in64, true_and, and_true]; omega)) ?_)
          | (refine AWP.eq_agg e tab_ok rfl rfl rfl (.inl ⟨rfl, rfl⟩) ?_ 5 (by omega) rfl ?_ rfl rfl rfl rfl rfl rfl rfl ?_; (focus kernel_rfl); (focus kernel_rfl); refine AWP.runL e tab_ok L7 300 rfl (by first | trivial | (simp [in64] <;> omega) | (simp only [in64, true_and, and_true]; omega)) ?_)
          | (refine AWP.eq_agg e tab_ok rfl rfl rfl (.inr ⟨rfl, rfl⟩) ?_ 5 (by omega) rfl ?_ rfl rfl rfl rfl rfl rfl rfl ?_; (focus kernel_rfl); (focus kernel_rfl); refine AWP.runL e tab_ok L7 300 rfl (by first | trivial | (simp [in64] <;> omega) | (simp only [in64, true_and, and_true]; omega)) ?_)
        )
      refine AWP.eqT 86 (.s (strL (List.replicate i 48 ++ t))) rfl (congrArg SV.s hj) ?_
      repeat (
        first
          | (refine AWP.askT rfl ?_; (first | (refine Told.t rfl ?_) | (refine Told.f rfl ?_) | (refine Told.t ?_ ?_; (focus assumption)) | (refine Told.f ?_ ?_; (focus assumption)) | (refine Told.t ?_ ?_; (focus (first | (simp; omega) | (simp [*]; done)); done)) | (refine Told.f ?_ ?_; (focus (first | (simp; omega) | (simp [*]; done)); done))); refine AWP.runL e tab_ok L7 300 rfl (by first | trivial | (simp [in64] <;> omega) | (simp only [in64, true_and, and_true]; omega)) ?_)
          | (refine AWP.callQ e rfl rfl ?_; (first | refine CallQ.mk (c7) rfl rfl ?_); refine AWP.runL e tab_ok L7 300 rfl (by first | trivial | (simp [in64] <;> omega) | (simp only [in64, true_and, and_true]; omega)) ?_)
          | (refine AWP.eq_agg e tab_ok rfl rfl rfl (.inl ⟨rfl, rfl⟩) ?_ 5 (by omega) rfl ?_ rfl rfl rfl rfl rfl rfl rfl ?_; (focus kernel_rfl); (focus kernel_rfl); refine AWP.runL e tab_ok L7 300 rfl (by first | trivial | (simp [in64] <;> omega) | (simp only [in64, true_and, and_true]; omega)) ?_)
          | (refine AWP.eq_agg e tab_ok rfl rfl rfl (.inr ⟨rfl, rfl⟩) ?_ 5 (by omega) rfl ?_ rfl rfl rfl rfl rfl rfl rfl ?_; (focus kernel_rfl); (focus kernel_rfl); refine AWP.runL e tab_ok L7 300 rfl (by first | trivial | (simp [in64] <;> omega) | (simp only [in64, true_and, and_true]; omega)) ?_)
        )
      refine AWP.ret e tab_ok rfl ?_
      rw [hP]
      all_goals first | rfl | (simp [strip]; done)
    · have c3 := frame_bad l (.inl hw)
      have c4 := refright_eff l (by omega)
      rw [hw] at c4
      refine AWP.runL e tab_ok L7 300 rfl (by first | trivial | (simp [in64] <;> omega) | (simp only [in64, true_and, and_true]; omega)) ?_
      repeat (
        first
          | (refine AWP.askT rfl ?_; (first | (refine Told.t rfl ?_) | (refine Told.f rfl ?_) | (refine Told.t ?_ ?_; (focus assumption)) | (refine Told.f ?_ ?_; (focus assumption)) | (refine Told.t ?_ ?_; (focus (first | (simp; omega) | (simp [*]; done)); done)) | (refine Told.f ?_ ?_; (focus (first | (simp; omega) | (simp [*]; done)); done))); refine AWP.runL e tab_ok L7 300 rfl (by first | trivial | (simp [in64] <;> omega) | (simp only [in64, true_and, and_true]; omega)) ?_)
          | (refine AWP.callQ e rfl rfl ?_; (first | refine CallQ.mk (c1) rfl rfl ?_ | refine CallQ.mk (c2) rfl rfl ?_ | refine CallQ.mk (al) rfl rfl ?_ | refine CallQ.mk (c3) rfl rfl ?_ | refine CallQ.mk (c4) rfl rfl ?_); refine AWP.runL e tab_ok L7 300 rfl (by first | trivial | (simp [in64] <;> omega) | (simp only [in64, true_and, and_true]; omega)) ?_)
          | (refine AWP.eq_agg e tab_ok rfl rfl rfl (.inl ⟨rfl, rfl⟩) ?_ 5 (by omega) rfl ?_ rfl rfl rfl rfl rfl rfl rfl ?_; (focus kernel_rfl); (focus kernel_rfl); refine AWP.runL e tab_ok L7 300 rfl (by first | trivial | (simp [in64] <;> omega) | (simp only [in64, true_and, and_true]; omega)) ?_)
          | (refine AWP.eq_agg e tab_ok rfl rfl rfl (.inr ⟨rfl, rfl⟩) ?_ 5 (by omega) rfl ?_ rfl rfl rfl rfl rfl rfl rfl ?_; (focus kernel_rfl); (focus kernel_rfl); refine AWP.runL e tab_ok L7 300 rfl (by first | trivial | (simp [in64] <;> omega) | (simp only [in64, true_and, and_true]; omega)) ?_)
        )
      refine AWP.ret e tab_ok rfl ?_
      rw [hP]
      all_goals first | rfl | (simp [strip]; done)
theorem zeros_args (l : List SV) (h : Args tab 9 [9, 3] l) : Eff Tryd.prog 7 l [] 0 (fun r _ _ => r = .b true) := by
  obtain ⟨_, _, rfl, ⟨s, rfl, _⟩, _, _, rfl, ⟨z, rfl, _, _⟩, rfl⟩ := h
  rw [strL_of s]
  generalize s.data.toList = s
  exact zeros_ok s _ z (by simp; omega) (cut_str s 300)
end Go.Proofs.YtldbeeiabgmfhaaDoor
