import Derived.Test.YthibaeeoegoliaaF21
open Go Go.Proofs Go.RowKit Go.Sy Go.Signal
namespace Go.Proofs.Ythibaeeoegoliaa

theorem strL_take (d : List UInt8) (m : Nat) : (strL d).extract 0 m = strL (d.take m) := by
  apply ByteArray.ext
  simp [strL]
theorem cut_len (d : List UInt8) (c : Nat) {x : Int} (hx : x = ((strL d).size : Int)) : (strL d).extract 0 ((if (c : Int) < x then (c : Int) else x).toNat) = strL (d.take c) := by
  rw [strL_size] at hx
  subst hx
  rw [strL_take]
  congr 1
  by_cases h : (c : Int) < (d.length : Int)
  · rw [if_pos h, Int.toNat_natCast]
  · rw [if_neg h, Int.toNat_natCast, List.take_of_length_le (Nat.le_refl _), List.take_of_length_le (by omega)]
theorem refRight_at (s : Sig) (d : List UInt8) : Eff Try.prog 11 [.agg (sC s), .i ((strL d).size : Int)] [] 0 (fun r _ _ => r = .b (rightB s d.length)) := by
  rw [strL_size]; exact refRight_eff s d.length
theorem toList_self (s : ByteArray) : (s.toList == s.toList) = true := beq_self_eq_true _
set_option maxRecDepth 100000 in
set_option maxHeartbeats 4000000 in
theorem lputs_ok (data : List UInt8) (s : Sig) (v : Int) (hv : -9223372036854775808 ≤ v ∧ v ≤ 9223372036854775807) : Eff Try.prog 4 [.s (strL data), .agg (sC s), .i v] [] 0 (fun r _ _ => r = .b true) := by
  have hcut := cut_len data 10 rfl
  obtain ⟨d, hd⟩ : ∃ d, d = data.take 10 := ⟨_, rfl⟩
  have hd10 : d.length ≤ 10 := by rw [hd]; simp; omega
  rw [← hd] at hcut
  clear hd
  have hz : (strL d).size = d.length := strL_size d
  have c1 := Put_eff d s v (by omega)
  have c2 := Get_eff d s (by omega)
  have c3 := refplaces_eff s
  have c4 := alive_eff
  have c5 := refRight_at s d
  cases h : places s with
  | none =>
    rw [show putR d s v = .tup [.s .empty, .i 1] from by unfold putR; rw [h]] at c1
    rw [show getR d s = .tup [.i 0, .i 1] from by unfold getR; rw [h]] at c2
    rw [plR_none h] at c3
    refine eff_of Try.func4 rfl rfl rfl fun cx e hP => ?_
    refine AWP.runL e tab_ok L4 300 rfl (by first | trivial | (simp [] <;> omega) | (simp only [in64, true_and, and_true]; omega)) ?_
    refine AWP.eqT 17 (.s (strL d)) rfl (congrArg SV.s hcut) ?_
    refine AWP.eqT 0 (.s (strL d)) rfl (congrArg SV.s hcut) ?_
    repeat (
      first
        | (refine AWP.askT rfl ?_; (first | (refine Told.t rfl ?_) | (refine Told.f rfl ?_) | (refine Told.t ?_ ?_; (focus assumption)) | (refine Told.f ?_ ?_; (focus assumption)) | (refine Told.t ?_ ?_; (focus (first | (simp; omega) | (simp [*]; done)); done)) | (refine Told.f ?_ ?_; (focus (first | (simp; omega) | (simp [*]; done)); done))); refine AWP.runL e tab_ok L4 300 rfl (by first | trivial | (simp [in64] <;> omega) | (simp only [in64, true_and, and_true]; omega)) ?_)
        | (refine AWP.callQ e rfl rfl ?_; (first | refine CallQ.mk (c1) rfl rfl ?_ | refine CallQ.mk (c2) rfl rfl ?_ | refine CallQ.mk (c3) rfl rfl ?_ | refine CallQ.mk (c4) rfl rfl ?_); refine AWP.runL e tab_ok L4 300 rfl (by first | trivial | (simp [in64] <;> omega) | (simp only [in64, true_and, and_true]; omega)) ?_)
        | (refine AWP.eq_agg e tab_ok rfl rfl rfl (.inl ⟨rfl, rfl⟩) ?_ 5 (by omega) rfl ?_ rfl rfl rfl rfl rfl rfl rfl ?_; (focus kernel_rfl); (focus kernel_rfl); refine AWP.runL e tab_ok L4 300 rfl (by first | trivial | (simp [in64] <;> omega) | (simp only [in64, true_and, and_true]; omega)) ?_)
        | (refine AWP.eq_agg e tab_ok rfl rfl rfl (.inr ⟨rfl, rfl⟩) ?_ 5 (by omega) rfl ?_ rfl rfl rfl rfl rfl rfl rfl ?_; (focus kernel_rfl); (focus kernel_rfl); refine AWP.runL e tab_ok L4 300 rfl (by first | trivial | (simp [in64] <;> omega) | (simp only [in64, true_and, and_true]; omega)) ?_)
      )
    refine AWP.ret e tab_ok rfl ?_
    rw [hP]
    all_goals first | rfl | (simp [strip]; done)
  | some l =>
    have hl := places_len h
    have hn : (rowI (intsN l)).length = l.length := by simp
    have hn1 : (((rowI (intsN l)).length : Int) == 0) = false := by rw [beq_eq_false_iff_ne]; omega
    rw [plR_some h] at c3
    have hR : putR d s v = if d.length ≤ 8 ∧ rightB s d.length = true then (if fitsB s v then .tup [.s (strL (putL d l v)), .i 0] else .tup [.s .empty, .i 32]) else .tup [.s .empty, .i 23] := by unfold putR; rw [h]
    have hG : getR d s = if d.length ≤ 8 ∧ rightB s d.length = true then .tup [.i (valS s (l.map (bitAt d))), .i 0] else .tup [.i 0, .i 23] := by unfold getR; rw [h]
    by_cases h8 : d.length ≤ 8
    · have h8' : decide (((strL d).size : Int) > 8) = false := decide_eq_false (by rw [hz]; omega)
      rcases cases_b (rightB s d.length) with q | q
      · rw [q] at c5
        rw [hR, if_pos ⟨h8, q⟩] at c1
        rw [hG, if_pos ⟨h8, q⟩] at c2
        have hlt := right_lt h q
        have c6 := refGet_eff d s h (by omega) hlt
        have c7 := refFits_eff s v h hv
        have e6 : (valS s (l.map (bitAt d)) != valS s (l.map (bitAt d))) = false := by simp
        generalize valS s (l.map (bitAt d)) = n at *
        rcases cases_b (fitsB s v) with k | k
        · rw [k] at c7
          rw [if_pos k] at c1
          have c8 := refPut_eff d s v h (by omega) hlt hv
          generalize putL d l v = o at *
          have e8 := toList_self (strL o)
          refine eff_of Try.func4 rfl rfl rfl fun cx e hP => ?_
          refine AWP.runL e tab_ok L4 300 rfl (by first | trivial | (simp [] <;> omega) | (simp only [in64, true_and, and_true]; omega)) ?_
          refine AWP.eqT 17 (.s (strL d)) rfl (congrArg SV.s hcut) ?_
          refine AWP.eqT 0 (.s (strL d)) rfl (congrArg SV.s hcut) ?_
          repeat (
            first
              | (refine AWP.askT rfl ?_; (first | (refine Told.t rfl ?_) | (refine Told.f rfl ?_) | (refine Told.t ?_ ?_; (focus assumption)) | (refine Told.f ?_ ?_; (focus assumption)) | (refine Told.t ?_ ?_; (focus (first | (simp; omega) | (simp [*]; done)); done)) | (refine Told.f ?_ ?_; (focus (first | (simp; omega) | (simp [*]; done)); done))); refine AWP.runL e tab_ok L4 300 rfl (by first | trivial | (simp [in64] <;> omega) | (simp only [in64, true_and, and_true]; omega)) ?_)
              | (refine AWP.callQ e rfl rfl ?_; (first | refine CallQ.mk (c1) rfl rfl ?_ | refine CallQ.mk (c2) rfl rfl ?_ | refine CallQ.mk (c3) rfl rfl ?_ | refine CallQ.mk (c4) rfl rfl ?_ | refine CallQ.mk (c5) rfl rfl ?_ | refine CallQ.mk (c6) rfl rfl ?_ | refine CallQ.mk (c7) rfl rfl ?_ | refine CallQ.mk (c8) rfl rfl ?_); refine AWP.runL e tab_ok L4 300 rfl (by first | trivial | (simp [in64] <;> omega) | (simp only [in64, true_and, and_true]; omega)) ?_)
              | (refine AWP.eq_agg e tab_ok rfl rfl rfl (.inl ⟨rfl, rfl⟩) ?_ 5 (by omega) rfl ?_ rfl rfl rfl rfl rfl rfl rfl ?_; (focus kernel_rfl); (focus kernel_rfl); refine AWP.runL e tab_ok L4 300 rfl (by first | trivial | (simp [in64] <;> omega) | (simp only [in64, true_and, and_true]; omega)) ?_)
              | (refine AWP.eq_agg e tab_ok rfl rfl rfl (.inr ⟨rfl, rfl⟩) ?_ 5 (by omega) rfl ?_ rfl rfl rfl rfl rfl rfl rfl ?_; (focus kernel_rfl); (focus kernel_rfl); refine AWP.runL e tab_ok L4 300 rfl (by first | trivial | (simp [in64] <;> omega) | (simp only [in64, true_and, and_true]; omega)) ?_)
            )
          refine AWP.ret e tab_ok rfl ?_
          rw [hP]
          exact congrArg SV.b e8
        · rw [k] at c7
          rw [if_neg (by rw [k]; decide)] at c1
          refine eff_of Try.func4 rfl rfl rfl fun cx e hP => ?_
          refine AWP.runL e tab_ok L4 300 rfl (by first | trivial | (simp [] <;> omega) | (simp only [in64, true_and, and_true]; omega)) ?_
          refine AWP.eqT 17 (.s (strL d)) rfl (congrArg SV.s hcut) ?_
          refine AWP.eqT 0 (.s (strL d)) rfl (congrArg SV.s hcut) ?_
          repeat (
            first
              | (refine AWP.askT rfl ?_; (first | (refine Told.t rfl ?_) | (refine Told.f rfl ?_) | (refine Told.t ?_ ?_; (focus assumption)) | (refine Told.f ?_ ?_; (focus assumption)) | (refine Told.t ?_ ?_; (focus (first | (simp; omega) | (simp [*]; done)); done)) | (refine Told.f ?_ ?_; (focus (first | (simp; omega) | (simp [*]; done)); done))); refine AWP.runL e tab_ok L4 300 rfl (by first | trivial | (simp [in64] <;> omega) | (simp only [in64, true_and, and_true]; omega)) ?_)
              | (refine AWP.callQ e rfl rfl ?_; (first | refine CallQ.mk (c1) rfl rfl ?_ | refine CallQ.mk (c2) rfl rfl ?_ | refine CallQ.mk (c3) rfl rfl ?_ | refine CallQ.mk (c4) rfl rfl ?_ | refine CallQ.mk (c5) rfl rfl ?_ | refine CallQ.mk (c6) rfl rfl ?_ | refine CallQ.mk (c7) rfl rfl ?_); refine AWP.runL e tab_ok L4 300 rfl (by first | trivial | (simp [in64] <;> omega) | (simp only [in64, true_and, and_true]; omega)) ?_)
              | (refine AWP.eq_agg e tab_ok rfl rfl rfl (.inl ⟨rfl, rfl⟩) ?_ 5 (by omega) rfl ?_ rfl rfl rfl rfl rfl rfl rfl ?_; (focus kernel_rfl); (focus kernel_rfl); refine AWP.runL e tab_ok L4 300 rfl (by first | trivial | (simp [in64] <;> omega) | (simp only [in64, true_and, and_true]; omega)) ?_)
              | (refine AWP.eq_agg e tab_ok rfl rfl rfl (.inr ⟨rfl, rfl⟩) ?_ 5 (by omega) rfl ?_ rfl rfl rfl rfl rfl rfl rfl ?_; (focus kernel_rfl); (focus kernel_rfl); refine AWP.runL e tab_ok L4 300 rfl (by first | trivial | (simp [in64] <;> omega) | (simp only [in64, true_and, and_true]; omega)) ?_)
            )
          refine AWP.ret e tab_ok rfl ?_
          rw [hP]
          all_goals first | rfl | (simp [strip]; done)
      · rw [q] at c5
        rw [hR, if_neg (by rw [q]; simp)] at c1
        rw [hG, if_neg (by rw [q]; simp)] at c2
        refine eff_of Try.func4 rfl rfl rfl fun cx e hP => ?_
        refine AWP.runL e tab_ok L4 300 rfl (by first | trivial | (simp [] <;> omega) | (simp only [in64, true_and, and_true]; omega)) ?_
        refine AWP.eqT 17 (.s (strL d)) rfl (congrArg SV.s hcut) ?_
        refine AWP.eqT 0 (.s (strL d)) rfl (congrArg SV.s hcut) ?_
        repeat (
          first
            | (refine AWP.askT rfl ?_; (first | (refine Told.t rfl ?_) | (refine Told.f rfl ?_) | (refine Told.t ?_ ?_; (focus assumption)) | (refine Told.f ?_ ?_; (focus assumption)) | (refine Told.t ?_ ?_; (focus (first | (simp; omega) | (simp [*]; done)); done)) | (refine Told.f ?_ ?_; (focus (first | (simp; omega) | (simp [*]; done)); done))); refine AWP.runL e tab_ok L4 300 rfl (by first | trivial | (simp [in64] <;> omega) | (simp only [in64, true_and, and_true]; omega)) ?_)
            | (refine AWP.callQ e rfl rfl ?_; (first | refine CallQ.mk (c1) rfl rfl ?_ | refine CallQ.mk (c2) rfl rfl ?_ | refine CallQ.mk (c3) rfl rfl ?_ | refine CallQ.mk (c4) rfl rfl ?_ | refine CallQ.mk (c5) rfl rfl ?_); refine AWP.runL e tab_ok L4 300 rfl (by first | trivial | (simp [in64] <;> omega) | (simp only [in64, true_and, and_true]; omega)) ?_)
            | (refine AWP.eq_agg e tab_ok rfl rfl rfl (.inl ⟨rfl, rfl⟩) ?_ 5 (by omega) rfl ?_ rfl rfl rfl rfl rfl rfl rfl ?_; (focus kernel_rfl); (focus kernel_rfl); refine AWP.runL e tab_ok L4 300 rfl (by first | trivial | (simp [in64] <;> omega) | (simp only [in64, true_and, and_true]; omega)) ?_)
            | (refine AWP.eq_agg e tab_ok rfl rfl rfl (.inr ⟨rfl, rfl⟩) ?_ 5 (by omega) rfl ?_ rfl rfl rfl rfl rfl rfl rfl ?_; (focus kernel_rfl); (focus kernel_rfl); refine AWP.runL e tab_ok L4 300 rfl (by first | trivial | (simp [in64] <;> omega) | (simp only [in64, true_and, and_true]; omega)) ?_)
          )
        refine AWP.ret e tab_ok rfl ?_
        rw [hP]
        all_goals first | rfl | (simp [strip]; done)
    · have h8' : decide (((strL d).size : Int) > 8) = true := decide_eq_true (by rw [hz]; omega)
      rw [hR, if_neg (by omega)] at c1
      rw [hG, if_neg (by omega)] at c2
      refine eff_of Try.func4 rfl rfl rfl fun cx e hP => ?_
      refine AWP.runL e tab_ok L4 300 rfl (by first | trivial | (simp [] <;> omega) | (simp only [in64, true_and, and_true]; omega)) ?_
      refine AWP.eqT 17 (.s (strL d)) rfl (congrArg SV.s hcut) ?_
      refine AWP.eqT 0 (.s (strL d)) rfl (congrArg SV.s hcut) ?_
      repeat (
        first
          | (refine AWP.askT rfl ?_; (first | (refine Told.t rfl ?_) | (refine Told.f rfl ?_) | (refine Told.t ?_ ?_; (focus assumption)) | (refine Told.f ?_ ?_; (focus assumption)) | (refine Told.t ?_ ?_; (focus (first | (simp; omega) | (simp [*]; done)); done)) | (refine Told.f ?_ ?_; (focus (first | (simp; omega) | (simp [*]; done)); done))); refine AWP.runL e tab_ok L4 300 rfl (by first | trivial | (simp [in64] <;> omega) | (simp only [in64, true_and, and_true]; omega)) ?_)
          | (refine AWP.callQ e rfl rfl ?_; (first | refine CallQ.mk (c1) rfl rfl ?_ | refine CallQ.mk (c2) rfl rfl ?_ | refine CallQ.mk (c3) rfl rfl ?_ | refine CallQ.mk (c4) rfl rfl ?_); refine AWP.runL e tab_ok L4 300 rfl (by first | trivial | (simp [in64] <;> omega) | (simp only [in64, true_and, and_true]; omega)) ?_)
          | (refine AWP.eq_agg e tab_ok rfl rfl rfl (.inl ⟨rfl, rfl⟩) ?_ 5 (by omega) rfl ?_ rfl rfl rfl rfl rfl rfl rfl ?_; (focus kernel_rfl); (focus kernel_rfl); refine AWP.runL e tab_ok L4 300 rfl (by first | trivial | (simp [in64] <;> omega) | (simp only [in64, true_and, and_true]; omega)) ?_)
          | (refine AWP.eq_agg e tab_ok rfl rfl rfl (.inr ⟨rfl, rfl⟩) ?_ 5 (by omega) rfl ?_ rfl rfl rfl rfl rfl rfl rfl ?_; (focus kernel_rfl); (focus kernel_rfl); refine AWP.runL e tab_ok L4 300 rfl (by first | trivial | (simp [in64] <;> omega) | (simp only [in64, true_and, and_true]; omega)) ?_)
        )
      refine AWP.ret e tab_ok rfl ?_
      rw [hP]
      all_goals first | rfl | (simp [strip]; done)
theorem lputs_args (l : List SV) (h : Args tab 9 [9, 23, 2] l) : Eff Try.prog 4 l [] 0 (fun r _ _ => r = .b true) := by
  obtain ⟨_, _, rfl, ⟨data, rfl, _⟩, x, _, rfl, hx, _, _, rfl, ⟨v, rfl, hv1, hv2⟩, rfl⟩ := h
  obtain ⟨a, ha⟩ := sig_of (n := 7) x hx
  rw [show argSV tab 23 x = .agg (sC a) from congrArg SV.agg ha, ← strL_of data]
  exact lputs_ok _ a v ⟨hv1, hv2⟩
end Go.Proofs.Ythibaeeoegoliaa
