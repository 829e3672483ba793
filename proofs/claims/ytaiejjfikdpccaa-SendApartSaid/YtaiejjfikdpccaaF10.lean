import Derived.Test.YtaiejjfikdpccaaF9
open Go Go.Proofs Go.Sy
namespace Go.Proofs.Ytaiejjfikdpccaa

theorem right_begin {s : SE} (h1 : wayB s.t = true) (h2 : wayB s.f = true) (h3 : 0 ≤ s.delay ∧ s.delay ≤ 1000000) (h4 : 0 ≤ s.hold ∧ s.hold ≤ s.delay) : rightB (beginS s) = true := by
  have hw : wayB s.way = true := by unfold SE.way; split <;> assumption
  have hw := wayB_iff.1 hw
  refine rightB_iff.2 ⟨h1, h2, h3, h4, ?_, ?_, ?_, ?_⟩
  · show leastP s.way ≤ firstP s.way ∧ firstP s.way ≤ topP s.way
    unfold leastP firstP topP mx
    rcases cases_b (perB s.way) with hb | hb <;> rw [hb]
    · simp only [if_true]
      split <;> (try split) <;> (try split) <;> omega
    · simp
  · show 0 ≤ (0 : Int) ∧ 0 ≤ repsD s.way
    unfold repsD; split <;> omega
  · intro h; exact absurd (show (0 : Int) > 0 from h) (by decide)
  · intro _; rfl
theorem right_new {y n : WV} {on : Bool} {d : Int} (h1 : wayB y = true) (h2 : wayB n = true) (h3 : 0 ≤ d ∧ d ≤ 1000000) : rightB (newS y n on d) = true := right_begin (s := ⟨y, n, on, d, 0, 0, 0, 0, false⟩) h1 h2 h3 ⟨Int.le_refl _, h3.1⟩
theorem right_switch {s : SE} {on : Bool} (h : rightB s = true) : rightB (switchS s on) = true := by
  obtain ⟨h1, h2, h3, h4, _⟩ := rightB_iff.1 h
  unfold switchS
  split
  · exact h
  · exact right_begin h1 h2 h3 h4
theorem right_ask {s : SE} (h : rightB s = true) : rightB (askS s) = true := by
  have hw := wayB_iff.1 (way_ok h)
  obtain ⟨h1, h2, h3, h4, h5, h6, h7, h8⟩ := rightB_iff.1 h
  unfold askS
  rcases cases_b (dirB s.way) with hb | hb <;> rw [hb]
  · rw [if_pos rfl]
    refine rightB_iff.2 ⟨h1, h2, h3, h4, h5, ?_, ?_, ?_⟩
    · show 0 ≤ s.way.reps ∧ s.way.reps ≤ repsD s.way
      unfold repsD; rw [hb, if_pos rfl]; omega
    · show s.way.reps > 0 → 1 ≤ (if s.way.reps > 0 then s.way.gap else 0) ∧ (if s.way.reps > 0 then s.way.gap else 0) ≤ s.way.gap
      intro h; rw [if_pos h]; omega
    · show ¬ s.way.reps > 0 → (if s.way.reps > 0 then s.way.gap else 0) = 0
      intro h; rw [if_neg h]
  · rw [if_neg (by simp)]; exact h
theorem run_kept (s : SE) : ∀ T, (runS s T).t = s.t ∧ (runS s T).f = s.f ∧ (runS s T).on = s.on ∧ (runS s T).delay = s.delay
  | 0 => ⟨rfl, rfl, rfl, rfl⟩
  | n + 1 => run_kept s n
theorem switch_away {y n : WV} (h1 : wayB y = true) (h2 : wayB n = true) (T : Nat) : switchS (runS (newS y n true 0) T) false = newS y n false 0 := by
  have hr := right_run (right_new (on := true) (d := 0) h1 h2 (by decide)) T
  obtain ⟨e1, e2, e3, e4⟩ := run_kept (newS y n true 0) T
  obtain ⟨_, _, _, h4, _⟩ := rightB_iff.1 hr
  generalize runS (newS y n true 0) T = s at *
  obtain ⟨t, f, on, de, pe, ga, le, ho, ak⟩ := s
  obtain rfl : t = y := e1
  obtain rfl : f = n := e2
  obtain rfl : on = true := e3
  obtain rfl : de = 0 := e4
  have h4 : 0 ≤ ho ∧ ho ≤ 0 := h4
  obtain rfl : ho = 0 := by omega
  rfl

set_option maxHeartbeats 4000000 in
set_option maxRecDepth 100000 in
theorem switched_eff (y n : WV) (z : Int) : Eff Try.prog 4 [.agg (wC y), .agg (wC n), .i z] [] 0 (fun r _ _ => r = .b true) := by
  rcases cases_b (wayB y && wayB n) with h | h
  rotate_left
  · have c1 := new_bad y n true 0 h
    rcases cases_b (wayB y) with h1 | h1
    · have h2 : wayB n = false := by rw [h1] at h; simpa using h
      have c2 := refway_eff y
      have c3 := refway_eff n
      rw [h1] at c2
      rw [h2] at c3
      clear h
      refine eff_of Try.func4 rfl rfl rfl fun cx e hP => ?_
      refine AWP.runL e tab_ok L4 1 rfl (by first | trivial | (simp [in64] <;> omega)) ?_
      skip
      refine AWP.runL e tab_ok L4 300 rfl (by first | trivial | (simp [in64] <;> omega)) ?_
      repeat (
        first
          | (refine AWP.askT rfl ?_; (first | (refine Told.t rfl ?_) | (refine Told.f rfl ?_) | (refine Told.t ?_ ?_; (focus assumption)) | (refine Told.f ?_ ?_; (focus assumption)) | (refine Told.t ?_ ?_; (focus (first | (simp; omega) | (simp [*]; done)); done)) | (refine Told.f ?_ ?_; (focus (first | (simp; omega) | (simp [*]; done)); done))); refine AWP.runL e tab_ok L4 300 rfl (by first | trivial | (simp [in64] <;> omega)) ?_)
          | (refine AWP.callQ e rfl rfl ?_; (first | refine CallQ.mk (c1) rfl rfl ?_ | refine CallQ.mk (c2) rfl rfl ?_ | refine CallQ.mk (c3) rfl rfl ?_ | refine CallQ.mk (alive_eff) rfl rfl ?_); refine AWP.runL e tab_ok L4 300 rfl (by first | trivial | (simp [in64] <;> omega)) ?_)
          | (refine AWP.eq_agg e tab_ok rfl rfl rfl (.inl ⟨rfl, rfl⟩) ?_ 5 (by omega) rfl ?_ rfl rfl rfl rfl rfl rfl rfl ?_; (focus kernel_rfl); (focus kernel_rfl); refine AWP.runL e tab_ok L4 300 rfl (by first | trivial | (simp [in64] <;> omega)) ?_)
          | (refine AWP.eq_agg e tab_ok rfl rfl rfl (.inr ⟨rfl, rfl⟩) ?_ 5 (by omega) rfl ?_ rfl rfl rfl rfl rfl rfl rfl ?_; (focus kernel_rfl); (focus kernel_rfl); refine AWP.runL e tab_ok L4 300 rfl (by first | trivial | (simp [in64] <;> omega)) ?_)
        )
      refine AWP.ret e tab_ok rfl ?_
      rw [hP]
      all_goals first | rfl | (simp [strip]; done)
    · have c2 := refway_eff y
      rw [h1] at c2
      clear h
      refine eff_of Try.func4 rfl rfl rfl fun cx e hP => ?_
      refine AWP.runL e tab_ok L4 1 rfl (by first | trivial | (simp [in64] <;> omega)) ?_
      skip
      refine AWP.runL e tab_ok L4 300 rfl (by first | trivial | (simp [in64] <;> omega)) ?_
      repeat (
        first
          | (refine AWP.askT rfl ?_; (first | (refine Told.t rfl ?_) | (refine Told.f rfl ?_) | (refine Told.t ?_ ?_; (focus assumption)) | (refine Told.f ?_ ?_; (focus assumption)) | (refine Told.t ?_ ?_; (focus (first | (simp; omega) | (simp [*]; done)); done)) | (refine Told.f ?_ ?_; (focus (first | (simp; omega) | (simp [*]; done)); done))); refine AWP.runL e tab_ok L4 300 rfl (by first | trivial | (simp [in64] <;> omega)) ?_)
          | (refine AWP.callQ e rfl rfl ?_; (first | refine CallQ.mk (c1) rfl rfl ?_ | refine CallQ.mk (c2) rfl rfl ?_ | refine CallQ.mk (alive_eff) rfl rfl ?_); refine AWP.runL e tab_ok L4 300 rfl (by first | trivial | (simp [in64] <;> omega)) ?_)
          | (refine AWP.eq_agg e tab_ok rfl rfl rfl (.inl ⟨rfl, rfl⟩) ?_ 5 (by omega) rfl ?_ rfl rfl rfl rfl rfl rfl rfl ?_; (focus kernel_rfl); (focus kernel_rfl); refine AWP.runL e tab_ok L4 300 rfl (by first | trivial | (simp [in64] <;> omega)) ?_)
          | (refine AWP.eq_agg e tab_ok rfl rfl rfl (.inr ⟨rfl, rfl⟩) ?_ 5 (by omega) rfl ?_ rfl rfl rfl rfl rfl rfl rfl ?_; (focus kernel_rfl); (focus kernel_rfl); refine AWP.runL e tab_ok L4 300 rfl (by first | trivial | (simp [in64] <;> omega)) ?_)
        )
      refine AWP.ret e tab_ok rfl ?_
      rw [hP]
      all_goals first | rfl | (simp [strip]; done)
  have h1 : wayB y = true := by simp at h; exact h.1
  have h2 : wayB n = true := by simp at h; exact h.2
  have r1 := refway_eff y
  have r2 := refway_eff n
  rw [h1] at r1
  rw [h2] at r2
  obtain ⟨T, hT, a0, a1⟩ := clamp_nat 0 100 z (by decide) (by decide)
  have n1 := right_new (on := true) (d := 0) h1 h2 (by decide)
  have n2 := right_new (on := false) (d := 0) h1 h2 (by decide)
  have c1 := new_ok y n true 0 h1 h2 rfl
  have c2 := switch_ok (newS y n true 0) true n1
  rw [show switchS (newS y n true 0) true = newS y n true 0 from rfl] at c2
  have c3 := run_ok (newS y n true 0) T n1 (by omega)
  have c4 := switch_ok (runS (newS y n true 0) T) false (right_run n1 T)
  rw [switch_away h1 h2] at c4
  have c5 := new_ok y n false 0 h1 h2 rfl
  have c6 := switch_ok (newS y n false 0) true n2
  rw [show switchS (newS y n false 0) true = newS y n true 0 from rfl] at c6
  have c7 := run_ok (newS y n false 0) T n2 (by omega)
  have l := out_len (newS y n false 0) T
  clear n1 n2
  generalize runS (newS y n true 0) T = X at *
  generalize runS (newS y n false 0) T = Y at *
  generalize out (newS y n true 0) T = M at *
  generalize out (newS y n false 0) T = O at *
  generalize newS y n true 0 = P at *
  generalize newS y n false 0 = Q at *
  have c8 := same_eff O O (by omega)
  rw [beq_self_eq_true] at c8
  refine eff_of Try.func4 rfl rfl rfl fun cx e hP => ?_
  refine AWP.runL e tab_ok L4 300 rfl (by first | trivial | (simp [in64] <;> omega)) ?_
  repeat (
    first
      | (refine AWP.askT rfl ?_; (first | (refine Told.t rfl ?_) | (refine Told.f rfl ?_) | (refine Told.t ?_ ?_; (focus assumption)) | (refine Told.f ?_ ?_; (focus assumption)) | (refine Told.t ?_ ?_; (focus (first | (simp; omega) | (simp [*]; done)); done)) | (refine Told.f ?_ ?_; (focus (first | (simp; omega) | (simp [*]; done)); done))); refine AWP.runL e tab_ok L4 300 rfl (by first | trivial | (simp [in64] <;> omega)) ?_)
      | (refine AWP.callQ e rfl rfl ?_; (first | refine CallQ.mk (c1) rfl rfl ?_ | refine CallQ.mk (r1) rfl rfl ?_ | refine CallQ.mk (r2) rfl rfl ?_); refine AWP.runL e tab_ok L4 300 rfl (by first | trivial | (simp [in64] <;> omega)) ?_)
      | (refine AWP.eq_agg e tab_ok rfl rfl rfl (.inl ⟨rfl, rfl⟩) ?_ 5 (by omega) rfl ?_ rfl rfl rfl rfl rfl rfl rfl ?_; (focus kernel_rfl); (focus kernel_rfl); refine AWP.runL e tab_ok L4 300 rfl (by first | trivial | (simp [in64] <;> omega)) ?_)
      | (refine AWP.eq_agg e tab_ok rfl rfl rfl (.inr ⟨rfl, rfl⟩) ?_ 5 (by omega) rfl ?_ rfl rfl rfl rfl rfl rfl rfl ?_; (focus kernel_rfl); (focus kernel_rfl); refine AWP.runL e tab_ok L4 300 rfl (by first | trivial | (simp [in64] <;> omega)) ?_)
    )
  refine AWP.eqT 2 (.i T) rfl (congrArg SV.i hT) ?_
  clear hT c1
  repeat (
    first
      | (refine AWP.askT rfl ?_; (first | (refine Told.t rfl ?_) | (refine Told.f rfl ?_) | (refine Told.t ?_ ?_; (focus assumption)) | (refine Told.f ?_ ?_; (focus assumption)) | (refine Told.t ?_ ?_; (focus (first | (simp; omega) | (simp [*]; done)); done)) | (refine Told.f ?_ ?_; (focus (first | (simp; omega) | (simp [*]; done)); done))); refine AWP.runL e tab_ok L4 300 rfl (by first | trivial | (simp [in64] <;> omega)) ?_)
      | (refine AWP.callQ e rfl rfl ?_; (first | refine CallQ.mk (c2) rfl rfl ?_ | refine CallQ.mk (c3) rfl rfl ?_ | refine CallQ.mk (c4) rfl rfl ?_ | refine CallQ.mk (c5) rfl rfl ?_ | refine CallQ.mk (c6) rfl rfl ?_ | refine CallQ.mk (c7) rfl rfl ?_ | refine CallQ.mk (c8) rfl rfl ?_ | refine CallQ.mk (alive_eff) rfl rfl ?_); refine AWP.runL e tab_ok L4 300 rfl (by first | trivial | (simp [in64] <;> omega)) ?_)
      | (refine AWP.eq_agg e tab_ok rfl rfl rfl (.inl ⟨rfl, rfl⟩) ?_ 5 (by omega) rfl ?_ rfl rfl rfl rfl rfl rfl rfl ?_; (focus kernel_rfl); (focus kernel_rfl); refine AWP.runL e tab_ok L4 300 rfl (by first | trivial | (simp [in64] <;> omega)) ?_)
      | (refine AWP.eq_agg e tab_ok rfl rfl rfl (.inr ⟨rfl, rfl⟩) ?_ 5 (by omega) rfl ?_ rfl rfl rfl rfl rfl rfl rfl ?_; (focus kernel_rfl); (focus kernel_rfl); refine AWP.runL e tab_ok L4 300 rfl (by first | trivial | (simp [in64] <;> omega)) ?_)
    )
  refine AWP.ret e tab_ok rfl ?_
  rw [hP]
  all_goals first | rfl | (simp [strip]; done)

theorem switched_args (l : List SV) (h : Args tab 9 [23, 23, 3] l) : Eff Try.prog 4 l [] 0 (fun r _ _ => r = .b true) := by
  obtain ⟨xs, _, rfl, hp, _, _, rfl, hq, _, _, rfl, ⟨z, rfl, _, _⟩, rfl⟩ := h
  obtain ⟨y, h1, _⟩ := wv_of hp
  obtain ⟨n, h2, _⟩ := wv_of hq
  show Eff Try.prog 4 [.agg (_ : List SV), .agg _, _] [] 0 _
  rw [h1, h2]
  exact switched_eff y n z
end Go.Proofs.Ytaiejjfikdpccaa
