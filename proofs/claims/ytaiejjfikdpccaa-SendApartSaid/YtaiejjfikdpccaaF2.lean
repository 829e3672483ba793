import Derived.Test.YtaiejjfikdpccaaF1
open Go Go.Proofs Go.Sy
namespace Go.Proofs.Ytaiejjfikdpccaa
set_option maxHeartbeats 1000000 in
set_option maxRecDepth 100000 in
theorem way_eff (w : WV) : Eff Try.prog 17 [.agg (wC w)] [] 0 (fun r _ _ => r = .b (wayB w)) := by
  have c1 := within_eff w.kind 0 3
  have c2 := within_eff w.first 0 1000000
  have c3 := within_eff w.per 0 1000000
  have c4 := within_eff w.reps 0 100
  have c5 := within_eff w.gap 0 1000000
  have c6 := periodic_eff w
  refine eff_of Try.func17 rfl rfl rfl fun cx e hP => ?_
  unfold wayB at hP
  rcases cases_b (inB w.kind 0 3) with a1 | a1
  rotate_left
  · rw [a1] at c1 hP
    refine AWP.runL e tab_ok L17 300 rfl (by first | trivial | (simp [in64] <;> omega)) ?_
    repeat (
      first
        | (refine AWP.askT rfl ?_; (first | (refine Told.t rfl ?_) | (refine Told.f rfl ?_) | (refine Told.t ?_ ?_; (focus assumption)) | (refine Told.f ?_ ?_; (focus assumption)) | (refine Told.t ?_ ?_; (focus (first | (simp; omega) | (simp [*]; done)); done)) | (refine Told.f ?_ ?_; (focus (first | (simp; omega) | (simp [*]; done)); done))); refine AWP.runL e tab_ok L17 300 rfl (by first | trivial | (simp [in64] <;> omega)) ?_)
        | (refine AWP.callQ e rfl rfl ?_; (first | refine CallQ.mk (c1) rfl rfl ?_ | refine CallQ.mk (c2) rfl rfl ?_ | refine CallQ.mk (c3) rfl rfl ?_ | refine CallQ.mk (c4) rfl rfl ?_ | refine CallQ.mk (c5) rfl rfl ?_ | refine CallQ.mk (c6) rfl rfl ?_); refine AWP.runL e tab_ok L17 300 rfl (by first | trivial | (simp [in64] <;> omega)) ?_)
        | (refine AWP.eq_agg e tab_ok rfl rfl rfl (.inl ⟨rfl, rfl⟩) ?_ 5 (by omega) rfl ?_ rfl rfl rfl rfl rfl rfl rfl ?_; (focus kernel_rfl); (focus kernel_rfl); refine AWP.runL e tab_ok L17 300 rfl (by first | trivial | (simp [in64] <;> omega)) ?_)
        | (refine AWP.eq_agg e tab_ok rfl rfl rfl (.inr ⟨rfl, rfl⟩) ?_ 5 (by omega) rfl ?_ rfl rfl rfl rfl rfl rfl rfl ?_; (focus kernel_rfl); (focus kernel_rfl); refine AWP.runL e tab_ok L17 300 rfl (by first | trivial | (simp [in64] <;> omega)) ?_)
      )
    refine AWP.ret e tab_ok rfl ?_
    rw [hP]
    all_goals first | rfl | (simp [strip]; done)
  rw [a1] at c1 hP
  rcases cases_b (inB w.first 0 1000000) with a2 | a2
  rotate_left
  · rw [a2] at c2 hP
    refine AWP.runL e tab_ok L17 300 rfl (by first | trivial | (simp [in64] <;> omega)) ?_
    repeat (
      first
        | (refine AWP.askT rfl ?_; (first | (refine Told.t rfl ?_) | (refine Told.f rfl ?_) | (refine Told.t ?_ ?_; (focus assumption)) | (refine Told.f ?_ ?_; (focus assumption)) | (refine Told.t ?_ ?_; (focus (first | (simp; omega) | (simp [*]; done)); done)) | (refine Told.f ?_ ?_; (focus (first | (simp; omega) | (simp [*]; done)); done))); refine AWP.runL e tab_ok L17 300 rfl (by first | trivial | (simp [in64] <;> omega)) ?_)
        | (refine AWP.callQ e rfl rfl ?_; (first | refine CallQ.mk (c1) rfl rfl ?_ | refine CallQ.mk (c2) rfl rfl ?_ | refine CallQ.mk (c3) rfl rfl ?_ | refine CallQ.mk (c4) rfl rfl ?_ | refine CallQ.mk (c5) rfl rfl ?_ | refine CallQ.mk (c6) rfl rfl ?_); refine AWP.runL e tab_ok L17 300 rfl (by first | trivial | (simp [in64] <;> omega)) ?_)
        | (refine AWP.eq_agg e tab_ok rfl rfl rfl (.inl ⟨rfl, rfl⟩) ?_ 5 (by omega) rfl ?_ rfl rfl rfl rfl rfl rfl rfl ?_; (focus kernel_rfl); (focus kernel_rfl); refine AWP.runL e tab_ok L17 300 rfl (by first | trivial | (simp [in64] <;> omega)) ?_)
        | (refine AWP.eq_agg e tab_ok rfl rfl rfl (.inr ⟨rfl, rfl⟩) ?_ 5 (by omega) rfl ?_ rfl rfl rfl rfl rfl rfl rfl ?_; (focus kernel_rfl); (focus kernel_rfl); refine AWP.runL e tab_ok L17 300 rfl (by first | trivial | (simp [in64] <;> omega)) ?_)
      )
    refine AWP.ret e tab_ok rfl ?_
    rw [hP]
    all_goals first | rfl | (simp [strip]; done)
  rw [a2] at c2 hP
  rcases cases_b (inB w.per 0 1000000) with a3 | a3
  rotate_left
  · rw [a3] at c3 hP
    refine AWP.runL e tab_ok L17 300 rfl (by first | trivial | (simp [in64] <;> omega)) ?_
    repeat (
      first
        | (refine AWP.askT rfl ?_; (first | (refine Told.t rfl ?_) | (refine Told.f rfl ?_) | (refine Told.t ?_ ?_; (focus assumption)) | (refine Told.f ?_ ?_; (focus assumption)) | (refine Told.t ?_ ?_; (focus (first | (simp; omega) | (simp [*]; done)); done)) | (refine Told.f ?_ ?_; (focus (first | (simp; omega) | (simp [*]; done)); done))); refine AWP.runL e tab_ok L17 300 rfl (by first | trivial | (simp [in64] <;> omega)) ?_)
        | (refine AWP.callQ e rfl rfl ?_; (first | refine CallQ.mk (c1) rfl rfl ?_ | refine CallQ.mk (c2) rfl rfl ?_ | refine CallQ.mk (c3) rfl rfl ?_ | refine CallQ.mk (c4) rfl rfl ?_ | refine CallQ.mk (c5) rfl rfl ?_ | refine CallQ.mk (c6) rfl rfl ?_); refine AWP.runL e tab_ok L17 300 rfl (by first | trivial | (simp [in64] <;> omega)) ?_)
        | (refine AWP.eq_agg e tab_ok rfl rfl rfl (.inl ⟨rfl, rfl⟩) ?_ 5 (by omega) rfl ?_ rfl rfl rfl rfl rfl rfl rfl ?_; (focus kernel_rfl); (focus kernel_rfl); refine AWP.runL e tab_ok L17 300 rfl (by first | trivial | (simp [in64] <;> omega)) ?_)
        | (refine AWP.eq_agg e tab_ok rfl rfl rfl (.inr ⟨rfl, rfl⟩) ?_ 5 (by omega) rfl ?_ rfl rfl rfl rfl rfl rfl rfl ?_; (focus kernel_rfl); (focus kernel_rfl); refine AWP.runL e tab_ok L17 300 rfl (by first | trivial | (simp [in64] <;> omega)) ?_)
      )
    refine AWP.ret e tab_ok rfl ?_
    rw [hP]
    all_goals first | rfl | (simp [strip]; done)
  rw [a3] at c3 hP
  rcases cases_b (inB w.reps 0 100) with a4 | a4
  rotate_left
  · rw [a4] at c4 hP
    refine AWP.runL e tab_ok L17 300 rfl (by first | trivial | (simp [in64] <;> omega)) ?_
    repeat (
      first
        | (refine AWP.askT rfl ?_; (first | (refine Told.t rfl ?_) | (refine Told.f rfl ?_) | (refine Told.t ?_ ?_; (focus assumption)) | (refine Told.f ?_ ?_; (focus assumption)) | (refine Told.t ?_ ?_; (focus (first | (simp; omega) | (simp [*]; done)); done)) | (refine Told.f ?_ ?_; (focus (first | (simp; omega) | (simp [*]; done)); done))); refine AWP.runL e tab_ok L17 300 rfl (by first | trivial | (simp [in64] <;> omega)) ?_)
        | (refine AWP.callQ e rfl rfl ?_; (first | refine CallQ.mk (c1) rfl rfl ?_ | refine CallQ.mk (c2) rfl rfl ?_ | refine CallQ.mk (c3) rfl rfl ?_ | refine CallQ.mk (c4) rfl rfl ?_ | refine CallQ.mk (c5) rfl rfl ?_ | refine CallQ.mk (c6) rfl rfl ?_); refine AWP.runL e tab_ok L17 300 rfl (by first | trivial | (simp [in64] <;> omega)) ?_)
        | (refine AWP.eq_agg e tab_ok rfl rfl rfl (.inl ⟨rfl, rfl⟩) ?_ 5 (by omega) rfl ?_ rfl rfl rfl rfl rfl rfl rfl ?_; (focus kernel_rfl); (focus kernel_rfl); refine AWP.runL e tab_ok L17 300 rfl (by first | trivial | (simp [in64] <;> omega)) ?_)
        | (refine AWP.eq_agg e tab_ok rfl rfl rfl (.inr ⟨rfl, rfl⟩) ?_ 5 (by omega) rfl ?_ rfl rfl rfl rfl rfl rfl rfl ?_; (focus kernel_rfl); (focus kernel_rfl); refine AWP.runL e tab_ok L17 300 rfl (by first | trivial | (simp [in64] <;> omega)) ?_)
      )
    refine AWP.ret e tab_ok rfl ?_
    rw [hP]
    all_goals first | rfl | (simp [strip]; done)
  rw [a4] at c4 hP
  rcases cases_b (inB w.gap 0 1000000) with a5 | a5
  rotate_left
  · rw [a5] at c5 hP
    refine AWP.runL e tab_ok L17 300 rfl (by first | trivial | (simp [in64] <;> omega)) ?_
    repeat (
      first
        | (refine AWP.askT rfl ?_; (first | (refine Told.t rfl ?_) | (refine Told.f rfl ?_) | (refine Told.t ?_ ?_; (focus assumption)) | (refine Told.f ?_ ?_; (focus assumption)) | (refine Told.t ?_ ?_; (focus (first | (simp; omega) | (simp [*]; done)); done)) | (refine Told.f ?_ ?_; (focus (first | (simp; omega) | (simp [*]; done)); done))); refine AWP.runL e tab_ok L17 300 rfl (by first | trivial | (simp [in64] <;> omega)) ?_)
        | (refine AWP.callQ e rfl rfl ?_; (first | refine CallQ.mk (c1) rfl rfl ?_ | refine CallQ.mk (c2) rfl rfl ?_ | refine CallQ.mk (c3) rfl rfl ?_ | refine CallQ.mk (c4) rfl rfl ?_ | refine CallQ.mk (c5) rfl rfl ?_ | refine CallQ.mk (c6) rfl rfl ?_); refine AWP.runL e tab_ok L17 300 rfl (by first | trivial | (simp [in64] <;> omega)) ?_)
        | (refine AWP.eq_agg e tab_ok rfl rfl rfl (.inl ⟨rfl, rfl⟩) ?_ 5 (by omega) rfl ?_ rfl rfl rfl rfl rfl rfl rfl ?_; (focus kernel_rfl); (focus kernel_rfl); refine AWP.runL e tab_ok L17 300 rfl (by first | trivial | (simp [in64] <;> omega)) ?_)
        | (refine AWP.eq_agg e tab_ok rfl rfl rfl (.inr ⟨rfl, rfl⟩) ?_ 5 (by omega) rfl ?_ rfl rfl rfl rfl rfl rfl rfl ?_; (focus kernel_rfl); (focus kernel_rfl); refine AWP.runL e tab_ok L17 300 rfl (by first | trivial | (simp [in64] <;> omega)) ?_)
      )
    refine AWP.ret e tab_ok rfl ?_
    rw [hP]
    all_goals first | rfl | (simp [strip]; done)
  rw [a5] at c5 hP
  rcases cases_b (perB w) with a6 | a6 <;> rw [a6] at c6 hP
  · rcases cases_b (decide (w.per > 0)) with a7 | a7 <;> rw [a7] at hP
    · rcases cases_b (w.reps == 0) with a8 | a8 <;> rw [a8] at hP
      · refine AWP.runL e tab_ok L17 300 rfl (by first | trivial | (simp [in64] <;> omega)) ?_
        repeat (
          first
            | (refine AWP.askT rfl ?_; (first | (refine Told.t rfl ?_) | (refine Told.f rfl ?_) | (refine Told.t ?_ ?_; (focus assumption)) | (refine Told.f ?_ ?_; (focus assumption)) | (refine Told.t ?_ ?_; (focus (first | (simp; omega) | (simp [*]; done)); done)) | (refine Told.f ?_ ?_; (focus (first | (simp; omega) | (simp [*]; done)); done))); refine AWP.runL e tab_ok L17 300 rfl (by first | trivial | (simp [in64] <;> omega)) ?_)
            | (refine AWP.callQ e rfl rfl ?_; (first | refine CallQ.mk (c1) rfl rfl ?_ | refine CallQ.mk (c2) rfl rfl ?_ | refine CallQ.mk (c3) rfl rfl ?_ | refine CallQ.mk (c4) rfl rfl ?_ | refine CallQ.mk (c5) rfl rfl ?_ | refine CallQ.mk (c6) rfl rfl ?_); refine AWP.runL e tab_ok L17 300 rfl (by first | trivial | (simp [in64] <;> omega)) ?_)
            | (refine AWP.eq_agg e tab_ok rfl rfl rfl (.inl ⟨rfl, rfl⟩) ?_ 5 (by omega) rfl ?_ rfl rfl rfl rfl rfl rfl rfl ?_; (focus kernel_rfl); (focus kernel_rfl); refine AWP.runL e tab_ok L17 300 rfl (by first | trivial | (simp [in64] <;> omega)) ?_)
            | (refine AWP.eq_agg e tab_ok rfl rfl rfl (.inr ⟨rfl, rfl⟩) ?_ 5 (by omega) rfl ?_ rfl rfl rfl rfl rfl rfl rfl ?_; (focus kernel_rfl); (focus kernel_rfl); refine AWP.runL e tab_ok L17 300 rfl (by first | trivial | (simp [in64] <;> omega)) ?_)
          )
        refine AWP.ret e tab_ok rfl ?_
        rw [hP]
        all_goals first | rfl | (simp [strip]; done)
      · refine AWP.runL e tab_ok L17 300 rfl (by first | trivial | (simp [in64] <;> omega)) ?_
        repeat (
          first
            | (refine AWP.askT rfl ?_; (first | (refine Told.t rfl ?_) | (refine Told.f rfl ?_) | (refine Told.t ?_ ?_; (focus assumption)) | (refine Told.f ?_ ?_; (focus assumption)) | (refine Told.t ?_ ?_; (focus (first | (simp; omega) | (simp [*]; done)); done)) | (refine Told.f ?_ ?_; (focus (first | (simp; omega) | (simp [*]; done)); done))); refine AWP.runL e tab_ok L17 300 rfl (by first | trivial | (simp [in64] <;> omega)) ?_)
            | (refine AWP.callQ e rfl rfl ?_; (first | refine CallQ.mk (c1) rfl rfl ?_ | refine CallQ.mk (c2) rfl rfl ?_ | refine CallQ.mk (c3) rfl rfl ?_ | refine CallQ.mk (c4) rfl rfl ?_ | refine CallQ.mk (c5) rfl rfl ?_ | refine CallQ.mk (c6) rfl rfl ?_); refine AWP.runL e tab_ok L17 300 rfl (by first | trivial | (simp [in64] <;> omega)) ?_)
            | (refine AWP.eq_agg e tab_ok rfl rfl rfl (.inl ⟨rfl, rfl⟩) ?_ 5 (by omega) rfl ?_ rfl rfl rfl rfl rfl rfl rfl ?_; (focus kernel_rfl); (focus kernel_rfl); refine AWP.runL e tab_ok L17 300 rfl (by first | trivial | (simp [in64] <;> omega)) ?_)
            | (refine AWP.eq_agg e tab_ok rfl rfl rfl (.inr ⟨rfl, rfl⟩) ?_ 5 (by omega) rfl ?_ rfl rfl rfl rfl rfl rfl rfl ?_; (focus kernel_rfl); (focus kernel_rfl); refine AWP.runL e tab_ok L17 300 rfl (by first | trivial | (simp [in64] <;> omega)) ?_)
          )
        refine AWP.ret e tab_ok rfl ?_
        rw [hP]
        all_goals first | rfl | (simp [strip]; done)
    · refine AWP.runL e tab_ok L17 300 rfl (by first | trivial | (simp [in64] <;> omega)) ?_
      repeat (
        first
          | (refine AWP.askT rfl ?_; (first | (refine Told.t rfl ?_) | (refine Told.f rfl ?_) | (refine Told.t ?_ ?_; (focus assumption)) | (refine Told.f ?_ ?_; (focus assumption)) | (refine Told.t ?_ ?_; (focus (first | (simp; omega) | (simp [*]; done)); done)) | (refine Told.f ?_ ?_; (focus (first | (simp; omega) | (simp [*]; done)); done))); refine AWP.runL e tab_ok L17 300 rfl (by first | trivial | (simp [in64] <;> omega)) ?_)
          | (refine AWP.callQ e rfl rfl ?_; (first | refine CallQ.mk (c1) rfl rfl ?_ | refine CallQ.mk (c2) rfl rfl ?_ | refine CallQ.mk (c3) rfl rfl ?_ | refine CallQ.mk (c4) rfl rfl ?_ | refine CallQ.mk (c5) rfl rfl ?_ | refine CallQ.mk (c6) rfl rfl ?_); refine AWP.runL e tab_ok L17 300 rfl (by first | trivial | (simp [in64] <;> omega)) ?_)
          | (refine AWP.eq_agg e tab_ok rfl rfl rfl (.inl ⟨rfl, rfl⟩) ?_ 5 (by omega) rfl ?_ rfl rfl rfl rfl rfl rfl rfl ?_; (focus kernel_rfl); (focus kernel_rfl); refine AWP.runL e tab_ok L17 300 rfl (by first | trivial | (simp [in64] <;> omega)) ?_)
          | (refine AWP.eq_agg e tab_ok rfl rfl rfl (.inr ⟨rfl, rfl⟩) ?_ 5 (by omega) rfl ?_ rfl rfl rfl rfl rfl rfl rfl ?_; (focus kernel_rfl); (focus kernel_rfl); refine AWP.runL e tab_ok L17 300 rfl (by first | trivial | (simp [in64] <;> omega)) ?_)
        )
      refine AWP.ret e tab_ok rfl ?_
      rw [hP]
      all_goals first | rfl | (simp [strip]; done)
  · rcases cases_b (w.reps == 0) with a8 | a8 <;> rw [a8] at hP
    · refine AWP.runL e tab_ok L17 300 rfl (by first | trivial | (simp [in64] <;> omega)) ?_
      repeat (
        first
          | (refine AWP.askT rfl ?_; (first | (refine Told.t rfl ?_) | (refine Told.f rfl ?_) | (refine Told.t ?_ ?_; (focus assumption)) | (refine Told.f ?_ ?_; (focus assumption)) | (refine Told.t ?_ ?_; (focus (first | (simp; omega) | (simp [*]; done)); done)) | (refine Told.f ?_ ?_; (focus (first | (simp; omega) | (simp [*]; done)); done))); refine AWP.runL e tab_ok L17 300 rfl (by first | trivial | (simp [in64] <;> omega)) ?_)
          | (refine AWP.callQ e rfl rfl ?_; (first | refine CallQ.mk (c1) rfl rfl ?_ | refine CallQ.mk (c2) rfl rfl ?_ | refine CallQ.mk (c3) rfl rfl ?_ | refine CallQ.mk (c4) rfl rfl ?_ | refine CallQ.mk (c5) rfl rfl ?_ | refine CallQ.mk (c6) rfl rfl ?_); refine AWP.runL e tab_ok L17 300 rfl (by first | trivial | (simp [in64] <;> omega)) ?_)
          | (refine AWP.eq_agg e tab_ok rfl rfl rfl (.inl ⟨rfl, rfl⟩) ?_ 5 (by omega) rfl ?_ rfl rfl rfl rfl rfl rfl rfl ?_; (focus kernel_rfl); (focus kernel_rfl); refine AWP.runL e tab_ok L17 300 rfl (by first | trivial | (simp [in64] <;> omega)) ?_)
          | (refine AWP.eq_agg e tab_ok rfl rfl rfl (.inr ⟨rfl, rfl⟩) ?_ 5 (by omega) rfl ?_ rfl rfl rfl rfl rfl rfl rfl ?_; (focus kernel_rfl); (focus kernel_rfl); refine AWP.runL e tab_ok L17 300 rfl (by first | trivial | (simp [in64] <;> omega)) ?_)
        )
      refine AWP.ret e tab_ok rfl ?_
      rw [hP]
      all_goals first | rfl | (simp [strip]; done)
    · refine AWP.runL e tab_ok L17 300 rfl (by first | trivial | (simp [in64] <;> omega)) ?_
      repeat (
        first
          | (refine AWP.askT rfl ?_; (first | (refine Told.t rfl ?_) | (refine Told.f rfl ?_) | (refine Told.t ?_ ?_; (focus assumption)) | (refine Told.f ?_ ?_; (focus assumption)) | (refine Told.t ?_ ?_; (focus (first | (simp; omega) | (simp [*]; done)); done)) | (refine Told.f ?_ ?_; (focus (first | (simp; omega) | (simp [*]; done)); done))); refine AWP.runL e tab_ok L17 300 rfl (by first | trivial | (simp [in64] <;> omega)) ?_)
          | (refine AWP.callQ e rfl rfl ?_; (first | refine CallQ.mk (c1) rfl rfl ?_ | refine CallQ.mk (c2) rfl rfl ?_ | refine CallQ.mk (c3) rfl rfl ?_ | refine CallQ.mk (c4) rfl rfl ?_ | refine CallQ.mk (c5) rfl rfl ?_ | refine CallQ.mk (c6) rfl rfl ?_); refine AWP.runL e tab_ok L17 300 rfl (by first | trivial | (simp [in64] <;> omega)) ?_)
          | (refine AWP.eq_agg e tab_ok rfl rfl rfl (.inl ⟨rfl, rfl⟩) ?_ 5 (by omega) rfl ?_ rfl rfl rfl rfl rfl rfl rfl ?_; (focus kernel_rfl); (focus kernel_rfl); refine AWP.runL e tab_ok L17 300 rfl (by first | trivial | (simp [in64] <;> omega)) ?_)
          | (refine AWP.eq_agg e tab_ok rfl rfl rfl (.inr ⟨rfl, rfl⟩) ?_ 5 (by omega) rfl ?_ rfl rfl rfl rfl rfl rfl rfl ?_; (focus kernel_rfl); (focus kernel_rfl); refine AWP.runL e tab_ok L17 300 rfl (by first | trivial | (simp [in64] <;> omega)) ?_)
        )
      refine AWP.ret e tab_ok rfl ?_
      rw [hP]
      all_goals first | rfl | (simp [strip]; done)

theorem wayB_iff {w : WV} : wayB w = true ↔ (0 ≤ w.kind ∧ w.kind ≤ 3) ∧ (0 ≤ w.first ∧ w.first ≤ 1000000) ∧ (0 ≤ w.per ∧ w.per ≤ 1000000) ∧ (0 ≤ w.reps ∧ w.reps ≤ 100) ∧ (0 ≤ w.gap ∧ w.gap ≤ 1000000) ∧ (w.kind = 2 ∨ w.kind = 3 → 0 < w.per) ∧ (w.reps = 0 ∨ 0 < w.gap) := by
  unfold wayB perB
  simp only [Bool.and_eq_true, inB_t, Bool.or_eq_true, Bool.not_eq_true', Bool.or_eq_false_iff, beq_iff_eq, beq_eq_false_iff_ne, decide_eq_true_eq]
  refine ⟨fun ⟨h1, h2, h3, h4, h5, h6, h7⟩ => ⟨h1, h2, h3, h4, h5, fun h => ?_, ?_⟩, fun ⟨h1, h2, h3, h4, h5, h6, h7⟩ => ⟨h1, h2, h3, h4, h5, ?_, ?_⟩⟩ <;> omega

set_option maxHeartbeats 2000000 in
set_option maxRecDepth 100000 in
theorem refway_eff (w : WV) : Eff Try.prog 11 [.agg (wC w)] [] 0 (fun r _ _ => r = .b (wayB w)) := by
  refine eff_of Try.func11 rfl rfl rfl fun cx e hP => ?_
  refine AWP.runL e tab_ok L11 300 rfl (by first | trivial | (simp [in64] <;> omega)) ?_
  repeat' (
    first
      | (refine AWP.ret e tab_ok rfl ?_; rw [hP])
      | (refine AWP.fin e tab_ok rfl ?_; rw [hP])
      | (first
        | (refine AWP.askT rfl ?_; (first | (refine Told.t rfl ?_) | (refine Told.f rfl ?_) | (refine Told.t ?_ ?_; (focus assumption)) | (refine Told.f ?_ ?_; (focus assumption)) | (refine Told.t ?_ ?_; (focus (first | (simp; omega) | (simp [*]; done)); done)) | (refine Told.f ?_ ?_; (focus (first | (simp; omega) | (simp [*]; done)); done)) | (refine Told.both (fun h => ?_) (fun h => ?_) <;> (try simp only [decide_eq_true_eq, decide_eq_false_iff_not, beq_iff_eq, beq_eq_false_iff_ne, ne_eq] at h))))) <;>
        refine AWP.runL e tab_ok L11 300 rfl (by first | trivial | (simp [in64] <;> omega)) ?_
    )
  all_goals
    show SV.b _ = SV.b _
    refine congrArg SV.b ?_
    rw [Bool.eq_iff_iff, wayB_iff]
    simp
    try omega
end Go.Proofs.Ytaiejjfikdpccaa
