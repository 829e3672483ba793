import Derived.Test.YtjhfeeacdickbaaF5
open Go Go.Proofs Go.Sy
namespace Go.Proofs.Ytjhfeeacdickbaa

theorem few_some (t : TV) : ∃ T : TV, Eff Try.prog 8 [tv t] [] 0 (fun r _ _ => r = tv T) := by
  obtain ⟨D, _, h⟩ := few_eff t
  exact ⟨_, h⟩
theorem goT_right {t : TV} {m : Int} (h : rightB t = true) (h1 : 1 ≤ m) (h2 : m ≤ 3) : rightB (goT t m) = true := by
  unfold goT
  split
  · exact h
  · have hR := rightB_iff.1 h
    exact rightB_iff.2 ⟨hR.id, hR.mask, hR.d0, hR.d8, hR.data, hR.l1, hR.l2, h1, h2, Int.le_refl 0, (by show (0 : Int) ≤ t.lim; have := hR.l1; omega), fun _ => rfl, fun _ => rfl, fun _ => rfl, fun _ => rfl, fun _ => rfl⟩
theorem goT_mode (t : TV) (m : Int) : (goT t m).mode = m := by
  unfold goT
  split
  · assumption
  · rfl
theorem goT_same (t : TV) (m : Int) (h : t.mode = m) : goT t m = t := by unfold goT; rw [if_pos h]
theorem woke_self (t : TV) : woke t t = false := by unfold woke; cases woken t <;> rfl
theorem locT_right {t : TV} (h : rightB t = true) : rightB (locT t) = true := by
  unfold locT
  split
  · exact h
  · rename_i hm
    have hR := rightB_iff.1 h
    exact rightB_iff.2 ⟨hR.id, hR.mask, hR.d0, hR.d8, hR.data, hR.l1, hR.l2, hR.m1, hR.m3, hR.e0, hR.el, hR.s1, hR.s2, hR.s3, fun h => absurd h hm, fun h => absurd h hm⟩
theorem wokenr (t : TV) (h : rightB t = true) : Eff Try.prog 14 [tv t] [] 0 (fun r _ _ => r = .b (woken t)) := by
  have := wokenq_eff t
  rwa [h, Bool.true_and] at this
theorem mod3 (z : Int) : ∃ m : Int, 1 ≤ m ∧ m ≤ 3 ∧ Int.tmod (Int.tmod z 3 + 3) 3 + 1 = m ∧ -3 < Int.tmod z 3 ∧ Int.tmod z 3 < 3 ∧ 0 ≤ Int.tmod (Int.tmod z 3 + 3) 3 ∧ Int.tmod (Int.tmod z 3 + 3) 3 < 3 := by
  have h1 := Int.tmod_lt_of_pos z (show (0 : Int) < 3 by omega)
  have h2 := Int.lt_tmod_of_pos z (show (0 : Int) < 3 by omega)
  have h3 : 0 ≤ Int.tmod (Int.tmod z 3 + 3) 3 := Int.tmod_nonneg _ (by omega)
  have h4 := Int.tmod_lt_of_pos (Int.tmod z 3 + 3) (show (0 : Int) < 3 by omega)
  exact ⟨_, by omega, by omega, rfl, h2, h1, h3, h4⟩

set_option maxHeartbeats 2000000 in
set_option maxRecDepth 100000 in
theorem modes_eff (t : TV) (f : FV) (good : Bool) (z : Int) : Eff Try.prog 6 [tv t, fv f, .b good, .i z] [] 0 (fun r _ _ => r = .b true) := by
  obtain ⟨T, hfew⟩ := few_some t
  have hrr := rright_eff T
  obtain ⟨E, hE, _⟩ := extract_le f.data
  refine eff_of Try.func6 rfl rfl rfl fun cx e hP => ?_
  refine AWP.runL e tab_ok L6 300 rfl (by first | trivial | (simp [in64] <;> omega)) ?_
  repeat (
    first
      | (refine AWP.askT rfl ?_; (first | (refine Told.t rfl ?_) | (refine Told.f rfl ?_) | (refine Told.t ?_ ?_; (focus assumption)) | (refine Told.f ?_ ?_; (focus assumption)) | (refine Told.t ?_ ?_; (focus (first | (simp; omega) | (simp [*]; done)); done)) | (refine Told.f ?_ ?_; (focus (first | (simp; omega) | (simp [*]; done)); done))); refine AWP.runL e tab_ok L6 300 rfl (by first | trivial | (simp [in64] <;> omega)) ?_)
      | (refine AWP.callQ e rfl rfl ?_; (first | refine CallQ.mk (hfew) rfl rfl ?_); refine AWP.runL e tab_ok L6 300 rfl (by first | trivial | (simp [] <;> omega)) ?_)
      | (refine AWP.eq_agg e tab_ok rfl rfl rfl (.inl ⟨rfl, rfl⟩) ?_ 5 (by omega) rfl ?_ rfl rfl rfl rfl rfl rfl rfl ?_; (focus kernel_rfl); (focus kernel_rfl); refine AWP.runL e tab_ok L6 300 rfl (by first | trivial | (simp [in64] <;> omega)) ?_)
      | (refine AWP.eq_agg e tab_ok rfl rfl rfl (.inr ⟨rfl, rfl⟩) ?_ 5 (by omega) rfl ?_ rfl rfl rfl rfl rfl rfl rfl ?_; (focus kernel_rfl); (focus kernel_rfl); refine AWP.runL e tab_ok L6 300 rfl (by first | trivial | (simp [in64] <;> omega)) ?_)
    )
  refine AWP.eqH 1 (fC { f with data := E }) rfl (congrArg (fun d => fC { f with data := d }) hE) ?_
  clear hE
  obtain ⟨F, hF⟩ : ∃ F, F = { f with data := E } := ⟨_, rfl⟩
  rw [← hF]
  clear hF
  rcases cases_b (rightB T) with h | h <;> rw [h] at hrr
  rotate_left
  · repeat (
      first
        | (refine AWP.askT rfl ?_; (first | (refine Told.t rfl ?_) | (refine Told.f rfl ?_) | (refine Told.t ?_ ?_; (focus assumption)) | (refine Told.f ?_ ?_; (focus assumption)) | (refine Told.t ?_ ?_; (focus (first | (simp; omega) | (simp [*]; done)); done)) | (refine Told.f ?_ ?_; (focus (first | (simp; omega) | (simp [*]; done)); done))); refine AWP.runL e tab_ok L6 300 rfl (by first | trivial | (simp [in64] <;> omega)) ?_)
        | (refine AWP.callQ e rfl rfl ?_; (first | refine CallQ.mk (hrr) rfl rfl ?_ | refine CallQ.mk (alive_eff) rfl rfl ?_); refine AWP.runL e tab_ok L6 300 rfl (by first | trivial | (simp [in64] <;> omega)) ?_)
        | (refine AWP.eq_agg e tab_ok rfl rfl rfl (.inl ⟨rfl, rfl⟩) ?_ 5 (by omega) rfl ?_ rfl rfl rfl rfl rfl rfl rfl ?_; (focus kernel_rfl); (focus kernel_rfl); refine AWP.runL e tab_ok L6 300 rfl (by first | trivial | (simp [in64] <;> omega)) ?_)
        | (refine AWP.eq_agg e tab_ok rfl rfl rfl (.inr ⟨rfl, rfl⟩) ?_ 5 (by omega) rfl ?_ rfl rfl rfl rfl rfl rfl rfl ?_; (focus kernel_rfl); (focus kernel_rfl); refine AWP.runL e tab_ok L6 300 rfl (by first | trivial | (simp [in64] <;> omega)) ?_)
      )
    refine AWP.ret e tab_ok rfl ?_
    rw [hP]
    all_goals first | rfl | (simp [strip]; done)
  obtain ⟨m, m1, m3, hm, t1, t2, t3, t4⟩ := mod3 z
  repeat (
    first
      | (refine AWP.askT rfl ?_; (first | (refine Told.t rfl ?_) | (refine Told.f rfl ?_) | (refine Told.t ?_ ?_; (focus assumption)) | (refine Told.f ?_ ?_; (focus assumption)) | (refine Told.t ?_ ?_; (focus (first | (simp; omega) | (simp [*]; done)); done)) | (refine Told.f ?_ ?_; (focus (first | (simp; omega) | (simp [*]; done)); done))); refine AWP.runL e tab_ok L6 300 rfl (by first | trivial | (simp [in64] <;> omega)) ?_)
      | (refine AWP.callQ e rfl rfl ?_; (first | refine CallQ.mk (hrr) rfl rfl ?_); refine AWP.runL e tab_ok L6 300 rfl (by first | trivial | (simp [in64] <;> omega)) ?_)
      | (refine AWP.eq_agg e tab_ok rfl rfl rfl (.inl ⟨rfl, rfl⟩) ?_ 5 (by omega) rfl ?_ rfl rfl rfl rfl rfl rfl rfl ?_; (focus kernel_rfl); (focus kernel_rfl); refine AWP.runL e tab_ok L6 300 rfl (by first | trivial | (simp [in64] <;> omega)) ?_)
      | (refine AWP.eq_agg e tab_ok rfl rfl rfl (.inr ⟨rfl, rfl⟩) ?_ 5 (by omega) rfl ?_ rfl rfl rfl rfl rfl rfl rfl ?_; (focus kernel_rfl); (focus kernel_rfl); refine AWP.runL e tab_ok L6 300 rfl (by first | trivial | (simp [in64] <;> omega)) ?_)
    )
  refine AWP.eqT 3 (.i m) rfl (congrArg SV.i hm) ?_
  refine AWP.eqT 40 (.i m) rfl (congrArg SV.i hm) ?_
  clear hm t1 t2 t3 t4 hrr hfew
  have hg := go_eff T m h m1 m3
  have hN := goT_right h m1 m3
  have hNm := goT_mode T m
  have hNs := goT_same T m
  have hNd : T.mode ≠ m → woken (goT T m) = false ∧ (goT T m).errs = 0 := fun hd => by unfold goT; rw [if_neg hd]; exact ⟨rfl, rfl⟩
  obtain ⟨N, hNN⟩ : ∃ N, N = goT T m := ⟨_, rfl⟩
  rw [← hNN] at hg hN hNm hNs hNd
  clear hNN
  have hg2 := go_eff N m hN m1 m3
  rw [goT_same N m hNm] at hg2
  have hs := saw_eff N F good hN
  have hl := local_eff N hN
  have hwn := wokenr N hN
  have hR := rightB_iff.1 h
  have hwy := wokenr (locT N) (locT_right hN)
  by_cases c1 : m = 1
  · have e1 : sawT N (matchB N F) good = N := by simp [sawT, hNm, c1]
    have e2 : locT N = N := by simp [locT, hNm, c1]
    rw [e1, woke_self] at hs
    rw [e2, woke_self] at hl
    by_cases c2 : T.mode = m
    · obtain rfl := hNs c2
      repeat (
        first
          | (refine AWP.askT rfl ?_; (first | (refine Told.t rfl ?_) | (refine Told.f rfl ?_) | (refine Told.t ?_ ?_; (focus assumption)) | (refine Told.f ?_ ?_; (focus assumption)) | (refine Told.t ?_ ?_; (focus (first | (simp; omega) | (simp [*]; done)); done)) | (refine Told.f ?_ ?_; (focus (first | (simp; omega) | (simp [*]; done)); done))); refine AWP.runL e tab_ok L6 300 rfl (by first | trivial | (simp [in64] <;> omega)) ?_)
          | (refine AWP.callQ e rfl rfl ?_; (first | refine CallQ.mk (hg) rfl rfl ?_ | refine CallQ.mk (hg2) rfl rfl ?_ | refine CallQ.mk (hs) rfl rfl ?_ | refine CallQ.mk (hl) rfl rfl ?_ | refine CallQ.mk (hwn) rfl rfl ?_ | refine CallQ.mk (alive_eff) rfl rfl ?_); refine AWP.runL e tab_ok L6 300 rfl (by first | trivial | (simp [in64] <;> omega)) ?_)
          | (refine AWP.eq_agg e tab_ok rfl rfl rfl (.inl ⟨rfl, rfl⟩) ?_ 5 (by omega) rfl ?_ rfl rfl rfl rfl rfl rfl rfl ?_; (focus kernel_rfl); (focus kernel_rfl); refine AWP.runL e tab_ok L6 300 rfl (by first | trivial | (simp [in64] <;> omega)) ?_)
          | (refine AWP.eq_agg e tab_ok rfl rfl rfl (.inr ⟨rfl, rfl⟩) ?_ 5 (by omega) rfl ?_ rfl rfl rfl rfl rfl rfl rfl ?_; (focus kernel_rfl); (focus kernel_rfl); refine AWP.runL e tab_ok L6 300 rfl (by first | trivial | (simp [in64] <;> omega)) ?_)
        )
      refine AWP.ret e tab_ok rfl ?_
      rw [hP]
      exact congrArg SV.b (by simp)
    · have c2' : m ≠ T.mode := fun h => c2 h.symm
      obtain ⟨d1, d2⟩ := hNd c2
      rw [d1] at hwn
      repeat (
        first
          | (refine AWP.askT rfl ?_; (first | (refine Told.t rfl ?_) | (refine Told.f rfl ?_) | (refine Told.t ?_ ?_; (focus assumption)) | (refine Told.f ?_ ?_; (focus assumption)) | (refine Told.t ?_ ?_; (focus (first | (simp; omega) | (simp [*]; done)); done)) | (refine Told.f ?_ ?_; (focus (first | (simp; omega) | (simp [*]; done)); done))); refine AWP.runL e tab_ok L6 300 rfl (by first | trivial | (simp [in64] <;> omega)) ?_)
          | (refine AWP.callQ e rfl rfl ?_; (first | refine CallQ.mk (hg) rfl rfl ?_ | refine CallQ.mk (hg2) rfl rfl ?_ | refine CallQ.mk (hs) rfl rfl ?_ | refine CallQ.mk (hl) rfl rfl ?_ | refine CallQ.mk (hwn) rfl rfl ?_ | refine CallQ.mk (alive_eff) rfl rfl ?_); refine AWP.runL e tab_ok L6 300 rfl (by first | trivial | (simp [in64] <;> omega)) ?_)
          | (refine AWP.eq_agg e tab_ok rfl rfl rfl (.inl ⟨rfl, rfl⟩) ?_ 5 (by omega) rfl ?_ rfl rfl rfl rfl rfl rfl rfl ?_; (focus kernel_rfl); (focus kernel_rfl); refine AWP.runL e tab_ok L6 300 rfl (by first | trivial | (simp [in64] <;> omega)) ?_)
          | (refine AWP.eq_agg e tab_ok rfl rfl rfl (.inr ⟨rfl, rfl⟩) ?_ 5 (by omega) rfl ?_ rfl rfl rfl rfl rfl rfl rfl ?_; (focus kernel_rfl); (focus kernel_rfl); refine AWP.runL e tab_ok L6 300 rfl (by first | trivial | (simp [in64] <;> omega)) ?_)
        )
      refine AWP.ret e tab_ok rfl ?_
      rw [hP]
      exact congrArg SV.b (by simp)
  · have e2 : locT N = { N with loc := true } := by simp [locT, hNm, c1]
    have e3 : woken (locT N) = true := by rw [e2]; simp [woken]
    rw [e3] at hwy
    have e4 : woke N (locT N) = !woken N := by unfold woke; rw [e3, Bool.and_true]
    rw [e4] at hl
    have f1 : ((!woken N) == (!woken N)) = true := beq_self_eq_true _
    by_cases c2 : T.mode = m
    · obtain rfl := hNs c2
      repeat (
        first
          | (refine AWP.askT rfl ?_; (first | (refine Told.t rfl ?_) | (refine Told.f rfl ?_) | (refine Told.t ?_ ?_; (focus assumption)) | (refine Told.f ?_ ?_; (focus assumption)) | (refine Told.t ?_ ?_; (focus (first | (simp; omega) | (simp [*]; done)); done)) | (refine Told.f ?_ ?_; (focus (first | (simp; omega) | (simp [*]; done)); done))); refine AWP.runL e tab_ok L6 300 rfl (by first | trivial | (simp [in64] <;> omega)) ?_)
          | (refine AWP.callQ e rfl rfl ?_; (first | refine CallQ.mk (hg) rfl rfl ?_ | refine CallQ.mk (hg2) rfl rfl ?_ | refine CallQ.mk (hs) rfl rfl ?_ | refine CallQ.mk (hl) rfl rfl ?_ | refine CallQ.mk (hwn) rfl rfl ?_ | refine CallQ.mk (hwy) rfl rfl ?_ | refine CallQ.mk (alive_eff) rfl rfl ?_); refine AWP.runL e tab_ok L6 300 rfl (by first | trivial | (simp [in64] <;> omega)) ?_)
          | (refine AWP.eq_agg e tab_ok rfl rfl rfl (.inl ⟨rfl, rfl⟩) ?_ 5 (by omega) rfl ?_ rfl rfl rfl rfl rfl rfl rfl ?_; (focus kernel_rfl); (focus kernel_rfl); refine AWP.runL e tab_ok L6 300 rfl (by first | trivial | (simp [in64] <;> omega)) ?_)
          | (refine AWP.eq_agg e tab_ok rfl rfl rfl (.inr ⟨rfl, rfl⟩) ?_ 5 (by omega) rfl ?_ rfl rfl rfl rfl rfl rfl rfl ?_; (focus kernel_rfl); (focus kernel_rfl); refine AWP.runL e tab_ok L6 300 rfl (by first | trivial | (simp [in64] <;> omega)) ?_)
        )
      refine AWP.ret e tab_ok rfl ?_
      rw [hP]
      exact congrArg SV.b f1
    · have c2' : m ≠ T.mode := fun h => c2 h.symm
      obtain ⟨d1, d2⟩ := hNd c2
      rw [d1] at hwn hl
      repeat (
        first
          | (refine AWP.askT rfl ?_; (first | (refine Told.t rfl ?_) | (refine Told.f rfl ?_) | (refine Told.t ?_ ?_; (focus assumption)) | (refine Told.f ?_ ?_; (focus assumption)) | (refine Told.t ?_ ?_; (focus (first | (simp; omega) | (simp [*]; done)); done)) | (refine Told.f ?_ ?_; (focus (first | (simp; omega) | (simp [*]; done)); done))); refine AWP.runL e tab_ok L6 300 rfl (by first | trivial | (simp [in64] <;> omega)) ?_)
          | (refine AWP.callQ e rfl rfl ?_; (first | refine CallQ.mk (hg) rfl rfl ?_ | refine CallQ.mk (hg2) rfl rfl ?_ | refine CallQ.mk (hs) rfl rfl ?_ | refine CallQ.mk (hl) rfl rfl ?_ | refine CallQ.mk (hwn) rfl rfl ?_ | refine CallQ.mk (hwy) rfl rfl ?_ | refine CallQ.mk (alive_eff) rfl rfl ?_); refine AWP.runL e tab_ok L6 300 rfl (by first | trivial | (simp [in64] <;> omega)) ?_)
          | (refine AWP.eq_agg e tab_ok rfl rfl rfl (.inl ⟨rfl, rfl⟩) ?_ 5 (by omega) rfl ?_ rfl rfl rfl rfl rfl rfl rfl ?_; (focus kernel_rfl); (focus kernel_rfl); refine AWP.runL e tab_ok L6 300 rfl (by first | trivial | (simp [in64] <;> omega)) ?_)
          | (refine AWP.eq_agg e tab_ok rfl rfl rfl (.inr ⟨rfl, rfl⟩) ?_ 5 (by omega) rfl ?_ rfl rfl rfl rfl rfl rfl rfl ?_; (focus kernel_rfl); (focus kernel_rfl); refine AWP.runL e tab_ok L6 300 rfl (by first | trivial | (simp [in64] <;> omega)) ?_)
        )
      refine AWP.ret e tab_ok rfl ?_
      rw [hP]
      all_goals first | rfl | (simp [strip]; done)

theorem modes_args (l : List SV) (h : Args tab 9 [24, 26, 4, 3] l) : Eff Try.prog 6 l [] 0 (fun r _ _ => r = .b true) := by
  obtain ⟨xs, _, rfl, hp, ys, _, rfl, hq, _, _, rfl, ⟨good, rfl⟩, _, _, rfl, ⟨z, rfl, _, _⟩, rfl⟩ := h
  obtain ⟨t, ht⟩ := tv_of hp
  obtain ⟨f, hf⟩ := fv_of (n := 7) hq
  show Eff Try.prog 6 [.agg (xs.map SV.d), .agg (ys.map SV.d), _, _] [] 0 _
  rw [ht, hf]
  exact modes_eff t f good z
end Go.Proofs.Ytjhfeeacdickbaa
