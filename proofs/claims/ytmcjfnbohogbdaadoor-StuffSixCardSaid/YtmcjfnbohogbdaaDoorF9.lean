import Derived.Test.YtmcjfnbohogbdaaDoorF8
open Go Go.Proofs Go.Sy Go.Stuff
namespace Go.Proofs.YtmcjfnbohogbdaaDoor

theorem unst_mem (l : List UInt8) : ∀ (x : X) (p : List UInt8 × X), unst x l = some p → ∀ c ∈ p.1, c ∈ l := by
  induction l with
  | nil => intro x p h c hc; simp only [unst, Option.some.injEq] at h; rw [← h] at hc; exact hc
  | cons d l ih =>
    intro x p h c hc
    simp only [unst] at h
    split at h
    · cases h
    · simp only [Option.map_eq_some_iff] at h
      obtain ⟨q, h1, h2⟩ := h
      rw [← h2] at hc
      have hc : c ∈ (if kind x d = 1 then d :: q.1 else q.1) := hc
      split at hc
      · simp only [List.mem_cons] at hc
        rcases hc with rfl | hc
        · simp
        · simp [ih _ q h1 c hc]
      · simp [ih _ q h1 c hc]
theorem well_of {l : List UInt8} (h : l.length ≤ 4000) (hb : ∀ b ∈ l, isB b) : wellB l = true := by
  unfold wellB
  simp only [Bool.and_eq_true, decide_eq_true_eq]
  refine ⟨h, List.all_eq_true.2 fun b hb' => ?_⟩
  rcases hb b hb' with rfl | rfl <;> rfl
theorem stuffR_ok {l : List UInt8} (h : (stuffL x0 l).length ≤ 4000) : stuffR l = .tup [.s (strL (stuffL x0 l)), .i 0] := by unfold stuffR; rw [if_neg (by omega)]
theorem unst_row {l : List UInt8} (hw : wellB l = true) : unstR (stuffL x0 l) = .tup [.s (strL l), .i 0] := by
  unfold unstR
  rw [unst_stuff l x0 (by decide) (well_isB hw)]
  have := stuffE_le l x0 (by decide) (well_isB hw)
  dsimp only
  rw [if_neg (by omega)]
theorem well_stuff {l : List UInt8} (hw : wellB l = true) (h : (stuffL x0 l).length ≤ 4000) : wellB (stuffL x0 l) = true := well_of h (stuff_bits l x0 (well_isB hw))
set_option maxRecDepth 100000 in
set_option maxHeartbeats 2000000 in
theorem lback_ok (s l : List UInt8) (hl : l.length ≤ 3000) (hcut : (strL s).extract 0 (if (3000 : Int) < ((strL s).size : Int) then (3000 : Int) else ((strL s).size : Int)).toNat = strL l) : Eff Tryd.prog 5 [.s (strL s)] [] 0 (fun r _ _ => r = .b true) := by
  have al := alive_eff
  have w := refright_eff l (by omega)
  rcases cases_b (wellB l) with hw | hw <;> rw [hw] at w
  · have hlen : 4 * (stuffL x0 l).length ≤ 5 * l.length := (stuff_len l x0 (by decide) (well_isB hw)).2
    have c1 := stuff_ok l hw
    rw [stuffR_ok (by omega)] at c1
    have c2 := unst_ok _ (well_stuff hw (by omega))
    rw [unst_row hw] at c2
    have c3 := unst_ok l hw
    have g1 : (!((strL l).toList == (strL l).toList)) = false := by simp
    have g3 : ((strL l).toList == (strL l).toList) = true := by simp
    generalize stuffL x0 l = A at *
    cases hu : unst x0 l with
    | none =>
      have hR : unstR l = .tup [.s ⟨#[]⟩, .i 10] := by unfold unstR; rw [hu]
      rw [hR] at c3
      refine eff_of Tryd.func5 rfl rfl rfl fun cx e hP => ?_
      refine AWP.runL e tab_ok L5 300 rfl (by first | trivial | (simp [] <;> omega) | (simp only [in64, true_and, and_true]; omega)) ?_
      refine AWP.eqT 0 (.s (strL l)) rfl (congrArg SV.s hcut) ?_
      refine AWP.eqT 17 (.s (strL l)) rfl (congrArg SV.s hcut) ?_
      clear hcut
      repeat (
        first
          | (refine AWP.askT rfl ?_; (first | (refine Told.t rfl ?_) | (refine Told.f rfl ?_) | (refine Told.t ?_ ?_; (focus assumption)) | (refine Told.f ?_ ?_; (focus assumption)) | (refine Told.t ?_ ?_; (focus (first | (simp; omega) | (simp [*]; done)); done)) | (refine Told.f ?_ ?_; (focus (first | (simp; omega) | (simp [*]; done)); done))); refine AWP.runL e tab_ok L5 300 rfl (by first | trivial | (simp [in64] <;> omega) | (simp only [in64, true_and, and_true]; omega)) ?_)
          | (refine AWP.callQ e rfl rfl ?_; (first | refine CallQ.mk (w) rfl rfl ?_ | refine CallQ.mk (c1) rfl rfl ?_ | refine CallQ.mk (c2) rfl rfl ?_ | refine CallQ.mk (c3) rfl rfl ?_ | refine CallQ.mk (al) rfl rfl ?_); refine AWP.runL e tab_ok L5 300 rfl (by first | trivial | (simp [in64] <;> omega) | (simp only [in64, true_and, and_true]; omega)) ?_)
          | (refine AWP.eq_agg e tab_ok rfl rfl rfl (.inl ⟨rfl, rfl⟩) ?_ 5 (by omega) rfl ?_ rfl rfl rfl rfl rfl rfl rfl ?_; (focus kernel_rfl); (focus kernel_rfl); refine AWP.runL e tab_ok L5 300 rfl (by first | trivial | (simp [in64] <;> omega) | (simp only [in64, true_and, and_true]; omega)) ?_)
          | (refine AWP.eq_agg e tab_ok rfl rfl rfl (.inr ⟨rfl, rfl⟩) ?_ 5 (by omega) rfl ?_ rfl rfl rfl rfl rfl rfl rfl ?_; (focus kernel_rfl); (focus kernel_rfl); refine AWP.runL e tab_ok L5 300 rfl (by first | trivial | (simp [in64] <;> omega) | (simp only [in64, true_and, and_true]; omega)) ?_)
        )
      refine AWP.ret e tab_ok rfl ?_
      rw [hP]
      all_goals first | rfl | (simp [strip]; done)
    | some p =>
      obtain ⟨o, x⟩ := p
      have hR : unstR l = if x.2 = 5 then .tup [.s ⟨#[]⟩, .i 3] else .tup [.s (strL o), .i 0] := by unfold unstR; rw [hu]
      rw [hR] at c3
      by_cases h5 : x.2 = 5
      · rw [if_pos h5] at c3
        refine eff_of Tryd.func5 rfl rfl rfl fun cx e hP => ?_
        refine AWP.runL e tab_ok L5 300 rfl (by first | trivial | (simp [] <;> omega) | (simp only [in64, true_and, and_true]; omega)) ?_
        refine AWP.eqT 0 (.s (strL l)) rfl (congrArg SV.s hcut) ?_
        refine AWP.eqT 17 (.s (strL l)) rfl (congrArg SV.s hcut) ?_
        clear hcut
        repeat (
          first
            | (refine AWP.askT rfl ?_; (first | (refine Told.t rfl ?_) | (refine Told.f rfl ?_) | (refine Told.t ?_ ?_; (focus assumption)) | (refine Told.f ?_ ?_; (focus assumption)) | (refine Told.t ?_ ?_; (focus (first | (simp; omega) | (simp [*]; done)); done)) | (refine Told.f ?_ ?_; (focus (first | (simp; omega) | (simp [*]; done)); done))); refine AWP.runL e tab_ok L5 300 rfl (by first | trivial | (simp [in64] <;> omega) | (simp only [in64, true_and, and_true]; omega)) ?_)
            | (refine AWP.callQ e rfl rfl ?_; (first | refine CallQ.mk (w) rfl rfl ?_ | refine CallQ.mk (c1) rfl rfl ?_ | refine CallQ.mk (c2) rfl rfl ?_ | refine CallQ.mk (c3) rfl rfl ?_ | refine CallQ.mk (al) rfl rfl ?_); refine AWP.runL e tab_ok L5 300 rfl (by first | trivial | (simp [in64] <;> omega) | (simp only [in64, true_and, and_true]; omega)) ?_)
            | (refine AWP.eq_agg e tab_ok rfl rfl rfl (.inl ⟨rfl, rfl⟩) ?_ 5 (by omega) rfl ?_ rfl rfl rfl rfl rfl rfl rfl ?_; (focus kernel_rfl); (focus kernel_rfl); refine AWP.runL e tab_ok L5 300 rfl (by first | trivial | (simp [in64] <;> omega) | (simp only [in64, true_and, and_true]; omega)) ?_)
            | (refine AWP.eq_agg e tab_ok rfl rfl rfl (.inr ⟨rfl, rfl⟩) ?_ 5 (by omega) rfl ?_ rfl rfl rfl rfl rfl rfl rfl ?_; (focus kernel_rfl); (focus kernel_rfl); refine AWP.runL e tab_ok L5 300 rfl (by first | trivial | (simp [in64] <;> omega) | (simp only [in64, true_and, and_true]; omega)) ?_)
          )
        refine AWP.ret e tab_ok rfl ?_
        rw [hP]
        all_goals first | rfl | (simp [strip]; done)
      · rw [if_neg h5] at c3
        have hol : o.length ≤ l.length := unst_len _ _ _ hu
        have hwo : wellB o = true := well_of (by have := well_len hw; omega) fun b hb => well_isB hw b (unst_mem _ _ _ hu b hb)
        have hback := stuff_unst l.length l x0 o x (Nat.le_refl _) (by decide) (well_isB hw) hu h5
        have c4 := stuff_ok o hwo
        rw [stuffR_ok (by rw [hback]; omega), hback] at c4
        refine eff_of Tryd.func5 rfl rfl rfl fun cx e hP => ?_
        refine AWP.runL e tab_ok L5 300 rfl (by first | trivial | (simp [] <;> omega) | (simp only [in64, true_and, and_true]; omega)) ?_
        refine AWP.eqT 0 (.s (strL l)) rfl (congrArg SV.s hcut) ?_
        refine AWP.eqT 17 (.s (strL l)) rfl (congrArg SV.s hcut) ?_
        clear hcut
        repeat (
          first
            | (refine AWP.askT rfl ?_; (first | (refine Told.t rfl ?_) | (refine Told.f rfl ?_) | (refine Told.t ?_ ?_; (focus assumption)) | (refine Told.f ?_ ?_; (focus assumption)) | (refine Told.t ?_ ?_; (focus (first | (simp; omega) | (simp [*]; done)); done)) | (refine Told.f ?_ ?_; (focus (first | (simp; omega) | (simp [*]; done)); done))); refine AWP.runL e tab_ok L5 300 rfl (by first | trivial | (simp [in64] <;> omega) | (simp only [in64, true_and, and_true]; omega)) ?_)
            | (refine AWP.callQ e rfl rfl ?_; (first | refine CallQ.mk (w) rfl rfl ?_ | refine CallQ.mk (c1) rfl rfl ?_ | refine CallQ.mk (c2) rfl rfl ?_ | refine CallQ.mk (c3) rfl rfl ?_ | refine CallQ.mk (c4) rfl rfl ?_ | refine CallQ.mk (al) rfl rfl ?_); refine AWP.runL e tab_ok L5 300 rfl (by first | trivial | (simp [in64] <;> omega) | (simp only [in64, true_and, and_true]; omega)) ?_)
            | (refine AWP.eq_agg e tab_ok rfl rfl rfl (.inl ⟨rfl, rfl⟩) ?_ 5 (by omega) rfl ?_ rfl rfl rfl rfl rfl rfl rfl ?_; (focus kernel_rfl); (focus kernel_rfl); refine AWP.runL e tab_ok L5 300 rfl (by first | trivial | (simp [in64] <;> omega) | (simp only [in64, true_and, and_true]; omega)) ?_)
            | (refine AWP.eq_agg e tab_ok rfl rfl rfl (.inr ⟨rfl, rfl⟩) ?_ 5 (by omega) rfl ?_ rfl rfl rfl rfl rfl rfl rfl ?_; (focus kernel_rfl); (focus kernel_rfl); refine AWP.runL e tab_ok L5 300 rfl (by first | trivial | (simp [in64] <;> omega) | (simp only [in64, true_and, and_true]; omega)) ?_)
          )
        refine AWP.ret e tab_ok rfl ?_
        rw [hP]
        exact congrArg SV.b g3
  · have c1 := stuff_bad l hw
    refine eff_of Tryd.func5 rfl rfl rfl fun cx e hP => ?_
    refine AWP.runL e tab_ok L5 300 rfl (by first | trivial | (simp [] <;> omega) | (simp only [in64, true_and, and_true]; omega)) ?_
    refine AWP.eqT 0 (.s (strL l)) rfl (congrArg SV.s hcut) ?_
    refine AWP.eqT 17 (.s (strL l)) rfl (congrArg SV.s hcut) ?_
    clear hcut
    repeat (
      first
        | (refine AWP.askT rfl ?_; (first | (refine Told.t rfl ?_) | (refine Told.f rfl ?_) | (refine Told.t ?_ ?_; (focus assumption)) | (refine Told.f ?_ ?_; (focus assumption)) | (refine Told.t ?_ ?_; (focus (first | (simp; omega) | (simp [*]; done)); done)) | (refine Told.f ?_ ?_; (focus (first | (simp; omega) | (simp [*]; done)); done))); refine AWP.runL e tab_ok L5 300 rfl (by first | trivial | (simp [in64] <;> omega) | (simp only [in64, true_and, and_true]; omega)) ?_)
        | (refine AWP.callQ e rfl rfl ?_; (first | refine CallQ.mk (w) rfl rfl ?_ | refine CallQ.mk (c1) rfl rfl ?_ | refine CallQ.mk (al) rfl rfl ?_); refine AWP.runL e tab_ok L5 300 rfl (by first | trivial | (simp [in64] <;> omega) | (simp only [in64, true_and, and_true]; omega)) ?_)
        | (refine AWP.eq_agg e tab_ok rfl rfl rfl (.inl ⟨rfl, rfl⟩) ?_ 5 (by omega) rfl ?_ rfl rfl rfl rfl rfl rfl rfl ?_; (focus kernel_rfl); (focus kernel_rfl); refine AWP.runL e tab_ok L5 300 rfl (by first | trivial | (simp [in64] <;> omega) | (simp only [in64, true_and, and_true]; omega)) ?_)
        | (refine AWP.eq_agg e tab_ok rfl rfl rfl (.inr ⟨rfl, rfl⟩) ?_ 5 (by omega) rfl ?_ rfl rfl rfl rfl rfl rfl rfl ?_; (focus kernel_rfl); (focus kernel_rfl); refine AWP.runL e tab_ok L5 300 rfl (by first | trivial | (simp [in64] <;> omega) | (simp only [in64, true_and, and_true]; omega)) ?_)
      )
    refine AWP.ret e tab_ok rfl ?_
    rw [hP]
    all_goals first | rfl | (simp [strip]; done)
theorem lback_args (l : List SV) (h : Args tab 9 [9] l) : Eff Tryd.prog 5 l [] 0 (fun r _ _ => r = .b true) := by
  obtain ⟨_, _, rfl, ⟨s, rfl, _⟩, rfl⟩ := h
  rw [strL_of s]
  generalize s.data.toList = s
  exact lback_ok s _ (by simp; omega) (cut_str s 3000)
end Go.Proofs.YtmcjfnbohogbdaaDoor
