import Derived.Test.YthibaeeoegoliaaF13
open Go Go.Proofs Go.RowKit Go.Sy Go.Signal
namespace Go.Proofs.Ythibaeeoegoliaa

theorem fdiv_zero {v p : Int} (hp : 0 < p) : v.fdiv p = 0 ↔ 0 ≤ v ∧ v < p := by
  rw [Int.fdiv_eq_ediv_of_nonneg _ (by omega)]
  constructor
  · intro h
    have h1 := Int.emod_add_mul_ediv v p
    have h2 := Int.emod_nonneg v (show p ≠ 0 by omega)
    have h3 := Int.emod_lt_of_pos v hp
    rw [h, Int.mul_zero] at h1
    omega
  · rintro ⟨h1, h2⟩
    exact Int.ediv_eq_zero_of_lt h1 h2
theorem fdiv_neg1 {v p : Int} (hp : 0 < p) : v.fdiv p = -1 ↔ -p ≤ v ∧ v < 0 := by
  rw [Int.fdiv_eq_ediv_of_nonneg _ (by omega)]
  constructor
  · intro h
    have h1 := Int.emod_add_mul_ediv v p
    have h2 := Int.emod_nonneg v (show p ≠ 0 by omega)
    have h3 := Int.emod_lt_of_pos v hp
    rw [h] at h1
    omega
  · rintro ⟨h1, h2⟩
    have h3 : (v + p) / p = 0 := Int.ediv_eq_zero_of_lt (by omega) (by omega)
    rw [Int.add_ediv_of_dvd_right (Int.dvd_refl p), Int.ediv_self (by omega)] at h3
    omega
/-- 2 to the k. -/
abbrev p2 (k : Nat) : Int := ((2 ^ k : Nat) : Int)
theorem p2_pos (k : Nat) : 0 < p2 k := by
  have : 0 < 2 ^ k := Nat.pow_pos (by decide)
  show (0 : Int) < ((2 ^ k : Nat) : Int)
  omega
/-- May a value be one's, which may be? -/
def fitsB (s : Sig) (v : Int) : Bool :=
  if s.sgn then decide (-p2 (s.width.toNat - 1) ≤ v) && decide (v < p2 (s.width.toNat - 1))
  else decide (0 ≤ v) && (decide (63 ≤ s.width.toNat) || decide (v < p2 s.width.toNat))
def fitS (s : Sig) (v : Int) : Bool := match places s with
  | none => false
  | some _ => fitsB s v
theorem shr_p2 (v : Int) (k : Nat) (hk : k ≤ 64) : v.fdiv (2 ^ (min ((k : Nat) : Int).toNat IntKind.i64.bits)) = v.fdiv (p2 k) := by
  rw [show min ((k : Nat) : Int).toNat IntKind.i64.bits = k from by rw [Int.toNat_natCast]; exact Nat.min_eq_left hk]
  congr 1
theorem good_of {s : Sig} {l : List Nat} (h : places s = some l) : bad s = false := by
  unfold places at h
  split at h
  · cases h
  · rename_i hb; exact Bool.eq_false_iff.2 hb
set_option maxRecDepth 100000 in
theorem Fits_eff (s : Sig) (v : Int) : Eff Try.prog 14 [.agg (sC s), .i v] [] 0 (fun r _ _ => r = .b (fitS s v)) := by
  have c1 := places_eff s
  cases h : places s with
  | none =>
    rw [plR_none h] at c1
    have hR : fitS s v = false := by unfold fitS; rw [h]
    rw [hR]
    refine eff_of Try.func14 rfl rfl rfl fun cx e hP => ?_
    refine AWP.runL e tab_ok L14 300 rfl (by first | trivial | (simp [in64] <;> omega) | (simp only [in64, true_and, and_true]; omega)) ?_
    repeat (
      first
        | (refine AWP.askT rfl ?_; (first | (refine Told.t rfl ?_) | (refine Told.f rfl ?_) | (refine Told.t ?_ ?_; (focus assumption)) | (refine Told.f ?_ ?_; (focus assumption)) | (refine Told.t ?_ ?_; (focus (first | (simp; omega) | (simp [*]; done)); done)) | (refine Told.f ?_ ?_; (focus (first | (simp; omega) | (simp [*]; done)); done))); refine AWP.runL e tab_ok L14 300 rfl (by first | trivial | (simp [in64] <;> omega) | (simp only [in64, true_and, and_true]; omega)) ?_)
        | (refine AWP.callQ e rfl rfl ?_; (first | refine CallQ.mk (c1) rfl rfl ?_); refine AWP.runL e tab_ok L14 300 rfl (by first | trivial | (simp [in64] <;> omega) | (simp only [in64, true_and, and_true]; omega)) ?_)
        | (refine AWP.eq_agg e tab_ok rfl rfl rfl (.inl ⟨rfl, rfl⟩) ?_ 5 (by omega) rfl ?_ rfl rfl rfl rfl rfl rfl rfl ?_; (focus kernel_rfl); (focus kernel_rfl); refine AWP.runL e tab_ok L14 300 rfl (by first | trivial | (simp [in64] <;> omega) | (simp only [in64, true_and, and_true]; omega)) ?_)
        | (refine AWP.eq_agg e tab_ok rfl rfl rfl (.inr ⟨rfl, rfl⟩) ?_ 5 (by omega) rfl ?_ rfl rfl rfl rfl rfl rfl rfl ?_; (focus kernel_rfl); (focus kernel_rfl); refine AWP.runL e tab_ok L14 300 rfl (by first | trivial | (simp [in64] <;> omega) | (simp only [in64, true_and, and_true]; omega)) ?_)
      )
    refine AWP.ret e tab_ok rfl ?_
    rw [hP]
    all_goals first | rfl | (simp [strip]; done)
  | some l =>
    rw [plR_some h] at c1
    have hl := places_len h
    have hn : (rowI (intsN l)).length = l.length := by simp
    have hne : rowI (intsN l) ≠ [] := fun h0 => by rw [h0] at hn; simp at hn; omega
    have hR : fitS s v = fitsB s v := by unfold fitS; rw [h]
    rw [hR]
    obtain ⟨w, hw⟩ : ∃ w : Nat, s.width = w := ⟨s.width.toNat, by omega⟩
    have hw1 : 1 ≤ w := by omega
    have hw64 : w ≤ 64 := by omega
    have hwn : s.width.toNat = w := by omega
    refine eff_of Try.func14 rfl rfl rfl fun cx e hP => ?_
    rcases cases_b s.sgn with q | q
    · have hF : fitsB s v = (decide (-p2 (w - 1) ≤ v) && decide (v < p2 (w - 1))) := by
        unfold fitsB; rw [if_pos q, hwn]
      rw [hF] at hP
      have hs : v.fdiv (2 ^ (min (s.width - 1).toNat IntKind.i64.bits)) = v.fdiv (p2 (w - 1)) := by
        rw [show s.width - 1 = ((w - 1 : Nat) : Int) by omega]
        exact shr_p2 v (w - 1) (by omega)
      have hz := fdiv_zero (v := v) (p2_pos (w - 1))
      have hm := fdiv_neg1 (v := v) (p2_pos (w - 1))
      rw [← hs] at hz hm
      clear hs
      have hpp := p2_pos (w - 1)
      generalize p2 (w - 1) = p at *
      rcases cases_b (v.fdiv (2 ^ (min (s.width - 1).toNat IntKind.i64.bits)) == 0) with q0 | q0
      · have hv := hz.1 (eq_of_beq q0)
        rw [decide_eq_true (show -p ≤ v by omega), decide_eq_true (show v < p by omega)] at hP
        clear hz hm
        refine AWP.runL e tab_ok L14 300 rfl (by first | trivial | (simp [in64] <;> omega) | (simp only [in64, true_and, and_true]; omega)) ?_
        repeat (
          first
            | (refine AWP.askT rfl ?_; (first | (refine Told.t rfl ?_) | (refine Told.f rfl ?_) | (refine Told.t ?_ ?_; (focus assumption)) | (refine Told.f ?_ ?_; (focus assumption)) | (refine Told.t ?_ ?_; (focus (first | (simp; omega) | (simp [*]; done)); done)) | (refine Told.f ?_ ?_; (focus (first | (simp; omega) | (simp [*]; done)); done))); refine AWP.runL e tab_ok L14 300 rfl (by first | trivial | (simp [in64] <;> omega) | (simp only [in64, true_and, and_true]; omega)) ?_)
            | (refine AWP.callQ e rfl rfl ?_; (first | refine CallQ.mk (c1) rfl rfl ?_); refine AWP.runL e tab_ok L14 300 rfl (by first | trivial | (simp [in64] <;> omega) | (simp only [in64, true_and, and_true]; omega)) ?_)
            | (refine AWP.eq_agg e tab_ok rfl rfl rfl (.inl ⟨rfl, rfl⟩) ?_ 5 (by omega) rfl ?_ rfl rfl rfl rfl rfl rfl rfl ?_; (focus kernel_rfl); (focus kernel_rfl); refine AWP.runL e tab_ok L14 300 rfl (by first | trivial | (simp [in64] <;> omega) | (simp only [in64, true_and, and_true]; omega)) ?_)
            | (refine AWP.eq_agg e tab_ok rfl rfl rfl (.inr ⟨rfl, rfl⟩) ?_ 5 (by omega) rfl ?_ rfl rfl rfl rfl rfl rfl rfl ?_; (focus kernel_rfl); (focus kernel_rfl); refine AWP.runL e tab_ok L14 300 rfl (by first | trivial | (simp [in64] <;> omega) | (simp only [in64, true_and, and_true]; omega)) ?_)
          )
        refine AWP.ret e tab_ok rfl ?_
        rw [hP]
        all_goals first | rfl | (simp [strip]; done)
      · rcases cases_b (v.fdiv (2 ^ (min (s.width - 1).toNat IntKind.i64.bits)) == -1) with q1 | q1
        · have hv := hm.1 (eq_of_beq q1)
          rw [decide_eq_true (show -p ≤ v by omega), decide_eq_true (show v < p by omega)] at hP
          clear hz hm
          refine AWP.runL e tab_ok L14 300 rfl (by first | trivial | (simp [in64] <;> omega) | (simp only [in64, true_and, and_true]; omega)) ?_
          repeat (
            first
              | (refine AWP.askT rfl ?_; (first | (refine Told.t rfl ?_) | (refine Told.f rfl ?_) | (refine Told.t ?_ ?_; (focus assumption)) | (refine Told.f ?_ ?_; (focus assumption)) | (refine Told.t ?_ ?_; (focus (first | (simp; omega) | (simp [*]; done)); done)) | (refine Told.f ?_ ?_; (focus (first | (simp; omega) | (simp [*]; done)); done))); refine AWP.runL e tab_ok L14 300 rfl (by first | trivial | (simp [in64] <;> omega) | (simp only [in64, true_and, and_true]; omega)) ?_)
              | (refine AWP.callQ e rfl rfl ?_; (first | refine CallQ.mk (c1) rfl rfl ?_); refine AWP.runL e tab_ok L14 300 rfl (by first | trivial | (simp [in64] <;> omega) | (simp only [in64, true_and, and_true]; omega)) ?_)
              | (refine AWP.eq_agg e tab_ok rfl rfl rfl (.inl ⟨rfl, rfl⟩) ?_ 5 (by omega) rfl ?_ rfl rfl rfl rfl rfl rfl rfl ?_; (focus kernel_rfl); (focus kernel_rfl); refine AWP.runL e tab_ok L14 300 rfl (by first | trivial | (simp [in64] <;> omega) | (simp only [in64, true_and, and_true]; omega)) ?_)
              | (refine AWP.eq_agg e tab_ok rfl rfl rfl (.inr ⟨rfl, rfl⟩) ?_ 5 (by omega) rfl ?_ rfl rfl rfl rfl rfl rfl rfl ?_; (focus kernel_rfl); (focus kernel_rfl); refine AWP.runL e tab_ok L14 300 rfl (by first | trivial | (simp [in64] <;> omega) | (simp only [in64, true_and, and_true]; omega)) ?_)
            )
          refine AWP.ret e tab_ok rfl ?_
          rw [hP]
          exact congrArg SV.b q1
        · have hB : (decide (-p ≤ v) && decide (v < p)) = false := by
            have h1 : ¬ (0 ≤ v ∧ v < p) := fun h => by rw [hz.2 h] at q0; simp at q0
            have h2 : ¬ (-p ≤ v ∧ v < 0) := fun h => by rw [hm.2 h] at q1; simp at q1
            rw [Bool.and_eq_false_iff]
            by_cases h3 : v < 0
            · left; exact decide_eq_false (by omega)
            · right; exact decide_eq_false (by omega)
          rw [hB] at hP
          clear hz hm
          refine AWP.runL e tab_ok L14 300 rfl (by first | trivial | (simp [in64] <;> omega) | (simp only [in64, true_and, and_true]; omega)) ?_
          repeat (
            first
              | (refine AWP.askT rfl ?_; (first | (refine Told.t rfl ?_) | (refine Told.f rfl ?_) | (refine Told.t ?_ ?_; (focus assumption)) | (refine Told.f ?_ ?_; (focus assumption)) | (refine Told.t ?_ ?_; (focus (first | (simp; omega) | (simp [*]; done)); done)) | (refine Told.f ?_ ?_; (focus (first | (simp; omega) | (simp [*]; done)); done))); refine AWP.runL e tab_ok L14 300 rfl (by first | trivial | (simp [in64] <;> omega) | (simp only [in64, true_and, and_true]; omega)) ?_)
              | (refine AWP.callQ e rfl rfl ?_; (first | refine CallQ.mk (c1) rfl rfl ?_); refine AWP.runL e tab_ok L14 300 rfl (by first | trivial | (simp [in64] <;> omega) | (simp only [in64, true_and, and_true]; omega)) ?_)
              | (refine AWP.eq_agg e tab_ok rfl rfl rfl (.inl ⟨rfl, rfl⟩) ?_ 5 (by omega) rfl ?_ rfl rfl rfl rfl rfl rfl rfl ?_; (focus kernel_rfl); (focus kernel_rfl); refine AWP.runL e tab_ok L14 300 rfl (by first | trivial | (simp [in64] <;> omega) | (simp only [in64, true_and, and_true]; omega)) ?_)
              | (refine AWP.eq_agg e tab_ok rfl rfl rfl (.inr ⟨rfl, rfl⟩) ?_ 5 (by omega) rfl ?_ rfl rfl rfl rfl rfl rfl rfl ?_; (focus kernel_rfl); (focus kernel_rfl); refine AWP.runL e tab_ok L14 300 rfl (by first | trivial | (simp [in64] <;> omega) | (simp only [in64, true_and, and_true]; omega)) ?_)
            )
          refine AWP.ret e tab_ok rfl ?_
          rw [hP]
          exact congrArg SV.b q1
    · have hF : fitsB s v = (decide (0 ≤ v) && (decide (63 ≤ w) || decide (v < p2 w))) := by
        unfold fitsB; rw [if_neg (by rw [q]; decide), hwn]
      rw [hF] at hP
      by_cases h0 : v ≥ 0
      · rw [decide_eq_true (show 0 ≤ v from h0), Bool.true_and] at hP
        by_cases h1 : s.width ≥ 63
        · rw [decide_eq_true (show 63 ≤ w by omega), Bool.true_or] at hP
          refine AWP.runL e tab_ok L14 300 rfl (by first | trivial | (simp [in64] <;> omega) | (simp only [in64, true_and, and_true]; omega)) ?_
          repeat (
            first
              | (refine AWP.askT rfl ?_; (first | (refine Told.t rfl ?_) | (refine Told.f rfl ?_) | (refine Told.t ?_ ?_; (focus assumption)) | (refine Told.f ?_ ?_; (focus assumption)) | (refine Told.t ?_ ?_; (focus (first | (simp; omega) | (simp [*]; done)); done)) | (refine Told.f ?_ ?_; (focus (first | (simp; omega) | (simp [*]; done)); done))); refine AWP.runL e tab_ok L14 300 rfl (by first | trivial | (simp [in64] <;> omega) | (simp only [in64, true_and, and_true]; omega)) ?_)
              | (refine AWP.callQ e rfl rfl ?_; (first | refine CallQ.mk (c1) rfl rfl ?_); refine AWP.runL e tab_ok L14 300 rfl (by first | trivial | (simp [in64] <;> omega) | (simp only [in64, true_and, and_true]; omega)) ?_)
              | (refine AWP.eq_agg e tab_ok rfl rfl rfl (.inl ⟨rfl, rfl⟩) ?_ 5 (by omega) rfl ?_ rfl rfl rfl rfl rfl rfl rfl ?_; (focus kernel_rfl); (focus kernel_rfl); refine AWP.runL e tab_ok L14 300 rfl (by first | trivial | (simp [in64] <;> omega) | (simp only [in64, true_and, and_true]; omega)) ?_)
              | (refine AWP.eq_agg e tab_ok rfl rfl rfl (.inr ⟨rfl, rfl⟩) ?_ 5 (by omega) rfl ?_ rfl rfl rfl rfl rfl rfl rfl ?_; (focus kernel_rfl); (focus kernel_rfl); refine AWP.runL e tab_ok L14 300 rfl (by first | trivial | (simp [in64] <;> omega) | (simp only [in64, true_and, and_true]; omega)) ?_)
            )
          refine AWP.ret e tab_ok rfl ?_
          rw [hP]
          all_goals first | rfl | (simp [strip]; done)
        · rw [decide_eq_false (show ¬ 63 ≤ w by omega), Bool.false_or] at hP
          have hs : v.fdiv (2 ^ (min s.width.toNat IntKind.i64.bits)) = v.fdiv (p2 w) := by
            rw [hw]
            exact shr_p2 v w (by omega)
          have hz := fdiv_zero (v := v) (p2_pos w)
          rw [← hs] at hz
          clear hs
          generalize p2 w = p at *
          have hB : (v.fdiv (2 ^ (min s.width.toNat IntKind.i64.bits)) == 0) = decide (v < p) := by
            rw [Bool.eq_iff_iff, beq_iff_eq, hz, decide_eq_true_eq]
            omega
          clear hz
          refine AWP.runL e tab_ok L14 300 rfl (by first | trivial | (simp [in64] <;> omega) | (simp only [in64, true_and, and_true]; omega)) ?_
          repeat (
            first
              | (refine AWP.askT rfl ?_; (first | (refine Told.t rfl ?_) | (refine Told.f rfl ?_) | (refine Told.t ?_ ?_; (focus assumption)) | (refine Told.f ?_ ?_; (focus assumption)) | (refine Told.t ?_ ?_; (focus (first | (simp; omega) | (simp [*]; done)); done)) | (refine Told.f ?_ ?_; (focus (first | (simp; omega) | (simp [*]; done)); done))); refine AWP.runL e tab_ok L14 300 rfl (by first | trivial | (simp [] <;> omega) | (simp only [in64, true_and, and_true]; omega)) ?_)
              | (refine AWP.callQ e rfl rfl ?_; (first | refine CallQ.mk (c1) rfl rfl ?_); refine AWP.runL e tab_ok L14 300 rfl (by first | trivial | (simp [in64] <;> omega) | (simp only [in64, true_and, and_true]; omega)) ?_)
              | (refine AWP.eq_agg e tab_ok rfl rfl rfl (.inl ⟨rfl, rfl⟩) ?_ 5 (by omega) rfl ?_ rfl rfl rfl rfl rfl rfl rfl ?_; (focus kernel_rfl); (focus kernel_rfl); refine AWP.runL e tab_ok L14 300 rfl (by first | trivial | (simp [in64] <;> omega) | (simp only [in64, true_and, and_true]; omega)) ?_)
              | (refine AWP.eq_agg e tab_ok rfl rfl rfl (.inr ⟨rfl, rfl⟩) ?_ 5 (by omega) rfl ?_ rfl rfl rfl rfl rfl rfl rfl ?_; (focus kernel_rfl); (focus kernel_rfl); refine AWP.runL e tab_ok L14 300 rfl (by first | trivial | (simp [in64] <;> omega) | (simp only [in64, true_and, and_true]; omega)) ?_)
            )
          refine AWP.ret e tab_ok rfl ?_
          rw [hP]
          exact congrArg SV.b hB
      · rw [decide_eq_false (show ¬ 0 ≤ v from h0), Bool.false_and] at hP
        refine AWP.runL e tab_ok L14 300 rfl (by first | trivial | (simp [in64] <;> omega) | (simp only [in64, true_and, and_true]; omega)) ?_
        repeat (
          first
            | (refine AWP.askT rfl ?_; (first | (refine Told.t rfl ?_) | (refine Told.f rfl ?_) | (refine Told.t ?_ ?_; (focus assumption)) | (refine Told.f ?_ ?_; (focus assumption)) | (refine Told.t ?_ ?_; (focus (first | (simp; omega) | (simp [*]; done)); done)) | (refine Told.f ?_ ?_; (focus (first | (simp; omega) | (simp [*]; done)); done))); refine AWP.runL e tab_ok L14 300 rfl (by first | trivial | (simp [in64] <;> omega) | (simp only [in64, true_and, and_true]; omega)) ?_)
            | (refine AWP.callQ e rfl rfl ?_; (first | refine CallQ.mk (c1) rfl rfl ?_); refine AWP.runL e tab_ok L14 300 rfl (by first | trivial | (simp [in64] <;> omega) | (simp only [in64, true_and, and_true]; omega)) ?_)
            | (refine AWP.eq_agg e tab_ok rfl rfl rfl (.inl ⟨rfl, rfl⟩) ?_ 5 (by omega) rfl ?_ rfl rfl rfl rfl rfl rfl rfl ?_; (focus kernel_rfl); (focus kernel_rfl); refine AWP.runL e tab_ok L14 300 rfl (by first | trivial | (simp [in64] <;> omega) | (simp only [in64, true_and, and_true]; omega)) ?_)
            | (refine AWP.eq_agg e tab_ok rfl rfl rfl (.inr ⟨rfl, rfl⟩) ?_ 5 (by omega) rfl ?_ rfl rfl rfl rfl rfl rfl rfl ?_; (focus kernel_rfl); (focus kernel_rfl); refine AWP.runL e tab_ok L14 300 rfl (by first | trivial | (simp [in64] <;> omega) | (simp only [in64, true_and, and_true]; omega)) ?_)
          )
        refine AWP.ret e tab_ok rfl ?_
        rw [hP]
        all_goals first | rfl | (simp [strip]; done)
theorem power_i (k : Nat) (hk : k ≤ 62) {n : Int} (hn : n = k) : Eff Try.prog 28 [.i n] [] 0 (fun r _ _ => r = .i (p2 k)) := by
  subst hn; exact power_eff k hk
theorem p2_le {k m : Nat} (h : k ≤ m) : p2 k ≤ p2 m := by
  have := Nat.pow_le_pow_right (n := 2) (by decide) h
  show ((2 ^ k : Nat) : Int) ≤ ((2 ^ m : Nat) : Int)
  omega
set_option maxRecDepth 100000 in
theorem refFits_eff (s : Sig) (v : Int) {l : List Nat} (h : places s = some l) (hv : -9223372036854775808 ≤ v ∧ v ≤ 9223372036854775807) : Eff Try.prog 15 [.agg (sC s), .i v] [] 0 (fun r _ _ => r = .b (fitsB s v)) := by
  have hl := places_len h
  obtain ⟨w, hw⟩ : ∃ w : Nat, s.width = w := ⟨s.width.toNat, by omega⟩
  have hw1 : 1 ≤ w := by omega
  have hw64 : w ≤ 64 := by omega
  have hwn : s.width.toNat = w := by omega
  rcases cases_b s.sgn with q | q
  · have hF : fitsB s v = (decide (-p2 (w - 1) ≤ v) && decide (v < p2 (w - 1))) := by
      unfold fitsB; rw [if_pos q, hwn]
    rw [hF]
    by_cases h64 : w = 64
    · subst h64
      rw [show p2 (64 - 1) = 9223372036854775808 from rfl, decide_eq_true (show -9223372036854775808 ≤ v by omega), decide_eq_true (show v < 9223372036854775808 by omega)]
      have hq : (s.width == 64) = true := by rw [hw]; rfl
      refine eff_of Try.func15 rfl rfl rfl fun cx e hP => ?_
      refine AWP.runL e tab_ok L15 300 rfl (by first | trivial | (simp [in64] <;> omega) | (simp only [in64, true_and, and_true]; omega)) ?_
      repeat (
        first
          | (refine AWP.askT rfl ?_; (first | (refine Told.t rfl ?_) | (refine Told.f rfl ?_) | (refine Told.t ?_ ?_; (focus assumption)) | (refine Told.f ?_ ?_; (focus assumption)) | (refine Told.t ?_ ?_; (focus (first | (simp; omega) | (simp [*]; done)); done)) | (refine Told.f ?_ ?_; (focus (first | (simp; omega) | (simp [*]; done)); done))); refine AWP.runL e tab_ok L15 300 rfl (by first | trivial | (simp [in64] <;> omega) | (simp only [in64, true_and, and_true]; omega)) ?_)
          | (refine AWP.eq_agg e tab_ok rfl rfl rfl (.inl ⟨rfl, rfl⟩) ?_ 5 (by omega) rfl ?_ rfl rfl rfl rfl rfl rfl rfl ?_; (focus kernel_rfl); (focus kernel_rfl); refine AWP.runL e tab_ok L15 300 rfl (by first | trivial | (simp [in64] <;> omega) | (simp only [in64, true_and, and_true]; omega)) ?_)
          | (refine AWP.eq_agg e tab_ok rfl rfl rfl (.inr ⟨rfl, rfl⟩) ?_ 5 (by omega) rfl ?_ rfl rfl rfl rfl rfl rfl rfl ?_; (focus kernel_rfl); (focus kernel_rfl); refine AWP.runL e tab_ok L15 300 rfl (by first | trivial | (simp [in64] <;> omega) | (simp only [in64, true_and, and_true]; omega)) ?_)
        )
      refine AWP.ret e tab_ok rfl ?_
      rw [hP]
      all_goals first | rfl | (simp [strip]; done)
    · have hq : (s.width == 64) = false := by rw [hw]; simp; omega
      have c1 := power_i (w - 1) (by omega) (show s.width - 1 = ((w - 1 : Nat) : Int) by omega)
      have hp1 := p2_pos (w - 1)
      have hp2 := p2_le (show w - 1 ≤ 62 by omega)
      rw [show p2 62 = 4611686018427387904 from rfl] at hp2
      generalize p2 (w - 1) = p at *
      refine eff_of Try.func15 rfl rfl rfl fun cx e hP => ?_
      by_cases h0 : v ≥ 0 - p
      · rw [decide_eq_true (show -p ≤ v by omega), Bool.true_and] at hP
        refine AWP.runL e tab_ok L15 300 rfl (by first | trivial | (simp [in64] <;> omega) | (simp only [in64, true_and, and_true]; omega)) ?_
        repeat (
          first
            | (refine AWP.askT rfl ?_; (first | (refine Told.t rfl ?_) | (refine Told.f rfl ?_) | (refine Told.t ?_ ?_; (focus assumption)) | (refine Told.f ?_ ?_; (focus assumption)) | (refine Told.t ?_ ?_; (focus (first | (simp; omega) | (simp [*]; done)); done)) | (refine Told.f ?_ ?_; (focus (first | (simp; omega) | (simp [*]; done)); done))); refine AWP.runL e tab_ok L15 300 rfl (by first | trivial | (simp [in64] <;> omega) | (simp only [in64, true_and, and_true]; omega)) ?_)
            | (refine AWP.callQ e rfl rfl ?_; (first | refine CallQ.mk (c1) rfl rfl ?_); refine AWP.runL e tab_ok L15 300 rfl (by first | trivial | (simp [in64] <;> omega) | (simp only [in64, true_and, and_true]; omega)) ?_)
            | (refine AWP.eq_agg e tab_ok rfl rfl rfl (.inl ⟨rfl, rfl⟩) ?_ 5 (by omega) rfl ?_ rfl rfl rfl rfl rfl rfl rfl ?_; (focus kernel_rfl); (focus kernel_rfl); refine AWP.runL e tab_ok L15 300 rfl (by first | trivial | (simp [in64] <;> omega) | (simp only [in64, true_and, and_true]; omega)) ?_)
            | (refine AWP.eq_agg e tab_ok rfl rfl rfl (.inr ⟨rfl, rfl⟩) ?_ 5 (by omega) rfl ?_ rfl rfl rfl rfl rfl rfl rfl ?_; (focus kernel_rfl); (focus kernel_rfl); refine AWP.runL e tab_ok L15 300 rfl (by first | trivial | (simp [in64] <;> omega) | (simp only [in64, true_and, and_true]; omega)) ?_)
          )
        refine AWP.ret e tab_ok rfl ?_
        rw [hP]
        rfl
      · rw [decide_eq_false (show ¬ -p ≤ v by omega), Bool.false_and] at hP
        refine AWP.runL e tab_ok L15 300 rfl (by first | trivial | (simp [in64] <;> omega) | (simp only [in64, true_and, and_true]; omega)) ?_
        repeat (
          first
            | (refine AWP.askT rfl ?_; (first | (refine Told.t rfl ?_) | (refine Told.f rfl ?_) | (refine Told.t ?_ ?_; (focus assumption)) | (refine Told.f ?_ ?_; (focus assumption)) | (refine Told.t ?_ ?_; (focus (first | (simp; omega) | (simp [*]; done)); done)) | (refine Told.f ?_ ?_; (focus (first | (simp; omega) | (simp [*]; done)); done))); refine AWP.runL e tab_ok L15 300 rfl (by first | trivial | (simp [in64] <;> omega) | (simp only [in64, true_and, and_true]; omega)) ?_)
            | (refine AWP.callQ e rfl rfl ?_; (first | refine CallQ.mk (c1) rfl rfl ?_); refine AWP.runL e tab_ok L15 300 rfl (by first | trivial | (simp [in64] <;> omega) | (simp only [in64, true_and, and_true]; omega)) ?_)
            | (refine AWP.eq_agg e tab_ok rfl rfl rfl (.inl ⟨rfl, rfl⟩) ?_ 5 (by omega) rfl ?_ rfl rfl rfl rfl rfl rfl rfl ?_; (focus kernel_rfl); (focus kernel_rfl); refine AWP.runL e tab_ok L15 300 rfl (by first | trivial | (simp [in64] <;> omega) | (simp only [in64, true_and, and_true]; omega)) ?_)
            | (refine AWP.eq_agg e tab_ok rfl rfl rfl (.inr ⟨rfl, rfl⟩) ?_ 5 (by omega) rfl ?_ rfl rfl rfl rfl rfl rfl rfl ?_; (focus kernel_rfl); (focus kernel_rfl); refine AWP.runL e tab_ok L15 300 rfl (by first | trivial | (simp [in64] <;> omega) | (simp only [in64, true_and, and_true]; omega)) ?_)
          )
        refine AWP.ret e tab_ok rfl ?_
        rw [hP]
        all_goals first | rfl | (simp [strip]; done)
  · have hF : fitsB s v = (decide (0 ≤ v) && (decide (63 ≤ w) || decide (v < p2 w))) := by
      unfold fitsB; rw [if_neg (by rw [q]; decide), hwn]
    rw [hF]
    by_cases h63 : s.width ≥ 63
    · rw [decide_eq_true (show 63 ≤ w by omega), Bool.true_or, Bool.and_true]
      refine eff_of Try.func15 rfl rfl rfl fun cx e hP => ?_
      refine AWP.runL e tab_ok L15 300 rfl (by first | trivial | (simp [in64] <;> omega) | (simp only [in64, true_and, and_true]; omega)) ?_
      repeat (
        first
          | (refine AWP.askT rfl ?_; (first | (refine Told.t rfl ?_) | (refine Told.f rfl ?_) | (refine Told.t ?_ ?_; (focus assumption)) | (refine Told.f ?_ ?_; (focus assumption)) | (refine Told.t ?_ ?_; (focus (first | (simp; omega) | (simp [*]; done)); done)) | (refine Told.f ?_ ?_; (focus (first | (simp; omega) | (simp [*]; done)); done))); refine AWP.runL e tab_ok L15 300 rfl (by first | trivial | (simp [in64] <;> omega) | (simp only [in64, true_and, and_true]; omega)) ?_)
          | (refine AWP.eq_agg e tab_ok rfl rfl rfl (.inl ⟨rfl, rfl⟩) ?_ 5 (by omega) rfl ?_ rfl rfl rfl rfl rfl rfl rfl ?_; (focus kernel_rfl); (focus kernel_rfl); refine AWP.runL e tab_ok L15 300 rfl (by first | trivial | (simp [in64] <;> omega) | (simp only [in64, true_and, and_true]; omega)) ?_)
          | (refine AWP.eq_agg e tab_ok rfl rfl rfl (.inr ⟨rfl, rfl⟩) ?_ 5 (by omega) rfl ?_ rfl rfl rfl rfl rfl rfl rfl ?_; (focus kernel_rfl); (focus kernel_rfl); refine AWP.runL e tab_ok L15 300 rfl (by first | trivial | (simp [in64] <;> omega) | (simp only [in64, true_and, and_true]; omega)) ?_)
        )
      refine AWP.ret e tab_ok rfl ?_
      rw [hP]
      rfl
    · rw [decide_eq_false (show ¬ 63 ≤ w by omega), Bool.false_or]
      have c1 := power_i w (by omega) hw
      generalize p2 w = p at *
      refine eff_of Try.func15 rfl rfl rfl fun cx e hP => ?_
      by_cases h0 : v ≥ 0
      · rw [decide_eq_true (show 0 ≤ v by omega), Bool.true_and] at hP
        refine AWP.runL e tab_ok L15 300 rfl (by first | trivial | (simp [in64] <;> omega) | (simp only [in64, true_and, and_true]; omega)) ?_
        repeat (
          first
            | (refine AWP.askT rfl ?_; (first | (refine Told.t rfl ?_) | (refine Told.f rfl ?_) | (refine Told.t ?_ ?_; (focus assumption)) | (refine Told.f ?_ ?_; (focus assumption)) | (refine Told.t ?_ ?_; (focus (first | (simp; omega) | (simp [*]; done)); done)) | (refine Told.f ?_ ?_; (focus (first | (simp; omega) | (simp [*]; done)); done))); refine AWP.runL e tab_ok L15 300 rfl (by first | trivial | (simp [in64] <;> omega) | (simp only [in64, true_and, and_true]; omega)) ?_)
            | (refine AWP.callQ e rfl rfl ?_; (first | refine CallQ.mk (c1) rfl rfl ?_); refine AWP.runL e tab_ok L15 300 rfl (by first | trivial | (simp [in64] <;> omega) | (simp only [in64, true_and, and_true]; omega)) ?_)
            | (refine AWP.eq_agg e tab_ok rfl rfl rfl (.inl ⟨rfl, rfl⟩) ?_ 5 (by omega) rfl ?_ rfl rfl rfl rfl rfl rfl rfl ?_; (focus kernel_rfl); (focus kernel_rfl); refine AWP.runL e tab_ok L15 300 rfl (by first | trivial | (simp [in64] <;> omega) | (simp only [in64, true_and, and_true]; omega)) ?_)
            | (refine AWP.eq_agg e tab_ok rfl rfl rfl (.inr ⟨rfl, rfl⟩) ?_ 5 (by omega) rfl ?_ rfl rfl rfl rfl rfl rfl rfl ?_; (focus kernel_rfl); (focus kernel_rfl); refine AWP.runL e tab_ok L15 300 rfl (by first | trivial | (simp [in64] <;> omega) | (simp only [in64, true_and, and_true]; omega)) ?_)
          )
        refine AWP.ret e tab_ok rfl ?_
        rw [hP]
        rfl
      · rw [decide_eq_false (show ¬ 0 ≤ v by omega), Bool.false_and] at hP
        refine AWP.runL e tab_ok L15 300 rfl (by first | trivial | (simp [in64] <;> omega) | (simp only [in64, true_and, and_true]; omega)) ?_
        repeat (
          first
            | (refine AWP.askT rfl ?_; (first | (refine Told.t rfl ?_) | (refine Told.f rfl ?_) | (refine Told.t ?_ ?_; (focus assumption)) | (refine Told.f ?_ ?_; (focus assumption)) | (refine Told.t ?_ ?_; (focus (first | (simp; omega) | (simp [*]; done)); done)) | (refine Told.f ?_ ?_; (focus (first | (simp; omega) | (simp [*]; done)); done))); refine AWP.runL e tab_ok L15 300 rfl (by first | trivial | (simp [in64] <;> omega) | (simp only [in64, true_and, and_true]; omega)) ?_)
            | (refine AWP.callQ e rfl rfl ?_; (first | refine CallQ.mk (c1) rfl rfl ?_); refine AWP.runL e tab_ok L15 300 rfl (by first | trivial | (simp [in64] <;> omega) | (simp only [in64, true_and, and_true]; omega)) ?_)
            | (refine AWP.eq_agg e tab_ok rfl rfl rfl (.inl ⟨rfl, rfl⟩) ?_ 5 (by omega) rfl ?_ rfl rfl rfl rfl rfl rfl rfl ?_; (focus kernel_rfl); (focus kernel_rfl); refine AWP.runL e tab_ok L15 300 rfl (by first | trivial | (simp [in64] <;> omega) | (simp only [in64, true_and, and_true]; omega)) ?_)
            | (refine AWP.eq_agg e tab_ok rfl rfl rfl (.inr ⟨rfl, rfl⟩) ?_ 5 (by omega) rfl ?_ rfl rfl rfl rfl rfl rfl rfl ?_; (focus kernel_rfl); (focus kernel_rfl); refine AWP.runL e tab_ok L15 300 rfl (by first | trivial | (simp [in64] <;> omega) | (simp only [in64, true_and, and_true]; omega)) ?_)
          )
        refine AWP.ret e tab_ok rfl ?_
        rw [hP]
        all_goals first | rfl | (simp [strip]; done)
end Go.Proofs.Ythibaeeoegoliaa
