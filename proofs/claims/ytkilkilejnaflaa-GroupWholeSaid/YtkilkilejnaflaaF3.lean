import Derived.Test.YtkilkilejnaflaaF2
open Go Go.Proofs Go.Sy
namespace Go.Proofs.Ytkilkilejnaflaa

abbrev none0 : SV := .agg [.d .nil, .d .nil, .i 0]

set_option maxRecDepth 100000 in
theorem new_ok (s : List Int) (h1 : 1 ≤ s.length) (h2 : s.length ≤ 16) : Eff Try.prog 7 [sl s] [] 0 (fun r _ _ => r = .tup [.agg (grp s s 0), .i 0]) := by
  have hn : s ≠ [] := by rintro rfl; simp at h1
  have hm := may_eff s
  rw [decide_eq_true h1, decide_eq_true h2] at hm
  refine eff_of Try.func7 rfl rfl rfl fun cx e hP => ?_
  refine AWP.runL e tab_ok L7 300 rfl (by first | trivial | (simp [in64] <;> omega)) ?_
  refine AWP.callQ e rfl rfl ?_
  refine CallQ.mk (hm) rfl rfl ?_
  refine AWP.runL e tab_ok L7 300 rfl (by first | trivial | (simp [in64] <;> omega)) ?_
  refine AWP.cond rfl false rfl ?_
  refine AWP.runL e tab_ok L7 300 rfl (by first | trivial | (simp [in64] <;> omega)) ?_
  refine AWP.callQ e rfl rfl ?_
  refine CallQ.mk (clone_eff s hn (by omega)) rfl rfl ?_
  refine AWP.runL e tab_ok L7 300 rfl (by first | trivial | (simp [in64] <;> omega)) ?_
  refine AWP.callQ e rfl rfl ?_
  refine CallQ.mk (clone_eff s hn (by omega)) rfl rfl ?_
  refine AWP.runL e tab_ok L7 300 rfl (by first | trivial | (simp [in64] <;> omega)) ?_
  refine AWP.ret e tab_ok rfl ?_
  rw [hP]
  rfl

set_option maxRecDepth 100000 in
theorem new_bad (s : List Int) (h : ¬ (1 ≤ s.length ∧ s.length ≤ 16)) : Eff Try.prog 7 [sl s] [] 0 (fun r _ _ => r = .tup [none0, .i 1]) := by
  have hm := may_eff s
  rw [show (decide (1 ≤ s.length) && decide (s.length ≤ 16)) = false by rw [Bool.and_eq_false_iff]; simp only [decide_eq_false_iff_not]; omega] at hm
  refine eff_of Try.func7 rfl rfl rfl fun cx e hP => ?_
  refine AWP.runL e tab_ok L7 300 rfl (by first | trivial | (simp [in64] <;> omega)) ?_
  refine AWP.callQ e rfl rfl ?_
  refine CallQ.mk (hm) rfl rfl ?_
  refine AWP.runL e tab_ok L7 300 rfl (by first | trivial | (simp [in64] <;> omega)) ?_
  refine AWP.cond rfl true rfl ?_
  refine AWP.runL e tab_ok L7 300 rfl (by first | trivial | (simp [in64] <;> omega)) ?_
  refine AWP.ret e tab_ok rfl ?_
  rw [hP]
  rfl

theorem rightG_get {s g : List Int} {t : Int} (h : rightG s g t = true) : 1 ≤ s.length ∧ s.length ≤ 16 ∧ g.length = s.length ∧ 0 ≤ t ∧ t ≤ 1099511627776 := of_decide_eq_true h

set_option maxRecDepth 100000 in
theorem take_ok (s g v : List Int) (t : Int) (h : rightG s g t = true) (hv : v.length = s.length) (ht : t < 1099511627776) : Eff Try.prog 10 [.agg (grp s g t), sl v] [] 0 (fun r _ _ => r = .tup [.agg (grp v v (t + 1)), .i 0]) := by
  obtain ⟨h1, h2, h3, h4, h5⟩ := rightG_get h
  have hn : v ≠ [] := by rintro rfl; simp at hv; omega
  have hr := right_eff s g t
  rw [h] at hr
  refine eff_of Try.func10 rfl rfl rfl fun cx e hP => ?_
  refine AWP.runL e tab_ok L10 300 rfl (by first | trivial | (simp [in64] <;> omega)) ?_
  repeat (
    first
      | (refine AWP.askT rfl ?_; (first | (refine Told.t rfl ?_) | (refine Told.f rfl ?_) | (refine Told.t ?_ ?_; (focus (first | assumption | (simp; omega) | (simp [*]; done)); done)) | (refine Told.f ?_ ?_; (focus (first | assumption | (simp; omega) | (simp [*]; done)); done))); refine AWP.runL e tab_ok L10 300 rfl (by first | trivial | (simp [in64] <;> omega)) ?_)
      | (refine AWP.callQ e rfl rfl ?_; (first | refine CallQ.mk (hr) rfl rfl ?_); refine AWP.runL e tab_ok L10 300 rfl (by first | trivial | (simp [in64] <;> omega)) ?_)
    )
  refine AWP.keep L10 rfl ?_
  refine AWP.drg 10 ?_
  (refine DrG.runN e tab_ok 200 rfl (by first | trivial | (simp [in64] <;> omega)) ?_)
  repeat (
    first
      | (refine DrG.v rfl (fun _ => VStep.goA rfl ?_ (VStep.ev e tab_ok rfl rfl ?_)) rfl ?_; (focus (first | assumption | with_reducible trivial | rfl | (simp; omega) | (simp [in64]; omega) | (simp [*]; done))); (focus (first | assumption | with_reducible trivial | rfl | (simp; omega) | (simp [in64]; omega) | (simp [*]; done))); (refine DrG.runN e tab_ok 200 rfl (by first | trivial | (simp [in64] <;> omega)) ?_))
      | (refine DrG.loadGoA e tab_ok rfl ?_ rfl rfl rfl rfl rfl rfl ?_; (focus (first | assumption | with_reducible trivial | rfl | (simp; omega) | (simp [in64]; omega) | (simp [*]; done))); (refine DrG.runN e tab_ok 200 rfl (by first | trivial | (simp [in64] <;> omega)) ?_))
      | (refine DrG.v rfl (fun _ => VStep.notA e rfl rfl ?_) rfl ?_; (focus (first | assumption | with_reducible trivial | rfl | (simp; omega) | (simp [in64]; omega) | (simp [*]; done))); (refine DrG.runN e tab_ok 200 rfl (by first | trivial | (simp [in64] <;> omega)) ?_))
      | (refine DrG.v rfl (fun _ => VStep.pickA e rfl rfl (v := true) ?_ rfl) rfl ?_; (focus (first | assumption | with_reducible trivial | rfl | (simp; omega) | (simp [in64]; omega) | (simp [*]; done))); (refine DrG.runN e tab_ok 200 rfl (by first | trivial | (simp [in64] <;> omega)) ?_))
      | (refine DrG.v rfl (fun _ => VStep.pickA e rfl rfl (v := false) ?_ rfl) rfl ?_; (focus (first | assumption | with_reducible trivial | rfl | (simp; omega) | (simp [in64]; omega) | (simp [*]; done))); (refine DrG.runN e tab_ok 200 rfl (by first | trivial | (simp [in64] <;> omega)) ?_))
    )
  refine DrG.callQ e rfl rfl ?_
  refine CallVQ.mk (clone_eff v hn (by omega)) rfl rfl ?_
  (refine DrG.runN e tab_ok 200 rfl (by first | trivial | (simp [in64] <;> omega)) ?_)
  repeat (
    first
      | (refine DrG.v rfl (fun _ => VStep.goA rfl ?_ (VStep.ev e tab_ok rfl rfl ?_)) rfl ?_; (focus (first | assumption | with_reducible trivial | rfl | (simp; omega) | (simp [in64]; omega) | (simp [*]; done))); (focus (first | assumption | with_reducible trivial | rfl | (simp; omega) | (simp [in64]; omega) | (simp [*]; done))); (refine DrG.runN e tab_ok 200 rfl (by first | trivial | (simp [in64] <;> omega)) ?_))
      | (refine DrG.loadGoA e tab_ok rfl ?_ rfl rfl rfl rfl rfl rfl ?_; (focus (first | assumption | with_reducible trivial | rfl | (simp; omega) | (simp [in64]; omega) | (simp [*]; done))); (refine DrG.runN e tab_ok 200 rfl (by first | trivial | (simp [in64] <;> omega)) ?_))
      | (refine DrG.v rfl (fun _ => VStep.notA e rfl rfl ?_) rfl ?_; (focus (first | assumption | with_reducible trivial | rfl | (simp; omega) | (simp [in64]; omega) | (simp [*]; done))); (refine DrG.runN e tab_ok 200 rfl (by first | trivial | (simp [in64] <;> omega)) ?_))
      | (refine DrG.v rfl (fun _ => VStep.pickA e rfl rfl (v := true) ?_ rfl) rfl ?_; (focus (first | assumption | with_reducible trivial | rfl | (simp; omega) | (simp [in64]; omega) | (simp [*]; done))); (refine DrG.runN e tab_ok 200 rfl (by first | trivial | (simp [in64] <;> omega)) ?_))
      | (refine DrG.v rfl (fun _ => VStep.pickA e rfl rfl (v := false) ?_ rfl) rfl ?_; (focus (first | assumption | with_reducible trivial | rfl | (simp; omega) | (simp [in64]; omega) | (simp [*]; done))); (refine DrG.runN e tab_ok 200 rfl (by first | trivial | (simp [in64] <;> omega)) ?_))
    )
  refine DrG.callQ e rfl rfl ?_
  refine CallVQ.mk (clone_eff v hn (by omega)) rfl rfl ?_
  (refine DrG.runN e tab_ok 200 rfl (by first | trivial | (simp [in64] <;> omega)) ?_)
  repeat (
    first
      | (refine DrG.v rfl (fun _ => VStep.goA rfl ?_ (VStep.ev e tab_ok rfl rfl ?_)) rfl ?_; (focus (first | assumption | with_reducible trivial | rfl | (simp; omega) | (simp [in64]; omega) | (simp [*]; done))); (focus (first | assumption | with_reducible trivial | rfl | (simp; omega) | (simp [in64]; omega) | (simp [*]; done))); (refine DrG.runN e tab_ok 200 rfl (by first | trivial | (simp [in64] <;> omega)) ?_))
      | (refine DrG.loadGoA e tab_ok rfl ?_ rfl rfl rfl rfl rfl rfl ?_; (focus (first | assumption | with_reducible trivial | rfl | (simp; omega) | (simp [in64]; omega) | (simp [*]; done))); (refine DrG.runN e tab_ok 200 rfl (by first | trivial | (simp [in64] <;> omega)) ?_))
      | (refine DrG.v rfl (fun _ => VStep.notA e rfl rfl ?_) rfl ?_; (focus (first | assumption | with_reducible trivial | rfl | (simp; omega) | (simp [in64]; omega) | (simp [*]; done))); (refine DrG.runN e tab_ok 200 rfl (by first | trivial | (simp [in64] <;> omega)) ?_))
      | (refine DrG.v rfl (fun _ => VStep.pickA e rfl rfl (v := true) ?_ rfl) rfl ?_; (focus (first | assumption | with_reducible trivial | rfl | (simp; omega) | (simp [in64]; omega) | (simp [*]; done))); (refine DrG.runN e tab_ok 200 rfl (by first | trivial | (simp [in64] <;> omega)) ?_))
      | (refine DrG.v rfl (fun _ => VStep.pickA e rfl rfl (v := false) ?_ rfl) rfl ?_; (focus (first | assumption | with_reducible trivial | rfl | (simp; omega) | (simp [in64]; omega) | (simp [*]; done))); (refine DrG.runN e tab_ok 200 rfl (by first | trivial | (simp [in64] <;> omega)) ?_))
    )
  refine DrG.fin e rfl ?_ rfl rfl rfl ?_ ?_
  (focus kernel_rfl)
  (focus (repeat' (first | exact True.intro | (refine And.intro ?_ ?_) | rfl | assumption | exact okRow _)))
  dsimp only [tmS, hpS, tput, effH]
  refine AWP.runL e tab_ok L10 300 rfl (by first | trivial | (simp [in64] <;> omega)) ?_
  refine AWP.ret e tab_ok rfl ?_
  rw [hP]
  rfl

set_option maxRecDepth 100000 in
theorem take_bad (s g v : List Int) (t : Int) (h : ¬ (rightG s g t = true ∧ v.length = s.length ∧ t < 1099511627776)) : Eff Try.prog 10 [.agg (grp s g t), sl v] [] 0 (fun r _ _ => r = .tup [none0, .i 1]) := by
  have hr := right_eff s g t
  refine eff_of Try.func10 rfl rfl rfl fun cx e hP => ?_
  refine AWP.runL e tab_ok L10 300 rfl (by first | trivial | (simp [in64] <;> omega)) ?_
  repeat' (
    first
      | (refine AWP.ret e tab_ok rfl ?_; rw [hP])
      | (refine AWP.fin e tab_ok rfl ?_; rw [hP])
      | (refine AWP.callQ e rfl rfl ?_; (first | refine CallQ.mk (hr) rfl rfl ?_); refine AWP.runL e tab_ok L10 300 rfl (by first | trivial | (simp [in64] <;> omega)) ?_)
      | (first
        | (refine AWP.askT rfl ?_; (first | (refine Told.t rfl ?_) | (refine Told.f rfl ?_) | (refine Told.t ?_ ?_; (focus (first | assumption | (simp; omega) | (simp [*]; done)); done)) | (refine Told.f ?_ ?_; (focus (first | assumption | (simp; omega) | (simp [*]; done)); done)) | (refine Told.both (fun h => ?_) (fun h => ?_) <;> (try simp only [decide_eq_true_eq, decide_eq_false_iff_not, bne_iff_ne, bne_eq_false_iff_eq, ne_eq, Bool.not_eq_true', Bool.not_eq_false'] at h))))) <;>
        refine AWP.runL e tab_ok L10 300 rfl (by first | trivial | (simp [in64] <;> omega)) ?_
    )
  all_goals first | rfl | (exfalso; revert h; simp_all; done) | (exfalso; apply h; simp_all; omega)

set_option maxRecDepth 100000 in
theorem give_ok (s g : List Int) (t : Int) (h : rightG s g t = true) (ht : t < 1099511627776) : Eff Try.prog 9 [.agg (grp s g t)] [] 0 (fun r _ _ => r = .tup [.agg (grp s s (t + 1)), .i 0]) := by
  refine eff_of Try.func9 rfl rfl rfl fun cx e hP => ?_
  refine AWP.runL e tab_ok L9 300 rfl (by first | trivial | (simp [in64] <;> omega)) ?_
  refine AWP.callQ e rfl rfl ?_
  refine CallQ.mk (take_ok s g s t h rfl ht) rfl rfl ?_
  refine AWP.runL e tab_ok L9 300 rfl (by first | trivial | (simp [in64] <;> omega)) ?_
  refine AWP.ret e tab_ok rfl ?_
  rw [hP]
  rfl

set_option maxRecDepth 100000 in
theorem give_bad (s g : List Int) (t : Int) (h : ¬ (rightG s g t = true ∧ t < 1099511627776)) : Eff Try.prog 9 [.agg (grp s g t)] [] 0 (fun r _ _ => r = .tup [none0, .i 1]) := by
  refine eff_of Try.func9 rfl rfl rfl fun cx e hP => ?_
  refine AWP.runL e tab_ok L9 300 rfl (by first | trivial | (simp [in64] <;> omega)) ?_
  refine AWP.callQ e rfl rfl ?_
  refine CallQ.mk (take_bad s g s t (fun hh => h ⟨hh.1, hh.2.2⟩)) rfl rfl ?_
  refine AWP.runL e tab_ok L9 300 rfl (by first | trivial | (simp [in64] <;> omega)) ?_
  refine AWP.ret e tab_ok rfl ?_
  rw [hP]
  rfl

set_option maxRecDepth 100000 in
theorem get_ok (s g : List Int) (t i : Int) (h : rightG s g t = true) (n : Nat) (hi : i = n) (hn : n < g.length) : Eff Try.prog 11 [.agg (grp s g t), .i i] [] 0 (fun r _ _ => r = .tup [.i g[n], .i 0]) := by
  subst hi
  have hr := right_eff s g t
  have hh := has_eff g n
  rw [h] at hr
  rw [show (decide (0 ≤ (n : Int)) && decide ((n : Int) < g.length)) = true by simp; omega] at hh
  refine eff_of Try.func11 rfl rfl rfl fun cx e hP => ?_
  refine AWP.runL e tab_ok L11 300 rfl (by first | trivial | (simp [in64] <;> omega)) ?_
  repeat (
    first
      | (refine AWP.askT rfl ?_; (first | (refine Told.t rfl ?_) | (refine Told.f rfl ?_) | (refine Told.t ?_ ?_; (focus (first | assumption | (simp; omega) | (simp [*]; done)); done)) | (refine Told.f ?_ ?_; (focus (first | assumption | (simp; omega) | (simp [*]; done)); done))); refine AWP.runL e tab_ok L11 300 rfl (by first | trivial | (simp [in64] <;> omega)) ?_)
      | (refine AWP.callQ e rfl rfl ?_; (first | refine CallQ.mk (hr) rfl rfl ?_ | refine CallQ.mk (hh) rfl rfl ?_); refine AWP.runL e tab_ok L11 300 rfl (by first | trivial | (simp [in64] <;> omega)) ?_)
    )
  refine AWP.idx e tab_ok rfl rfl rfl rfl n rfl (el := [.v (.int .i64 g[n])]) (by simp [hn]) ?_
  refine AWP.runL e tab_ok L11 300 rfl (by first | trivial | (simp [in64] <;> omega)) ?_
  refine AWP.ret e tab_ok rfl ?_
  rw [hP]
  rfl

set_option maxRecDepth 100000 in
theorem get_bad (s g : List Int) (t i : Int) (h : ¬ (rightG s g t = true ∧ 0 ≤ i ∧ i < g.length)) : Eff Try.prog 11 [.agg (grp s g t), .i i] [] 0 (fun r _ _ => r = .tup [.i 0, .i 1]) := by
  have hr := right_eff s g t
  have hh := has_eff g i
  by_cases hR : rightG s g t = true
  · have h' : ¬ (0 ≤ i ∧ i < g.length) := fun q => h ⟨hR, q.1, q.2⟩
    have hb : (decide (0 ≤ i) && decide (i < g.length)) = false := by
      rw [Bool.and_eq_false_iff]; simp only [decide_eq_false_iff_not]; omega
    rw [hR] at hr
    rw [hb] at hh
    refine eff_of Try.func11 rfl rfl rfl fun cx e hP => ?_
    refine AWP.runL e tab_ok L11 300 rfl (by first | trivial | (simp [in64] <;> omega)) ?_
    repeat (
      first
        | (refine AWP.askT rfl ?_; (first | (refine Told.t rfl ?_) | (refine Told.f rfl ?_) | (refine Told.t ?_ ?_; (focus (first | assumption | (simp; omega) | (simp [*]; done)); done)) | (refine Told.f ?_ ?_; (focus (first | assumption | (simp; omega) | (simp [*]; done)); done))); refine AWP.runL e tab_ok L11 300 rfl (by first | trivial | (simp [in64] <;> omega)) ?_)
        | (refine AWP.callQ e rfl rfl ?_; (first | refine CallQ.mk (hr) rfl rfl ?_ | refine CallQ.mk (hh) rfl rfl ?_); refine AWP.runL e tab_ok L11 300 rfl (by first | trivial | (simp [in64] <;> omega)) ?_)
      )
    refine AWP.ret e tab_ok rfl ?_
    rw [hP]
    rfl
  · have hR : rightG s g t = false := by simpa using hR
    rw [hR] at hr
    refine eff_of Try.func11 rfl rfl rfl fun cx e hP => ?_
    refine AWP.runL e tab_ok L11 300 rfl (by first | trivial | (simp [in64] <;> omega)) ?_
    repeat (
      first
        | (refine AWP.askT rfl ?_; (first | (refine Told.t rfl ?_) | (refine Told.f rfl ?_) | (refine Told.t ?_ ?_; (focus (first | assumption | (simp; omega) | (simp [*]; done)); done)) | (refine Told.f ?_ ?_; (focus (first | assumption | (simp; omega) | (simp [*]; done)); done))); refine AWP.runL e tab_ok L11 300 rfl (by first | trivial | (simp [in64] <;> omega)) ?_)
        | (refine AWP.callQ e rfl rfl ?_; (first | refine CallQ.mk (hr) rfl rfl ?_ | refine CallQ.mk (hh) rfl rfl ?_); refine AWP.runL e tab_ok L11 300 rfl (by first | trivial | (simp [in64] <;> omega)) ?_)
      )
    refine AWP.ret e tab_ok rfl ?_
    rw [hP]
    rfl

set_option maxRecDepth 100000 in
theorem back_ok (s g : List Int) (t : Int) (h : rightG s g t = true) : Eff Try.prog 12 [.agg (grp s g t)] [] 0 (fun r _ _ => r = .tup [.agg (grp g g t), .i 0]) := by
  obtain ⟨h1, h2, h3, h4, h5⟩ := rightG_get h
  have hn : g ≠ [] := by rintro rfl; simp at h3; omega
  have hr := right_eff s g t
  rw [h] at hr
  refine eff_of Try.func12 rfl rfl rfl fun cx e hP => ?_
  refine AWP.runL e tab_ok L12 300 rfl (by first | trivial | (simp [in64] <;> omega)) ?_
  repeat (
    first
      | (refine AWP.askT rfl ?_; (first | (refine Told.t rfl ?_) | (refine Told.f rfl ?_) | (refine Told.t ?_ ?_; (focus (first | assumption | (simp; omega) | (simp [*]; done)); done)) | (refine Told.f ?_ ?_; (focus (first | assumption | (simp; omega) | (simp [*]; done)); done))); refine AWP.runL e tab_ok L12 300 rfl (by first | trivial | (simp [in64] <;> omega)) ?_)
      | (refine AWP.callQ e rfl rfl ?_; (first | refine CallQ.mk (hr) rfl rfl ?_ | refine CallQ.mk (clone_eff g hn (by omega)) rfl rfl ?_); refine AWP.runL e tab_ok L12 300 rfl (by first | trivial | (simp [in64] <;> omega)) ?_)
    )
  refine AWP.ret e tab_ok rfl ?_
  rw [hP]
  rfl

set_option maxRecDepth 100000 in
theorem back_bad (s g : List Int) (t : Int) (h : rightG s g t = false) : Eff Try.prog 12 [.agg (grp s g t)] [] 0 (fun r _ _ => r = .tup [none0, .i 1]) := by
  have hr := right_eff s g t
  rw [h] at hr
  refine eff_of Try.func12 rfl rfl rfl fun cx e hP => ?_
  refine AWP.runL e tab_ok L12 300 rfl (by first | trivial | (simp [in64] <;> omega)) ?_
  repeat (
    first
      | (refine AWP.askT rfl ?_; (first | (refine Told.t rfl ?_) | (refine Told.f rfl ?_) | (refine Told.t ?_ ?_; (focus (first | assumption | (simp; omega) | (simp [*]; done)); done)) | (refine Told.f ?_ ?_; (focus (first | assumption | (simp; omega) | (simp [*]; done)); done))); refine AWP.runL e tab_ok L12 300 rfl (by first | trivial | (simp [in64] <;> omega)) ?_)
      | (refine AWP.callQ e rfl rfl ?_; (first | refine CallQ.mk (hr) rfl rfl ?_); refine AWP.runL e tab_ok L12 300 rfl (by first | trivial | (simp [in64] <;> omega)) ?_)
    )
  refine AWP.ret e tab_ok rfl ?_
  rw [hP]
  rfl

end Go.Proofs.Ytkilkilejnaflaa
