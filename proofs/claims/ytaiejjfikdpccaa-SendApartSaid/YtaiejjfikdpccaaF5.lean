import Derived.Test.YtaiejjfikdpccaaF4
open Go Go.Proofs Go.Sy
namespace Go.Proofs.Ytaiejjfikdpccaa

set_option maxHeartbeats 2000000 in
set_option maxRecDepth 100000 in
theorem ask_ok (s : SE) (hr : rightB s = true) :
    Eff Try.prog 13 [.agg (sC s)] [] 0 (fun r _ _ => r = .tup [.agg (sC (askS s)), .i 0]) := by
  have c1 := right_eff s
  rw [hr] at c1
  clear hr
  refine eff_of Try.func13 rfl rfl rfl fun cx e hP => ?_
  refine AWP.runL e tab_ok L13 300 rfl (by first | trivial | (simp [in64] <;> omega)) ?_
  repeat (
    first
      | (refine AWP.askT rfl ?_; (first | (refine Told.t rfl ?_) | (refine Told.f rfl ?_) | (refine Told.t ?_ ?_; (focus assumption)) | (refine Told.f ?_ ?_; (focus assumption)) | (refine Told.t ?_ ?_; (focus (first | (simp; omega) | (simp [*]; done)); done)) | (refine Told.f ?_ ?_; (focus (first | (simp; omega) | (simp [*]; done)); done))); refine AWP.runL e tab_ok L13 300 rfl (by first | trivial | (simp [in64] <;> omega)) ?_)
      | (refine AWP.callQ e rfl rfl ?_; (first | refine CallQ.mk (c1) rfl rfl ?_); refine AWP.runL e tab_ok L13 300 rfl (by first | trivial | (simp [in64] <;> omega)) ?_)
      | (refine AWP.eq_agg e tab_ok rfl rfl rfl (.inl ⟨rfl, rfl⟩) ?_ 5 (by omega) rfl ?_ rfl rfl rfl rfl rfl rfl rfl ?_; (focus kernel_rfl); (focus kernel_rfl); refine AWP.runL e tab_ok L13 300 rfl (by first | trivial | (simp [in64] <;> omega)) ?_)
      | (refine AWP.eq_agg e tab_ok rfl rfl rfl (.inr ⟨rfl, rfl⟩) ?_ 5 (by omega) rfl ?_ rfl rfl rfl rfl rfl rfl rfl ?_; (focus kernel_rfl); (focus kernel_rfl); refine AWP.runL e tab_ok L13 300 rfl (by first | trivial | (simp [in64] <;> omega)) ?_)
    )
  refine AWP.joinN 1 (ε := Unit) (fun _ => ⟨[(2, .ptr 1 0), (4, .ptr 2 0), (5, .ptr 4 0)], [(1, .box (sC SE.zero)), (2, .box (sC s)), (4, .box (wC s.way))], 5⟩) (fun _ => True) ?_ ?_
  rotate_left
  · intro Ψ fin
    clear hP c1
    rcases cases_b s.on with h | h
    · rw [way_t h] at fin
      refine AWP.runL e tab_ok L13 300 rfl (by first | trivial | (simp [in64] <;> omega)) ?_
      refine AWP.enter e rfl Try.func19 rfl rfl rfl rfl fun cx' e' hP' => ?_
      refine AWP.runL e' tab_ok L19 300 rfl (by first | trivial | (simp [in64] <;> omega)) ?_
      repeat (
        first
          | (refine AWP.askT rfl ?_; (first | (refine Told.t rfl ?_) | (refine Told.f rfl ?_) | (refine Told.t ?_ ?_; (focus assumption)) | (refine Told.f ?_ ?_; (focus assumption)) | (refine Told.t ?_ ?_; (focus (first | (simp; omega) | (simp [*]; done)); done)) | (refine Told.f ?_ ?_; (focus (first | (simp; omega) | (simp [*]; done)); done))); refine AWP.runL e' tab_ok L19 300 rfl (by first | trivial | (simp [in64] <;> omega)) ?_)
          | (refine AWP.eq_agg e' tab_ok rfl rfl rfl (.inl ⟨rfl, rfl⟩) ?_ 5 (by omega) rfl ?_ rfl rfl rfl rfl rfl rfl rfl ?_; (focus kernel_rfl); (focus kernel_rfl); refine AWP.runL e' tab_ok L19 300 rfl (by first | trivial | (simp [in64] <;> omega)) ?_)
          | (refine AWP.eq_agg e' tab_ok rfl rfl rfl (.inr ⟨rfl, rfl⟩) ?_ 5 (by omega) rfl ?_ rfl rfl rfl rfl rfl rfl rfl ?_; (focus kernel_rfl); (focus kernel_rfl); refine AWP.runL e' tab_ok L19 300 rfl (by first | trivial | (simp [in64] <;> omega)) ?_)
        )
      (first | (refine AWP.ret e' tab_ok rfl ?_) | (refine AWP.fin e' tab_ok rfl ?_)); rw [hP']; show AWP cx _ _
      refine AWP.runL e tab_ok L13 300 rfl (by first | trivial | (simp [in64] <;> omega)) ?_
      refine AWP.runL e tab_ok L13 300 rfl (by first | trivial | (simp [in64] <;> omega)) ?_
      refine AWP.less e ?_ ?_ ?_ ?_ ?_ (fin () trivial) <;> (repeat' (first | exact True.intro | (refine And.intro ?_ ?_) | rfl | assumption))
    · rw [way_f h] at fin
      refine AWP.runL e tab_ok L13 300 rfl (by first | trivial | (simp [in64] <;> omega)) ?_
      refine AWP.enter e rfl Try.func19 rfl rfl rfl rfl fun cx' e' hP' => ?_
      refine AWP.runL e' tab_ok L19 300 rfl (by first | trivial | (simp [in64] <;> omega)) ?_
      repeat (
        first
          | (refine AWP.askT rfl ?_; (first | (refine Told.t rfl ?_) | (refine Told.f rfl ?_) | (refine Told.t ?_ ?_; (focus assumption)) | (refine Told.f ?_ ?_; (focus assumption)) | (refine Told.t ?_ ?_; (focus (first | (simp; omega) | (simp [*]; done)); done)) | (refine Told.f ?_ ?_; (focus (first | (simp; omega) | (simp [*]; done)); done))); refine AWP.runL e' tab_ok L19 300 rfl (by first | trivial | (simp [in64] <;> omega)) ?_)
          | (refine AWP.eq_agg e' tab_ok rfl rfl rfl (.inl ⟨rfl, rfl⟩) ?_ 5 (by omega) rfl ?_ rfl rfl rfl rfl rfl rfl rfl ?_; (focus kernel_rfl); (focus kernel_rfl); refine AWP.runL e' tab_ok L19 300 rfl (by first | trivial | (simp [in64] <;> omega)) ?_)
          | (refine AWP.eq_agg e' tab_ok rfl rfl rfl (.inr ⟨rfl, rfl⟩) ?_ 5 (by omega) rfl ?_ rfl rfl rfl rfl rfl rfl rfl ?_; (focus kernel_rfl); (focus kernel_rfl); refine AWP.runL e' tab_ok L19 300 rfl (by first | trivial | (simp [in64] <;> omega)) ?_)
        )
      (first | (refine AWP.ret e' tab_ok rfl ?_) | (refine AWP.fin e' tab_ok rfl ?_)); rw [hP']; show AWP cx _ _
      refine AWP.runL e tab_ok L13 300 rfl (by first | trivial | (simp [in64] <;> omega)) ?_
      refine AWP.runL e tab_ok L13 300 rfl (by first | trivial | (simp [in64] <;> omega)) ?_
      refine AWP.less e ?_ ?_ ?_ ?_ ?_ (fin () trivial) <;> (repeat' (first | exact True.intro | (refine And.intro ?_ ?_) | rfl | assumption))
  intro _ _
  unfold askS at hP
  obtain ⟨w, hw⟩ : ∃ w, w = s.way := ⟨_, rfl⟩
  rw [← hw] at hP ⊢
  clear hw c1
  have d2 := direct_eff w
  rcases cases_b (dirB w) with h | h <;> rw [h] at d2 hP
  · by_cases h2 : w.reps > 0
    · rw [if_pos rfl, if_pos h2] at hP
      refine AWP.runL e tab_ok L13 300 rfl (by first | trivial | (simp [in64] <;> omega)) ?_
      repeat (
        first
          | (refine AWP.askT rfl ?_; (first | (refine Told.t rfl ?_) | (refine Told.f rfl ?_) | (refine Told.t ?_ ?_; (focus assumption)) | (refine Told.f ?_ ?_; (focus assumption)) | (refine Told.t ?_ ?_; (focus (first | (simp; omega) | (simp [*]; done)); done)) | (refine Told.f ?_ ?_; (focus (first | (simp; omega) | (simp [*]; done)); done))); refine AWP.runL e tab_ok L13 300 rfl (by first | trivial | (simp [in64] <;> omega)) ?_)
          | (refine AWP.callQ e rfl rfl ?_; (first | refine CallQ.mk (d2) rfl rfl ?_); refine AWP.runL e tab_ok L13 300 rfl (by first | trivial | (simp [in64] <;> omega)) ?_)
          | (refine AWP.eq_agg e tab_ok rfl rfl rfl (.inl ⟨rfl, rfl⟩) ?_ 5 (by omega) rfl ?_ rfl rfl rfl rfl rfl rfl rfl ?_; (focus kernel_rfl); (focus kernel_rfl); refine AWP.runL e tab_ok L13 300 rfl (by first | trivial | (simp [in64] <;> omega)) ?_)
          | (refine AWP.eq_agg e tab_ok rfl rfl rfl (.inr ⟨rfl, rfl⟩) ?_ 5 (by omega) rfl ?_ rfl rfl rfl rfl rfl rfl rfl ?_; (focus kernel_rfl); (focus kernel_rfl); refine AWP.runL e tab_ok L13 300 rfl (by first | trivial | (simp [in64] <;> omega)) ?_)
        )
      repeat (
        first
          | (refine AWP.askT rfl ?_; (first | (refine Told.t rfl ?_) | (refine Told.f rfl ?_) | (refine Told.t ?_ ?_; (focus assumption)) | (refine Told.f ?_ ?_; (focus assumption)) | (refine Told.t ?_ ?_; (focus (first | (simp; omega) | (simp [*]; done)); done)) | (refine Told.f ?_ ?_; (focus (first | (simp; omega) | (simp [*]; done)); done))); refine AWP.runL e tab_ok L13 300 rfl (by first | trivial | (simp [in64] <;> omega)) ?_)
          | (refine AWP.eq_agg e tab_ok rfl rfl rfl (.inl ⟨rfl, rfl⟩) ?_ 5 (by omega) rfl ?_ rfl rfl rfl rfl rfl rfl rfl ?_; (focus kernel_rfl); (focus kernel_rfl); refine AWP.runL e tab_ok L13 300 rfl (by first | trivial | (simp [in64] <;> omega)) ?_)
          | (refine AWP.eq_agg e tab_ok rfl rfl rfl (.inr ⟨rfl, rfl⟩) ?_ 5 (by omega) rfl ?_ rfl rfl rfl rfl rfl rfl rfl ?_; (focus kernel_rfl); (focus kernel_rfl); refine AWP.runL e tab_ok L13 300 rfl (by first | trivial | (simp [in64] <;> omega)) ?_)
          | (refine AWP.keep L13 rfl ?_; refine AWP.drg 100 ?_; (refine DrG.runS e tab_ok 200 rfl (by first | trivial | (simp [in64] <;> omega)) ?_); (repeat (first | (refine DrG.askT rfl ?_; (first | (refine Told.t rfl ?_) | (refine Told.f rfl ?_) | (refine Told.t ?_ ?_; (focus assumption)) | (refine Told.f ?_ ?_; (focus assumption)) | (refine Told.t ?_ ?_; (focus (first | (simp; omega) | (simp [*]; done)); done)) | (refine Told.f ?_ ?_; (focus (first | (simp; omega) | (simp [*]; done)); done))); (refine DrG.runS e tab_ok 200 rfl (by first | trivial | (simp [in64] <;> omega)) ?_)) | (refine DrG.eq_agg e tab_ok rfl rfl rfl (.inl ⟨rfl, rfl⟩) ?_ 5 (by omega) rfl ?_ rfl rfl rfl rfl rfl rfl rfl ?_; (focus kernel_rfl); (focus kernel_rfl); (refine DrG.runS e tab_ok 200 rfl (by first | trivial | (simp [in64] <;> omega)) ?_)) | (refine DrG.eq_aggGo e tab_ok rfl rfl rfl rfl (.inl ⟨rfl, rfl⟩) ?_ 5 (by omega) rfl ?_ rfl rfl rfl rfl rfl rfl rfl ?_; (focus kernel_rfl); (focus kernel_rfl); (refine DrG.runS e tab_ok 200 rfl (by first | trivial | (simp [in64] <;> omega)) ?_)) | (refine DrG.eq_agg e tab_ok rfl rfl rfl (.inr ⟨rfl, rfl⟩) ?_ 5 (by omega) rfl ?_ rfl rfl rfl rfl rfl rfl rfl ?_; (focus kernel_rfl); (focus kernel_rfl); (refine DrG.runS e tab_ok 200 rfl (by first | trivial | (simp [in64] <;> omega)) ?_)) | (refine DrG.eq_aggGo e tab_ok rfl rfl rfl rfl (.inr ⟨rfl, rfl⟩) ?_ 5 (by omega) rfl ?_ rfl rfl rfl rfl rfl rfl rfl ?_; (focus kernel_rfl); (focus kernel_rfl); (refine DrG.runS e tab_ok 200 rfl (by first | trivial | (simp [in64] <;> omega)) ?_)))); refine DrG.finK e rfl ?_ rfl rfl rfl ?_ ?_; (focus kernel_rfl); (focus (repeat' (first | exact True.intro | (refine And.intro ?_ ?_) | rfl | assumption | exact okRow _))); dsimp only [tmS, hpS, tput, effH]; refine AWP.runL e tab_ok L13 300 rfl (by first | trivial | (simp [in64] <;> omega)) ?_)
        )
      refine AWP.ret e tab_ok rfl ?_
      rw [hP]
      all_goals first | rfl | (simp [strip]; done)
    · rw [if_pos rfl, if_neg h2] at hP
      refine AWP.runL e tab_ok L13 300 rfl (by first | trivial | (simp [in64] <;> omega)) ?_
      repeat (
        first
          | (refine AWP.askT rfl ?_; (first | (refine Told.t rfl ?_) | (refine Told.f rfl ?_) | (refine Told.t ?_ ?_; (focus assumption)) | (refine Told.f ?_ ?_; (focus assumption)) | (refine Told.t ?_ ?_; (focus (first | (simp; omega) | (simp [*]; done)); done)) | (refine Told.f ?_ ?_; (focus (first | (simp; omega) | (simp [*]; done)); done))); refine AWP.runL e tab_ok L13 300 rfl (by first | trivial | (simp [in64] <;> omega)) ?_)
          | (refine AWP.callQ e rfl rfl ?_; (first | refine CallQ.mk (d2) rfl rfl ?_); refine AWP.runL e tab_ok L13 300 rfl (by first | trivial | (simp [in64] <;> omega)) ?_)
          | (refine AWP.eq_agg e tab_ok rfl rfl rfl (.inl ⟨rfl, rfl⟩) ?_ 5 (by omega) rfl ?_ rfl rfl rfl rfl rfl rfl rfl ?_; (focus kernel_rfl); (focus kernel_rfl); refine AWP.runL e tab_ok L13 300 rfl (by first | trivial | (simp [in64] <;> omega)) ?_)
          | (refine AWP.eq_agg e tab_ok rfl rfl rfl (.inr ⟨rfl, rfl⟩) ?_ 5 (by omega) rfl ?_ rfl rfl rfl rfl rfl rfl rfl ?_; (focus kernel_rfl); (focus kernel_rfl); refine AWP.runL e tab_ok L13 300 rfl (by first | trivial | (simp [in64] <;> omega)) ?_)
        )
      repeat (
        first
          | (refine AWP.askT rfl ?_; (first | (refine Told.t rfl ?_) | (refine Told.f rfl ?_) | (refine Told.t ?_ ?_; (focus assumption)) | (refine Told.f ?_ ?_; (focus assumption)) | (refine Told.t ?_ ?_; (focus (first | (simp; omega) | (simp [*]; done)); done)) | (refine Told.f ?_ ?_; (focus (first | (simp; omega) | (simp [*]; done)); done))); refine AWP.runL e tab_ok L13 300 rfl (by first | trivial | (simp [in64] <;> omega)) ?_)
          | (refine AWP.eq_agg e tab_ok rfl rfl rfl (.inl ⟨rfl, rfl⟩) ?_ 5 (by omega) rfl ?_ rfl rfl rfl rfl rfl rfl rfl ?_; (focus kernel_rfl); (focus kernel_rfl); refine AWP.runL e tab_ok L13 300 rfl (by first | trivial | (simp [in64] <;> omega)) ?_)
          | (refine AWP.eq_agg e tab_ok rfl rfl rfl (.inr ⟨rfl, rfl⟩) ?_ 5 (by omega) rfl ?_ rfl rfl rfl rfl rfl rfl rfl ?_; (focus kernel_rfl); (focus kernel_rfl); refine AWP.runL e tab_ok L13 300 rfl (by first | trivial | (simp [in64] <;> omega)) ?_)
          | (refine AWP.keep L13 rfl ?_; refine AWP.drg 100 ?_; (refine DrG.runS e tab_ok 200 rfl (by first | trivial | (simp [in64] <;> omega)) ?_); (repeat (first | (refine DrG.askT rfl ?_; (first | (refine Told.t rfl ?_) | (refine Told.f rfl ?_) | (refine Told.t ?_ ?_; (focus assumption)) | (refine Told.f ?_ ?_; (focus assumption)) | (refine Told.t ?_ ?_; (focus (first | (simp; omega) | (simp [*]; done)); done)) | (refine Told.f ?_ ?_; (focus (first | (simp; omega) | (simp [*]; done)); done))); (refine DrG.runS e tab_ok 200 rfl (by first | trivial | (simp [in64] <;> omega)) ?_)) | (refine DrG.eq_agg e tab_ok rfl rfl rfl (.inl ⟨rfl, rfl⟩) ?_ 5 (by omega) rfl ?_ rfl rfl rfl rfl rfl rfl rfl ?_; (focus kernel_rfl); (focus kernel_rfl); (refine DrG.runS e tab_ok 200 rfl (by first | trivial | (simp [in64] <;> omega)) ?_)) | (refine DrG.eq_aggGo e tab_ok rfl rfl rfl rfl (.inl ⟨rfl, rfl⟩) ?_ 5 (by omega) rfl ?_ rfl rfl rfl rfl rfl rfl rfl ?_; (focus kernel_rfl); (focus kernel_rfl); (refine DrG.runS e tab_ok 200 rfl (by first | trivial | (simp [in64] <;> omega)) ?_)) | (refine DrG.eq_agg e tab_ok rfl rfl rfl (.inr ⟨rfl, rfl⟩) ?_ 5 (by omega) rfl ?_ rfl rfl rfl rfl rfl rfl rfl ?_; (focus kernel_rfl); (focus kernel_rfl); (refine DrG.runS e tab_ok 200 rfl (by first | trivial | (simp [in64] <;> omega)) ?_)) | (refine DrG.eq_aggGo e tab_ok rfl rfl rfl rfl (.inr ⟨rfl, rfl⟩) ?_ 5 (by omega) rfl ?_ rfl rfl rfl rfl rfl rfl rfl ?_; (focus kernel_rfl); (focus kernel_rfl); (refine DrG.runS e tab_ok 200 rfl (by first | trivial | (simp [in64] <;> omega)) ?_)))); refine DrG.finK e rfl ?_ rfl rfl rfl ?_ ?_; (focus kernel_rfl); (focus (repeat' (first | exact True.intro | (refine And.intro ?_ ?_) | rfl | assumption | exact okRow _))); dsimp only [tmS, hpS, tput, effH]; refine AWP.runL e tab_ok L13 300 rfl (by first | trivial | (simp [in64] <;> omega)) ?_)
        )
      refine AWP.ret e tab_ok rfl ?_
      rw [hP]
      all_goals first | rfl | (simp [strip]; done)
  · rw [if_neg (by simp)] at hP
    refine AWP.runL e tab_ok L13 300 rfl (by first | trivial | (simp [in64] <;> omega)) ?_
    repeat (
      first
        | (refine AWP.askT rfl ?_; (first | (refine Told.t rfl ?_) | (refine Told.f rfl ?_) | (refine Told.t ?_ ?_; (focus assumption)) | (refine Told.f ?_ ?_; (focus assumption)) | (refine Told.t ?_ ?_; (focus (first | (simp; omega) | (simp [*]; done)); done)) | (refine Told.f ?_ ?_; (focus (first | (simp; omega) | (simp [*]; done)); done))); refine AWP.runL e tab_ok L13 300 rfl (by first | trivial | (simp [in64] <;> omega)) ?_)
        | (refine AWP.callQ e rfl rfl ?_; (first | refine CallQ.mk (d2) rfl rfl ?_); refine AWP.runL e tab_ok L13 300 rfl (by first | trivial | (simp [in64] <;> omega)) ?_)
        | (refine AWP.eq_agg e tab_ok rfl rfl rfl (.inl ⟨rfl, rfl⟩) ?_ 5 (by omega) rfl ?_ rfl rfl rfl rfl rfl rfl rfl ?_; (focus kernel_rfl); (focus kernel_rfl); refine AWP.runL e tab_ok L13 300 rfl (by first | trivial | (simp [in64] <;> omega)) ?_)
        | (refine AWP.eq_agg e tab_ok rfl rfl rfl (.inr ⟨rfl, rfl⟩) ?_ 5 (by omega) rfl ?_ rfl rfl rfl rfl rfl rfl rfl ?_; (focus kernel_rfl); (focus kernel_rfl); refine AWP.runL e tab_ok L13 300 rfl (by first | trivial | (simp [in64] <;> omega)) ?_)
      )
    repeat (
      first
        | (refine AWP.askT rfl ?_; (first | (refine Told.t rfl ?_) | (refine Told.f rfl ?_) | (refine Told.t ?_ ?_; (focus assumption)) | (refine Told.f ?_ ?_; (focus assumption)) | (refine Told.t ?_ ?_; (focus (first | (simp; omega) | (simp [*]; done)); done)) | (refine Told.f ?_ ?_; (focus (first | (simp; omega) | (simp [*]; done)); done))); refine AWP.runL e tab_ok L13 300 rfl (by first | trivial | (simp [in64] <;> omega)) ?_)
        | (refine AWP.eq_agg e tab_ok rfl rfl rfl (.inl ⟨rfl, rfl⟩) ?_ 5 (by omega) rfl ?_ rfl rfl rfl rfl rfl rfl rfl ?_; (focus kernel_rfl); (focus kernel_rfl); refine AWP.runL e tab_ok L13 300 rfl (by first | trivial | (simp [in64] <;> omega)) ?_)
        | (refine AWP.eq_agg e tab_ok rfl rfl rfl (.inr ⟨rfl, rfl⟩) ?_ 5 (by omega) rfl ?_ rfl rfl rfl rfl rfl rfl rfl ?_; (focus kernel_rfl); (focus kernel_rfl); refine AWP.runL e tab_ok L13 300 rfl (by first | trivial | (simp [in64] <;> omega)) ?_)
        | (refine AWP.keep L13 rfl ?_; refine AWP.drg 100 ?_; (refine DrG.runS e tab_ok 200 rfl (by first | trivial | (simp [in64] <;> omega)) ?_); (repeat (first | (refine DrG.askT rfl ?_; (first | (refine Told.t rfl ?_) | (refine Told.f rfl ?_) | (refine Told.t ?_ ?_; (focus assumption)) | (refine Told.f ?_ ?_; (focus assumption)) | (refine Told.t ?_ ?_; (focus (first | (simp; omega) | (simp [*]; done)); done)) | (refine Told.f ?_ ?_; (focus (first | (simp; omega) | (simp [*]; done)); done))); (refine DrG.runS e tab_ok 200 rfl (by first | trivial | (simp [in64] <;> omega)) ?_)) | (refine DrG.eq_agg e tab_ok rfl rfl rfl (.inl ⟨rfl, rfl⟩) ?_ 5 (by omega) rfl ?_ rfl rfl rfl rfl rfl rfl rfl ?_; (focus kernel_rfl); (focus kernel_rfl); (refine DrG.runS e tab_ok 200 rfl (by first | trivial | (simp [in64] <;> omega)) ?_)) | (refine DrG.eq_aggGo e tab_ok rfl rfl rfl rfl (.inl ⟨rfl, rfl⟩) ?_ 5 (by omega) rfl ?_ rfl rfl rfl rfl rfl rfl rfl ?_; (focus kernel_rfl); (focus kernel_rfl); (refine DrG.runS e tab_ok 200 rfl (by first | trivial | (simp [in64] <;> omega)) ?_)) | (refine DrG.eq_agg e tab_ok rfl rfl rfl (.inr ⟨rfl, rfl⟩) ?_ 5 (by omega) rfl ?_ rfl rfl rfl rfl rfl rfl rfl ?_; (focus kernel_rfl); (focus kernel_rfl); (refine DrG.runS e tab_ok 200 rfl (by first | trivial | (simp [in64] <;> omega)) ?_)) | (refine DrG.eq_aggGo e tab_ok rfl rfl rfl rfl (.inr ⟨rfl, rfl⟩) ?_ 5 (by omega) rfl ?_ rfl rfl rfl rfl rfl rfl rfl ?_; (focus kernel_rfl); (focus kernel_rfl); (refine DrG.runS e tab_ok 200 rfl (by first | trivial | (simp [in64] <;> omega)) ?_)))); refine DrG.finK e rfl ?_ rfl rfl rfl ?_ ?_; (focus kernel_rfl); (focus (repeat' (first | exact True.intro | (refine And.intro ?_ ?_) | rfl | assumption | exact okRow _))); dsimp only [tmS, hpS, tput, effH]; refine AWP.runL e tab_ok L13 300 rfl (by first | trivial | (simp [in64] <;> omega)) ?_)
      )
    refine AWP.ret e tab_ok rfl ?_
    rw [hP]
    all_goals first | rfl | (simp [strip]; done)
end Go.Proofs.Ytaiejjfikdpccaa
