import Derived.Test.YtjhfeeacdickbaaF10
open Go Go.Proofs Go.Sy
namespace Go.Proofs.Ytjhfeeacdickbaa


set_option maxHeartbeats 4000000 in
set_option maxRecDepth 100000 in
theorem calls_bad (t T : TV) (f : FV) (m : Int) (good : Bool) (h : rightB T = false) (hfew : Eff Try.prog 8 [tv t] [] 0 (fun r _ _ => r = tv T)) : Eff Try.prog 7 [tv t, fv f, .i m, .b good] [] 0 (fun r _ _ => r = .b true) := by
  have hr := right_eff T
  have hrr := rright_eff T
  have hwq := wokenq_eff T
  rw [h] at hr hrr hwq
  have h1 := go_bad T m h
  have h3 := pattern_bad T h
  have h4 := local_bad T h
  obtain ⟨E, hE, _⟩ := extract_le f.data
  refine eff_of Try.func7 rfl rfl rfl fun cx e hP => ?_
  refine AWP.runL e tab_ok L7 300 rfl (by first | trivial | (simp [in64] <;> omega)) ?_
  repeat (
    first
      | (refine AWP.askT rfl ?_; (first | (refine Told.t rfl ?_) | (refine Told.f rfl ?_) | (refine Told.t ?_ ?_; (focus assumption)) | (refine Told.f ?_ ?_; (focus assumption)) | (refine Told.t ?_ ?_; (focus (first | (simp; omega) | (simp [*]; done)); done)) | (refine Told.f ?_ ?_; (focus (first | (simp; omega) | (simp [*]; done)); done))); refine AWP.runL e tab_ok L7 300 rfl (by first | trivial | (simp [in64] <;> omega)) ?_)
      | (refine AWP.callQ e rfl rfl ?_; (first | refine CallQ.mk (hfew) rfl rfl ?_); refine AWP.runL e tab_ok L7 300 rfl (by first | trivial | (simp [] <;> omega)) ?_)
      | (refine AWP.eq_agg e tab_ok rfl rfl rfl (.inl ⟨rfl, rfl⟩) ?_ 5 (by omega) rfl ?_ rfl rfl rfl rfl rfl rfl rfl ?_; (focus kernel_rfl); (focus kernel_rfl); refine AWP.runL e tab_ok L7 300 rfl (by first | trivial | (simp [in64] <;> omega)) ?_)
      | (refine AWP.eq_agg e tab_ok rfl rfl rfl (.inr ⟨rfl, rfl⟩) ?_ 5 (by omega) rfl ?_ rfl rfl rfl rfl rfl rfl rfl ?_; (focus kernel_rfl); (focus kernel_rfl); refine AWP.runL e tab_ok L7 300 rfl (by first | trivial | (simp [in64] <;> omega)) ?_)
    )
  refine AWP.eqH 1 (fC { f with data := E }) rfl (congrArg (fun d => fC { f with data := d }) hE) ?_
  clear hE
  obtain ⟨F, hF⟩ : ∃ F, F = { f with data := E } := ⟨_, rfl⟩
  rw [← hF]
  clear hF hfew
  have h2 := saw_bad T F good h
  have h5 := match_bad T F h
  dsimp only [t0] at h1 h2 h3 h4
  rw [Bool.false_and] at hwq
  repeat (
    first
      | (refine AWP.askT rfl ?_; (first | (refine Told.t rfl ?_) | (refine Told.f rfl ?_) | (refine Told.t ?_ ?_; (focus assumption)) | (refine Told.f ?_ ?_; (focus assumption)) | (refine Told.t ?_ ?_; (focus (first | (simp; omega) | (simp [*]; done)); done)) | (refine Told.f ?_ ?_; (focus (first | (simp; omega) | (simp [*]; done)); done))); refine AWP.runL e tab_ok L7 300 rfl (by first | trivial | (simp [in64] <;> omega)) ?_)
      | (refine AWP.callQ e rfl rfl ?_; (first | refine CallQ.mk (h1) rfl rfl ?_ | refine CallQ.mk (h2) rfl rfl ?_ | refine CallQ.mk (h3) rfl rfl ?_ | refine CallQ.mk (h4) rfl rfl ?_ | refine CallQ.mk (hr) rfl rfl ?_ | refine CallQ.mk (hrr) rfl rfl ?_ | refine CallQ.mk (hwq) rfl rfl ?_ | refine CallQ.mk (h5) rfl rfl ?_ | refine CallQ.mk (alive_eff) rfl rfl ?_); refine AWP.runL e tab_ok L7 300 rfl (by first | trivial | (simp [in64] <;> omega)) ?_)
      | (refine AWP.eq_agg e tab_ok rfl rfl rfl (.inl ⟨rfl, rfl⟩) ?_ 5 (by omega) rfl ?_ rfl rfl rfl rfl rfl rfl rfl ?_; (focus kernel_rfl); (focus kernel_rfl); refine AWP.runL e tab_ok L7 300 rfl (by first | trivial | (simp [in64] <;> omega)) ?_)
      | (refine AWP.eq_agg e tab_ok rfl rfl rfl (.inr ⟨rfl, rfl⟩) ?_ 5 (by omega) rfl ?_ rfl rfl rfl rfl rfl rfl rfl ?_; (focus kernel_rfl); (focus kernel_rfl); refine AWP.runL e tab_ok L7 300 rfl (by first | trivial | (simp [in64] <;> omega)) ?_)
    )
  refine AWP.ret e tab_ok rfl ?_
  rw [hP]
  all_goals first | rfl | (simp [strip]; done)

set_option maxHeartbeats 4000000 in
set_option maxRecDepth 100000 in
theorem calls_good (t T : TV) (f : FV) (m : Int) (good : Bool) (h : rightB T = true) (hfew : Eff Try.prog 8 [tv t] [] 0 (fun r _ _ => r = tv T)) : Eff Try.prog 7 [tv t, fv f, .i m, .b good] [] 0 (fun r _ _ => r = .b true) := by
  have hr := right_eff T
  have hrr := rright_eff T
  have hwq := wokenr T h
  have hrw := rwoken_eff T
  rw [h] at hr hrr
  have h3 := pattern_eff T h
  have h4 := local_eff T h
  have hrg := rgo_eff T m
  obtain ⟨E, hE, _⟩ := extract_le f.data
  refine eff_of Try.func7 rfl rfl rfl fun cx e hP => ?_
  refine AWP.runL e tab_ok L7 300 rfl (by first | trivial | (simp [in64] <;> omega)) ?_
  repeat (
    first
      | (refine AWP.askT rfl ?_; (first | (refine Told.t rfl ?_) | (refine Told.f rfl ?_) | (refine Told.t ?_ ?_; (focus assumption)) | (refine Told.f ?_ ?_; (focus assumption)) | (refine Told.t ?_ ?_; (focus (first | (simp; omega) | (simp [*]; done)); done)) | (refine Told.f ?_ ?_; (focus (first | (simp; omega) | (simp [*]; done)); done))); refine AWP.runL e tab_ok L7 300 rfl (by first | trivial | (simp [in64] <;> omega)) ?_)
      | (refine AWP.callQ e rfl rfl ?_; (first | refine CallQ.mk (hfew) rfl rfl ?_); refine AWP.runL e tab_ok L7 300 rfl (by first | trivial | (simp [] <;> omega)) ?_)
      | (refine AWP.eq_agg e tab_ok rfl rfl rfl (.inl ⟨rfl, rfl⟩) ?_ 5 (by omega) rfl ?_ rfl rfl rfl rfl rfl rfl rfl ?_; (focus kernel_rfl); (focus kernel_rfl); refine AWP.runL e tab_ok L7 300 rfl (by first | trivial | (simp [in64] <;> omega)) ?_)
      | (refine AWP.eq_agg e tab_ok rfl rfl rfl (.inr ⟨rfl, rfl⟩) ?_ 5 (by omega) rfl ?_ rfl rfl rfl rfl rfl rfl rfl ?_; (focus kernel_rfl); (focus kernel_rfl); refine AWP.runL e tab_ok L7 300 rfl (by first | trivial | (simp [in64] <;> omega)) ?_)
    )
  refine AWP.eqH 1 (fC { f with data := E }) rfl (congrArg (fun d => fC { f with data := d }) hE) ?_
  clear hE
  obtain ⟨F, hF⟩ : ∃ F, F = { f with data := E } := ⟨_, rfl⟩
  rw [← hF]
  clear hF hfew
  have h2 := saw_eff T F good h
  have h5 := match_eff T F h
  have h6 := rmatch_eff T F h
  have h7 := rsaw_eff T F good h
  have hgo : ∃ G ge, Eff Try.prog 18 [tv T, .i m] [] 0 (fun r _ _ => r = .tup [tv G, .i ge]) ∧ ((1 ≤ m ∧ m ≤ 3) ∧ G = goT T m ∧ ge = 0 ∨ ¬ (1 ≤ m ∧ m ≤ 3) ∧ G = ⟨false, 0#32, 0#32, false, 0, .empty, 0, 0, 0, false, false, false, false⟩ ∧ ge = 1) := by
    by_cases hm : 1 ≤ m ∧ m ≤ 3
    · exact ⟨_, _, go_eff T m h hm.1 hm.2, .inl ⟨hm, rfl, rfl⟩⟩
    · exact ⟨_, _, go_out T m h hm, .inr ⟨hm, rfl, rfl⟩⟩
  obtain ⟨G, ge, h1, hgv⟩ := hgo
  repeat (
    first
      | (refine AWP.askT rfl ?_; (first | (refine Told.t rfl ?_) | (refine Told.f rfl ?_) | (refine Told.t ?_ ?_; (focus assumption)) | (refine Told.f ?_ ?_; (focus assumption)) | (refine Told.t ?_ ?_; (focus (first | (simp; omega) | (simp [*]; done)); done)) | (refine Told.f ?_ ?_; (focus (first | (simp; omega) | (simp [*]; done)); done))); refine AWP.runL e tab_ok L7 300 rfl (by first | trivial | (simp [in64] <;> omega)) ?_)
      | (refine AWP.callQ e rfl rfl ?_; (first | refine CallQ.mk (h1) rfl rfl ?_ | refine CallQ.mk (h2) rfl rfl ?_ | refine CallQ.mk (h3) rfl rfl ?_ | refine CallQ.mk (h4) rfl rfl ?_ | refine CallQ.mk (hr) rfl rfl ?_ | refine CallQ.mk (hrr) rfl rfl ?_ | refine CallQ.mk (hwq) rfl rfl ?_ | refine CallQ.mk (hrw) rfl rfl ?_ | refine CallQ.mk (h5) rfl rfl ?_ | refine CallQ.mk (h6) rfl rfl ?_ | refine CallQ.mk (alive_eff) rfl rfl ?_); refine AWP.runL e tab_ok L7 300 rfl (by first | trivial | (simp [in64] <;> omega)) ?_)
      | (refine AWP.eq_agg e tab_ok rfl rfl rfl (.inl ⟨rfl, rfl⟩) ?_ 5 (by omega) rfl ?_ rfl rfl rfl rfl rfl rfl rfl ?_; (focus kernel_rfl); (focus kernel_rfl); refine AWP.runL e tab_ok L7 300 rfl (by first | trivial | (simp [in64] <;> omega)) ?_)
      | (refine AWP.eq_agg e tab_ok rfl rfl rfl (.inr ⟨rfl, rfl⟩) ?_ 5 (by omega) rfl ?_ rfl rfl rfl rfl rfl rfl rfl ?_; (focus kernel_rfl); (focus kernel_rfl); refine AWP.runL e tab_ok L7 300 rfl (by first | trivial | (simp [in64] <;> omega)) ?_)
    )
  refine AWP.joinN 2 (ε := Unit) (fun _ => ⟨[(4, .ptr 0 0), (5, .ptr 1 0), (3, .b good), (11, .ptr 3 0), (12, .b (woke T (sawT T (matchB T F) good))), (13, .i 0), (14, .ptr 4 0), (15, .b (woke T (patT T))), (16, .i 0), (17, .ptr 5 0), (18, .b (woke T (locT T))), (19, .i 0)],
    [(0, .box (tC T)), (1, .box (fC F)), (3, .box (tC (sawT T (matchB T F) good))), (4, .box (tC (patT T))), (5, .box (tC (locT T)))], 6⟩) (fun _ => True) ?_ ?_
  rotate_left
  · intro Ψ join
    rcases hgv with ⟨⟨m1, m2⟩, rfl, rfl⟩ | ⟨hm, rfl, rfl⟩
    · repeat (
        first
          | (refine AWP.askT rfl ?_; (first | (refine Told.t rfl ?_) | (refine Told.f rfl ?_) | (refine Told.t ?_ ?_; (focus assumption)) | (refine Told.f ?_ ?_; (focus assumption)) | (refine Told.t ?_ ?_; (focus (first | (simp; omega) | (simp [*]; done)); done)) | (refine Told.f ?_ ?_; (focus (first | (simp; omega) | (simp [*]; done)); done))); refine AWP.runL e tab_ok L7 300 rfl (by first | trivial | (simp [in64] <;> omega)) ?_)
          | (refine AWP.callQ e rfl rfl ?_; (first | refine CallQ.mk (hrg) rfl rfl ?_); refine AWP.runL e tab_ok L7 300 rfl (by first | trivial | (simp [in64] <;> omega)) ?_)
          | (refine AWP.eq_agg e tab_ok rfl rfl rfl (.inl ⟨rfl, rfl⟩) ?_ 5 (by omega) rfl ?_ rfl rfl rfl rfl rfl rfl rfl ?_; (focus kernel_rfl); (focus kernel_rfl); refine AWP.runL e tab_ok L7 300 rfl (by first | trivial | (simp [in64] <;> omega)) ?_)
          | (refine AWP.eq_agg e tab_ok rfl rfl rfl (.inr ⟨rfl, rfl⟩) ?_ 5 (by omega) rfl ?_ rfl rfl rfl rfl rfl rfl rfl ?_; (focus kernel_rfl); (focus kernel_rfl); refine AWP.runL e tab_ok L7 300 rfl (by first | trivial | (simp [in64] <;> omega)) ?_)
          | (refine AWP.keep L7 rfl ?_; refine AWP.drg 100 ?_; (refine DrG.runS e tab_ok 200 rfl (by first | trivial | (simp [in64] <;> omega)) ?_); (repeat (first | (refine DrG.askT rfl ?_; (first | (refine Told.t rfl ?_) | (refine Told.f rfl ?_) | (refine Told.t ?_ ?_; (focus assumption)) | (refine Told.f ?_ ?_; (focus assumption)) | (refine Told.t ?_ ?_; (focus (first | (simp; omega) | (simp [*]; done)); done)) | (refine Told.f ?_ ?_; (focus (first | (simp; omega) | (simp [*]; done)); done))); (refine DrG.runS e tab_ok 200 rfl (by first | trivial | (simp [in64] <;> omega)) ?_)) | (refine DrG.callQ e rfl rfl ?_; (first | refine CallVQ.mk (hrg) rfl rfl ?_); (refine DrG.runS e tab_ok 200 rfl (by first | trivial | (simp [in64] <;> omega)) ?_)) | (refine DrG.callGo e rfl rfl rfl ?_; (first | refine CallVQ.mk (hrg) rfl rfl ?_); (refine DrG.runS e tab_ok 200 rfl (by first | trivial | (simp [in64] <;> omega)) ?_)) | (refine DrG.eq_agg e tab_ok rfl rfl rfl (.inl ⟨rfl, rfl⟩) ?_ 5 (by omega) rfl ?_ rfl rfl rfl rfl rfl rfl rfl ?_; (focus kernel_rfl); (focus kernel_rfl); (refine DrG.runS e tab_ok 200 rfl (by first | trivial | (simp [in64] <;> omega)) ?_)) | (refine DrG.eq_aggGo e tab_ok rfl rfl rfl rfl (.inl ⟨rfl, rfl⟩) ?_ 5 (by omega) rfl ?_ rfl rfl rfl rfl rfl rfl rfl ?_; (focus kernel_rfl); (focus kernel_rfl); (refine DrG.runS e tab_ok 200 rfl (by first | trivial | (simp [in64] <;> omega)) ?_)) | (refine DrG.eq_agg e tab_ok rfl rfl rfl (.inr ⟨rfl, rfl⟩) ?_ 5 (by omega) rfl ?_ rfl rfl rfl rfl rfl rfl rfl ?_; (focus kernel_rfl); (focus kernel_rfl); (refine DrG.runS e tab_ok 200 rfl (by first | trivial | (simp [in64] <;> omega)) ?_)) | (refine DrG.eq_aggGo e tab_ok rfl rfl rfl rfl (.inr ⟨rfl, rfl⟩) ?_ 5 (by omega) rfl ?_ rfl rfl rfl rfl rfl rfl rfl ?_; (focus kernel_rfl); (focus kernel_rfl); (refine DrG.runS e tab_ok 200 rfl (by first | trivial | (simp [in64] <;> omega)) ?_)))); refine DrG.finK e rfl ?_ rfl rfl rfl ?_ ?_; (focus kernel_rfl); (focus (repeat' (first | exact True.intro | (refine And.intro ?_ ?_) | rfl | assumption | exact okRow _))); dsimp only [tmS, hpS, tput, effH]; refine AWP.runL e tab_ok L7 300 rfl (by first | trivial | (simp [in64] <;> omega)) ?_)
        )
      refine AWP.less e ?_ ?_ ?_ ?_ ?_ (join () trivial) <;> (repeat' (first | exact True.intro | (refine And.intro ?_ ?_) | rfl | assumption))
    · by_cases m1 : 1 ≤ m
      · have m2 : ¬ m ≤ 3 := fun h => hm ⟨m1, h⟩
        clear hm
        repeat (
          first
            | (refine AWP.askT rfl ?_; (first | (refine Told.t rfl ?_) | (refine Told.f rfl ?_) | (refine Told.t ?_ ?_; (focus assumption)) | (refine Told.f ?_ ?_; (focus assumption)) | (refine Told.t ?_ ?_; (focus (first | (simp; omega) | (simp [*]; done)); done)) | (refine Told.f ?_ ?_; (focus (first | (simp; omega) | (simp [*]; done)); done))); refine AWP.runL e tab_ok L7 300 rfl (by first | trivial | (simp [in64] <;> omega)) ?_)
            | (refine AWP.eq_agg e tab_ok rfl rfl rfl (.inl ⟨rfl, rfl⟩) ?_ 5 (by omega) rfl ?_ rfl rfl rfl rfl rfl rfl rfl ?_; (focus kernel_rfl); (focus kernel_rfl); refine AWP.runL e tab_ok L7 300 rfl (by first | trivial | (simp [in64] <;> omega)) ?_)
            | (refine AWP.eq_agg e tab_ok rfl rfl rfl (.inr ⟨rfl, rfl⟩) ?_ 5 (by omega) rfl ?_ rfl rfl rfl rfl rfl rfl rfl ?_; (focus kernel_rfl); (focus kernel_rfl); refine AWP.runL e tab_ok L7 300 rfl (by first | trivial | (simp [in64] <;> omega)) ?_)
          )
        refine AWP.less e ?_ ?_ ?_ ?_ ?_ (join () trivial) <;> (repeat' (first | exact True.intro | (refine And.intro ?_ ?_) | rfl | assumption))
      · clear hm
        repeat (
          first
            | (refine AWP.askT rfl ?_; (first | (refine Told.t rfl ?_) | (refine Told.f rfl ?_) | (refine Told.t ?_ ?_; (focus assumption)) | (refine Told.f ?_ ?_; (focus assumption)) | (refine Told.t ?_ ?_; (focus (first | (simp; omega) | (simp [*]; done)); done)) | (refine Told.f ?_ ?_; (focus (first | (simp; omega) | (simp [*]; done)); done))); refine AWP.runL e tab_ok L7 300 rfl (by first | trivial | (simp [in64] <;> omega)) ?_)
            | (refine AWP.eq_agg e tab_ok rfl rfl rfl (.inl ⟨rfl, rfl⟩) ?_ 5 (by omega) rfl ?_ rfl rfl rfl rfl rfl rfl rfl ?_; (focus kernel_rfl); (focus kernel_rfl); refine AWP.runL e tab_ok L7 300 rfl (by first | trivial | (simp [in64] <;> omega)) ?_)
            | (refine AWP.eq_agg e tab_ok rfl rfl rfl (.inr ⟨rfl, rfl⟩) ?_ 5 (by omega) rfl ?_ rfl rfl rfl rfl rfl rfl rfl ?_; (focus kernel_rfl); (focus kernel_rfl); refine AWP.runL e tab_ok L7 300 rfl (by first | trivial | (simp [in64] <;> omega)) ?_)
          )
        refine AWP.less e ?_ ?_ ?_ ?_ ?_ (join () trivial) <;> (repeat' (first | exact True.intro | (refine And.intro ?_ ?_) | rfl | assumption))
  intro _ _
  clear hgv h1 h2 h3 h4 hr hrr hwq h5 h6
  refine AWP.runL e tab_ok L7 300 rfl (by first | trivial | (simp [in64] <;> omega)) ?_
  repeat (
    first
      | (refine AWP.askT rfl ?_; (first | (refine Told.t rfl ?_) | (refine Told.f rfl ?_) | (refine Told.t ?_ ?_; (focus assumption)) | (refine Told.f ?_ ?_; (focus assumption)) | (refine Told.t ?_ ?_; (focus (first | (simp; omega) | (simp [*]; done)); done)) | (refine Told.f ?_ ?_; (focus (first | (simp; omega) | (simp [*]; done)); done))); refine AWP.runL e tab_ok L7 300 rfl (by first | trivial | (simp [in64] <;> omega)) ?_)
      | (refine AWP.callQ e rfl rfl ?_; (first | refine CallQ.mk (h7) rfl rfl ?_); refine AWP.runL e tab_ok L7 300 rfl (by first | trivial | (simp [in64] <;> omega)) ?_)
      | (refine AWP.eq_agg e tab_ok rfl rfl rfl (.inl ⟨rfl, rfl⟩) ?_ 5 (by omega) rfl ?_ rfl rfl rfl rfl rfl rfl rfl ?_; (focus kernel_rfl); (focus kernel_rfl); refine AWP.runL e tab_ok L7 300 rfl (by first | trivial | (simp [in64] <;> omega)) ?_)
      | (refine AWP.eq_agg e tab_ok rfl rfl rfl (.inr ⟨rfl, rfl⟩) ?_ 5 (by omega) rfl ?_ rfl rfl rfl rfl rfl rfl rfl ?_; (focus kernel_rfl); (focus kernel_rfl); refine AWP.runL e tab_ok L7 300 rfl (by first | trivial | (simp [in64] <;> omega)) ?_)
      | (refine AWP.keep L7 rfl ?_; refine AWP.drg 100 ?_; (refine DrG.runS e tab_ok 200 rfl (by first | trivial | (simp [in64] <;> omega)) ?_); (repeat (first | (refine DrG.askT rfl ?_; (first | (refine Told.t rfl ?_) | (refine Told.f rfl ?_) | (refine Told.t ?_ ?_; (focus assumption)) | (refine Told.f ?_ ?_; (focus assumption)) | (refine Told.t ?_ ?_; (focus (first | (simp; omega) | (simp [*]; done)); done)) | (refine Told.f ?_ ?_; (focus (first | (simp; omega) | (simp [*]; done)); done))); (refine DrG.runS e tab_ok 200 rfl (by first | trivial | (simp [in64] <;> omega)) ?_)) | (refine DrG.callQ e rfl rfl ?_; (first | refine CallVQ.mk (h7) rfl rfl ?_); (refine DrG.runS e tab_ok 200 rfl (by first | trivial | (simp [in64] <;> omega)) ?_)) | (refine DrG.callGo e rfl rfl rfl ?_; (first | refine CallVQ.mk (h7) rfl rfl ?_); (refine DrG.runS e tab_ok 200 rfl (by first | trivial | (simp [in64] <;> omega)) ?_)) | (refine DrG.eq_agg e tab_ok rfl rfl rfl (.inl ⟨rfl, rfl⟩) ?_ 5 (by omega) rfl ?_ rfl rfl rfl rfl rfl rfl rfl ?_; (focus kernel_rfl); (focus kernel_rfl); (refine DrG.runS e tab_ok 200 rfl (by first | trivial | (simp [in64] <;> omega)) ?_)) | (refine DrG.eq_aggGo e tab_ok rfl rfl rfl rfl (.inl ⟨rfl, rfl⟩) ?_ 5 (by omega) rfl ?_ rfl rfl rfl rfl rfl rfl rfl ?_; (focus kernel_rfl); (focus kernel_rfl); (refine DrG.runS e tab_ok 200 rfl (by first | trivial | (simp [in64] <;> omega)) ?_)) | (refine DrG.eq_agg e tab_ok rfl rfl rfl (.inr ⟨rfl, rfl⟩) ?_ 5 (by omega) rfl ?_ rfl rfl rfl rfl rfl rfl rfl ?_; (focus kernel_rfl); (focus kernel_rfl); (refine DrG.runS e tab_ok 200 rfl (by first | trivial | (simp [in64] <;> omega)) ?_)) | (refine DrG.eq_aggGo e tab_ok rfl rfl rfl rfl (.inr ⟨rfl, rfl⟩) ?_ 5 (by omega) rfl ?_ rfl rfl rfl rfl rfl rfl rfl ?_; (focus kernel_rfl); (focus kernel_rfl); (refine DrG.runS e tab_ok 200 rfl (by first | trivial | (simp [in64] <;> omega)) ?_)))); refine DrG.finK e rfl ?_ rfl rfl rfl ?_ ?_; (focus kernel_rfl); (focus (repeat' (first | exact True.intro | (refine And.intro ?_ ?_) | rfl | assumption | exact okRow _))); dsimp only [tmS, hpS, tput, effH]; refine AWP.runL e tab_ok L7 300 rfl (by first | trivial | (simp [in64] <;> omega)) ?_)
    )
  refine AWP.joinN 1 (ε := Unit) (fun _ => ⟨[(23, .ptr 6 0), (24, .ptr 7 0), (4, .ptr 0 0), (5, .ptr 1 0), (3, .b good), (11, .ptr 3 0), (12, .b (woke T (sawT T (matchB T F) good))), (13, .i 0), (14, .ptr 4 0), (15, .b (woke T (patT T))), (16, .i 0), (17, .ptr 5 0), (18, .b (woke T (locT T))), (19, .i 0)],
    [(0, .box (tC T)), (1, .box (fC F)), (3, .box (tC (sawT T (matchB T F) good))), (4, .box (tC (patT T))), (5, .box (tC (locT T))), (6, .box (tC (patT T))), (7, .box (tC (locT T)))], 8⟩) (fun _ => True) ?_ ?_
  rotate_left
  · intro Ψ join
    by_cases a1 : T.mode = 1
    · have e1 : patT T = T := by simp [patT, a1]
      have e2 : locT T = T := by simp [locT, a1]
      rw [e1, e2] at join ⊢
      repeat (
        first
          | (refine AWP.askT rfl ?_; (first | (refine Told.t rfl ?_) | (refine Told.f rfl ?_) | (refine Told.t ?_ ?_; (focus assumption)) | (refine Told.f ?_ ?_; (focus assumption)) | (refine Told.t ?_ ?_; (focus (first | (simp; omega) | (simp [*]; done)); done)) | (refine Told.f ?_ ?_; (focus (first | (simp; omega) | (simp [*]; done)); done))); refine AWP.runL e tab_ok L7 300 rfl (by first | trivial | (simp [in64] <;> omega)) ?_)
          | (refine AWP.eq_agg e tab_ok rfl rfl rfl (.inl ⟨rfl, rfl⟩) ?_ 5 (by omega) rfl ?_ rfl rfl rfl rfl rfl rfl rfl ?_; (focus kernel_rfl); (focus kernel_rfl); refine AWP.runL e tab_ok L7 300 rfl (by first | trivial | (simp [in64] <;> omega)) ?_)
          | (refine AWP.eq_agg e tab_ok rfl rfl rfl (.inr ⟨rfl, rfl⟩) ?_ 5 (by omega) rfl ?_ rfl rfl rfl rfl rfl rfl rfl ?_; (focus kernel_rfl); (focus kernel_rfl); refine AWP.runL e tab_ok L7 300 rfl (by first | trivial | (simp [in64] <;> omega)) ?_)
        )
      refine AWP.less e ?_ ?_ ?_ ?_ ?_ (join () trivial) <;> (repeat' (first | exact True.intro | (refine And.intro ?_ ?_) | rfl | assumption))
    have e2 : locT T = { T with loc := true } := by simp [locT, a1]
    rcases cases_b T.bus with a2 | a2
    · have e1 : patT T = { T with bus := true } := by simp [patT, a1, a2]
      rw [e1, e2] at join ⊢
      repeat (
        first
          | (refine AWP.askT rfl ?_; (first | (refine Told.t rfl ?_) | (refine Told.f rfl ?_) | (refine Told.t ?_ ?_; (focus assumption)) | (refine Told.f ?_ ?_; (focus assumption)) | (refine Told.t ?_ ?_; (focus (first | (simp; omega) | (simp [*]; done)); done)) | (refine Told.f ?_ ?_; (focus (first | (simp; omega) | (simp [*]; done)); done))); refine AWP.runL e tab_ok L7 300 rfl (by first | trivial | (simp [in64] <;> omega)) ?_)
          | (refine AWP.eq_agg e tab_ok rfl rfl rfl (.inl ⟨rfl, rfl⟩) ?_ 5 (by omega) rfl ?_ rfl rfl rfl rfl rfl rfl rfl ?_; (focus kernel_rfl); (focus kernel_rfl); refine AWP.runL e tab_ok L7 300 rfl (by first | trivial | (simp [in64] <;> omega)) ?_)
          | (refine AWP.eq_agg e tab_ok rfl rfl rfl (.inr ⟨rfl, rfl⟩) ?_ 5 (by omega) rfl ?_ rfl rfl rfl rfl rfl rfl rfl ?_; (focus kernel_rfl); (focus kernel_rfl); refine AWP.runL e tab_ok L7 300 rfl (by first | trivial | (simp [in64] <;> omega)) ?_)
        )
      refine AWP.less e ?_ ?_ ?_ ?_ ?_ (join () trivial) <;> (repeat' (first | exact True.intro | (refine And.intro ?_ ?_) | rfl | assumption))
    · have e1 : patT T = { T with bus := !T.sel } := by simp [patT, a1, a2]
      rw [e1, e2] at join ⊢
      repeat (
        first
          | (refine AWP.askT rfl ?_; (first | (refine Told.t rfl ?_) | (refine Told.f rfl ?_) | (refine Told.t ?_ ?_; (focus assumption)) | (refine Told.f ?_ ?_; (focus assumption)) | (refine Told.t ?_ ?_; (focus (first | (simp; omega) | (simp [*]; done)); done)) | (refine Told.f ?_ ?_; (focus (first | (simp; omega) | (simp [*]; done)); done))); refine AWP.runL e tab_ok L7 300 rfl (by first | trivial | (simp [in64] <;> omega)) ?_)
          | (refine AWP.eq_agg e tab_ok rfl rfl rfl (.inl ⟨rfl, rfl⟩) ?_ 5 (by omega) rfl ?_ rfl rfl rfl rfl rfl rfl rfl ?_; (focus kernel_rfl); (focus kernel_rfl); refine AWP.runL e tab_ok L7 300 rfl (by first | trivial | (simp [in64] <;> omega)) ?_)
          | (refine AWP.eq_agg e tab_ok rfl rfl rfl (.inr ⟨rfl, rfl⟩) ?_ 5 (by omega) rfl ?_ rfl rfl rfl rfl rfl rfl rfl ?_; (focus kernel_rfl); (focus kernel_rfl); refine AWP.runL e tab_ok L7 300 rfl (by first | trivial | (simp [in64] <;> omega)) ?_)
        )
      refine AWP.less e ?_ ?_ ?_ ?_ ?_ (join () trivial) <;> (repeat' (first | exact True.intro | (refine And.intro ?_ ?_) | rfl | assumption))
  intro _ _
  have rw1 := rwoken_eff (sawT T (matchB T F) good)
  have rw2 := rwoken_eff (patT T)
  have rw3 := rwoken_eff (locT T)
  have g1 : ∀ u, woken T = true → (woke T u == false) = true := fun u h => by unfold woke; rw [h]; rfl
  have g2 : ∀ u, woken T = false → (woke T u == woken u) = true := fun u h => by unfold woke; rw [h]; simp
  rcases cases_b (woken T) with hk | hk <;> rw [hk] at hrw
  · have q1 := g1 (sawT T (matchB T F) good) hk
    have q2 := g1 (patT T) hk
    have q3 := g1 (locT T) hk
    clear g1 g2
    refine AWP.runL e tab_ok L7 300 rfl (by first | trivial | (simp [in64] <;> omega)) ?_
    repeat (
      first
        | (refine AWP.askT rfl ?_; (first | (refine Told.t rfl ?_) | (refine Told.f rfl ?_) | (refine Told.t ?_ ?_; (focus assumption)) | (refine Told.f ?_ ?_; (focus assumption)) | (refine Told.t ?_ ?_; (focus (first | (simp; omega) | (simp [*]; done)); done)) | (refine Told.f ?_ ?_; (focus (first | (simp; omega) | (simp [*]; done)); done))); refine AWP.runL e tab_ok L7 300 rfl (by first | trivial | (simp [in64] <;> omega)) ?_)
        | (refine AWP.callQ e rfl rfl ?_; (first | refine CallQ.mk (h7) rfl rfl ?_); refine AWP.runL e tab_ok L7 300 rfl (by first | trivial | (simp [in64] <;> omega)) ?_)
        | (refine AWP.eq_agg e tab_ok rfl rfl rfl (.inl ⟨rfl, rfl⟩) ?_ 5 (by omega) rfl ?_ rfl rfl rfl rfl rfl rfl rfl ?_; (focus kernel_rfl); (focus kernel_rfl); refine AWP.runL e tab_ok L7 300 rfl (by first | trivial | (simp [in64] <;> omega)) ?_)
        | (refine AWP.eq_agg e tab_ok rfl rfl rfl (.inr ⟨rfl, rfl⟩) ?_ 5 (by omega) rfl ?_ rfl rfl rfl rfl rfl rfl rfl ?_; (focus kernel_rfl); (focus kernel_rfl); refine AWP.runL e tab_ok L7 300 rfl (by first | trivial | (simp [in64] <;> omega)) ?_)
      )
    refine AWP.enter e rfl Try.func23 rfl rfl rfl rfl fun cx' e' hP' => ?_
    refine AWP.runL e' tab_ok L23 300 rfl (by first | trivial | (simp [in64] <;> omega)) ?_
    repeat (
      first
        | (refine AWP.askT rfl ?_; (first | (refine Told.t rfl ?_) | (refine Told.f rfl ?_) | (refine Told.t ?_ ?_; (focus assumption)) | (refine Told.f ?_ ?_; (focus assumption)) | (refine Told.t ?_ ?_; (focus (first | (simp; omega) | (simp [*]; done)); done)) | (refine Told.f ?_ ?_; (focus (first | (simp; omega) | (simp [*]; done)); done))); refine AWP.runL e' tab_ok L23 300 rfl (by first | trivial | (simp [in64] <;> omega)) ?_)
        | (refine AWP.callQ e' rfl rfl ?_; (first | refine CallQ.mk (hrw) rfl rfl ?_ | refine CallQ.mk (rw1) rfl rfl ?_ | refine CallQ.mk (rw2) rfl rfl ?_ | refine CallQ.mk (rw3) rfl rfl ?_); refine AWP.runL e' tab_ok L23 300 rfl (by first | trivial | (simp [in64] <;> omega)) ?_)
        | (refine AWP.eq_agg e' tab_ok rfl rfl rfl (.inl ⟨rfl, rfl⟩) ?_ 5 (by omega) rfl ?_ rfl rfl rfl rfl rfl rfl rfl ?_; (focus kernel_rfl); (focus kernel_rfl); refine AWP.runL e' tab_ok L23 300 rfl (by first | trivial | (simp [in64] <;> omega)) ?_)
        | (refine AWP.eq_agg e' tab_ok rfl rfl rfl (.inr ⟨rfl, rfl⟩) ?_ 5 (by omega) rfl ?_ rfl rfl rfl rfl rfl rfl rfl ?_; (focus kernel_rfl); (focus kernel_rfl); refine AWP.runL e' tab_ok L23 300 rfl (by first | trivial | (simp [in64] <;> omega)) ?_)
      )
    (first | (refine AWP.ret e' tab_ok rfl ?_) | (refine AWP.fin e' tab_ok rfl ?_)); rw [hP']; show AWP cx _ _
    refine AWP.runL e tab_ok L7 300 rfl (by first | trivial | (simp [in64] <;> omega)) ?_
    repeat (
      first
        | (refine AWP.askT rfl ?_; (first | (refine Told.t rfl ?_) | (refine Told.f rfl ?_) | (refine Told.t ?_ ?_; (focus assumption)) | (refine Told.f ?_ ?_; (focus assumption)) | (refine Told.t ?_ ?_; (focus (first | (simp; omega) | (simp [*]; done)); done)) | (refine Told.f ?_ ?_; (focus (first | (simp; omega) | (simp [*]; done)); done))); refine AWP.runL e tab_ok L7 300 rfl (by first | trivial | (simp [in64] <;> omega)) ?_)
        | (refine AWP.eq_agg e tab_ok rfl rfl rfl (.inl ⟨rfl, rfl⟩) ?_ 5 (by omega) rfl ?_ rfl rfl rfl rfl rfl rfl rfl ?_; (focus kernel_rfl); (focus kernel_rfl); refine AWP.runL e tab_ok L7 300 rfl (by first | trivial | (simp [in64] <;> omega)) ?_)
        | (refine AWP.eq_agg e tab_ok rfl rfl rfl (.inr ⟨rfl, rfl⟩) ?_ 5 (by omega) rfl ?_ rfl rfl rfl rfl rfl rfl rfl ?_; (focus kernel_rfl); (focus kernel_rfl); refine AWP.runL e tab_ok L7 300 rfl (by first | trivial | (simp [in64] <;> omega)) ?_)
      )
    refine AWP.enter e rfl Try.func23 rfl rfl rfl rfl fun cx' e' hP' => ?_
    refine AWP.runL e' tab_ok L23 300 rfl (by first | trivial | (simp [in64] <;> omega)) ?_
    repeat (
      first
        | (refine AWP.askT rfl ?_; (first | (refine Told.t rfl ?_) | (refine Told.f rfl ?_) | (refine Told.t ?_ ?_; (focus assumption)) | (refine Told.f ?_ ?_; (focus assumption)) | (refine Told.t ?_ ?_; (focus (first | (simp; omega) | (simp [*]; done)); done)) | (refine Told.f ?_ ?_; (focus (first | (simp; omega) | (simp [*]; done)); done))); refine AWP.runL e' tab_ok L23 300 rfl (by first | trivial | (simp [in64] <;> omega)) ?_)
        | (refine AWP.callQ e' rfl rfl ?_; (first | refine CallQ.mk (hrw) rfl rfl ?_ | refine CallQ.mk (rw1) rfl rfl ?_ | refine CallQ.mk (rw2) rfl rfl ?_ | refine CallQ.mk (rw3) rfl rfl ?_); refine AWP.runL e' tab_ok L23 300 rfl (by first | trivial | (simp [in64] <;> omega)) ?_)
        | (refine AWP.eq_agg e' tab_ok rfl rfl rfl (.inl ⟨rfl, rfl⟩) ?_ 5 (by omega) rfl ?_ rfl rfl rfl rfl rfl rfl rfl ?_; (focus kernel_rfl); (focus kernel_rfl); refine AWP.runL e' tab_ok L23 300 rfl (by first | trivial | (simp [in64] <;> omega)) ?_)
        | (refine AWP.eq_agg e' tab_ok rfl rfl rfl (.inr ⟨rfl, rfl⟩) ?_ 5 (by omega) rfl ?_ rfl rfl rfl rfl rfl rfl rfl ?_; (focus kernel_rfl); (focus kernel_rfl); refine AWP.runL e' tab_ok L23 300 rfl (by first | trivial | (simp [in64] <;> omega)) ?_)
      )
    (first | (refine AWP.ret e' tab_ok rfl ?_) | (refine AWP.fin e' tab_ok rfl ?_)); rw [hP']; show AWP cx _ _
    refine AWP.runL e tab_ok L7 300 rfl (by first | trivial | (simp [in64] <;> omega)) ?_
    repeat (
      first
        | (refine AWP.askT rfl ?_; (first | (refine Told.t rfl ?_) | (refine Told.f rfl ?_) | (refine Told.t ?_ ?_; (focus assumption)) | (refine Told.f ?_ ?_; (focus assumption)) | (refine Told.t ?_ ?_; (focus (first | (simp; omega) | (simp [*]; done)); done)) | (refine Told.f ?_ ?_; (focus (first | (simp; omega) | (simp [*]; done)); done))); refine AWP.runL e tab_ok L7 300 rfl (by first | trivial | (simp [in64] <;> omega)) ?_)
        | (refine AWP.eq_agg e tab_ok rfl rfl rfl (.inl ⟨rfl, rfl⟩) ?_ 5 (by omega) rfl ?_ rfl rfl rfl rfl rfl rfl rfl ?_; (focus kernel_rfl); (focus kernel_rfl); refine AWP.runL e tab_ok L7 300 rfl (by first | trivial | (simp [in64] <;> omega)) ?_)
        | (refine AWP.eq_agg e tab_ok rfl rfl rfl (.inr ⟨rfl, rfl⟩) ?_ 5 (by omega) rfl ?_ rfl rfl rfl rfl rfl rfl rfl ?_; (focus kernel_rfl); (focus kernel_rfl); refine AWP.runL e tab_ok L7 300 rfl (by first | trivial | (simp [in64] <;> omega)) ?_)
      )
    refine AWP.enter e rfl Try.func23 rfl rfl rfl rfl fun cx' e' hP' => ?_
    refine AWP.runL e' tab_ok L23 300 rfl (by first | trivial | (simp [in64] <;> omega)) ?_
    repeat (
      first
        | (refine AWP.askT rfl ?_; (first | (refine Told.t rfl ?_) | (refine Told.f rfl ?_) | (refine Told.t ?_ ?_; (focus assumption)) | (refine Told.f ?_ ?_; (focus assumption)) | (refine Told.t ?_ ?_; (focus (first | (simp; omega) | (simp [*]; done)); done)) | (refine Told.f ?_ ?_; (focus (first | (simp; omega) | (simp [*]; done)); done))); refine AWP.runL e' tab_ok L23 300 rfl (by first | trivial | (simp [in64] <;> omega)) ?_)
        | (refine AWP.callQ e' rfl rfl ?_; (first | refine CallQ.mk (hrw) rfl rfl ?_ | refine CallQ.mk (rw1) rfl rfl ?_ | refine CallQ.mk (rw2) rfl rfl ?_ | refine CallQ.mk (rw3) rfl rfl ?_); refine AWP.runL e' tab_ok L23 300 rfl (by first | trivial | (simp [in64] <;> omega)) ?_)
        | (refine AWP.eq_agg e' tab_ok rfl rfl rfl (.inl ⟨rfl, rfl⟩) ?_ 5 (by omega) rfl ?_ rfl rfl rfl rfl rfl rfl rfl ?_; (focus kernel_rfl); (focus kernel_rfl); refine AWP.runL e' tab_ok L23 300 rfl (by first | trivial | (simp [in64] <;> omega)) ?_)
        | (refine AWP.eq_agg e' tab_ok rfl rfl rfl (.inr ⟨rfl, rfl⟩) ?_ 5 (by omega) rfl ?_ rfl rfl rfl rfl rfl rfl rfl ?_; (focus kernel_rfl); (focus kernel_rfl); refine AWP.runL e' tab_ok L23 300 rfl (by first | trivial | (simp [in64] <;> omega)) ?_)
      )
    (first | (refine AWP.ret e' tab_ok rfl ?_) | (refine AWP.fin e' tab_ok rfl ?_)); rw [hP']; show AWP cx _ _
    refine AWP.runL e tab_ok L7 300 rfl (by first | trivial | (simp [in64] <;> omega)) ?_
    refine AWP.ret e tab_ok rfl ?_
    rw [hP]
    exact congrArg SV.b q3
  · have q1 := g2 (sawT T (matchB T F) good) hk
    have q2 := g2 (patT T) hk
    have q3 := g2 (locT T) hk
    clear g1 g2
    refine AWP.runL e tab_ok L7 300 rfl (by first | trivial | (simp [in64] <;> omega)) ?_
    repeat (
      first
        | (refine AWP.askT rfl ?_; (first | (refine Told.t rfl ?_) | (refine Told.f rfl ?_) | (refine Told.t ?_ ?_; (focus assumption)) | (refine Told.f ?_ ?_; (focus assumption)) | (refine Told.t ?_ ?_; (focus (first | (simp; omega) | (simp [*]; done)); done)) | (refine Told.f ?_ ?_; (focus (first | (simp; omega) | (simp [*]; done)); done))); refine AWP.runL e tab_ok L7 300 rfl (by first | trivial | (simp [in64] <;> omega)) ?_)
        | (refine AWP.callQ e rfl rfl ?_; (first | refine CallQ.mk (h7) rfl rfl ?_); refine AWP.runL e tab_ok L7 300 rfl (by first | trivial | (simp [in64] <;> omega)) ?_)
        | (refine AWP.eq_agg e tab_ok rfl rfl rfl (.inl ⟨rfl, rfl⟩) ?_ 5 (by omega) rfl ?_ rfl rfl rfl rfl rfl rfl rfl ?_; (focus kernel_rfl); (focus kernel_rfl); refine AWP.runL e tab_ok L7 300 rfl (by first | trivial | (simp [in64] <;> omega)) ?_)
        | (refine AWP.eq_agg e tab_ok rfl rfl rfl (.inr ⟨rfl, rfl⟩) ?_ 5 (by omega) rfl ?_ rfl rfl rfl rfl rfl rfl rfl ?_; (focus kernel_rfl); (focus kernel_rfl); refine AWP.runL e tab_ok L7 300 rfl (by first | trivial | (simp [in64] <;> omega)) ?_)
      )
    refine AWP.enter e rfl Try.func23 rfl rfl rfl rfl fun cx' e' hP' => ?_
    refine AWP.runL e' tab_ok L23 300 rfl (by first | trivial | (simp [in64] <;> omega)) ?_
    repeat (
      first
        | (refine AWP.askT rfl ?_; (first | (refine Told.t rfl ?_) | (refine Told.f rfl ?_) | (refine Told.t ?_ ?_; (focus assumption)) | (refine Told.f ?_ ?_; (focus assumption)) | (refine Told.t ?_ ?_; (focus (first | (simp; omega) | (simp [*]; done)); done)) | (refine Told.f ?_ ?_; (focus (first | (simp; omega) | (simp [*]; done)); done))); refine AWP.runL e' tab_ok L23 300 rfl (by first | trivial | (simp [in64] <;> omega)) ?_)
        | (refine AWP.callQ e' rfl rfl ?_; (first | refine CallQ.mk (hrw) rfl rfl ?_ | refine CallQ.mk (rw1) rfl rfl ?_ | refine CallQ.mk (rw2) rfl rfl ?_ | refine CallQ.mk (rw3) rfl rfl ?_); refine AWP.runL e' tab_ok L23 300 rfl (by first | trivial | (simp [in64] <;> omega)) ?_)
        | (refine AWP.eq_agg e' tab_ok rfl rfl rfl (.inl ⟨rfl, rfl⟩) ?_ 5 (by omega) rfl ?_ rfl rfl rfl rfl rfl rfl rfl ?_; (focus kernel_rfl); (focus kernel_rfl); refine AWP.runL e' tab_ok L23 300 rfl (by first | trivial | (simp [in64] <;> omega)) ?_)
        | (refine AWP.eq_agg e' tab_ok rfl rfl rfl (.inr ⟨rfl, rfl⟩) ?_ 5 (by omega) rfl ?_ rfl rfl rfl rfl rfl rfl rfl ?_; (focus kernel_rfl); (focus kernel_rfl); refine AWP.runL e' tab_ok L23 300 rfl (by first | trivial | (simp [in64] <;> omega)) ?_)
      )
    (first | (refine AWP.ret e' tab_ok rfl ?_) | (refine AWP.fin e' tab_ok rfl ?_)); rw [hP']; show AWP cx _ _
    refine AWP.runL e tab_ok L7 300 rfl (by first | trivial | (simp [in64] <;> omega)) ?_
    repeat (
      first
        | (refine AWP.askT rfl ?_; (first | (refine Told.t rfl ?_) | (refine Told.f rfl ?_) | (refine Told.t ?_ ?_; (focus assumption)) | (refine Told.f ?_ ?_; (focus assumption)) | (refine Told.t ?_ ?_; (focus (first | (simp; omega) | (simp [*]; done)); done)) | (refine Told.f ?_ ?_; (focus (first | (simp; omega) | (simp [*]; done)); done))); refine AWP.runL e tab_ok L7 300 rfl (by first | trivial | (simp [in64] <;> omega)) ?_)
        | (refine AWP.eq_agg e tab_ok rfl rfl rfl (.inl ⟨rfl, rfl⟩) ?_ 5 (by omega) rfl ?_ rfl rfl rfl rfl rfl rfl rfl ?_; (focus kernel_rfl); (focus kernel_rfl); refine AWP.runL e tab_ok L7 300 rfl (by first | trivial | (simp [in64] <;> omega)) ?_)
        | (refine AWP.eq_agg e tab_ok rfl rfl rfl (.inr ⟨rfl, rfl⟩) ?_ 5 (by omega) rfl ?_ rfl rfl rfl rfl rfl rfl rfl ?_; (focus kernel_rfl); (focus kernel_rfl); refine AWP.runL e tab_ok L7 300 rfl (by first | trivial | (simp [in64] <;> omega)) ?_)
      )
    refine AWP.enter e rfl Try.func23 rfl rfl rfl rfl fun cx' e' hP' => ?_
    refine AWP.runL e' tab_ok L23 300 rfl (by first | trivial | (simp [in64] <;> omega)) ?_
    repeat (
      first
        | (refine AWP.askT rfl ?_; (first | (refine Told.t rfl ?_) | (refine Told.f rfl ?_) | (refine Told.t ?_ ?_; (focus assumption)) | (refine Told.f ?_ ?_; (focus assumption)) | (refine Told.t ?_ ?_; (focus (first | (simp; omega) | (simp [*]; done)); done)) | (refine Told.f ?_ ?_; (focus (first | (simp; omega) | (simp [*]; done)); done))); refine AWP.runL e' tab_ok L23 300 rfl (by first | trivial | (simp [in64] <;> omega)) ?_)
        | (refine AWP.callQ e' rfl rfl ?_; (first | refine CallQ.mk (hrw) rfl rfl ?_ | refine CallQ.mk (rw1) rfl rfl ?_ | refine CallQ.mk (rw2) rfl rfl ?_ | refine CallQ.mk (rw3) rfl rfl ?_); refine AWP.runL e' tab_ok L23 300 rfl (by first | trivial | (simp [in64] <;> omega)) ?_)
        | (refine AWP.eq_agg e' tab_ok rfl rfl rfl (.inl ⟨rfl, rfl⟩) ?_ 5 (by omega) rfl ?_ rfl rfl rfl rfl rfl rfl rfl ?_; (focus kernel_rfl); (focus kernel_rfl); refine AWP.runL e' tab_ok L23 300 rfl (by first | trivial | (simp [in64] <;> omega)) ?_)
        | (refine AWP.eq_agg e' tab_ok rfl rfl rfl (.inr ⟨rfl, rfl⟩) ?_ 5 (by omega) rfl ?_ rfl rfl rfl rfl rfl rfl rfl ?_; (focus kernel_rfl); (focus kernel_rfl); refine AWP.runL e' tab_ok L23 300 rfl (by first | trivial | (simp [in64] <;> omega)) ?_)
      )
    (first | (refine AWP.ret e' tab_ok rfl ?_) | (refine AWP.fin e' tab_ok rfl ?_)); rw [hP']; show AWP cx _ _
    refine AWP.runL e tab_ok L7 300 rfl (by first | trivial | (simp [in64] <;> omega)) ?_
    repeat (
      first
        | (refine AWP.askT rfl ?_; (first | (refine Told.t rfl ?_) | (refine Told.f rfl ?_) | (refine Told.t ?_ ?_; (focus assumption)) | (refine Told.f ?_ ?_; (focus assumption)) | (refine Told.t ?_ ?_; (focus (first | (simp; omega) | (simp [*]; done)); done)) | (refine Told.f ?_ ?_; (focus (first | (simp; omega) | (simp [*]; done)); done))); refine AWP.runL e tab_ok L7 300 rfl (by first | trivial | (simp [in64] <;> omega)) ?_)
        | (refine AWP.eq_agg e tab_ok rfl rfl rfl (.inl ⟨rfl, rfl⟩) ?_ 5 (by omega) rfl ?_ rfl rfl rfl rfl rfl rfl rfl ?_; (focus kernel_rfl); (focus kernel_rfl); refine AWP.runL e tab_ok L7 300 rfl (by first | trivial | (simp [in64] <;> omega)) ?_)
        | (refine AWP.eq_agg e tab_ok rfl rfl rfl (.inr ⟨rfl, rfl⟩) ?_ 5 (by omega) rfl ?_ rfl rfl rfl rfl rfl rfl rfl ?_; (focus kernel_rfl); (focus kernel_rfl); refine AWP.runL e tab_ok L7 300 rfl (by first | trivial | (simp [in64] <;> omega)) ?_)
      )
    refine AWP.enter e rfl Try.func23 rfl rfl rfl rfl fun cx' e' hP' => ?_
    refine AWP.runL e' tab_ok L23 300 rfl (by first | trivial | (simp [in64] <;> omega)) ?_
    repeat (
      first
        | (refine AWP.askT rfl ?_; (first | (refine Told.t rfl ?_) | (refine Told.f rfl ?_) | (refine Told.t ?_ ?_; (focus assumption)) | (refine Told.f ?_ ?_; (focus assumption)) | (refine Told.t ?_ ?_; (focus (first | (simp; omega) | (simp [*]; done)); done)) | (refine Told.f ?_ ?_; (focus (first | (simp; omega) | (simp [*]; done)); done))); refine AWP.runL e' tab_ok L23 300 rfl (by first | trivial | (simp [in64] <;> omega)) ?_)
        | (refine AWP.callQ e' rfl rfl ?_; (first | refine CallQ.mk (hrw) rfl rfl ?_ | refine CallQ.mk (rw1) rfl rfl ?_ | refine CallQ.mk (rw2) rfl rfl ?_ | refine CallQ.mk (rw3) rfl rfl ?_); refine AWP.runL e' tab_ok L23 300 rfl (by first | trivial | (simp [in64] <;> omega)) ?_)
        | (refine AWP.eq_agg e' tab_ok rfl rfl rfl (.inl ⟨rfl, rfl⟩) ?_ 5 (by omega) rfl ?_ rfl rfl rfl rfl rfl rfl rfl ?_; (focus kernel_rfl); (focus kernel_rfl); refine AWP.runL e' tab_ok L23 300 rfl (by first | trivial | (simp [in64] <;> omega)) ?_)
        | (refine AWP.eq_agg e' tab_ok rfl rfl rfl (.inr ⟨rfl, rfl⟩) ?_ 5 (by omega) rfl ?_ rfl rfl rfl rfl rfl rfl rfl ?_; (focus kernel_rfl); (focus kernel_rfl); refine AWP.runL e' tab_ok L23 300 rfl (by first | trivial | (simp [in64] <;> omega)) ?_)
      )
    (first | (refine AWP.ret e' tab_ok rfl ?_) | (refine AWP.fin e' tab_ok rfl ?_)); rw [hP']; show AWP cx _ _
    refine AWP.runL e tab_ok L7 300 rfl (by first | trivial | (simp [in64] <;> omega)) ?_
    refine AWP.ret e tab_ok rfl ?_
    rw [hP]
    exact congrArg SV.b q3

theorem calls_args (l : List SV) (h : Args tab 9 [24, 26, 3, 4] l) : Eff Try.prog 7 l [] 0 (fun r _ _ => r = .b true) := by
  obtain ⟨xs, _, rfl, hp, ys, _, rfl, hq, _, _, rfl, ⟨m, rfl, _, _⟩, _, _, rfl, ⟨good, rfl⟩, rfl⟩ := h
  obtain ⟨t, ht⟩ := tv_of hp
  obtain ⟨f, hf⟩ := fv_of (n := 7) hq
  show Eff Try.prog 7 [.agg (xs.map SV.d), .agg (ys.map SV.d), _, _] [] 0 _
  rw [ht, hf]
  obtain ⟨T, hfew⟩ := few_some t
  rcases cases_b (rightB T) with h | h
  · exact calls_good t T f m good h hfew
  · exact calls_bad t T f m good h hfew
end Go.Proofs.Ytjhfeeacdickbaa
