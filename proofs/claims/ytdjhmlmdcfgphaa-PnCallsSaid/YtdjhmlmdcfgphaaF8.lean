import Derived.Test.YtdjhmlmdcfgphaaF7
open Go Go.Proofs Go.Sy
namespace Go.Proofs.Ytdjhmlmdcfgphaa

set_option maxHeartbeats 1000000 in
set_option maxRecDepth 100000 in
theorem rright_eff (m o : BitVec 16) (s : Nat → Int) (l : Int) : Eff Try.prog 18 [pn m o s l] [] 0 (fun r _ _ => r = .b (rightB m o s l)) := by
  refine eff_of Try.func18 rfl rfl rfl fun cx e hP => ?_
  refine AWP.runL e tab_ok L18 300 rfl (by first | trivial | (simp [in64] <;> omega)) ?_
  refine AWP.loop (ι := Nat) (fun i => ⟨[(3, .i i), (1, .ptr 0 0)], [(0, .box (pnC m o s l))], 1⟩) (fun i => i ≤ 16 ∧ ∀ k, k < i → (0 ≤ s k ∧ s k ≤ l) ∧ (o.getLsbD k = true → m.getLsbD k = true)) (fun i => 16 - i) 0 ⟨Nat.zero_le _, fun k hk => by omega⟩ ?_ ?_
  · intro g
    refine AWP.less e ?_ ?_ ?_ ?_ ?_ (g) <;> (repeat' (first | exact True.intro | (refine And.intro ?_ ?_) | rfl | assumption))
  rintro i Φ ⟨hI, hs⟩ next
  refine AWP.runL e tab_ok L18 300 rfl (by first | trivial | (simp [in64] <;> omega)) ?_
  refine AWP.cond2 rfl (fun hlt => ?_) (fun hlt => ?_)
  rotate_left
  · obtain rfl : i = 16 := by simp at hlt; omega
    have h3 : o &&& ~~~m = 0#16 := andNot_iff.2 fun k hk => (hs k hk).2
    by_cases h1 : l > 0
    · by_cases h2 : l ≤ 1000000
      · refine AWP.runL e tab_ok L18 300 rfl (by first | trivial | (simp [in64] <;> omega)) ?_
        repeat (
          first
            | (refine AWP.askT rfl ?_; (first | (refine Told.t rfl ?_) | (refine Told.f rfl ?_) | (refine Told.t ?_ ?_; (focus (first | assumption | (simp; omega) | (simp [*]; done)); done)) | (refine Told.f ?_ ?_; (focus (first | assumption | (simp; omega) | (simp [*]; done)); done))); refine AWP.runL e tab_ok L18 300 rfl (by first | trivial | (simp [in64] <;> omega)) ?_)
            | (refine AWP.eq_agg e tab_ok rfl rfl rfl (.inl ⟨rfl, rfl⟩) ?_ 5 (by omega) rfl ?_ rfl rfl rfl rfl rfl rfl rfl ?_; (focus kernel_rfl); (focus kernel_rfl); refine AWP.runL e tab_ok L18 300 rfl (by first | trivial | (simp [in64] <;> omega)) ?_)
            | (refine AWP.eq_agg e tab_ok rfl rfl rfl (.inr ⟨rfl, rfl⟩) ?_ 5 (by omega) rfl ?_ rfl rfl rfl rfl rfl rfl rfl ?_; (focus kernel_rfl); (focus kernel_rfl); refine AWP.runL e tab_ok L18 300 rfl (by first | trivial | (simp [in64] <;> omega)) ?_)
          )
        refine AWP.ret e tab_ok rfl ?_
        rw [hP]
        refine congrArg SV.b ?_
        rw [rightB_iff.2 ⟨⟨by omega, h2⟩, h3, fun k hk => (hs k hk).1⟩]
        simpa using h2
      · refine AWP.runL e tab_ok L18 300 rfl (by first | trivial | (simp [in64] <;> omega)) ?_
        repeat (
          first
            | (refine AWP.askT rfl ?_; (first | (refine Told.t rfl ?_) | (refine Told.f rfl ?_) | (refine Told.t ?_ ?_; (focus (first | assumption | (simp; omega) | (simp [*]; done)); done)) | (refine Told.f ?_ ?_; (focus (first | assumption | (simp; omega) | (simp [*]; done)); done))); refine AWP.runL e tab_ok L18 300 rfl (by first | trivial | (simp [in64] <;> omega)) ?_)
            | (refine AWP.eq_agg e tab_ok rfl rfl rfl (.inl ⟨rfl, rfl⟩) ?_ 5 (by omega) rfl ?_ rfl rfl rfl rfl rfl rfl rfl ?_; (focus kernel_rfl); (focus kernel_rfl); refine AWP.runL e tab_ok L18 300 rfl (by first | trivial | (simp [in64] <;> omega)) ?_)
            | (refine AWP.eq_agg e tab_ok rfl rfl rfl (.inr ⟨rfl, rfl⟩) ?_ 5 (by omega) rfl ?_ rfl rfl rfl rfl rfl rfl rfl ?_; (focus kernel_rfl); (focus kernel_rfl); refine AWP.runL e tab_ok L18 300 rfl (by first | trivial | (simp [in64] <;> omega)) ?_)
          )
        refine AWP.ret e tab_ok rfl ?_
        rw [hP]
        refine (congrArg SV.b ?_).trans (rightB_not fun h => h2 h.1.2)
        simpa using by omega
    · refine AWP.runL e tab_ok L18 300 rfl (by first | trivial | (simp [in64] <;> omega)) ?_
      repeat (
        first
          | (refine AWP.askT rfl ?_; (first | (refine Told.t rfl ?_) | (refine Told.f rfl ?_) | (refine Told.t ?_ ?_; (focus (first | assumption | (simp; omega) | (simp [*]; done)); done)) | (refine Told.f ?_ ?_; (focus (first | assumption | (simp; omega) | (simp [*]; done)); done))); refine AWP.runL e tab_ok L18 300 rfl (by first | trivial | (simp [in64] <;> omega)) ?_)
          | (refine AWP.eq_agg e tab_ok rfl rfl rfl (.inl ⟨rfl, rfl⟩) ?_ 5 (by omega) rfl ?_ rfl rfl rfl rfl rfl rfl rfl ?_; (focus kernel_rfl); (focus kernel_rfl); refine AWP.runL e tab_ok L18 300 rfl (by first | trivial | (simp [in64] <;> omega)) ?_)
          | (refine AWP.eq_agg e tab_ok rfl rfl rfl (.inr ⟨rfl, rfl⟩) ?_ 5 (by omega) rfl ?_ rfl rfl rfl rfl rfl rfl rfl ?_; (focus kernel_rfl); (focus kernel_rfl); refine AWP.runL e tab_ok L18 300 rfl (by first | trivial | (simp [in64] <;> omega)) ?_)
        )
      refine AWP.ret e tab_ok rfl ?_
      rw [hP]
      exact rightB_not fun h => by omega
  have hlt : i < 16 := by simp at hlt; omega
  have hb1 := rbit_eff o i hlt
  have hb2 := rbit_eff m i hlt
  have nx := fun h => next (i + 1) ⟨by omega, fun k hk => below_succ hs h k hk⟩ (by omega)
  by_cases g1 : 0 ≤ s i
  rotate_left
  · refine AWP.runL e tab_ok L18 300 rfl (by first | trivial | (simp [in64] <;> omega)) ?_
    repeat (
      first
        | (refine AWP.askT rfl ?_; (first | (refine Told.t rfl ?_) | (refine Told.f rfl ?_) | (refine Told.t ?_ ?_; (focus (first | assumption | (simp; omega) | (simp [*]; done)); done)) | (refine Told.f ?_ ?_; (focus (first | assumption | (simp; omega) | (simp [*]; done)); done))); refine AWP.runL e tab_ok L18 300 rfl (by first | trivial | (simp [in64] <;> omega)) ?_)
        | (refine AWP.callQ e rfl rfl ?_; (first | refine CallQ.mk (hb1) rfl rfl ?_ | refine CallQ.mk (hb2) rfl rfl ?_); refine AWP.runL e tab_ok L18 300 rfl (by first | trivial | (simp [in64] <;> omega)) ?_)
        | (refine AWP.idx_pel e tab_ok rfl rfl rfl rfl rfl _ rfl ?_ ?_; (focus (first | assumption | omega | decide)); refine AWP.runL e tab_ok L18 300 rfl (by first | trivial | (simp [in64] <;> omega)) ?_)
        | (refine AWP.load_pel e tab_ok _ rfl rfl rfl rfl rfl (pn_at (by simp) hlt) ?_; refine AWP.runL e tab_ok L18 300 rfl (by first | trivial | (simp [in64] <;> omega)) ?_)
        | (refine AWP.eq_agg e tab_ok rfl rfl rfl (.inl ⟨rfl, rfl⟩) ?_ 5 (by omega) rfl ?_ rfl rfl rfl rfl rfl rfl rfl ?_; (focus kernel_rfl); (focus kernel_rfl); refine AWP.runL e tab_ok L18 300 rfl (by first | trivial | (simp [in64] <;> omega)) ?_)
        | (refine AWP.eq_agg e tab_ok rfl rfl rfl (.inr ⟨rfl, rfl⟩) ?_ 5 (by omega) rfl ?_ rfl rfl rfl rfl rfl rfl rfl ?_; (focus kernel_rfl); (focus kernel_rfl); refine AWP.runL e tab_ok L18 300 rfl (by first | trivial | (simp [in64] <;> omega)) ?_)
        | (refine AWP.keep L18 rfl ?_; refine AWP.drg 100 ?_; (refine DrG.runS e tab_ok 200 rfl (by first | trivial | (simp [in64] <;> omega)) ?_); (repeat (first | (refine DrG.askT rfl ?_; (first | (refine Told.t rfl ?_) | (refine Told.f rfl ?_) | (refine Told.t ?_ ?_; (focus (first | assumption | (simp; omega) | (simp [*]; done)); done)) | (refine Told.f ?_ ?_; (focus (first | assumption | (simp; omega) | (simp [*]; done)); done))); (refine DrG.runS e tab_ok 200 rfl (by first | trivial | (simp [in64] <;> omega)) ?_)) | (refine DrG.idx_pel e tab_ok rfl rfl rfl rfl rfl _ rfl ?_ rfl ?_; (focus (first | assumption | omega | decide)); (refine DrG.runS e tab_ok 200 rfl (by first | trivial | (simp [in64] <;> omega)) ?_)) | (refine DrG.idx_pelGo e tab_ok rfl rfl rfl rfl rfl rfl _ rfl ?_ rfl ?_; (focus (first | assumption | omega | decide)); (refine DrG.runS e tab_ok 200 rfl (by first | trivial | (simp [in64] <;> omega)) ?_)) | (refine DrG.load_pel e tab_ok _ rfl rfl rfl rfl rfl (pn_at (by simp) hlt) rfl ?_; (refine DrG.runS e tab_ok 200 rfl (by first | trivial | (simp [in64] <;> omega)) ?_)) | (refine DrG.load_pelGo e tab_ok _ rfl rfl rfl rfl rfl rfl (pn_at (by simp) hlt) rfl ?_; (refine DrG.runS e tab_ok 200 rfl (by first | trivial | (simp [in64] <;> omega)) ?_)) | (refine DrG.callQ e rfl rfl ?_; (first | refine CallVQ.mk (hb1) rfl rfl ?_ | refine CallVQ.mk (hb2) rfl rfl ?_); (refine DrG.runS e tab_ok 200 rfl (by first | trivial | (simp [in64] <;> omega)) ?_)) | (refine DrG.callGo e rfl rfl rfl ?_; (first | refine CallVQ.mk (hb1) rfl rfl ?_ | refine CallVQ.mk (hb2) rfl rfl ?_); (refine DrG.runS e tab_ok 200 rfl (by first | trivial | (simp [in64] <;> omega)) ?_)) | (refine DrG.eq_agg e tab_ok rfl rfl rfl (.inl ⟨rfl, rfl⟩) ?_ 5 (by omega) rfl ?_ rfl rfl rfl rfl rfl rfl rfl ?_; (focus kernel_rfl); (focus kernel_rfl); (refine DrG.runS e tab_ok 200 rfl (by first | trivial | (simp [in64] <;> omega)) ?_)) | (refine DrG.eq_aggGo e tab_ok rfl rfl rfl rfl (.inl ⟨rfl, rfl⟩) ?_ 5 (by omega) rfl ?_ rfl rfl rfl rfl rfl rfl rfl ?_; (focus kernel_rfl); (focus kernel_rfl); (refine DrG.runS e tab_ok 200 rfl (by first | trivial | (simp [in64] <;> omega)) ?_)) | (refine DrG.eq_agg e tab_ok rfl rfl rfl (.inr ⟨rfl, rfl⟩) ?_ 5 (by omega) rfl ?_ rfl rfl rfl rfl rfl rfl rfl ?_; (focus kernel_rfl); (focus kernel_rfl); (refine DrG.runS e tab_ok 200 rfl (by first | trivial | (simp [in64] <;> omega)) ?_)) | (refine DrG.eq_aggGo e tab_ok rfl rfl rfl rfl (.inr ⟨rfl, rfl⟩) ?_ 5 (by omega) rfl ?_ rfl rfl rfl rfl rfl rfl rfl ?_; (focus kernel_rfl); (focus kernel_rfl); (refine DrG.runS e tab_ok 200 rfl (by first | trivial | (simp [in64] <;> omega)) ?_)))); refine DrG.finK e rfl ?_ rfl rfl rfl ?_ ?_; (focus kernel_rfl); (focus (repeat' (first | exact True.intro | (refine And.intro ?_ ?_) | rfl | assumption | exact okRow _))); dsimp only [tmS, hpS, tput, effH]; refine AWP.runL e tab_ok L18 300 rfl (by first | trivial | (simp [in64] <;> omega)) ?_)
      )
    refine AWP.ret e tab_ok rfl ?_
    rw [hP]
    exact rightB_not fun h => g1 (h.2.2 i hlt).1
  by_cases g2 : s i ≤ l
  rotate_left
  · refine AWP.runL e tab_ok L18 300 rfl (by first | trivial | (simp [in64] <;> omega)) ?_
    repeat (
      first
        | (refine AWP.askT rfl ?_; (first | (refine Told.t rfl ?_) | (refine Told.f rfl ?_) | (refine Told.t ?_ ?_; (focus (first | assumption | (simp; omega) | (simp [*]; done)); done)) | (refine Told.f ?_ ?_; (focus (first | assumption | (simp; omega) | (simp [*]; done)); done))); refine AWP.runL e tab_ok L18 300 rfl (by first | trivial | (simp [in64] <;> omega)) ?_)
        | (refine AWP.callQ e rfl rfl ?_; (first | refine CallQ.mk (hb1) rfl rfl ?_ | refine CallQ.mk (hb2) rfl rfl ?_); refine AWP.runL e tab_ok L18 300 rfl (by first | trivial | (simp [in64] <;> omega)) ?_)
        | (refine AWP.idx_pel e tab_ok rfl rfl rfl rfl rfl _ rfl ?_ ?_; (focus (first | assumption | omega | decide)); refine AWP.runL e tab_ok L18 300 rfl (by first | trivial | (simp [in64] <;> omega)) ?_)
        | (refine AWP.load_pel e tab_ok _ rfl rfl rfl rfl rfl (pn_at (by simp) hlt) ?_; refine AWP.runL e tab_ok L18 300 rfl (by first | trivial | (simp [in64] <;> omega)) ?_)
        | (refine AWP.eq_agg e tab_ok rfl rfl rfl (.inl ⟨rfl, rfl⟩) ?_ 5 (by omega) rfl ?_ rfl rfl rfl rfl rfl rfl rfl ?_; (focus kernel_rfl); (focus kernel_rfl); refine AWP.runL e tab_ok L18 300 rfl (by first | trivial | (simp [in64] <;> omega)) ?_)
        | (refine AWP.eq_agg e tab_ok rfl rfl rfl (.inr ⟨rfl, rfl⟩) ?_ 5 (by omega) rfl ?_ rfl rfl rfl rfl rfl rfl rfl ?_; (focus kernel_rfl); (focus kernel_rfl); refine AWP.runL e tab_ok L18 300 rfl (by first | trivial | (simp [in64] <;> omega)) ?_)
        | (refine AWP.keep L18 rfl ?_; refine AWP.drg 100 ?_; (refine DrG.runS e tab_ok 200 rfl (by first | trivial | (simp [in64] <;> omega)) ?_); (repeat (first | (refine DrG.askT rfl ?_; (first | (refine Told.t rfl ?_) | (refine Told.f rfl ?_) | (refine Told.t ?_ ?_; (focus (first | assumption | (simp; omega) | (simp [*]; done)); done)) | (refine Told.f ?_ ?_; (focus (first | assumption | (simp; omega) | (simp [*]; done)); done))); (refine DrG.runS e tab_ok 200 rfl (by first | trivial | (simp [in64] <;> omega)) ?_)) | (refine DrG.idx_pel e tab_ok rfl rfl rfl rfl rfl _ rfl ?_ rfl ?_; (focus (first | assumption | omega | decide)); (refine DrG.runS e tab_ok 200 rfl (by first | trivial | (simp [in64] <;> omega)) ?_)) | (refine DrG.idx_pelGo e tab_ok rfl rfl rfl rfl rfl rfl _ rfl ?_ rfl ?_; (focus (first | assumption | omega | decide)); (refine DrG.runS e tab_ok 200 rfl (by first | trivial | (simp [in64] <;> omega)) ?_)) | (refine DrG.load_pel e tab_ok _ rfl rfl rfl rfl rfl (pn_at (by simp) hlt) rfl ?_; (refine DrG.runS e tab_ok 200 rfl (by first | trivial | (simp [in64] <;> omega)) ?_)) | (refine DrG.load_pelGo e tab_ok _ rfl rfl rfl rfl rfl rfl (pn_at (by simp) hlt) rfl ?_; (refine DrG.runS e tab_ok 200 rfl (by first | trivial | (simp [in64] <;> omega)) ?_)) | (refine DrG.callQ e rfl rfl ?_; (first | refine CallVQ.mk (hb1) rfl rfl ?_ | refine CallVQ.mk (hb2) rfl rfl ?_); (refine DrG.runS e tab_ok 200 rfl (by first | trivial | (simp [in64] <;> omega)) ?_)) | (refine DrG.callGo e rfl rfl rfl ?_; (first | refine CallVQ.mk (hb1) rfl rfl ?_ | refine CallVQ.mk (hb2) rfl rfl ?_); (refine DrG.runS e tab_ok 200 rfl (by first | trivial | (simp [in64] <;> omega)) ?_)) | (refine DrG.eq_agg e tab_ok rfl rfl rfl (.inl ⟨rfl, rfl⟩) ?_ 5 (by omega) rfl ?_ rfl rfl rfl rfl rfl rfl rfl ?_; (focus kernel_rfl); (focus kernel_rfl); (refine DrG.runS e tab_ok 200 rfl (by first | trivial | (simp [in64] <;> omega)) ?_)) | (refine DrG.eq_aggGo e tab_ok rfl rfl rfl rfl (.inl ⟨rfl, rfl⟩) ?_ 5 (by omega) rfl ?_ rfl rfl rfl rfl rfl rfl rfl ?_; (focus kernel_rfl); (focus kernel_rfl); (refine DrG.runS e tab_ok 200 rfl (by first | trivial | (simp [in64] <;> omega)) ?_)) | (refine DrG.eq_agg e tab_ok rfl rfl rfl (.inr ⟨rfl, rfl⟩) ?_ 5 (by omega) rfl ?_ rfl rfl rfl rfl rfl rfl rfl ?_; (focus kernel_rfl); (focus kernel_rfl); (refine DrG.runS e tab_ok 200 rfl (by first | trivial | (simp [in64] <;> omega)) ?_)) | (refine DrG.eq_aggGo e tab_ok rfl rfl rfl rfl (.inr ⟨rfl, rfl⟩) ?_ 5 (by omega) rfl ?_ rfl rfl rfl rfl rfl rfl rfl ?_; (focus kernel_rfl); (focus kernel_rfl); (refine DrG.runS e tab_ok 200 rfl (by first | trivial | (simp [in64] <;> omega)) ?_)))); refine DrG.finK e rfl ?_ rfl rfl rfl ?_ ?_; (focus kernel_rfl); (focus (repeat' (first | exact True.intro | (refine And.intro ?_ ?_) | rfl | assumption | exact okRow _))); dsimp only [tmS, hpS, tput, effH]; refine AWP.runL e tab_ok L18 300 rfl (by first | trivial | (simp [in64] <;> omega)) ?_)
      )
    refine AWP.ret e tab_ok rfl ?_
    rw [hP]
    exact rightB_not fun h => g2 (h.2.2 i hlt).2
  cases g3 : o.getLsbD i <;> rw [g3] at hb1
  · refine AWP.runL e tab_ok L18 300 rfl (by first | trivial | (simp [in64] <;> omega)) ?_
    repeat (
      first
        | (refine AWP.askT rfl ?_; (first | (refine Told.t rfl ?_) | (refine Told.f rfl ?_) | (refine Told.t ?_ ?_; (focus (first | assumption | (simp; omega) | (simp [*]; done)); done)) | (refine Told.f ?_ ?_; (focus (first | assumption | (simp; omega) | (simp [*]; done)); done))); refine AWP.runL e tab_ok L18 300 rfl (by first | trivial | (simp [in64] <;> omega)) ?_)
        | (refine AWP.callQ e rfl rfl ?_; (first | refine CallQ.mk (hb1) rfl rfl ?_ | refine CallQ.mk (hb2) rfl rfl ?_); refine AWP.runL e tab_ok L18 300 rfl (by first | trivial | (simp [in64] <;> omega)) ?_)
        | (refine AWP.idx_pel e tab_ok rfl rfl rfl rfl rfl _ rfl ?_ ?_; (focus (first | assumption | omega | decide)); refine AWP.runL e tab_ok L18 300 rfl (by first | trivial | (simp [in64] <;> omega)) ?_)
        | (refine AWP.load_pel e tab_ok _ rfl rfl rfl rfl rfl (pn_at (by simp) hlt) ?_; refine AWP.runL e tab_ok L18 300 rfl (by first | trivial | (simp [in64] <;> omega)) ?_)
        | (refine AWP.eq_agg e tab_ok rfl rfl rfl (.inl ⟨rfl, rfl⟩) ?_ 5 (by omega) rfl ?_ rfl rfl rfl rfl rfl rfl rfl ?_; (focus kernel_rfl); (focus kernel_rfl); refine AWP.runL e tab_ok L18 300 rfl (by first | trivial | (simp [in64] <;> omega)) ?_)
        | (refine AWP.eq_agg e tab_ok rfl rfl rfl (.inr ⟨rfl, rfl⟩) ?_ 5 (by omega) rfl ?_ rfl rfl rfl rfl rfl rfl rfl ?_; (focus kernel_rfl); (focus kernel_rfl); refine AWP.runL e tab_ok L18 300 rfl (by first | trivial | (simp [in64] <;> omega)) ?_)
        | (refine AWP.keep L18 rfl ?_; refine AWP.drg 100 ?_; (refine DrG.runS e tab_ok 200 rfl (by first | trivial | (simp [in64] <;> omega)) ?_); (repeat (first | (refine DrG.askT rfl ?_; (first | (refine Told.t rfl ?_) | (refine Told.f rfl ?_) | (refine Told.t ?_ ?_; (focus (first | assumption | (simp; omega) | (simp [*]; done)); done)) | (refine Told.f ?_ ?_; (focus (first | assumption | (simp; omega) | (simp [*]; done)); done))); (refine DrG.runS e tab_ok 200 rfl (by first | trivial | (simp [in64] <;> omega)) ?_)) | (refine DrG.idx_pel e tab_ok rfl rfl rfl rfl rfl _ rfl ?_ rfl ?_; (focus (first | assumption | omega | decide)); (refine DrG.runS e tab_ok 200 rfl (by first | trivial | (simp [in64] <;> omega)) ?_)) | (refine DrG.idx_pelGo e tab_ok rfl rfl rfl rfl rfl rfl _ rfl ?_ rfl ?_; (focus (first | assumption | omega | decide)); (refine DrG.runS e tab_ok 200 rfl (by first | trivial | (simp [in64] <;> omega)) ?_)) | (refine DrG.load_pel e tab_ok _ rfl rfl rfl rfl rfl (pn_at (by simp) hlt) rfl ?_; (refine DrG.runS e tab_ok 200 rfl (by first | trivial | (simp [in64] <;> omega)) ?_)) | (refine DrG.load_pelGo e tab_ok _ rfl rfl rfl rfl rfl rfl (pn_at (by simp) hlt) rfl ?_; (refine DrG.runS e tab_ok 200 rfl (by first | trivial | (simp [in64] <;> omega)) ?_)) | (refine DrG.callQ e rfl rfl ?_; (first | refine CallVQ.mk (hb1) rfl rfl ?_ | refine CallVQ.mk (hb2) rfl rfl ?_); (refine DrG.runS e tab_ok 200 rfl (by first | trivial | (simp [in64] <;> omega)) ?_)) | (refine DrG.callGo e rfl rfl rfl ?_; (first | refine CallVQ.mk (hb1) rfl rfl ?_ | refine CallVQ.mk (hb2) rfl rfl ?_); (refine DrG.runS e tab_ok 200 rfl (by first | trivial | (simp [in64] <;> omega)) ?_)) | (refine DrG.eq_agg e tab_ok rfl rfl rfl (.inl ⟨rfl, rfl⟩) ?_ 5 (by omega) rfl ?_ rfl rfl rfl rfl rfl rfl rfl ?_; (focus kernel_rfl); (focus kernel_rfl); (refine DrG.runS e tab_ok 200 rfl (by first | trivial | (simp [in64] <;> omega)) ?_)) | (refine DrG.eq_aggGo e tab_ok rfl rfl rfl rfl (.inl ⟨rfl, rfl⟩) ?_ 5 (by omega) rfl ?_ rfl rfl rfl rfl rfl rfl rfl ?_; (focus kernel_rfl); (focus kernel_rfl); (refine DrG.runS e tab_ok 200 rfl (by first | trivial | (simp [in64] <;> omega)) ?_)) | (refine DrG.eq_agg e tab_ok rfl rfl rfl (.inr ⟨rfl, rfl⟩) ?_ 5 (by omega) rfl ?_ rfl rfl rfl rfl rfl rfl rfl ?_; (focus kernel_rfl); (focus kernel_rfl); (refine DrG.runS e tab_ok 200 rfl (by first | trivial | (simp [in64] <;> omega)) ?_)) | (refine DrG.eq_aggGo e tab_ok rfl rfl rfl rfl (.inr ⟨rfl, rfl⟩) ?_ 5 (by omega) rfl ?_ rfl rfl rfl rfl rfl rfl rfl ?_; (focus kernel_rfl); (focus kernel_rfl); (refine DrG.runS e tab_ok 200 rfl (by first | trivial | (simp [in64] <;> omega)) ?_)))); refine DrG.finK e rfl ?_ rfl rfl rfl ?_ ?_; (focus kernel_rfl); (focus (repeat' (first | exact True.intro | (refine And.intro ?_ ?_) | rfl | assumption | exact okRow _))); dsimp only [tmS, hpS, tput, effH]; refine AWP.runL e tab_ok L18 300 rfl (by first | trivial | (simp [in64] <;> omega)) ?_)
      )
    refine AWP.less e ?_ ?_ ?_ ?_ ?_ (nx ⟨⟨g1, g2⟩, fun h => by rw [g3] at h; cases h⟩) <;> (repeat' (first | exact True.intro | (refine And.intro ?_ ?_) | rfl | assumption))
  cases g4 : m.getLsbD i <;> rw [g4] at hb2
  · refine AWP.runL e tab_ok L18 300 rfl (by first | trivial | (simp [in64] <;> omega)) ?_
    repeat (
      first
        | (refine AWP.askT rfl ?_; (first | (refine Told.t rfl ?_) | (refine Told.f rfl ?_) | (refine Told.t ?_ ?_; (focus (first | assumption | (simp; omega) | (simp [*]; done)); done)) | (refine Told.f ?_ ?_; (focus (first | assumption | (simp; omega) | (simp [*]; done)); done))); refine AWP.runL e tab_ok L18 300 rfl (by first | trivial | (simp [in64] <;> omega)) ?_)
        | (refine AWP.callQ e rfl rfl ?_; (first | refine CallQ.mk (hb1) rfl rfl ?_ | refine CallQ.mk (hb2) rfl rfl ?_); refine AWP.runL e tab_ok L18 300 rfl (by first | trivial | (simp [in64] <;> omega)) ?_)
        | (refine AWP.idx_pel e tab_ok rfl rfl rfl rfl rfl _ rfl ?_ ?_; (focus (first | assumption | omega | decide)); refine AWP.runL e tab_ok L18 300 rfl (by first | trivial | (simp [in64] <;> omega)) ?_)
        | (refine AWP.load_pel e tab_ok _ rfl rfl rfl rfl rfl (pn_at (by simp) hlt) ?_; refine AWP.runL e tab_ok L18 300 rfl (by first | trivial | (simp [in64] <;> omega)) ?_)
        | (refine AWP.eq_agg e tab_ok rfl rfl rfl (.inl ⟨rfl, rfl⟩) ?_ 5 (by omega) rfl ?_ rfl rfl rfl rfl rfl rfl rfl ?_; (focus kernel_rfl); (focus kernel_rfl); refine AWP.runL e tab_ok L18 300 rfl (by first | trivial | (simp [in64] <;> omega)) ?_)
        | (refine AWP.eq_agg e tab_ok rfl rfl rfl (.inr ⟨rfl, rfl⟩) ?_ 5 (by omega) rfl ?_ rfl rfl rfl rfl rfl rfl rfl ?_; (focus kernel_rfl); (focus kernel_rfl); refine AWP.runL e tab_ok L18 300 rfl (by first | trivial | (simp [in64] <;> omega)) ?_)
        | (refine AWP.keep L18 rfl ?_; refine AWP.drg 100 ?_; (refine DrG.runS e tab_ok 200 rfl (by first | trivial | (simp [in64] <;> omega)) ?_); (repeat (first | (refine DrG.askT rfl ?_; (first | (refine Told.t rfl ?_) | (refine Told.f rfl ?_) | (refine Told.t ?_ ?_; (focus (first | assumption | (simp; omega) | (simp [*]; done)); done)) | (refine Told.f ?_ ?_; (focus (first | assumption | (simp; omega) | (simp [*]; done)); done))); (refine DrG.runS e tab_ok 200 rfl (by first | trivial | (simp [in64] <;> omega)) ?_)) | (refine DrG.idx_pel e tab_ok rfl rfl rfl rfl rfl _ rfl ?_ rfl ?_; (focus (first | assumption | omega | decide)); (refine DrG.runS e tab_ok 200 rfl (by first | trivial | (simp [in64] <;> omega)) ?_)) | (refine DrG.idx_pelGo e tab_ok rfl rfl rfl rfl rfl rfl _ rfl ?_ rfl ?_; (focus (first | assumption | omega | decide)); (refine DrG.runS e tab_ok 200 rfl (by first | trivial | (simp [in64] <;> omega)) ?_)) | (refine DrG.load_pel e tab_ok _ rfl rfl rfl rfl rfl (pn_at (by simp) hlt) rfl ?_; (refine DrG.runS e tab_ok 200 rfl (by first | trivial | (simp [in64] <;> omega)) ?_)) | (refine DrG.load_pelGo e tab_ok _ rfl rfl rfl rfl rfl rfl (pn_at (by simp) hlt) rfl ?_; (refine DrG.runS e tab_ok 200 rfl (by first | trivial | (simp [in64] <;> omega)) ?_)) | (refine DrG.callQ e rfl rfl ?_; (first | refine CallVQ.mk (hb1) rfl rfl ?_ | refine CallVQ.mk (hb2) rfl rfl ?_); (refine DrG.runS e tab_ok 200 rfl (by first | trivial | (simp [in64] <;> omega)) ?_)) | (refine DrG.callGo e rfl rfl rfl ?_; (first | refine CallVQ.mk (hb1) rfl rfl ?_ | refine CallVQ.mk (hb2) rfl rfl ?_); (refine DrG.runS e tab_ok 200 rfl (by first | trivial | (simp [in64] <;> omega)) ?_)) | (refine DrG.eq_agg e tab_ok rfl rfl rfl (.inl ⟨rfl, rfl⟩) ?_ 5 (by omega) rfl ?_ rfl rfl rfl rfl rfl rfl rfl ?_; (focus kernel_rfl); (focus kernel_rfl); (refine DrG.runS e tab_ok 200 rfl (by first | trivial | (simp [in64] <;> omega)) ?_)) | (refine DrG.eq_aggGo e tab_ok rfl rfl rfl rfl (.inl ⟨rfl, rfl⟩) ?_ 5 (by omega) rfl ?_ rfl rfl rfl rfl rfl rfl rfl ?_; (focus kernel_rfl); (focus kernel_rfl); (refine DrG.runS e tab_ok 200 rfl (by first | trivial | (simp [in64] <;> omega)) ?_)) | (refine DrG.eq_agg e tab_ok rfl rfl rfl (.inr ⟨rfl, rfl⟩) ?_ 5 (by omega) rfl ?_ rfl rfl rfl rfl rfl rfl rfl ?_; (focus kernel_rfl); (focus kernel_rfl); (refine DrG.runS e tab_ok 200 rfl (by first | trivial | (simp [in64] <;> omega)) ?_)) | (refine DrG.eq_aggGo e tab_ok rfl rfl rfl rfl (.inr ⟨rfl, rfl⟩) ?_ 5 (by omega) rfl ?_ rfl rfl rfl rfl rfl rfl rfl ?_; (focus kernel_rfl); (focus kernel_rfl); (refine DrG.runS e tab_ok 200 rfl (by first | trivial | (simp [in64] <;> omega)) ?_)))); refine DrG.finK e rfl ?_ rfl rfl rfl ?_ ?_; (focus kernel_rfl); (focus (repeat' (first | exact True.intro | (refine And.intro ?_ ?_) | rfl | assumption | exact okRow _))); dsimp only [tmS, hpS, tput, effH]; refine AWP.runL e tab_ok L18 300 rfl (by first | trivial | (simp [in64] <;> omega)) ?_)
      )
    refine AWP.ret e tab_ok rfl ?_
    rw [hP]
    exact rightB_not fun h => by have := andNot_iff.1 h.2.1 i hlt g3; rw [g4] at this; cases this
  · refine AWP.runL e tab_ok L18 300 rfl (by first | trivial | (simp [in64] <;> omega)) ?_
    repeat (
      first
        | (refine AWP.askT rfl ?_; (first | (refine Told.t rfl ?_) | (refine Told.f rfl ?_) | (refine Told.t ?_ ?_; (focus (first | assumption | (simp; omega) | (simp [*]; done)); done)) | (refine Told.f ?_ ?_; (focus (first | assumption | (simp; omega) | (simp [*]; done)); done))); refine AWP.runL e tab_ok L18 300 rfl (by first | trivial | (simp [in64] <;> omega)) ?_)
        | (refine AWP.callQ e rfl rfl ?_; (first | refine CallQ.mk (hb1) rfl rfl ?_ | refine CallQ.mk (hb2) rfl rfl ?_); refine AWP.runL e tab_ok L18 300 rfl (by first | trivial | (simp [in64] <;> omega)) ?_)
        | (refine AWP.idx_pel e tab_ok rfl rfl rfl rfl rfl _ rfl ?_ ?_; (focus (first | assumption | omega | decide)); refine AWP.runL e tab_ok L18 300 rfl (by first | trivial | (simp [in64] <;> omega)) ?_)
        | (refine AWP.load_pel e tab_ok _ rfl rfl rfl rfl rfl (pn_at (by simp) hlt) ?_; refine AWP.runL e tab_ok L18 300 rfl (by first | trivial | (simp [in64] <;> omega)) ?_)
        | (refine AWP.eq_agg e tab_ok rfl rfl rfl (.inl ⟨rfl, rfl⟩) ?_ 5 (by omega) rfl ?_ rfl rfl rfl rfl rfl rfl rfl ?_; (focus kernel_rfl); (focus kernel_rfl); refine AWP.runL e tab_ok L18 300 rfl (by first | trivial | (simp [in64] <;> omega)) ?_)
        | (refine AWP.eq_agg e tab_ok rfl rfl rfl (.inr ⟨rfl, rfl⟩) ?_ 5 (by omega) rfl ?_ rfl rfl rfl rfl rfl rfl rfl ?_; (focus kernel_rfl); (focus kernel_rfl); refine AWP.runL e tab_ok L18 300 rfl (by first | trivial | (simp [in64] <;> omega)) ?_)
        | (refine AWP.keep L18 rfl ?_; refine AWP.drg 100 ?_; (refine DrG.runS e tab_ok 200 rfl (by first | trivial | (simp [in64] <;> omega)) ?_); (repeat (first | (refine DrG.askT rfl ?_; (first | (refine Told.t rfl ?_) | (refine Told.f rfl ?_) | (refine Told.t ?_ ?_; (focus (first | assumption | (simp; omega) | (simp [*]; done)); done)) | (refine Told.f ?_ ?_; (focus (first | assumption | (simp; omega) | (simp [*]; done)); done))); (refine DrG.runS e tab_ok 200 rfl (by first | trivial | (simp [in64] <;> omega)) ?_)) | (refine DrG.idx_pel e tab_ok rfl rfl rfl rfl rfl _ rfl ?_ rfl ?_; (focus (first | assumption | omega | decide)); (refine DrG.runS e tab_ok 200 rfl (by first | trivial | (simp [in64] <;> omega)) ?_)) | (refine DrG.idx_pelGo e tab_ok rfl rfl rfl rfl rfl rfl _ rfl ?_ rfl ?_; (focus (first | assumption | omega | decide)); (refine DrG.runS e tab_ok 200 rfl (by first | trivial | (simp [in64] <;> omega)) ?_)) | (refine DrG.load_pel e tab_ok _ rfl rfl rfl rfl rfl (pn_at (by simp) hlt) rfl ?_; (refine DrG.runS e tab_ok 200 rfl (by first | trivial | (simp [in64] <;> omega)) ?_)) | (refine DrG.load_pelGo e tab_ok _ rfl rfl rfl rfl rfl rfl (pn_at (by simp) hlt) rfl ?_; (refine DrG.runS e tab_ok 200 rfl (by first | trivial | (simp [in64] <;> omega)) ?_)) | (refine DrG.callQ e rfl rfl ?_; (first | refine CallVQ.mk (hb1) rfl rfl ?_ | refine CallVQ.mk (hb2) rfl rfl ?_); (refine DrG.runS e tab_ok 200 rfl (by first | trivial | (simp [in64] <;> omega)) ?_)) | (refine DrG.callGo e rfl rfl rfl ?_; (first | refine CallVQ.mk (hb1) rfl rfl ?_ | refine CallVQ.mk (hb2) rfl rfl ?_); (refine DrG.runS e tab_ok 200 rfl (by first | trivial | (simp [in64] <;> omega)) ?_)) | (refine DrG.eq_agg e tab_ok rfl rfl rfl (.inl ⟨rfl, rfl⟩) ?_ 5 (by omega) rfl ?_ rfl rfl rfl rfl rfl rfl rfl ?_; (focus kernel_rfl); (focus kernel_rfl); (refine DrG.runS e tab_ok 200 rfl (by first | trivial | (simp [in64] <;> omega)) ?_)) | (refine DrG.eq_aggGo e tab_ok rfl rfl rfl rfl (.inl ⟨rfl, rfl⟩) ?_ 5 (by omega) rfl ?_ rfl rfl rfl rfl rfl rfl rfl ?_; (focus kernel_rfl); (focus kernel_rfl); (refine DrG.runS e tab_ok 200 rfl (by first | trivial | (simp [in64] <;> omega)) ?_)) | (refine DrG.eq_agg e tab_ok rfl rfl rfl (.inr ⟨rfl, rfl⟩) ?_ 5 (by omega) rfl ?_ rfl rfl rfl rfl rfl rfl rfl ?_; (focus kernel_rfl); (focus kernel_rfl); (refine DrG.runS e tab_ok 200 rfl (by first | trivial | (simp [in64] <;> omega)) ?_)) | (refine DrG.eq_aggGo e tab_ok rfl rfl rfl rfl (.inr ⟨rfl, rfl⟩) ?_ 5 (by omega) rfl ?_ rfl rfl rfl rfl rfl rfl rfl ?_; (focus kernel_rfl); (focus kernel_rfl); (refine DrG.runS e tab_ok 200 rfl (by first | trivial | (simp [in64] <;> omega)) ?_)))); refine DrG.finK e rfl ?_ rfl rfl rfl ?_ ?_; (focus kernel_rfl); (focus (repeat' (first | exact True.intro | (refine And.intro ?_ ?_) | rfl | assumption | exact okRow _))); dsimp only [tmS, hpS, tput, effH]; refine AWP.runL e tab_ok L18 300 rfl (by first | trivial | (simp [in64] <;> omega)) ?_)
      )
    refine AWP.less e ?_ ?_ ?_ ?_ ?_ (nx ⟨⟨g1, g2⟩, fun _ => g4⟩) <;> (repeat' (first | exact True.intro | (refine And.intro ?_ ?_) | rfl | assumption))

set_option maxRecDepth 100000 in
theorem rsee_eff (m o : BitVec 16) (s : Nat → Int) (l : Int) (told : BitVec 16) : Eff Try.prog 19 [pn m o s l, U16 told] [] 0 (fun r _ _ => r = pn m o (seeS told s l 16) l) := by
  refine eff_of Try.func19 rfl rfl rfl fun cx e hP => ?_
  refine AWP.runL e tab_ok L19 300 rfl (by first | trivial | (simp [in64] <;> omega)) ?_
  refine AWP.loop (ι := Nat) (fun i => ⟨[(5, .i i), (1, U16 told), (2, .ptr 0 0), (4, .ptr 1 0)], [(0, .box (pnC m o (seeS told s l i) l)), (1, .box (pnC 0#16 0#16 (fun _ => 0) 0))], 2⟩) (fun i => i ≤ 16) (fun i => 16 - i) 0 (Nat.zero_le _) ?_ ?_
  · intro g
    rw [seeS_0] at g
    refine AWP.less e ?_ ?_ ?_ ?_ ?_ (g) <;> (repeat' (first | exact True.intro | (refine And.intro ?_ ?_) | rfl | assumption))
  rintro i Φ hI next
  have hI : i ≤ 16 := hI
  refine AWP.runL e tab_ok L19 300 rfl (by first | trivial | (simp [in64] <;> omega)) ?_
  refine AWP.cond2 rfl (fun hlt => ?_) (fun hlt => ?_)
  · have hlt : i < 16 := by simp at hlt; omega
    have hb := rbit_eff told i hlt
    have nx := next (i + 1) hlt (by show 16 - (i + 1) < 16 - i; omega)
    cases h1 : told.getLsbD i
    · rw [h1] at hb
      rw [seeS_no h1]
      refine AWP.runL e tab_ok L19 300 rfl (by first | trivial | (simp [in64] <;> omega)) ?_
      repeat (
        first
          | (refine AWP.askT rfl ?_; (first | (refine Told.t rfl ?_) | (refine Told.f rfl ?_) | (refine Told.t ?_ ?_; (focus (first | assumption | (simp; omega) | (simp [*]; done)); done)) | (refine Told.f ?_ ?_; (focus (first | assumption | (simp; omega) | (simp [*]; done)); done))); refine AWP.runL e tab_ok L19 300 rfl (by first | trivial | (simp [in64] <;> omega)) ?_)
          | (refine AWP.callQ e rfl rfl ?_; (first | refine CallQ.mk (hb) rfl rfl ?_); refine AWP.runL e tab_ok L19 300 rfl (by first | trivial | (simp [in64] <;> omega)) ?_)
          | (refine AWP.eq_agg e tab_ok rfl rfl rfl (.inl ⟨rfl, rfl⟩) ?_ 5 (by omega) rfl ?_ rfl rfl rfl rfl rfl rfl rfl ?_; (focus kernel_rfl); (focus kernel_rfl); refine AWP.runL e tab_ok L19 300 rfl (by first | trivial | (simp [in64] <;> omega)) ?_)
          | (refine AWP.eq_agg e tab_ok rfl rfl rfl (.inr ⟨rfl, rfl⟩) ?_ 5 (by omega) rfl ?_ rfl rfl rfl rfl rfl rfl rfl ?_; (focus kernel_rfl); (focus kernel_rfl); refine AWP.runL e tab_ok L19 300 rfl (by first | trivial | (simp [in64] <;> omega)) ?_)
        )
      refine AWP.less e ?_ ?_ ?_ ?_ ?_ (nx) <;> (repeat' (first | exact True.intro | (refine And.intro ?_ ?_) | rfl | assumption))
    · rw [h1] at hb
      refine AWP.runL e tab_ok L19 300 rfl (by first | trivial | (simp [in64] <;> omega)) ?_
      repeat (
        first
          | (refine AWP.askT rfl ?_; (first | (refine Told.t rfl ?_) | (refine Told.f rfl ?_) | (refine Told.t ?_ ?_; (focus (first | assumption | (simp; omega) | (simp [*]; done)); done)) | (refine Told.f ?_ ?_; (focus (first | assumption | (simp; omega) | (simp [*]; done)); done))); refine AWP.runL e tab_ok L19 300 rfl (by first | trivial | (simp [in64] <;> omega)) ?_)
          | (refine AWP.callQ e rfl rfl ?_; (first | refine CallQ.mk (hb) rfl rfl ?_); refine AWP.runL e tab_ok L19 300 rfl (by first | trivial | (simp [in64] <;> omega)) ?_)
          | (refine AWP.idx_pel e tab_ok rfl rfl rfl rfl rfl _ rfl ?_ ?_; (focus (first | assumption | omega | decide)); refine AWP.runL e tab_ok L19 300 rfl (by first | trivial | (simp [in64] <;> omega)) ?_)
          | (refine AWP.store_pel e tab_ok rfl rfl rfl rfl rfl rfl rfl rfl (pn_at (by simp) hlt) ((pn_set (by simp) hlt).trans (congrArg (fun s => pnC m o s l) (seeS_yes h1))) ?_; refine AWP.runL e tab_ok L19 300 rfl (by first | trivial | (simp [in64] <;> omega)) ?_)
          | (refine AWP.eq_agg e tab_ok rfl rfl rfl (.inl ⟨rfl, rfl⟩) ?_ 5 (by omega) rfl ?_ rfl rfl rfl rfl rfl rfl rfl ?_; (focus kernel_rfl); (focus kernel_rfl); refine AWP.runL e tab_ok L19 300 rfl (by first | trivial | (simp [in64] <;> omega)) ?_)
          | (refine AWP.eq_agg e tab_ok rfl rfl rfl (.inr ⟨rfl, rfl⟩) ?_ 5 (by omega) rfl ?_ rfl rfl rfl rfl rfl rfl rfl ?_; (focus kernel_rfl); (focus kernel_rfl); refine AWP.runL e tab_ok L19 300 rfl (by first | trivial | (simp [in64] <;> omega)) ?_)
          | (refine AWP.keep L19 rfl ?_; refine AWP.drg 100 ?_; (refine DrG.runS e tab_ok 200 rfl (by first | trivial | (simp [in64] <;> omega)) ?_); (repeat (first | (refine DrG.askT rfl ?_; (first | (refine Told.t rfl ?_) | (refine Told.f rfl ?_) | (refine Told.t ?_ ?_; (focus (first | assumption | (simp; omega) | (simp [*]; done)); done)) | (refine Told.f ?_ ?_; (focus (first | assumption | (simp; omega) | (simp [*]; done)); done))); (refine DrG.runS e tab_ok 200 rfl (by first | trivial | (simp [in64] <;> omega)) ?_)) | (refine DrG.idx_pel e tab_ok rfl rfl rfl rfl rfl _ rfl ?_ rfl ?_; (focus (first | assumption | omega | decide)); (refine DrG.runS e tab_ok 200 rfl (by first | trivial | (simp [in64] <;> omega)) ?_)) | (refine DrG.idx_pelGo e tab_ok rfl rfl rfl rfl rfl rfl _ rfl ?_ rfl ?_; (focus (first | assumption | omega | decide)); (refine DrG.runS e tab_ok 200 rfl (by first | trivial | (simp [in64] <;> omega)) ?_)) | (refine DrG.store_pel e tab_ok rfl rfl rfl rfl rfl rfl rfl rfl (pn_at (by simp) hlt) ((pn_set (by simp) hlt).trans (congrArg (fun s => pnC m o s l) (seeS_yes h1))) rfl rfl ?_; (refine DrG.runS e tab_ok 200 rfl (by first | trivial | (simp [in64] <;> omega)) ?_)) | (refine DrG.callQ e rfl rfl ?_; (first | refine CallVQ.mk (hb) rfl rfl ?_); (refine DrG.runS e tab_ok 200 rfl (by first | trivial | (simp [in64] <;> omega)) ?_)) | (refine DrG.callGo e rfl rfl rfl ?_; (first | refine CallVQ.mk (hb) rfl rfl ?_); (refine DrG.runS e tab_ok 200 rfl (by first | trivial | (simp [in64] <;> omega)) ?_)) | (refine DrG.eq_agg e tab_ok rfl rfl rfl (.inl ⟨rfl, rfl⟩) ?_ 5 (by omega) rfl ?_ rfl rfl rfl rfl rfl rfl rfl ?_; (focus kernel_rfl); (focus kernel_rfl); (refine DrG.runS e tab_ok 200 rfl (by first | trivial | (simp [in64] <;> omega)) ?_)) | (refine DrG.eq_aggGo e tab_ok rfl rfl rfl rfl (.inl ⟨rfl, rfl⟩) ?_ 5 (by omega) rfl ?_ rfl rfl rfl rfl rfl rfl rfl ?_; (focus kernel_rfl); (focus kernel_rfl); (refine DrG.runS e tab_ok 200 rfl (by first | trivial | (simp [in64] <;> omega)) ?_)) | (refine DrG.eq_agg e tab_ok rfl rfl rfl (.inr ⟨rfl, rfl⟩) ?_ 5 (by omega) rfl ?_ rfl rfl rfl rfl rfl rfl rfl ?_; (focus kernel_rfl); (focus kernel_rfl); (refine DrG.runS e tab_ok 200 rfl (by first | trivial | (simp [in64] <;> omega)) ?_)) | (refine DrG.eq_aggGo e tab_ok rfl rfl rfl rfl (.inr ⟨rfl, rfl⟩) ?_ 5 (by omega) rfl ?_ rfl rfl rfl rfl rfl rfl rfl ?_; (focus kernel_rfl); (focus kernel_rfl); (refine DrG.runS e tab_ok 200 rfl (by first | trivial | (simp [in64] <;> omega)) ?_)))); refine DrG.finK e rfl ?_ rfl rfl rfl ?_ ?_; (focus kernel_rfl); (focus (repeat' (first | exact True.intro | (refine And.intro ?_ ?_) | rfl | assumption | exact okRow _))); dsimp only [tmS, hpS, tput, effH]; refine AWP.runL e tab_ok L19 300 rfl (by first | trivial | (simp [in64] <;> omega)) ?_)
        )
      refine AWP.less e ?_ ?_ ?_ ?_ ?_ (nx) <;> (repeat' (first | exact True.intro | (refine And.intro ?_ ?_) | rfl | assumption))
  · obtain rfl : i = 16 := by simp at hlt; omega
    refine AWP.runL e tab_ok L19 300 rfl (by first | trivial | (simp [in64] <;> omega)) ?_
    refine AWP.ret e tab_ok rfl ?_
    rw [hP]
    all_goals first | rfl | (simp [strip]; done)

theorem tickS_up2 (s : Nat → Int) (i : Nat) (h : s i > 0) : upd1 (tickS s i) i (tickS s i i - 1) = tickS s (i + 1) := by
  rw [← tickS_up]
  have : dn (tickS s i i) = tickS s i i - 1 := by
    rw [tickS_at]; unfold dn; rw [if_neg (by omega)]
  rw [this]
theorem tickS_no (s : Nat → Int) (i : Nat) (h : s i = 0) : tickS s i = tickS s (i + 1) := by
  funext k
  unfold tickS
  by_cases e : k = i
  · subst e; simp [h, dn]
  · by_cases c : k < i
    · simp [c, show k < i + 1 by omega]
    · simp [c, show ¬ k < i + 1 by omega]

set_option maxRecDepth 100000 in
theorem rtick_eff (m o : BitVec 16) (s : Nat → Int) (l : Int) (h : rightB m o s l = true) : Eff Try.prog 20 [pn m o s l] [] 0 (fun r _ _ => r = pn m o (tickS s 16) l) := by
  have hP' := rightB_iff.1 h
  refine eff_of Try.func20 rfl rfl rfl fun cx e hP => ?_
  refine AWP.runL e tab_ok L20 300 rfl (by first | trivial | (simp [in64] <;> omega)) ?_
  refine AWP.loop (ι := Nat) (fun i => ⟨[(3, .i i), (1, .ptr 0 0), (2, .ptr 1 0)], [(0, .box (pnC m o (tickS s i) l)), (1, .box (pnC 0#16 0#16 (fun _ => 0) 0))], 2⟩) (fun i => i ≤ 16) (fun i => 16 - i) 0 (Nat.zero_le _) ?_ ?_
  · intro g
    rw [tickS_0] at g
    refine AWP.less e ?_ ?_ ?_ ?_ ?_ (g) <;> (repeat' (first | exact True.intro | (refine And.intro ?_ ?_) | rfl | assumption))
  rintro i Φ hI next
  have hI : i ≤ 16 := hI
  refine AWP.runL e tab_ok L20 300 rfl (by first | trivial | (simp [in64] <;> omega)) ?_
  refine AWP.cond2 rfl (fun hlt => ?_) (fun hlt => ?_)
  · have hlt : i < 16 := by simp at hlt; omega
    have nx := next (i + 1) hlt (by show 16 - (i + 1) < 16 - i; omega)
    have h1 := hP'.2.2 i hlt
    have h2 := hP'.1
    have h3 := tickS_at s i
    by_cases h0 : s i > 0
    · refine AWP.runL e tab_ok L20 300 rfl (by first | trivial | (simp [in64] <;> omega)) ?_
      repeat (
        first
          | (refine AWP.askT rfl ?_; (first | (refine Told.t rfl ?_) | (refine Told.f rfl ?_) | (refine Told.t ?_ ?_; (focus (first | assumption | (simp; omega) | (simp [*]; done)); done)) | (refine Told.f ?_ ?_; (focus (first | assumption | (simp; omega) | (simp [*]; done)); done))); refine AWP.runL e tab_ok L20 300 rfl (by first | trivial | (simp [in64] <;> omega)) ?_)
          | (refine AWP.idx_pel e tab_ok rfl rfl rfl rfl rfl _ rfl ?_ ?_; (focus (first | assumption | omega | decide)); refine AWP.runL e tab_ok L20 300 rfl (by first | trivial | (simp [in64] <;> omega)) ?_)
          | (refine AWP.load_pel e tab_ok _ rfl rfl rfl rfl rfl (pn_at (by simp) hlt) ?_; refine AWP.runL e tab_ok L20 300 rfl (by first | trivial | (simp [in64] <;> omega)) ?_)
          | (refine AWP.store_pel e tab_ok rfl rfl rfl rfl rfl rfl rfl rfl (pn_at (by simp) hlt) ((pn_set (by simp) hlt).trans (congrArg (fun s => pnC m o s l) (tickS_up2 s i h0))) ?_; refine AWP.runL e tab_ok L20 300 rfl (by first | trivial | (simp [in64] <;> omega)) ?_)
          | (refine AWP.eq_agg e tab_ok rfl rfl rfl (.inl ⟨rfl, rfl⟩) ?_ 5 (by omega) rfl ?_ rfl rfl rfl rfl rfl rfl rfl ?_; (focus kernel_rfl); (focus kernel_rfl); refine AWP.runL e tab_ok L20 300 rfl (by first | trivial | (simp [in64] <;> omega)) ?_)
          | (refine AWP.eq_agg e tab_ok rfl rfl rfl (.inr ⟨rfl, rfl⟩) ?_ 5 (by omega) rfl ?_ rfl rfl rfl rfl rfl rfl rfl ?_; (focus kernel_rfl); (focus kernel_rfl); refine AWP.runL e tab_ok L20 300 rfl (by first | trivial | (simp [in64] <;> omega)) ?_)
          | (refine AWP.keep L20 rfl ?_; refine AWP.drg 100 ?_; (refine DrG.runS e tab_ok 200 rfl (by first | trivial | (simp [in64] <;> omega)) ?_); (repeat (first | (refine DrG.askT rfl ?_; (first | (refine Told.t rfl ?_) | (refine Told.f rfl ?_) | (refine Told.t ?_ ?_; (focus (first | assumption | (simp; omega) | (simp [*]; done)); done)) | (refine Told.f ?_ ?_; (focus (first | assumption | (simp; omega) | (simp [*]; done)); done))); (refine DrG.runS e tab_ok 200 rfl (by first | trivial | (simp [in64] <;> omega)) ?_)) | (refine DrG.idx_pel e tab_ok rfl rfl rfl rfl rfl _ rfl ?_ rfl ?_; (focus (first | assumption | omega | decide)); (refine DrG.runS e tab_ok 200 rfl (by first | trivial | (simp [in64] <;> omega)) ?_)) | (refine DrG.idx_pelGo e tab_ok rfl rfl rfl rfl rfl rfl _ rfl ?_ rfl ?_; (focus (first | assumption | omega | decide)); (refine DrG.runS e tab_ok 200 rfl (by first | trivial | (simp [in64] <;> omega)) ?_)) | (refine DrG.load_pel e tab_ok _ rfl rfl rfl rfl rfl (pn_at (by simp) hlt) rfl ?_; (refine DrG.runS e tab_ok 200 rfl (by first | trivial | (simp [in64] <;> omega)) ?_)) | (refine DrG.load_pelGo e tab_ok _ rfl rfl rfl rfl rfl rfl (pn_at (by simp) hlt) rfl ?_; (refine DrG.runS e tab_ok 200 rfl (by first | trivial | (simp [in64] <;> omega)) ?_)) | (refine DrG.store_pel e tab_ok rfl rfl rfl rfl rfl rfl rfl rfl (pn_at (by simp) hlt) ((pn_set (by simp) hlt).trans (congrArg (fun s => pnC m o s l) (tickS_up2 s i h0))) rfl rfl ?_; (refine DrG.runS e tab_ok 200 rfl (by first | trivial | (simp [in64] <;> omega)) ?_)) | (refine DrG.eq_agg e tab_ok rfl rfl rfl (.inl ⟨rfl, rfl⟩) ?_ 5 (by omega) rfl ?_ rfl rfl rfl rfl rfl rfl rfl ?_; (focus kernel_rfl); (focus kernel_rfl); (refine DrG.runS e tab_ok 200 rfl (by first | trivial | (simp [in64] <;> omega)) ?_)) | (refine DrG.eq_aggGo e tab_ok rfl rfl rfl rfl (.inl ⟨rfl, rfl⟩) ?_ 5 (by omega) rfl ?_ rfl rfl rfl rfl rfl rfl rfl ?_; (focus kernel_rfl); (focus kernel_rfl); (refine DrG.runS e tab_ok 200 rfl (by first | trivial | (simp [in64] <;> omega)) ?_)) | (refine DrG.eq_agg e tab_ok rfl rfl rfl (.inr ⟨rfl, rfl⟩) ?_ 5 (by omega) rfl ?_ rfl rfl rfl rfl rfl rfl rfl ?_; (focus kernel_rfl); (focus kernel_rfl); (refine DrG.runS e tab_ok 200 rfl (by first | trivial | (simp [in64] <;> omega)) ?_)) | (refine DrG.eq_aggGo e tab_ok rfl rfl rfl rfl (.inr ⟨rfl, rfl⟩) ?_ 5 (by omega) rfl ?_ rfl rfl rfl rfl rfl rfl rfl ?_; (focus kernel_rfl); (focus kernel_rfl); (refine DrG.runS e tab_ok 200 rfl (by first | trivial | (simp [in64] <;> omega)) ?_)))); refine DrG.finK e rfl ?_ rfl rfl rfl ?_ ?_; (focus kernel_rfl); (focus (repeat' (first | exact True.intro | (refine And.intro ?_ ?_) | rfl | assumption | exact okRow _))); dsimp only [tmS, hpS, tput, effH]; refine AWP.runL e tab_ok L20 300 rfl (by first | trivial | (simp [in64] <;> omega)) ?_)
        )
      refine AWP.less e ?_ ?_ ?_ ?_ ?_ (nx) <;> (repeat' (first | exact True.intro | (refine And.intro ?_ ?_) | rfl | assumption))
    · rw [tickS_no s i (by omega)]
      rw [tickS_no s i (by omega)] at h3
      refine AWP.runL e tab_ok L20 300 rfl (by first | trivial | (simp [in64] <;> omega)) ?_
      repeat (
        first
          | (refine AWP.askT rfl ?_; (first | (refine Told.t rfl ?_) | (refine Told.f rfl ?_) | (refine Told.t ?_ ?_; (focus (first | assumption | (simp; omega) | (simp [*]; done)); done)) | (refine Told.f ?_ ?_; (focus (first | assumption | (simp; omega) | (simp [*]; done)); done))); refine AWP.runL e tab_ok L20 300 rfl (by first | trivial | (simp [in64] <;> omega)) ?_)
          | (refine AWP.idx_pel e tab_ok rfl rfl rfl rfl rfl _ rfl ?_ ?_; (focus (first | assumption | omega | decide)); refine AWP.runL e tab_ok L20 300 rfl (by first | trivial | (simp [in64] <;> omega)) ?_)
          | (refine AWP.load_pel e tab_ok _ rfl rfl rfl rfl rfl (pn_at (by simp) hlt) ?_; refine AWP.runL e tab_ok L20 300 rfl (by first | trivial | (simp [in64] <;> omega)) ?_)
          | (refine AWP.eq_agg e tab_ok rfl rfl rfl (.inl ⟨rfl, rfl⟩) ?_ 5 (by omega) rfl ?_ rfl rfl rfl rfl rfl rfl rfl ?_; (focus kernel_rfl); (focus kernel_rfl); refine AWP.runL e tab_ok L20 300 rfl (by first | trivial | (simp [in64] <;> omega)) ?_)
          | (refine AWP.eq_agg e tab_ok rfl rfl rfl (.inr ⟨rfl, rfl⟩) ?_ 5 (by omega) rfl ?_ rfl rfl rfl rfl rfl rfl rfl ?_; (focus kernel_rfl); (focus kernel_rfl); refine AWP.runL e tab_ok L20 300 rfl (by first | trivial | (simp [in64] <;> omega)) ?_)
          | (refine AWP.keep L20 rfl ?_; refine AWP.drg 100 ?_; (refine DrG.runS e tab_ok 200 rfl (by first | trivial | (simp [in64] <;> omega)) ?_); (repeat (first | (refine DrG.askT rfl ?_; (first | (refine Told.t rfl ?_) | (refine Told.f rfl ?_) | (refine Told.t ?_ ?_; (focus (first | assumption | (simp; omega) | (simp [*]; done)); done)) | (refine Told.f ?_ ?_; (focus (first | assumption | (simp; omega) | (simp [*]; done)); done))); (refine DrG.runS e tab_ok 200 rfl (by first | trivial | (simp [in64] <;> omega)) ?_)) | (refine DrG.idx_pel e tab_ok rfl rfl rfl rfl rfl _ rfl ?_ rfl ?_; (focus (first | assumption | omega | decide)); (refine DrG.runS e tab_ok 200 rfl (by first | trivial | (simp [in64] <;> omega)) ?_)) | (refine DrG.idx_pelGo e tab_ok rfl rfl rfl rfl rfl rfl _ rfl ?_ rfl ?_; (focus (first | assumption | omega | decide)); (refine DrG.runS e tab_ok 200 rfl (by first | trivial | (simp [in64] <;> omega)) ?_)) | (refine DrG.load_pel e tab_ok _ rfl rfl rfl rfl rfl (pn_at (by simp) hlt) rfl ?_; (refine DrG.runS e tab_ok 200 rfl (by first | trivial | (simp [in64] <;> omega)) ?_)) | (refine DrG.load_pelGo e tab_ok _ rfl rfl rfl rfl rfl rfl (pn_at (by simp) hlt) rfl ?_; (refine DrG.runS e tab_ok 200 rfl (by first | trivial | (simp [in64] <;> omega)) ?_)) | (refine DrG.eq_agg e tab_ok rfl rfl rfl (.inl ⟨rfl, rfl⟩) ?_ 5 (by omega) rfl ?_ rfl rfl rfl rfl rfl rfl rfl ?_; (focus kernel_rfl); (focus kernel_rfl); (refine DrG.runS e tab_ok 200 rfl (by first | trivial | (simp [in64] <;> omega)) ?_)) | (refine DrG.eq_aggGo e tab_ok rfl rfl rfl rfl (.inl ⟨rfl, rfl⟩) ?_ 5 (by omega) rfl ?_ rfl rfl rfl rfl rfl rfl rfl ?_; (focus kernel_rfl); (focus kernel_rfl); (refine DrG.runS e tab_ok 200 rfl (by first | trivial | (simp [in64] <;> omega)) ?_)) | (refine DrG.eq_agg e tab_ok rfl rfl rfl (.inr ⟨rfl, rfl⟩) ?_ 5 (by omega) rfl ?_ rfl rfl rfl rfl rfl rfl rfl ?_; (focus kernel_rfl); (focus kernel_rfl); (refine DrG.runS e tab_ok 200 rfl (by first | trivial | (simp [in64] <;> omega)) ?_)) | (refine DrG.eq_aggGo e tab_ok rfl rfl rfl rfl (.inr ⟨rfl, rfl⟩) ?_ 5 (by omega) rfl ?_ rfl rfl rfl rfl rfl rfl rfl ?_; (focus kernel_rfl); (focus kernel_rfl); (refine DrG.runS e tab_ok 200 rfl (by first | trivial | (simp [in64] <;> omega)) ?_)))); refine DrG.finK e rfl ?_ rfl rfl rfl ?_ ?_; (focus kernel_rfl); (focus (repeat' (first | exact True.intro | (refine And.intro ?_ ?_) | rfl | assumption | exact okRow _))); dsimp only [tmS, hpS, tput, effH]; refine AWP.runL e tab_ok L20 300 rfl (by first | trivial | (simp [in64] <;> omega)) ?_)
        )
      refine AWP.less e ?_ ?_ ?_ ?_ ?_ (nx) <;> (repeat' (first | exact True.intro | (refine And.intro ?_ ?_) | rfl | assumption))
  · obtain rfl : i = 16 := by simp at hlt; omega
    refine AWP.runL e tab_ok L20 300 rfl (by first | trivial | (simp [in64] <;> omega)) ?_
    refine AWP.ret e tab_ok rfl ?_
    rw [hP]
    all_goals first | rfl | (simp [strip]; done)

theorem dbl (x : BitVec 16) (j : Nat) : IntKind.wrap .u16 (2 * ((x <<< j).toNat : Int)) = ((x <<< (j + 1)).toNat : Int) := by
  have h1 := u16shl (x <<< j) 1
  rw [← BitVec.shiftLeft_add] at h1
  rw [← h1]
  congr 1
  rw [Int.mul_comm]
  rfl

set_option maxRecDepth 100000 in
theorem power_eff (i : Nat) (hi : i < 16) : Eff Try.prog 24 [.i i] [] 0 (fun r _ _ => r = U16 (1#16 <<< i)) := by
  refine eff_of Try.func24 rfl rfl rfl fun cx e hP => ?_
  refine AWP.runL e tab_ok L24 300 rfl (by first | trivial | (simp [in64] <;> omega)) ?_
  refine AWP.loop (ι := Nat) (fun j => ⟨[(4, .i j), (3, U16 (1#16 <<< j)), (0, .i i)], [], 0⟩) (fun j => j ≤ i) (fun j => i - j) 0 (Nat.zero_le _) ?_ ?_
  · intro g
    refine AWP.less e ?_ ?_ ?_ ?_ ?_ (g) <;> (repeat' (first | exact True.intro | (refine And.intro ?_ ?_) | rfl | assumption))
  rintro j Φ hI next
  have hI : j ≤ i := hI
  refine AWP.runL e tab_ok L24 300 rfl (by first | trivial | (simp [in64] <;> omega)) ?_
  refine AWP.cond2 rfl (fun hlt => ?_) (fun hlt => ?_)
  · have hlt : j < i := by simp at hlt; omega
    refine AWP.runL e tab_ok L24 300 rfl (by first | trivial | (simp [in64] <;> omega)) ?_
    refine AWP.eqT 3 (U16 (1#16 <<< (j + 1))) rfl (congrArg (fun z => SV.d (.v (.int .u16 z))) (dbl 1#16 j)) ?_
    refine AWP.less e ?_ ?_ ?_ ?_ ?_ (next (j + 1) hlt (by show i - (j + 1) < i - j; omega)) <;> (repeat' (first | exact True.intro | (refine And.intro ?_ ?_) | rfl | assumption))
  · obtain rfl : j = i := by simp at hlt; omega
    refine AWP.runL e tab_ok L24 300 rfl (by first | trivial | (simp [in64] <;> omega)) ?_
    refine AWP.ret e tab_ok rfl ?_
    rw [hP]
    all_goals first | rfl | (simp [strip]; done)

theorem bit1 {i k : Nat} (hk : k < 16) : (1#16 <<< i).getLsbD k = decide (k = i) := by
  by_cases e : k = i
  · subst e; simp [hk]
  · simp [hk, e]; omega
theorem with_add (n : BitVec 16) (i : Nat) (h : n.getLsbD i = false) : n + (1#16 <<< i) = wantB n i true := by
  rw [BitVec.add_eq_or_of_and_eq_zero]
  · apply BitVec.eq_of_getLsbD_eq
    intro k hk
    rw [wantB_bit _ _ _ _ hk, BitVec.getLsbD_or, bit1 hk]
    by_cases e : k = i <;> simp [e]
  · apply BitVec.eq_of_getLsbD_eq
    intro k hk
    rw [BitVec.getLsbD_and, bit1 hk]
    by_cases e : k = i
    · subst e; simp [h]
    · simp [e]
theorem with_sub (n : BitVec 16) (i : Nat) (h : n.getLsbD i = true) : n - (1#16 <<< i) = wantB n i false := by
  have h1 : (wantB n i false) + (1#16 <<< i) = n := by
    rw [with_add _ _ (by rw [wantB_bit _ _ _ _ (bit_range n h), if_pos rfl])]
    apply BitVec.eq_of_getLsbD_eq
    intro k hk
    rw [wantB_bit _ _ _ _ hk, wantB_bit _ _ _ _ hk]
    by_cases e : k = i
    · subst e; simp [h]
    · simp [e]
  rw [← h1, BitVec.add_sub_cancel, h1]
theorem with_same (n : BitVec 16) (i : Nat) (on : Bool) (h : n.getLsbD i = on) : n = wantB n i on := by
  apply BitVec.eq_of_getLsbD_eq
  intro k hk
  rw [wantB_bit _ _ _ _ hk]
  by_cases e : k = i
  · subst e; simp [h]
  · simp [e]
theorem add16 (x y : BitVec 16) : IntKind.wrap .u16 ((x.toNat : Int) + (y.toNat : Int)) = ((x + y).toNat : Int) := by
  rw [show (x.toNat : Int) + (y.toNat : Int) = ((x.toNat + y.toNat : Nat) : Int) by omega, wrapN .u16 rfl, BitVec.toNat_add]
  rfl
theorem sub16 (x y : BitVec 16) : IntKind.wrap .u16 ((x.toNat : Int) - (y.toNat : Int)) = ((x - y).toNat : Int) := by
  unfold IntKind.wrap
  have h1 := x.isLt
  have h2 := y.isLt
  rw [BitVec.toNat_sub]
  simp only [IntKind.signed, Bool.false_and, Bool.false_eq_true, if_false, IntKind.bits]
  omega

set_option maxRecDepth 100000 in
theorem with_eff (n : BitVec 16) (i : Nat) (hi : i < 16) (on : Bool) : Eff Try.prog 22 [U16 n, .i i, .b on] [] 0 (fun r _ _ => r = U16 (wantB n i on)) := by
  have hb := rbit_eff n i hi
  have hp := power_eff i hi
  refine eff_of Try.func22 rfl rfl rfl fun cx e hP => ?_
  cases on <;> cases h : n.getLsbD i <;> rw [h] at hb
  · refine AWP.runL e tab_ok L22 300 rfl (by first | trivial | (simp [in64] <;> omega)) ?_
    repeat (
      first
        | (refine AWP.askT rfl ?_; (first | (refine Told.t rfl ?_) | (refine Told.f rfl ?_) | (refine Told.t ?_ ?_; (focus (first | assumption | (simp; omega) | (simp [*]; done)); done)) | (refine Told.f ?_ ?_; (focus (first | assumption | (simp; omega) | (simp [*]; done)); done))); refine AWP.runL e tab_ok L22 300 rfl (by first | trivial | (simp [in64] <;> omega)) ?_)
        | (refine AWP.callQ e rfl rfl ?_; (first | refine CallQ.mk (hb) rfl rfl ?_ | refine CallQ.mk (hp) rfl rfl ?_); refine AWP.runL e tab_ok L22 300 rfl (by first | trivial | (simp [in64] <;> omega)) ?_)
        | (refine AWP.eq_agg e tab_ok rfl rfl rfl (.inl ⟨rfl, rfl⟩) ?_ 5 (by omega) rfl ?_ rfl rfl rfl rfl rfl rfl rfl ?_; (focus kernel_rfl); (focus kernel_rfl); refine AWP.runL e tab_ok L22 300 rfl (by first | trivial | (simp [in64] <;> omega)) ?_)
        | (refine AWP.eq_agg e tab_ok rfl rfl rfl (.inr ⟨rfl, rfl⟩) ?_ 5 (by omega) rfl ?_ rfl rfl rfl rfl rfl rfl rfl ?_; (focus kernel_rfl); (focus kernel_rfl); refine AWP.runL e tab_ok L22 300 rfl (by first | trivial | (simp [in64] <;> omega)) ?_)
      )
    refine AWP.ret e tab_ok rfl ?_
    rw [hP]
    exact congrArg U16 (with_same _ _ _ h)
  · refine AWP.runL e tab_ok L22 300 rfl (by first | trivial | (simp [in64] <;> omega)) ?_
    repeat (
      first
        | (refine AWP.askT rfl ?_; (first | (refine Told.t rfl ?_) | (refine Told.f rfl ?_) | (refine Told.t ?_ ?_; (focus (first | assumption | (simp; omega) | (simp [*]; done)); done)) | (refine Told.f ?_ ?_; (focus (first | assumption | (simp; omega) | (simp [*]; done)); done))); refine AWP.runL e tab_ok L22 300 rfl (by first | trivial | (simp [in64] <;> omega)) ?_)
        | (refine AWP.callQ e rfl rfl ?_; (first | refine CallQ.mk (hb) rfl rfl ?_ | refine CallQ.mk (hp) rfl rfl ?_); refine AWP.runL e tab_ok L22 300 rfl (by first | trivial | (simp [in64] <;> omega)) ?_)
        | (refine AWP.eq_agg e tab_ok rfl rfl rfl (.inl ⟨rfl, rfl⟩) ?_ 5 (by omega) rfl ?_ rfl rfl rfl rfl rfl rfl rfl ?_; (focus kernel_rfl); (focus kernel_rfl); refine AWP.runL e tab_ok L22 300 rfl (by first | trivial | (simp [in64] <;> omega)) ?_)
        | (refine AWP.eq_agg e tab_ok rfl rfl rfl (.inr ⟨rfl, rfl⟩) ?_ 5 (by omega) rfl ?_ rfl rfl rfl rfl rfl rfl rfl ?_; (focus kernel_rfl); (focus kernel_rfl); refine AWP.runL e tab_ok L22 300 rfl (by first | trivial | (simp [in64] <;> omega)) ?_)
      )
    refine AWP.ret e tab_ok rfl ?_
    rw [hP]
    exact congrArg (fun z => SV.d (.v (.int .u16 z))) ((sub16 _ _).trans (congrArg (fun (z : BitVec 16) => (z.toNat : Int)) (with_sub n i h)))
  · refine AWP.runL e tab_ok L22 300 rfl (by first | trivial | (simp [in64] <;> omega)) ?_
    repeat (
      first
        | (refine AWP.askT rfl ?_; (first | (refine Told.t rfl ?_) | (refine Told.f rfl ?_) | (refine Told.t ?_ ?_; (focus (first | assumption | (simp; omega) | (simp [*]; done)); done)) | (refine Told.f ?_ ?_; (focus (first | assumption | (simp; omega) | (simp [*]; done)); done))); refine AWP.runL e tab_ok L22 300 rfl (by first | trivial | (simp [in64] <;> omega)) ?_)
        | (refine AWP.callQ e rfl rfl ?_; (first | refine CallQ.mk (hb) rfl rfl ?_ | refine CallQ.mk (hp) rfl rfl ?_); refine AWP.runL e tab_ok L22 300 rfl (by first | trivial | (simp [in64] <;> omega)) ?_)
        | (refine AWP.eq_agg e tab_ok rfl rfl rfl (.inl ⟨rfl, rfl⟩) ?_ 5 (by omega) rfl ?_ rfl rfl rfl rfl rfl rfl rfl ?_; (focus kernel_rfl); (focus kernel_rfl); refine AWP.runL e tab_ok L22 300 rfl (by first | trivial | (simp [in64] <;> omega)) ?_)
        | (refine AWP.eq_agg e tab_ok rfl rfl rfl (.inr ⟨rfl, rfl⟩) ?_ 5 (by omega) rfl ?_ rfl rfl rfl rfl rfl rfl rfl ?_; (focus kernel_rfl); (focus kernel_rfl); refine AWP.runL e tab_ok L22 300 rfl (by first | trivial | (simp [in64] <;> omega)) ?_)
      )
    refine AWP.ret e tab_ok rfl ?_
    rw [hP]
    exact congrArg (fun z => SV.d (.v (.int .u16 z))) ((add16 _ _).trans (congrArg (fun (z : BitVec 16) => (z.toNat : Int)) (with_add n i h)))
  · refine AWP.runL e tab_ok L22 300 rfl (by first | trivial | (simp [in64] <;> omega)) ?_
    repeat (
      first
        | (refine AWP.askT rfl ?_; (first | (refine Told.t rfl ?_) | (refine Told.f rfl ?_) | (refine Told.t ?_ ?_; (focus (first | assumption | (simp; omega) | (simp [*]; done)); done)) | (refine Told.f ?_ ?_; (focus (first | assumption | (simp; omega) | (simp [*]; done)); done))); refine AWP.runL e tab_ok L22 300 rfl (by first | trivial | (simp [in64] <;> omega)) ?_)
        | (refine AWP.callQ e rfl rfl ?_; (first | refine CallQ.mk (hb) rfl rfl ?_ | refine CallQ.mk (hp) rfl rfl ?_); refine AWP.runL e tab_ok L22 300 rfl (by first | trivial | (simp [in64] <;> omega)) ?_)
        | (refine AWP.eq_agg e tab_ok rfl rfl rfl (.inl ⟨rfl, rfl⟩) ?_ 5 (by omega) rfl ?_ rfl rfl rfl rfl rfl rfl rfl ?_; (focus kernel_rfl); (focus kernel_rfl); refine AWP.runL e tab_ok L22 300 rfl (by first | trivial | (simp [in64] <;> omega)) ?_)
        | (refine AWP.eq_agg e tab_ok rfl rfl rfl (.inr ⟨rfl, rfl⟩) ?_ 5 (by omega) rfl ?_ rfl rfl rfl rfl rfl rfl rfl ?_; (focus kernel_rfl); (focus kernel_rfl); refine AWP.runL e tab_ok L22 300 rfl (by first | trivial | (simp [in64] <;> omega)) ?_)
      )
    refine AWP.ret e tab_ok rfl ?_
    rw [hP]
    exact congrArg U16 (with_same _ _ _ h)

def actR (m o : BitVec 16) (s : Nat → Int) : Nat → BitVec 16
  | 0 => 0#16
  | i + 1 => wantB (actR m o s i) i (m.getLsbD i && (o.getLsbD i || decide (s i > 0)))
theorem actR_bit (m o : BitVec 16) (s : Nat → Int) (k : Nat) (hk : k < 16) : ∀ n, (actR m o s n).getLsbD k = (decide (k < n) && (m.getLsbD k && (o.getLsbD k || decide (s k > 0))))
  | 0 => by simp [actR]
  | n + 1 => by
    unfold actR
    rw [wantB_bit _ _ _ _ hk, actR_bit m o s k hk n]
    by_cases e : k = n
    · subst e; simp
    · rw [if_neg e]
      rw [show decide (k < n + 1) = decide (k < n) by exact decide_eq_decide.2 (by omega)]
theorem actR_all (m o : BitVec 16) (s : Nat → Int) : actR m o s 16 = actN o s 16 &&& m := by
  apply BitVec.eq_of_getLsbD_eq
  intro k hk
  rw [actR_bit _ _ _ _ hk, BitVec.getLsbD_and, actN_bit _ _ _ hk]
  simp [hk, Bool.and_comm]

set_option maxHeartbeats 1000000 in
set_option maxRecDepth 100000 in
theorem ractive_eff (m o : BitVec 16) (s : Nat → Int) (l : Int) : Eff Try.prog 21 [pn m o s l] [] 0 (fun r _ _ => r = U16 (actN o s 16 &&& m)) := by
  refine eff_of Try.func21 rfl rfl rfl fun cx e hP => ?_
  refine AWP.runL e tab_ok L21 300 rfl (by first | trivial | (simp [in64] <;> omega)) ?_
  refine AWP.loop (ι := Nat) (fun i => ⟨[(4, .i i), (1, .ptr 0 0), (3, U16 (actR m o s i))], [(0, .box (pnC m o s l))], 1⟩) (fun i => i ≤ 16) (fun i => 16 - i) 0 (Nat.zero_le _) ?_ ?_
  · intro g
    refine AWP.less e ?_ ?_ ?_ ?_ ?_ (g) <;> (repeat' (first | exact True.intro | (refine And.intro ?_ ?_) | rfl | assumption))
  rintro i Φ hI next
  have hI : i ≤ 16 := hI
  refine AWP.runL e tab_ok L21 300 rfl (by first | trivial | (simp [in64] <;> omega)) ?_
  refine AWP.cond2 rfl (fun hlt => ?_) (fun hlt => ?_)
  rotate_left
  · obtain rfl : i = 16 := by simp at hlt; omega
    refine AWP.runL e tab_ok L21 300 rfl (by first | trivial | (simp [in64] <;> omega)) ?_
    refine AWP.ret e tab_ok rfl ?_
    rw [hP]
    exact congrArg U16 (actR_all m o s)
  have hlt : i < 16 := by simp at hlt; omega
  have hb1 := rbit_eff m i hlt
  have hb2 := rbit_eff o i hlt
  have nx := next (i + 1) hlt (by show 16 - (i + 1) < 16 - i; omega)
  have hw := fun v => with_eff (actR m o s i) i hlt v
  have ev : wantB (actR m o s i) i (m.getLsbD i && (o.getLsbD i || decide (s i > 0))) = actR m o s (i + 1) := rfl
  cases c1 : m.getLsbD i <;> rw [c1] at hb1 ev
  · have hw := hw false
    rw [show wantB (actR m o s i) i false = actR m o s (i + 1) from ev] at hw
    refine AWP.runL e tab_ok L21 300 rfl (by first | trivial | (simp [in64] <;> omega)) ?_
    repeat (
      first
        | (refine AWP.askT rfl ?_; (first | (refine Told.t rfl ?_) | (refine Told.f rfl ?_) | (refine Told.t ?_ ?_; (focus (first | assumption | (simp; omega) | (simp [*]; done)); done)) | (refine Told.f ?_ ?_; (focus (first | assumption | (simp; omega) | (simp [*]; done)); done))); refine AWP.runL e tab_ok L21 300 rfl (by first | trivial | (simp [in64] <;> omega)) ?_)
        | (refine AWP.callQ e rfl rfl ?_; (first | refine CallQ.mk (hb1) rfl rfl ?_ | refine CallQ.mk (hb2) rfl rfl ?_ | refine CallQ.mk (hw) rfl rfl ?_); refine AWP.runL e tab_ok L21 300 rfl (by first | trivial | (simp [in64] <;> omega)) ?_)
        | (refine AWP.eq_agg e tab_ok rfl rfl rfl (.inl ⟨rfl, rfl⟩) ?_ 5 (by omega) rfl ?_ rfl rfl rfl rfl rfl rfl rfl ?_; (focus kernel_rfl); (focus kernel_rfl); refine AWP.runL e tab_ok L21 300 rfl (by first | trivial | (simp [in64] <;> omega)) ?_)
        | (refine AWP.eq_agg e tab_ok rfl rfl rfl (.inr ⟨rfl, rfl⟩) ?_ 5 (by omega) rfl ?_ rfl rfl rfl rfl rfl rfl rfl ?_; (focus kernel_rfl); (focus kernel_rfl); refine AWP.runL e tab_ok L21 300 rfl (by first | trivial | (simp [in64] <;> omega)) ?_)
        | (refine AWP.keep L21 rfl ?_; refine AWP.drg 100 ?_; (refine DrG.runS e tab_ok 200 rfl (by first | trivial | (simp [in64] <;> omega)) ?_); (repeat (first | (refine DrG.askT rfl ?_; (first | (refine Told.t rfl ?_) | (refine Told.f rfl ?_) | (refine Told.t ?_ ?_; (focus (first | assumption | (simp; omega) | (simp [*]; done)); done)) | (refine Told.f ?_ ?_; (focus (first | assumption | (simp; omega) | (simp [*]; done)); done))); (refine DrG.runS e tab_ok 200 rfl (by first | trivial | (simp [in64] <;> omega)) ?_)) | (refine DrG.callQ e rfl rfl ?_; (first | refine CallVQ.mk (hb1) rfl rfl ?_ | refine CallVQ.mk (hb2) rfl rfl ?_ | refine CallVQ.mk (hw) rfl rfl ?_); (refine DrG.runS e tab_ok 200 rfl (by first | trivial | (simp [in64] <;> omega)) ?_)) | (refine DrG.callGo e rfl rfl rfl ?_; (first | refine CallVQ.mk (hb1) rfl rfl ?_ | refine CallVQ.mk (hb2) rfl rfl ?_ | refine CallVQ.mk (hw) rfl rfl ?_); (refine DrG.runS e tab_ok 200 rfl (by first | trivial | (simp [in64] <;> omega)) ?_)) | (refine DrG.eq_agg e tab_ok rfl rfl rfl (.inl ⟨rfl, rfl⟩) ?_ 5 (by omega) rfl ?_ rfl rfl rfl rfl rfl rfl rfl ?_; (focus kernel_rfl); (focus kernel_rfl); (refine DrG.runS e tab_ok 200 rfl (by first | trivial | (simp [in64] <;> omega)) ?_)) | (refine DrG.eq_aggGo e tab_ok rfl rfl rfl rfl (.inl ⟨rfl, rfl⟩) ?_ 5 (by omega) rfl ?_ rfl rfl rfl rfl rfl rfl rfl ?_; (focus kernel_rfl); (focus kernel_rfl); (refine DrG.runS e tab_ok 200 rfl (by first | trivial | (simp [in64] <;> omega)) ?_)) | (refine DrG.eq_agg e tab_ok rfl rfl rfl (.inr ⟨rfl, rfl⟩) ?_ 5 (by omega) rfl ?_ rfl rfl rfl rfl rfl rfl rfl ?_; (focus kernel_rfl); (focus kernel_rfl); (refine DrG.runS e tab_ok 200 rfl (by first | trivial | (simp [in64] <;> omega)) ?_)) | (refine DrG.eq_aggGo e tab_ok rfl rfl rfl rfl (.inr ⟨rfl, rfl⟩) ?_ 5 (by omega) rfl ?_ rfl rfl rfl rfl rfl rfl rfl ?_; (focus kernel_rfl); (focus kernel_rfl); (refine DrG.runS e tab_ok 200 rfl (by first | trivial | (simp [in64] <;> omega)) ?_)))); refine DrG.finK e rfl ?_ rfl rfl rfl ?_ ?_; (focus kernel_rfl); (focus (repeat' (first | exact True.intro | (refine And.intro ?_ ?_) | rfl | assumption | exact okRow _))); dsimp only [tmS, hpS, tput, effH]; refine AWP.runL e tab_ok L21 300 rfl (by first | trivial | (simp [in64] <;> omega)) ?_)
      )
    refine AWP.less e ?_ ?_ ?_ ?_ ?_ (nx) <;> (repeat' (first | exact True.intro | (refine And.intro ?_ ?_) | rfl | assumption))
  cases c2 : o.getLsbD i <;> rw [c2] at hb2 ev
  · have hw := hw (decide (s i > 0))
    rw [show wantB (actR m o s i) i (decide (s i > 0)) = actR m o s (i + 1) by rw [← ev]; simp] at hw
    refine AWP.runL e tab_ok L21 300 rfl (by first | trivial | (simp [in64] <;> omega)) ?_
    repeat (
      first
        | (refine AWP.askT rfl ?_; (first | (refine Told.t rfl ?_) | (refine Told.f rfl ?_) | (refine Told.t ?_ ?_; (focus (first | assumption | (simp; omega) | (simp [*]; done)); done)) | (refine Told.f ?_ ?_; (focus (first | assumption | (simp; omega) | (simp [*]; done)); done))); refine AWP.runL e tab_ok L21 300 rfl (by first | trivial | (simp [in64] <;> omega)) ?_)
        | (refine AWP.callQ e rfl rfl ?_; (first | refine CallQ.mk (hb1) rfl rfl ?_ | refine CallQ.mk (hb2) rfl rfl ?_ | refine CallQ.mk (hw) rfl rfl ?_); refine AWP.runL e tab_ok L21 300 rfl (by first | trivial | (simp [in64] <;> omega)) ?_)
        | (refine AWP.idx_pel e tab_ok rfl rfl rfl rfl rfl _ rfl ?_ ?_; (focus (first | assumption | omega | decide)); refine AWP.runL e tab_ok L21 300 rfl (by first | trivial | (simp [in64] <;> omega)) ?_)
        | (refine AWP.load_pel e tab_ok _ rfl rfl rfl rfl rfl (pn_at (by simp) hlt) ?_; refine AWP.runL e tab_ok L21 300 rfl (by first | trivial | (simp [in64] <;> omega)) ?_)
        | (refine AWP.eq_agg e tab_ok rfl rfl rfl (.inl ⟨rfl, rfl⟩) ?_ 5 (by omega) rfl ?_ rfl rfl rfl rfl rfl rfl rfl ?_; (focus kernel_rfl); (focus kernel_rfl); refine AWP.runL e tab_ok L21 300 rfl (by first | trivial | (simp [in64] <;> omega)) ?_)
        | (refine AWP.eq_agg e tab_ok rfl rfl rfl (.inr ⟨rfl, rfl⟩) ?_ 5 (by omega) rfl ?_ rfl rfl rfl rfl rfl rfl rfl ?_; (focus kernel_rfl); (focus kernel_rfl); refine AWP.runL e tab_ok L21 300 rfl (by first | trivial | (simp [in64] <;> omega)) ?_)
        | (refine AWP.keep L21 rfl ?_; refine AWP.drg 100 ?_; (refine DrG.runS e tab_ok 200 rfl (by first | trivial | (simp [in64] <;> omega)) ?_); (repeat (first | (refine DrG.askT rfl ?_; (first | (refine Told.t rfl ?_) | (refine Told.f rfl ?_) | (refine Told.t ?_ ?_; (focus (first | assumption | (simp; omega) | (simp [*]; done)); done)) | (refine Told.f ?_ ?_; (focus (first | assumption | (simp; omega) | (simp [*]; done)); done))); (refine DrG.runS e tab_ok 200 rfl (by first | trivial | (simp [in64] <;> omega)) ?_)) | (refine DrG.idx_pel e tab_ok rfl rfl rfl rfl rfl _ rfl ?_ rfl ?_; (focus (first | assumption | omega | decide)); (refine DrG.runS e tab_ok 200 rfl (by first | trivial | (simp [in64] <;> omega)) ?_)) | (refine DrG.idx_pelGo e tab_ok rfl rfl rfl rfl rfl rfl _ rfl ?_ rfl ?_; (focus (first | assumption | omega | decide)); (refine DrG.runS e tab_ok 200 rfl (by first | trivial | (simp [in64] <;> omega)) ?_)) | (refine DrG.load_pel e tab_ok _ rfl rfl rfl rfl rfl (pn_at (by simp) hlt) rfl ?_; (refine DrG.runS e tab_ok 200 rfl (by first | trivial | (simp [in64] <;> omega)) ?_)) | (refine DrG.load_pelGo e tab_ok _ rfl rfl rfl rfl rfl rfl (pn_at (by simp) hlt) rfl ?_; (refine DrG.runS e tab_ok 200 rfl (by first | trivial | (simp [in64] <;> omega)) ?_)) | (refine DrG.callQ e rfl rfl ?_; (first | refine CallVQ.mk (hb1) rfl rfl ?_ | refine CallVQ.mk (hb2) rfl rfl ?_ | refine CallVQ.mk (hw) rfl rfl ?_); (refine DrG.runS e tab_ok 200 rfl (by first | trivial | (simp [in64] <;> omega)) ?_)) | (refine DrG.callGo e rfl rfl rfl ?_; (first | refine CallVQ.mk (hb1) rfl rfl ?_ | refine CallVQ.mk (hb2) rfl rfl ?_ | refine CallVQ.mk (hw) rfl rfl ?_); (refine DrG.runS e tab_ok 200 rfl (by first | trivial | (simp [in64] <;> omega)) ?_)) | (refine DrG.eq_agg e tab_ok rfl rfl rfl (.inl ⟨rfl, rfl⟩) ?_ 5 (by omega) rfl ?_ rfl rfl rfl rfl rfl rfl rfl ?_; (focus kernel_rfl); (focus kernel_rfl); (refine DrG.runS e tab_ok 200 rfl (by first | trivial | (simp [in64] <;> omega)) ?_)) | (refine DrG.eq_aggGo e tab_ok rfl rfl rfl rfl (.inl ⟨rfl, rfl⟩) ?_ 5 (by omega) rfl ?_ rfl rfl rfl rfl rfl rfl rfl ?_; (focus kernel_rfl); (focus kernel_rfl); (refine DrG.runS e tab_ok 200 rfl (by first | trivial | (simp [in64] <;> omega)) ?_)) | (refine DrG.eq_agg e tab_ok rfl rfl rfl (.inr ⟨rfl, rfl⟩) ?_ 5 (by omega) rfl ?_ rfl rfl rfl rfl rfl rfl rfl ?_; (focus kernel_rfl); (focus kernel_rfl); (refine DrG.runS e tab_ok 200 rfl (by first | trivial | (simp [in64] <;> omega)) ?_)) | (refine DrG.eq_aggGo e tab_ok rfl rfl rfl rfl (.inr ⟨rfl, rfl⟩) ?_ 5 (by omega) rfl ?_ rfl rfl rfl rfl rfl rfl rfl ?_; (focus kernel_rfl); (focus kernel_rfl); (refine DrG.runS e tab_ok 200 rfl (by first | trivial | (simp [in64] <;> omega)) ?_)))); refine DrG.finK e rfl ?_ rfl rfl rfl ?_ ?_; (focus kernel_rfl); (focus (repeat' (first | exact True.intro | (refine And.intro ?_ ?_) | rfl | assumption | exact okRow _))); dsimp only [tmS, hpS, tput, effH]; refine AWP.runL e tab_ok L21 300 rfl (by first | trivial | (simp [in64] <;> omega)) ?_)
      )
    refine AWP.less e ?_ ?_ ?_ ?_ ?_ (nx) <;> (repeat' (first | exact True.intro | (refine And.intro ?_ ?_) | rfl | assumption))
  · have hw := hw true
    rw [show wantB (actR m o s i) i true = actR m o s (i + 1) by rw [← ev]; simp] at hw
    refine AWP.runL e tab_ok L21 300 rfl (by first | trivial | (simp [in64] <;> omega)) ?_
    repeat (
      first
        | (refine AWP.askT rfl ?_; (first | (refine Told.t rfl ?_) | (refine Told.f rfl ?_) | (refine Told.t ?_ ?_; (focus (first | assumption | (simp; omega) | (simp [*]; done)); done)) | (refine Told.f ?_ ?_; (focus (first | assumption | (simp; omega) | (simp [*]; done)); done))); refine AWP.runL e tab_ok L21 300 rfl (by first | trivial | (simp [in64] <;> omega)) ?_)
        | (refine AWP.callQ e rfl rfl ?_; (first | refine CallQ.mk (hb1) rfl rfl ?_ | refine CallQ.mk (hb2) rfl rfl ?_ | refine CallQ.mk (hw) rfl rfl ?_); refine AWP.runL e tab_ok L21 300 rfl (by first | trivial | (simp [in64] <;> omega)) ?_)
        | (refine AWP.eq_agg e tab_ok rfl rfl rfl (.inl ⟨rfl, rfl⟩) ?_ 5 (by omega) rfl ?_ rfl rfl rfl rfl rfl rfl rfl ?_; (focus kernel_rfl); (focus kernel_rfl); refine AWP.runL e tab_ok L21 300 rfl (by first | trivial | (simp [in64] <;> omega)) ?_)
        | (refine AWP.eq_agg e tab_ok rfl rfl rfl (.inr ⟨rfl, rfl⟩) ?_ 5 (by omega) rfl ?_ rfl rfl rfl rfl rfl rfl rfl ?_; (focus kernel_rfl); (focus kernel_rfl); refine AWP.runL e tab_ok L21 300 rfl (by first | trivial | (simp [in64] <;> omega)) ?_)
        | (refine AWP.keep L21 rfl ?_; refine AWP.drg 100 ?_; (refine DrG.runS e tab_ok 200 rfl (by first | trivial | (simp [in64] <;> omega)) ?_); (repeat (first | (refine DrG.askT rfl ?_; (first | (refine Told.t rfl ?_) | (refine Told.f rfl ?_) | (refine Told.t ?_ ?_; (focus (first | assumption | (simp; omega) | (simp [*]; done)); done)) | (refine Told.f ?_ ?_; (focus (first | assumption | (simp; omega) | (simp [*]; done)); done))); (refine DrG.runS e tab_ok 200 rfl (by first | trivial | (simp [in64] <;> omega)) ?_)) | (refine DrG.callQ e rfl rfl ?_; (first | refine CallVQ.mk (hb1) rfl rfl ?_ | refine CallVQ.mk (hb2) rfl rfl ?_ | refine CallVQ.mk (hw) rfl rfl ?_); (refine DrG.runS e tab_ok 200 rfl (by first | trivial | (simp [in64] <;> omega)) ?_)) | (refine DrG.callGo e rfl rfl rfl ?_; (first | refine CallVQ.mk (hb1) rfl rfl ?_ | refine CallVQ.mk (hb2) rfl rfl ?_ | refine CallVQ.mk (hw) rfl rfl ?_); (refine DrG.runS e tab_ok 200 rfl (by first | trivial | (simp [in64] <;> omega)) ?_)) | (refine DrG.eq_agg e tab_ok rfl rfl rfl (.inl ⟨rfl, rfl⟩) ?_ 5 (by omega) rfl ?_ rfl rfl rfl rfl rfl rfl rfl ?_; (focus kernel_rfl); (focus kernel_rfl); (refine DrG.runS e tab_ok 200 rfl (by first | trivial | (simp [in64] <;> omega)) ?_)) | (refine DrG.eq_aggGo e tab_ok rfl rfl rfl rfl (.inl ⟨rfl, rfl⟩) ?_ 5 (by omega) rfl ?_ rfl rfl rfl rfl rfl rfl rfl ?_; (focus kernel_rfl); (focus kernel_rfl); (refine DrG.runS e tab_ok 200 rfl (by first | trivial | (simp [in64] <;> omega)) ?_)) | (refine DrG.eq_agg e tab_ok rfl rfl rfl (.inr ⟨rfl, rfl⟩) ?_ 5 (by omega) rfl ?_ rfl rfl rfl rfl rfl rfl rfl ?_; (focus kernel_rfl); (focus kernel_rfl); (refine DrG.runS e tab_ok 200 rfl (by first | trivial | (simp [in64] <;> omega)) ?_)) | (refine DrG.eq_aggGo e tab_ok rfl rfl rfl rfl (.inr ⟨rfl, rfl⟩) ?_ 5 (by omega) rfl ?_ rfl rfl rfl rfl rfl rfl rfl ?_; (focus kernel_rfl); (focus kernel_rfl); (refine DrG.runS e tab_ok 200 rfl (by first | trivial | (simp [in64] <;> omega)) ?_)))); refine DrG.finK e rfl ?_ rfl rfl rfl ?_ ?_; (focus kernel_rfl); (focus (repeat' (first | exact True.intro | (refine And.intro ?_ ?_) | rfl | assumption | exact okRow _))); dsimp only [tmS, hpS, tput, effH]; refine AWP.runL e tab_ok L21 300 rfl (by first | trivial | (simp [in64] <;> omega)) ?_)
      )
    refine AWP.less e ?_ ?_ ?_ ?_ ?_ (nx) <;> (repeat' (first | exact True.intro | (refine And.intro ?_ ?_) | rfl | assumption))
end Go.Proofs.Ytdjhmlmdcfgphaa
