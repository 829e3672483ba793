import Derived.Test.YtfjeahijdnmloaaF1
open Go Go.Proofs Go.Sy
namespace Go.Proofs.Ytfjeahijdnmloaa

set_option maxRecDepth 100000 in
theorem alive_eff : Eff Try.prog 5 [] [] 0 (fun r _ _ => r = .b true) := by
  have h1 := new_ok 1 1 9 ⟨by omega, by omega, by omega, by omega, by omega, by omega, by omega, by omega⟩
  have h2 := want_t 1 1 9 ⟨by omega, by omega, by omega, by omega, by omega, by omega, by omega, by omega⟩
  have h3 := off_1 0 1 1 9 ⟨by omega, by omega, by omega, by omega, by omega, by omega, by omega, by omega⟩ (by omega) (by omega)
  have h4 := tick_2 (0 + 1) 1 1 9 ⟨by omega, by omega, by omega, by omega, by omega, by omega, by omega, by omega⟩
  have h5 := full_1 (0 + 1) 1 1 9 ⟨by omega, by omega, by omega, by omega, by omega, by omega, by omega, by omega⟩
  refine eff_of Try.func5 rfl rfl rfl fun cx e hP => ?_
  refine AWP.runL e tab_ok L5 300 rfl (by first | trivial | (simp [in64] <;> omega)) ?_
  repeat (
    first
      | (refine AWP.askT rfl ?_; (first | (refine Told.t rfl ?_) | (refine Told.f rfl ?_) | (refine Told.t ?_ ?_; (focus (first | assumption | (simp; omega) | (simp [*]; done)); done)) | (refine Told.f ?_ ?_; (focus (first | assumption | (simp; omega) | (simp [*]; done)); done))); refine AWP.runL e tab_ok L5 300 rfl (by first | trivial | (simp [in64] <;> omega)) ?_)
      | (refine AWP.callQ e rfl rfl ?_; (first | refine CallQ.mk (h1) rfl rfl ?_ | refine CallQ.mk (h2) rfl rfl ?_ | refine CallQ.mk (h3) rfl rfl ?_ | refine CallQ.mk (h4) rfl rfl ?_ | refine CallQ.mk (h5) rfl rfl ?_); refine AWP.runL e tab_ok L5 300 rfl (by first | trivial | (simp [in64] <;> omega)) ?_)
      | (refine AWP.eq_agg e tab_ok rfl rfl rfl (.inl ⟨rfl, rfl⟩) ?_ 5 (by omega) rfl ?_ rfl rfl rfl rfl rfl rfl rfl ?_; (focus kernel_rfl); (focus kernel_rfl); refine AWP.runL e tab_ok L5 300 rfl (by first | trivial | (simp [in64] <;> omega)) ?_)
      | (refine AWP.eq_agg e tab_ok rfl rfl rfl (.inr ⟨rfl, rfl⟩) ?_ 5 (by omega) rfl ?_ rfl rfl rfl rfl rfl rfl rfl ?_; (focus kernel_rfl); (focus kernel_rfl); refine AWP.runL e tab_ok L5 300 rfl (by first | trivial | (simp [in64] <;> omega)) ?_)
    )
  refine AWP.ret e tab_ok rfl ?_
  rw [hP]
  all_goals first | rfl | (simp [strip]; done)

set_option maxHeartbeats 1000000 in
set_option maxRecDepth 100000 in
theorem rests_eff (fast many slow ticks : Int) : Eff Try.prog 3 [.i fast, .i many, .i slow, .i ticks] [] 0 (fun r _ _ => r = .b true) := by
  obtain ⟨f, hf⟩ : ∃ f, f = if 100 < (if 1 > fast then 1 else fast) then 100 else if 1 > fast then 1 else fast := ⟨_, rfl⟩
  obtain ⟨m, hm⟩ : ∃ m, m = if 100 < (if 0 > many then 0 else many) then 100 else if 0 > many then 0 else many := ⟨_, rfl⟩
  obtain ⟨w, hw⟩ : ∃ w, w = if 100 < (if 1 > slow then 1 else slow) then 100 else if 1 > slow then 1 else slow := ⟨_, rfl⟩
  obtain ⟨n, hn⟩ : ∃ n : Nat, (n : Int) = if 200 < (if 0 > ticks then 0 else ticks) then 200 else if 0 > ticks then 0 else ticks := ⟨(if 200 < (if 0 > ticks then 0 else ticks) then 200 else if 0 > ticks then 0 else ticks).toNat, by split <;> split <;> omega⟩
  have f1 : 1 ≤ f ∧ f ≤ 100 := by rw [hf]; split <;> split <;> omega
  have m1 : 0 ≤ m ∧ m ≤ 100 := by rw [hm]; split <;> split <;> omega
  have w1 : 1 ≤ w ∧ w ≤ 100 := by rw [hw]; split <;> split <;> omega
  have n1 : n ≤ 200 := by revert hn; split <;> split <;> omega
  have h0 : RightP 0 false 0 0 f m w := ⟨by omega, by omega, by omega, by omega, by omega, by omega, by omega, by omega⟩
  have h1 : RightP 1 true 0 0 f m w := ⟨by omega, by omega, by omega, by omega, by omega, by omega, by omega, by omega⟩
  have c1 := new_ok f m w h0
  have c2 := off_0 f m w h0
  have c3 := good_0 f m w h0
  have c4 := tick_0 f m w h0
  have c5 := full_0 f m w h0
  have c6 := want_t f m w h0
  have c7 := want_f 0 f m w h1
  have c8 := full_1 0 f m w h1
  refine eff_of Try.func3 rfl rfl rfl fun cx e hP => ?_
  refine AWP.runL e tab_ok L3 300 rfl (by first | trivial | (simp [in64] <;> omega)) ?_
  refine AWP.eqT 32 (.i f) rfl (congrArg SV.i hf.symm) ?_
  refine AWP.eqT 33 (.i m) rfl (congrArg SV.i hm.symm) ?_
  refine AWP.eqT 34 (.i w) rfl (congrArg SV.i hw.symm) ?_
  clear hf hm hw
  repeat (
    first
      | (refine AWP.askT rfl ?_; (first | (refine Told.t rfl ?_) | (refine Told.f rfl ?_) | (refine Told.t ?_ ?_; (focus (first | assumption | (simp; omega) | (simp [*]; done)); done)) | (refine Told.f ?_ ?_; (focus (first | assumption | (simp; omega) | (simp [*]; done)); done))); refine AWP.runL e tab_ok L3 300 rfl (by first | trivial | (simp [in64] <;> omega)) ?_)
      | (refine AWP.callQ e rfl rfl ?_; (first | refine CallQ.mk (c1) rfl rfl ?_ | refine CallQ.mk (alive_eff) rfl rfl ?_); refine AWP.runL e tab_ok L3 300 rfl (by first | trivial | (simp [in64] <;> omega)) ?_)
      | (refine AWP.eq_agg e tab_ok rfl rfl rfl (.inl ⟨rfl, rfl⟩) ?_ 5 (by omega) rfl ?_ rfl rfl rfl rfl rfl rfl rfl ?_; (focus kernel_rfl); (focus kernel_rfl); refine AWP.runL e tab_ok L3 300 rfl (by first | trivial | (simp [in64] <;> omega)) ?_)
      | (refine AWP.eq_agg e tab_ok rfl rfl rfl (.inr ⟨rfl, rfl⟩) ?_ 5 (by omega) rfl ?_ rfl rfl rfl rfl rfl rfl rfl ?_; (focus kernel_rfl); (focus kernel_rfl); refine AWP.runL e tab_ok L3 300 rfl (by first | trivial | (simp [in64] <;> omega)) ?_)
    )
  refine AWP.eqT 46 (.i n) rfl (congrArg SV.i hn.symm) ?_
  clear hn
  refine AWP.loop (ι := Nat) (fun i => ⟨[(47, .i i), (46, .i n), (9, .ptr 0 0)], [(0, .box [.i 0, .b false, .i 0, .i 0, .i f, .i m, .i w])], 1⟩) (fun i => i ≤ n) (fun i => n - i) 0 (Nat.zero_le _) ?_ ?_
  · intro g
    refine AWP.less e ?_ ?_ ?_ ?_ ?_ (g) <;> (repeat' (first | exact True.intro | (refine And.intro ?_ ?_) | rfl | assumption))
  rintro i Φ hI next
  have hI : i ≤ n := hI
  refine AWP.runL e tab_ok L3 300 rfl (by first | trivial | (simp [in64] <;> omega)) ?_
  refine AWP.cond2 rfl (fun hlt => ?_) (fun hlt => ?_)
  · have hlt : i < n := by simp at hlt; omega
    have nx := next (i + 1) hlt (by show n - (i + 1) < n - i; omega)
    refine AWP.runL e tab_ok L3 300 rfl (by first | trivial | (simp [in64] <;> omega)) ?_
    repeat (
      first
        | (refine AWP.askT rfl ?_; (first | (refine Told.t rfl ?_) | (refine Told.f rfl ?_) | (refine Told.t ?_ ?_; (focus (first | assumption | (simp; omega) | (simp [*]; done)); done)) | (refine Told.f ?_ ?_; (focus (first | assumption | (simp; omega) | (simp [*]; done)); done))); refine AWP.runL e tab_ok L3 300 rfl (by first | trivial | (simp [in64] <;> omega)) ?_)
        | (refine AWP.callQ e rfl rfl ?_; (first | refine CallQ.mk (c2) rfl rfl ?_ | refine CallQ.mk (c3) rfl rfl ?_ | refine CallQ.mk (c4) rfl rfl ?_ | refine CallQ.mk (c5) rfl rfl ?_); refine AWP.runL e tab_ok L3 300 rfl (by first | trivial | (simp [in64] <;> omega)) ?_)
        | (refine AWP.eq_agg e tab_ok rfl rfl rfl (.inl ⟨rfl, rfl⟩) ?_ 5 (by omega) rfl ?_ rfl rfl rfl rfl rfl rfl rfl ?_; (focus kernel_rfl); (focus kernel_rfl); refine AWP.runL e tab_ok L3 300 rfl (by first | trivial | (simp [in64] <;> omega)) ?_)
        | (refine AWP.eq_agg e tab_ok rfl rfl rfl (.inr ⟨rfl, rfl⟩) ?_ 5 (by omega) rfl ?_ rfl rfl rfl rfl rfl rfl rfl ?_; (focus kernel_rfl); (focus kernel_rfl); refine AWP.runL e tab_ok L3 300 rfl (by first | trivial | (simp [in64] <;> omega)) ?_)
      )
    refine AWP.less e ?_ ?_ ?_ ?_ ?_ (nx) <;> (repeat' (first | exact True.intro | (refine And.intro ?_ ?_) | rfl | assumption))
  · obtain rfl : i = n := by simp at hlt; omega
    refine AWP.runL e tab_ok L3 300 rfl (by first | trivial | (simp [in64] <;> omega)) ?_
    repeat (
      first
        | (refine AWP.askT rfl ?_; (first | (refine Told.t rfl ?_) | (refine Told.f rfl ?_) | (refine Told.t ?_ ?_; (focus (first | assumption | (simp; omega) | (simp [*]; done)); done)) | (refine Told.f ?_ ?_; (focus (first | assumption | (simp; omega) | (simp [*]; done)); done))); refine AWP.runL e tab_ok L3 300 rfl (by first | trivial | (simp [in64] <;> omega)) ?_)
        | (refine AWP.callQ e rfl rfl ?_; (first | refine CallQ.mk (c6) rfl rfl ?_ | refine CallQ.mk (c7) rfl rfl ?_ | refine CallQ.mk (c8) rfl rfl ?_); refine AWP.runL e tab_ok L3 300 rfl (by first | trivial | (simp [in64] <;> omega)) ?_)
        | (refine AWP.eq_agg e tab_ok rfl rfl rfl (.inl ⟨rfl, rfl⟩) ?_ 5 (by omega) rfl ?_ rfl rfl rfl rfl rfl rfl rfl ?_; (focus kernel_rfl); (focus kernel_rfl); refine AWP.runL e tab_ok L3 300 rfl (by first | trivial | (simp [in64] <;> omega)) ?_)
        | (refine AWP.eq_agg e tab_ok rfl rfl rfl (.inr ⟨rfl, rfl⟩) ?_ 5 (by omega) rfl ?_ rfl rfl rfl rfl rfl rfl rfl ?_; (focus kernel_rfl); (focus kernel_rfl); refine AWP.runL e tab_ok L3 300 rfl (by first | trivial | (simp [in64] <;> omega)) ?_)
      )
    refine AWP.ret e tab_ok rfl ?_
    rw [hP]
    exact congrArg SV.b (by simp)

theorem rests_args (l : List SV) (h : Args tab 9 [3, 3, 3, 3] l) : Eff Try.prog 3 l [] 0 (fun r _ _ => r = .b true) := by
  obtain ⟨_, _, rfl, ⟨a, rfl, _, _⟩, _, _, rfl, ⟨b, rfl, _, _⟩, _, _, rfl, ⟨c, rfl, _, _⟩, _, _, rfl, ⟨d, rfl, _, _⟩, rfl⟩ := h
  exact rests_eff a b c d
end Go.Proofs.Ytfjeahijdnmloaa
