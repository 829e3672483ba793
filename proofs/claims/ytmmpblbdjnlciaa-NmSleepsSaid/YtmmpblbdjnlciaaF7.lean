import Derived.Test.YtmmpblbdjnlciaaF6
open Go Go.Proofs Go.Sy
namespace Go.Proofs.Ytmmpblbdjnlciaa

theorem tmod_nn (i E : Nat) : Int.tmod (i : Int) (E : Int) = ((i % E : Nat) : Int) := by
  rw [Int.tmod_eq_emod_of_nonneg (by omega)]; rfl

abbrev rC (C H W q : Int) : List SV := [.i 4, .b false, .i 0, .i 0, .i q, .i 0, .i 0, .i C, .i H, .i W]
abbrev zC (C H W : Int) : List SV := [.i 0, .b false, .i 0, .i 0, .i 0, .i 0, .i 0, .i C, .i H, .i W]
section
variable (C H W : Int) (hp : OkP ⟨0, C, H, W⟩)
include hp
theorem r_new : Eff Try.prog 6 [.i 0, .i C, .i H, .i W] [] 0 (fun r _ _ => r = .tup [.agg (zC C H W), .i 0]) := newq _ hp
theorem r_wake : Eff Try.prog 12 [.agg (zC C H W)] [] 0 (fun r _ _ => r = .tup [.agg (rC C H W H), .i 0]) := wakeq _ hp .sleep trivial
theorem r_tick (q : Int) (h : 2 ≤ q) (h2 : q ≤ H) : Eff Try.prog 10 [.agg (rC C H W q)] [] 0 (fun r _ _ => r = .tup [.agg (rC C H W (q - 1)), .b false, .i 0]) := by
  have c := tickq _ hp (.ready q) ⟨by omega, h2⟩
  rwa [show tickS ⟨0, C, H, W⟩ (.ready q) = .ready (q - 1) by simp only [tickS]; rw [if_pos (by omega)]] at c
theorem r_awake (q : Int) (h : 1 ≤ q) (h2 : q ≤ H) : Eff Try.prog 11 [.agg (rC C H W q)] [] 0 (fun r _ _ => r = .b true) := awakeq _ hp (.ready q) ⟨h, h2⟩
theorem r_heard (q : Int) (h : 1 ≤ q) (h2 : q ≤ H) : Eff Try.prog 9 [.agg (rC C H W q)] [] 0 (fun r _ _ => r = .tup [.agg (rC C H W H), .i 0]) := heardq _ hp (.ready q) ⟨h, h2⟩
end

set_option maxHeartbeats 1000000 in
set_option maxRecDepth 100000 in
theorem hears_eff (cyc hrd wt ticks every : Int) : Eff Try.prog 4 [.i cyc, .i hrd, .i wt, .i ticks, .i every] [] 0 (fun r _ _ => r = .b true) := by
  obtain ⟨C, hC⟩ : ∃ C, C = cl 1 10 cyc := ⟨_, rfl⟩
  obtain ⟨H, hH⟩ : ∃ C, C = cl 2 20 hrd := ⟨_, rfl⟩
  obtain ⟨W, hW⟩ : ∃ C, C = cl 1 10 wt := ⟨_, rfl⟩
  obtain ⟨bC1, bC2⟩ : 1 ≤ C ∧ C ≤ 10 := hC ▸ cl_le (by omega)
  obtain ⟨bH1, bH2⟩ : 2 ≤ H ∧ H ≤ 20 := hH ▸ cl_le (by omega)
  obtain ⟨bW1, bW2⟩ : 1 ≤ W ∧ W ≤ 10 := hW ▸ cl_le (by omega)
  obtain ⟨n, hn, bn⟩ : ∃ n : Nat, (n : Int) = cl 0 200 ticks ∧ n ≤ 200 := ⟨(cl 0 200 ticks).toNat, by have := cl_le (v := ticks) (show (0 : Int) ≤ 200 by omega); omega, by have := cl_le (v := ticks) (show (0 : Int) ≤ 200 by omega); omega⟩
  obtain ⟨a, ha⟩ : ∃ a, a = Int.tmod every (H - 1) := ⟨_, rfl⟩
  have a1 : -(H - 1) < a := ha ▸ Int.lt_tmod_of_pos every (by omega)
  have a2 : a < H - 1 := ha ▸ Int.tmod_lt_of_pos every (by omega)
  obtain ⟨b, hb⟩ : ∃ b, b = Int.tmod (a + H - 1) (H - 1) := ⟨_, rfl⟩
  have b1 : 0 ≤ b := hb ▸ Int.tmod_nonneg _ (by omega)
  have b2 : b < H - 1 := hb ▸ Int.tmod_lt_of_pos _ (by omega)
  obtain ⟨E, hE⟩ : ∃ E : Nat, (E : Int) = 1 + b := ⟨(1 + b).toNat, by omega⟩
  have hp : OkP ⟨0, C, H, W⟩ := ⟨Int.le_refl 0, show (0 : Int) ≤ 1000 by omega, bC1, by show C ≤ 1000; omega, by show 1 ≤ H; omega, by show H ≤ 1000; omega, bW1, by show W ≤ 1000; omega⟩
  have c1 := r_new C H W hp
  have c2 := r_wake C H W hp
  refine eff_of Try.func4 rfl rfl rfl fun cx e hP => ?_
  refine AWP.runL e tab_ok L4 21 rfl (by first | trivial | (simp [in64] <;> omega)) ?_
  refine AWP.eqT 0 (.i C) rfl (congrArg SV.i hC.symm) ?_
  refine AWP.eqT 1 (.i H) rfl (congrArg SV.i hH.symm) ?_
  refine AWP.eqT 2 (.i W) rfl (congrArg SV.i hW.symm) ?_
  clear hC hH hW
  refine AWP.runL e tab_ok L4 4 rfl (by first | trivial | (simp [in64] <;> omega)) ?_
  refine AWP.eqT 32 (.i a) rfl (congrArg SV.i ha.symm) ?_
  clear ha
  refine AWP.runL e tab_ok L4 6 rfl (by first | trivial | (simp [in64] <;> omega)) ?_
  refine AWP.eqT 38 (.i b) rfl (congrArg SV.i hb.symm) ?_
  clear hb
  refine AWP.runL e tab_ok L4 2 rfl (by first | trivial | (simp [in64] <;> omega)) ?_
  refine AWP.eqT 4 (.i E) rfl (congrArg SV.i hE.symm) ?_
  refine AWP.runL e tab_ok L4 300 rfl (by first | trivial | (simp [in64] <;> omega)) ?_
  repeat (
    first
      | (refine AWP.askT rfl ?_; (first | (refine Told.t rfl ?_) | (refine Told.f rfl ?_) | (refine Told.t ?_ ?_; (focus assumption)) | (refine Told.f ?_ ?_; (focus assumption)) | (refine Told.t ?_ ?_; (focus (first | (simp; omega) | (simp [*]; done)); done)) | (refine Told.f ?_ ?_; (focus (first | (simp; omega) | (simp [*]; done)); done))); refine AWP.runL e tab_ok L4 300 rfl (by first | trivial | (simp [in64] <;> omega)) ?_)
      | (refine AWP.callQ e rfl rfl ?_; (first | refine CallQ.mk (c1) rfl rfl ?_ | refine CallQ.mk (c2) rfl rfl ?_ | refine CallQ.mk (alive_eff) rfl rfl ?_); refine AWP.runL e tab_ok L4 300 rfl (by first | trivial | (simp [in64] <;> omega)) ?_)
      | (refine AWP.eq_agg e tab_ok rfl rfl rfl (.inl ⟨rfl, rfl⟩) ?_ 5 (by omega) rfl ?_ rfl rfl rfl rfl rfl rfl rfl ?_; (focus kernel_rfl); (focus kernel_rfl); refine AWP.runL e tab_ok L4 300 rfl (by first | trivial | (simp [in64] <;> omega)) ?_)
      | (refine AWP.eq_agg e tab_ok rfl rfl rfl (.inr ⟨rfl, rfl⟩) ?_ 5 (by omega) rfl ?_ rfl rfl rfl rfl rfl rfl rfl ?_; (focus kernel_rfl); (focus kernel_rfl); refine AWP.runL e tab_ok L4 300 rfl (by first | trivial | (simp [in64] <;> omega)) ?_)
    )
  refine AWP.eqT 69 (.i n) rfl (congrArg SV.i hn.symm) ?_
  clear hn
  refine AWP.loop (ι := Nat) (fun i => ⟨[(70, .i i), (69, .i n), (4, .i E), (11, .ptr 0 0)], [(0, .box (rC C H W (H - (i % E : Nat))))], 1⟩) (fun i => i ≤ n) (fun i => n - i) 0 (Nat.zero_le _) ?_ ?_
  · intro g
    refine AWP.less e ?_ ?_ ?_ ?_ ?_ (g) <;> (repeat' (first | exact True.intro | (refine And.intro ?_ ?_) | rfl | assumption))
    exact congrArg (fun q => some (Blk.box (rC C H W q))) (by simp)
  rintro i Φ hI next
  have hI : i ≤ n := hI
  clear c1 c2
  refine AWP.runL e tab_ok L4 300 rfl (by first | trivial | (simp [in64] <;> omega)) ?_
  refine AWP.cond2 rfl (fun hlt => ?_) (fun hlt => ?_)
  rotate_left
  · refine AWP.runL e tab_ok L4 300 rfl (by first | trivial | (simp [in64] <;> omega)) ?_
    refine AWP.ret e tab_ok rfl ?_
    rw [hP]
    all_goals first | rfl | (simp [strip]; done)
  have hlt : i < n := by simp at hlt; omega
  have nx := next (i + 1) hlt (by show n - (i + 1) < n - i; omega)
  clear next
  obtain ⟨r, hr⟩ : ∃ r, r = i % E := ⟨_, rfl⟩
  have r1 : r < E := hr ▸ Nat.mod_lt _ (by omega)
  have hm := tmod_nn i E
  rw [← hr] at hm ⊢
  have c3 := r_tick C H W hp (H - r) (by omega) (by omega)
  have c4 := r_awake C H W hp (H - r - 1) (by omega) (by omega)
  have c5 := r_heard C H W hp (H - r - 1) (by omega) (by omega)
  clear c5
  by_cases hl : r + 1 = E
  · have e1 : (i + 1) % E = 0 := by rw [Nat.add_mod, ← hr]; by_cases h1 : E = 1; subst h1; exact Nat.mod_one _; rw [Nat.mod_eq_of_lt (show 1 < E by omega), hl, Nat.mod_self]
    rw [e1] at nx
    have c5 := r_heard C H W hp (H - r - 1) (by omega) (by omega)
    have ht : (decide (Int.tmod i E = (E : Int) - 1)) = true := by rw [hm]; simp; omega
    refine AWP.runL e tab_ok L4 300 rfl (by first | trivial | (simp [in64] <;> omega)) ?_
    repeat (
      first
        | (refine AWP.askT rfl ?_; (first | (refine Told.t rfl ?_) | (refine Told.f rfl ?_) | (refine Told.t ?_ ?_; (focus assumption)) | (refine Told.f ?_ ?_; (focus assumption)) | (refine Told.t ?_ ?_; (focus (first | (simp; omega) | (simp [*]; done)); done)) | (refine Told.f ?_ ?_; (focus (first | (simp; omega) | (simp [*]; done)); done))); refine AWP.runL e tab_ok L4 300 rfl (by first | trivial | (simp [in64] <;> omega)) ?_)
        | (refine AWP.callQ e rfl rfl ?_; (first | refine CallQ.mk (c3) rfl rfl ?_ | refine CallQ.mk (c4) rfl rfl ?_ | refine CallQ.mk (c5) rfl rfl ?_); refine AWP.runL e tab_ok L4 300 rfl (by first | trivial | (simp [in64] <;> omega)) ?_)
        | (refine AWP.eq_agg e tab_ok rfl rfl rfl (.inl ⟨rfl, rfl⟩) ?_ 5 (by omega) rfl ?_ rfl rfl rfl rfl rfl rfl rfl ?_; (focus kernel_rfl); (focus kernel_rfl); refine AWP.runL e tab_ok L4 300 rfl (by first | trivial | (simp [in64] <;> omega)) ?_)
        | (refine AWP.eq_agg e tab_ok rfl rfl rfl (.inr ⟨rfl, rfl⟩) ?_ 5 (by omega) rfl ?_ rfl rfl rfl rfl rfl rfl rfl ?_; (focus kernel_rfl); (focus kernel_rfl); refine AWP.runL e tab_ok L4 300 rfl (by first | trivial | (simp [in64] <;> omega)) ?_)
      )
    refine AWP.less e ?_ ?_ ?_ ?_ ?_ (nx) <;> (repeat' (first | exact True.intro | (refine And.intro ?_ ?_) | rfl | assumption))
    exact congrArg (fun q => some (Blk.box (rC C H W q))) (by simp)
  · have e1 : (i + 1) % E = r + 1 := by rw [Nat.add_mod, ← hr]; rw [Nat.mod_eq_of_lt (show 1 < E by omega), Nat.mod_eq_of_lt (by omega)]
    rw [e1] at nx
    have ht : (decide (Int.tmod i E = (E : Int) - 1)) = false := by rw [hm]; simp; omega
    refine AWP.runL e tab_ok L4 300 rfl (by first | trivial | (simp [in64] <;> omega)) ?_
    repeat (
      first
        | (refine AWP.askT rfl ?_; (first | (refine Told.t rfl ?_) | (refine Told.f rfl ?_) | (refine Told.t ?_ ?_; (focus assumption)) | (refine Told.f ?_ ?_; (focus assumption)) | (refine Told.t ?_ ?_; (focus (first | (simp; omega) | (simp [*]; done)); done)) | (refine Told.f ?_ ?_; (focus (first | (simp; omega) | (simp [*]; done)); done))); refine AWP.runL e tab_ok L4 300 rfl (by first | trivial | (simp [in64] <;> omega)) ?_)
        | (refine AWP.callQ e rfl rfl ?_; (first | refine CallQ.mk (c3) rfl rfl ?_ | refine CallQ.mk (c4) rfl rfl ?_); refine AWP.runL e tab_ok L4 300 rfl (by first | trivial | (simp [in64] <;> omega)) ?_)
        | (refine AWP.eq_agg e tab_ok rfl rfl rfl (.inl ⟨rfl, rfl⟩) ?_ 5 (by omega) rfl ?_ rfl rfl rfl rfl rfl rfl rfl ?_; (focus kernel_rfl); (focus kernel_rfl); refine AWP.runL e tab_ok L4 300 rfl (by first | trivial | (simp [in64] <;> omega)) ?_)
        | (refine AWP.eq_agg e tab_ok rfl rfl rfl (.inr ⟨rfl, rfl⟩) ?_ 5 (by omega) rfl ?_ rfl rfl rfl rfl rfl rfl rfl ?_; (focus kernel_rfl); (focus kernel_rfl); refine AWP.runL e tab_ok L4 300 rfl (by first | trivial | (simp [in64] <;> omega)) ?_)
      )
    refine AWP.less e ?_ ?_ ?_ ?_ ?_ (nx) <;> (repeat' (first | exact True.intro | (refine And.intro ?_ ?_) | rfl | assumption))
    exact congrArg (fun q => some (Blk.box (rC C H W q))) (by simp; omega)

theorem hears_args (l : List SV) (h : Args tab 9 [3, 3, 3, 3, 3] l) : Eff Try.prog 4 l [] 0 (fun r _ _ => r = .b true) := by
  obtain ⟨_, _, rfl, ⟨a, rfl, _, _⟩, _, _, rfl, ⟨b, rfl, _, _⟩, _, _, rfl, ⟨c, rfl, _, _⟩, _, _, rfl, ⟨d, rfl, _, _⟩, _, _, rfl, ⟨g, rfl, _, _⟩, rfl⟩ := h
  exact hears_eff a b c d g
end Go.Proofs.Ytmmpblbdjnlciaa
