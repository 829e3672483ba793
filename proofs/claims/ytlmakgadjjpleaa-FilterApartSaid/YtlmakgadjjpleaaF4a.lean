import Derived.Test.YtlmakgadjjpleaaF4r
open Go Go.Proofs Go.Sy
namespace Go.Proofs.Ytlmakgadjjpleaa

set_option maxRecDepth 100000 in
set_option maxHeartbeats 2000000 in
theorem apart_eff (k m x mn mx ev fr old cnt v : Int) : Eff Try.prog 4 [.agg (cells k m x mn mx ev fr old cnt), .i v] [] 0 (fun r _ _ => r = .b true) := by
  refine eff_of Try.func4 rfl rfl rfl fun cx e hP => ?_
  refine AWP.run e tab_ok 300 rfl (by first | trivial | (simp [in64] <;> omega)) ?_
  have hrow : Blk.okR 5 (.row 40 false 2 [[.i 1, .i 2], [.i 3, .i 4], [.i 6, .i 7]] 3) := by
    intro e he
    simp at he
    rcases he with rfl | rfl | rfl <;> rfl
  refine AWP.loop (ι := Nat) (fun i => ⟨[(18, .i i), (17, .i 3), (16, .own 1 2 0 3 3), (1, .i v), (2, .ptr 0 0), (4, .b false)], [(0, .box (cells k m x mn mx ev fr old cnt)), (1, .row 40 false 2 [[.i 1, .i 2], [.i 3, .i 4], [.i 6, .i 7]] 3)], 2⟩) (fun i => i ≤ 3) (fun i => 3 - i) 0 (Nat.zero_le _) ?_ ?_
  · intro g
    refine AWP.lessR e [] ?_ ?_ ?_ ?_ ?_ ?_ g
    · exact ⟨rfl, rfl, rfl, rfl, rfl, rfl, trivial⟩
    · exact ⟨rfl, rfl, trivial⟩
    · rfl
    · exact ⟨rfl, rfl, rfl, hrow, trivial⟩
    · rfl
    · rfl
  rintro i Φ hI next
  have hI : i ≤ 3 := hI
  refine AWP.run e tab_ok 300 rfl (by first | trivial | (simp [in64] <;> omega)) ?_
  refine AWP.cond2 rfl (fun hlt => ?_) (fun hlt => ?_)
  · have hlt : i < 3 := by have := of_decide_eq_true hlt; omega
    obtain ⟨p, q, hpq, hel⟩ : ∃ p q : Int, (p = 1 ∧ q = 2 ∨ p = 3 ∧ q = 4 ∨ p = 6 ∧ q = 7) ∧ ([[.i 1, .i 2], [.i 3, .i 4], [.i 6, .i 7]] : List (List SV))[i]? = some [.i p, .i q] := by
      have : i = 0 ∨ i = 1 ∨ i = 2 := by omega
      obtain rfl | rfl | rfl := this
      · exact ⟨1, 2, .inl ⟨rfl, rfl⟩, rfl⟩
      · exact ⟨3, 4, .inr (.inl ⟨rfl, rfl⟩), rfl⟩
      · exact ⟨6, 7, .inr (.inr ⟨rfl, rfl⟩), rfl⟩
    refine AWP.run e tab_ok 300 rfl (by first | trivial | (simp [in64] <;> omega)) ?_
    refine AWP.idx_own e tab_ok rfl rfl rfl rfl i rfl hlt ?_
    rw [Nat.zero_add]
    refine AWP.load_el e tab_ok rfl rfl rfl rfl hel rfl ?_
    refine AWP.run e tab_ok 300 rfl (by first | trivial | (simp [in64] <;> omega)) ?_
    refine AWP.lessR e [] (tm := (6, .ptr 2 0) :: apTm i v) (hp := [(2, .box [.i p, .i q]), (0, .box (cells k m x mn mx ev fr old cnt)), (1, .row 40 false 2 [[.i 1, .i 2], [.i 3, .i 4], [.i 6, .i 7]] 3)]) (nx := 3) ?_ ?_ ?_ ?_ ?_ ?_ ?_
    · exact ⟨rfl, rfl, rfl, rfl, rfl, rfl, rfl, trivial⟩
    · exact ⟨rfl, rfl, rfl, trivial⟩
    · rfl
    · exact ⟨rfl, rfl, rfl, rfl, rfl, hrow, trivial⟩
    · rfl
    · rfl
    refine AWP.anyC e rfl ⟨[(8, .ptr 4 0), (7, .ptr 3 0), (6, .ptr 2 0), (18, .i i), (17, .i 3), (16, .own 1 2 0 3 3), (1, .i v), (2, .ptr 0 0), (4, .b false)], [(3, .box (cells k m x mn mx ev fr old cnt)), (4, .box (cells k m x mn mx ev fr old cnt)), (2, .box [.i p, .i q]), (0, .box (cells k m x mn mx ev fr old cnt)), (1, .row 40 false 2 [[.i 1, .i 2], [.i 3, .i 4], [.i 6, .i 7]] 3)], 5⟩ 6 rfl ?_ ?_
    · exact fun kk hk => apart_r4 e kk p q k m x mn mx ev fr old cnt v i hk
    refine AWP.run e tab_ok 300 rfl (by first | trivial | (simp [in64] <;> omega)) ?_
    refine AWP.anyC e rfl ⟨[(8, .ptr 4 0), (7, .ptr 3 0), (18, .i i), (17, .i 3), (16, .own 1 2 0 3 3), (1, .i v), (2, .ptr 0 0), (4, .b false)], [(3, .box (cells p m x mn mx ev fr old cnt)), (4, .box (cells q m x mn mx ev fr old cnt)), (0, .box (cells k m x mn mx ev fr old cnt)), (1, .row 40 false 2 [[.i 1, .i 2], [.i 3, .i 4], [.i 6, .i 7]] 3)], 5⟩ 8 rfl ?_ ?_
    · exact fun kk hk => apart_r5 e kk p q k m x mn mx ev fr old cnt v i hk
    refine AWP.run e tab_ok 300 rfl (by first | trivial | (simp [in64] <;> omega)) ?_
    have less : ∀ kk tm hp nx, leTR ⟨tm, hp, nx⟩ [] [(18, .i ((i + 1 : Nat) : Int)), (17, .i 3), (16, .own 1 2 0 3 3), (1, .i v), (2, .ptr 0 0), (4, .b false)] → leHR ⟨tm, hp, nx⟩ [] [(0, .box (cells k m x mn mx ev fr old cnt)), (1, .row 40 false 2 [[.i 1, .i 2], [.i 3, .i 4], [.i 6, .i 7]] 3)] → AWP cx kk ⟨[(18, .i ((i + 1 : Nat) : Int)), (17, .i 3), (16, .own 1 2 0 3 3), (1, .i v), (2, .ptr 0 0), (4, .b false)], [(0, .box (cells k m x mn mx ev fr old cnt)), (1, .row 40 false 2 [[.i 1, .i 2], [.i 3, .i 4], [.i 6, .i 7]] 3)], 2⟩ → AWP cx kk ⟨tm, hp, nx⟩ := fun kk tm hp nx h1 h2 g => by
      refine AWP.lessR e [] h1 h2 ?_ ?_ ?_ ?_ g
      · rfl
      · exact ⟨rfl, rfl, rfl, hrow, trivial⟩
      · rfl
      · rfl
    have hRp := refRight_eff p m x mn mx ev fr old cnt
    have hRq := refRight_eff q m x mn mx ev fr old cnt
    have hsame : rightB p mn mx ev fr cnt = rightB q mn mx ev fr cnt := by
      unfold rightB
      rcases hpq with ⟨rfl, rfl⟩ | ⟨rfl, rfl⟩ | ⟨rfl, rfl⟩ <;> simp
    refine AWP.call e hRp rfl [] (.cons (.refl _) .nil) rfl rfl ?_
    rintro _ _ _ rfl
    refine ⟨rfl, .inl rfl, ?_⟩
    by_cases hright : rightB p mn mx ev fr cnt = true
    rotate_left
    · have hright : rightB p mn mx ev fr cnt = false := by simpa using hright
      rw [hright]
      refine AWP.run e tab_ok 300 rfl (by first | trivial | (simp [in64] <;> omega)) ?_
      repeat (
        first
          | (refine AWP.guard rfl true ?_ ?_; (focus (first | rfl | (simp; omega) | (simp [*]; done)); done); refine AWP.run e tab_ok 300 rfl (by first | trivial | (simp [in64] <;> omega)) ?_)
          | (refine AWP.guard rfl false ?_ ?_; (focus (first | rfl | (simp; omega) | (simp [*]; done)); done); refine AWP.run e tab_ok 300 rfl (by first | trivial | (simp [in64] <;> omega)) ?_)
          | (refine AWP.cond rfl true ?_ ?_; (focus (first | rfl | (simp; omega) | (simp [*]; done)); done); refine AWP.run e tab_ok 300 rfl (by first | trivial | (simp [in64] <;> omega)) ?_)
          | (refine AWP.cond rfl false ?_ ?_; (focus (first | rfl | (simp; omega) | (simp [*]; done)); done); refine AWP.run e tab_ok 300 rfl (by first | trivial | (simp [in64] <;> omega)) ?_)
          | (refine AWP.pick rfl true ?_ ?_; (focus (first | rfl | (simp; omega) | (simp [*]; done)); done); refine AWP.run e tab_ok 300 rfl (by first | trivial | (simp [in64] <;> omega)) ?_)
          | (refine AWP.pick rfl false ?_ ?_; (focus (first | rfl | (simp; omega) | (simp [*]; done)); done); refine AWP.run e tab_ok 300 rfl (by first | trivial | (simp [in64] <;> omega)) ?_)
        )
      refine less _ _ _ _ ?_ ?_ (next (i + 1) hlt ?_)
      · exact ⟨rfl, rfl, rfl, rfl, rfl, rfl, trivial⟩
      · exact ⟨rfl, rfl, trivial⟩
      · show 3 - (i + 1) < 3 - i
        omega
    rw [hright]
    have hrightq : rightB q mn mx ev fr cnt = true := hsame ▸ hright
    rw [hrightq] at hRq
    refine AWP.run e tab_ok 300 rfl (by first | trivial | (simp [in64] <;> omega)) ?_
    repeat (
      first
        | (refine AWP.guard rfl true ?_ ?_; (focus (first | rfl | (simp; omega) | (simp [*]; done)); done); refine AWP.run e tab_ok 300 rfl (by first | trivial | (simp [in64] <;> omega)) ?_)
        | (refine AWP.guard rfl false ?_ ?_; (focus (first | rfl | (simp; omega) | (simp [*]; done)); done); refine AWP.run e tab_ok 300 rfl (by first | trivial | (simp [in64] <;> omega)) ?_)
        | (refine AWP.cond rfl true ?_ ?_; (focus (first | rfl | (simp; omega) | (simp [*]; done)); done); refine AWP.run e tab_ok 300 rfl (by first | trivial | (simp [in64] <;> omega)) ?_)
        | (refine AWP.cond rfl false ?_ ?_; (focus (first | rfl | (simp; omega) | (simp [*]; done)); done); refine AWP.run e tab_ok 300 rfl (by first | trivial | (simp [in64] <;> omega)) ?_)
        | (refine AWP.pick rfl true ?_ ?_; (focus (first | rfl | (simp; omega) | (simp [*]; done)); done); refine AWP.run e tab_ok 300 rfl (by first | trivial | (simp [in64] <;> omega)) ?_)
        | (refine AWP.pick rfl false ?_ ?_; (focus (first | rfl | (simp; omega) | (simp [*]; done)); done); refine AWP.run e tab_ok 300 rfl (by first | trivial | (simp [in64] <;> omega)) ?_)
      )
    refine AWP.call e hRq rfl [] (.cons (.refl _) .nil) rfl rfl ?_
    rintro _ _ _ rfl
    refine ⟨rfl, .inl rfl, ?_⟩
    refine AWP.run e tab_ok 300 rfl (by first | trivial | (simp [in64] <;> omega)) ?_
    repeat (
      first
        | (refine AWP.guard rfl true ?_ ?_; (focus (first | rfl | (simp; omega) | (simp [*]; done)); done); refine AWP.run e tab_ok 300 rfl (by first | trivial | (simp [in64] <;> omega)) ?_)
        | (refine AWP.guard rfl false ?_ ?_; (focus (first | rfl | (simp; omega) | (simp [*]; done)); done); refine AWP.run e tab_ok 300 rfl (by first | trivial | (simp [in64] <;> omega)) ?_)
        | (refine AWP.cond rfl true ?_ ?_; (focus (first | rfl | (simp; omega) | (simp [*]; done)); done); refine AWP.run e tab_ok 300 rfl (by first | trivial | (simp [in64] <;> omega)) ?_)
        | (refine AWP.cond rfl false ?_ ?_; (focus (first | rfl | (simp; omega) | (simp [*]; done)); done); refine AWP.run e tab_ok 300 rfl (by first | trivial | (simp [in64] <;> omega)) ?_)
        | (refine AWP.pick rfl true ?_ ?_; (focus (first | rfl | (simp; omega) | (simp [*]; done)); done); refine AWP.run e tab_ok 300 rfl (by first | trivial | (simp [in64] <;> omega)) ?_)
        | (refine AWP.pick rfl false ?_ ?_; (focus (first | rfl | (simp; omega) | (simp [*]; done)); done); refine AWP.run e tab_ok 300 rfl (by first | trivial | (simp [in64] <;> omega)) ?_)
      )
    refine AWP.call e (passes_ok p m x mn mx ev fr old cnt v hright) rfl [] (.cons (.refl _) (.cons (.refl _) .nil)) rfl rfl ?_
    rintro _ _ _ rfl
    refine ⟨rfl, .inl rfl, ?_⟩
    refine AWP.run e tab_ok 300 rfl (by first | trivial | (simp [in64] <;> omega)) ?_
    refine AWP.call e (passes_ok q m x mn mx ev fr old cnt v hrightq) rfl [] (.cons (.refl _) (.cons (.refl _) .nil)) rfl rfl ?_
    rintro _ _ _ rfl
    refine ⟨rfl, .inl rfl, ?_⟩
    have hne : (passesB p m x mn mx ev fr old cnt v == passesB q m x mn mx ev fr old cnt v) = false := by
      rcases hpq with ⟨rfl, rfl⟩ | ⟨rfl, rfl⟩ | ⟨rfl, rfl⟩
      · rfl
      · show ((andI v m == x) == !(andI v m == x)) = false
        cases (andI v m == x) <;> rfl
      · show ((decide (mn ≤ v) && decide (v ≤ mx)) == !(decide (mn ≤ v) && decide (v ≤ mx))) = false
        cases (decide (mn ≤ v) && decide (v ≤ mx)) <;> rfl
    generalize passesB p m x mn mx ev fr old cnt v = β at hne ⊢
    generalize passesB q m x mn mx ev fr old cnt v = γ at hne ⊢
    refine AWP.run e tab_ok 300 rfl (by first | trivial | (simp [in64] <;> omega)) ?_
    repeat (
      first
        | (refine AWP.guard rfl true ?_ ?_; (focus (first | rfl | (simp; omega) | (simp [*]; done)); done); refine AWP.run e tab_ok 300 rfl (by first | trivial | (simp [in64] <;> omega)) ?_)
        | (refine AWP.guard rfl false ?_ ?_; (focus (first | rfl | (simp; omega) | (simp [*]; done)); done); refine AWP.run e tab_ok 300 rfl (by first | trivial | (simp [in64] <;> omega)) ?_)
        | (refine AWP.cond rfl true ?_ ?_; (focus (first | rfl | (simp; omega) | (simp [*]; done)); done); refine AWP.run e tab_ok 300 rfl (by first | trivial | (simp [in64] <;> omega)) ?_)
        | (refine AWP.cond rfl false ?_ ?_; (focus (first | rfl | (simp; omega) | (simp [*]; done)); done); refine AWP.run e tab_ok 300 rfl (by first | trivial | (simp [in64] <;> omega)) ?_)
        | (refine AWP.pick rfl true ?_ ?_; (focus (first | rfl | (simp; omega) | (simp [*]; done)); done); refine AWP.run e tab_ok 300 rfl (by first | trivial | (simp [in64] <;> omega)) ?_)
        | (refine AWP.pick rfl false ?_ ?_; (focus (first | rfl | (simp; omega) | (simp [*]; done)); done); refine AWP.run e tab_ok 300 rfl (by first | trivial | (simp [in64] <;> omega)) ?_)
      )
    refine less _ _ _ _ ?_ ?_ (next (i + 1) hlt ?_)
    · exact ⟨rfl, rfl, rfl, rfl, rfl, rfl, trivial⟩
    · exact ⟨rfl, rfl, trivial⟩
    · show 3 - (i + 1) < 3 - i
      omega
  · refine AWP.run e tab_ok 300 rfl (by first | trivial | (simp [in64] <;> omega)) ?_
    refine AWP.call e alive_eff rfl [] .nil rfl rfl ?_
    rintro _ _ _ rfl
    refine ⟨rfl, .inl rfl, ?_⟩
    refine AWP.run e tab_ok 300 rfl (by first | trivial | (simp [in64] <;> omega)) ?_
    refine AWP.ret e tab_ok rfl ?_
    rw [hP]
    rfl

set_option maxRecDepth 100000 in
theorem apart_args (l : List SV) (h : Args tab 9 [23, 2] l) : Eff Try.prog 4 l [] 0 (fun r _ _ => r = .b true) := by
  obtain ⟨_, _, rfl, ⟨_, _, rfl, ⟨k, rfl, _, _⟩, _, _, rfl, ⟨m, rfl, _, _⟩, _, _, rfl, ⟨x, rfl, _, _⟩, _, _, rfl, ⟨mn, rfl, _, _⟩, _, _, rfl, ⟨mx, rfl, _, _⟩, _, _, rfl, ⟨ev, rfl, _, _⟩, _, _, rfl, ⟨fr, rfl, _, _⟩, _, _, rfl, ⟨old, rfl, _, _⟩, _, _, rfl, ⟨cnt, rfl, _, _⟩, rfl⟩,
    _, _, rfl, ⟨v, rfl, _, _⟩, rfl⟩ := h
  exact apart_eff k m x mn mx ev fr old cnt v

end Go.Proofs.Ytlmakgadjjpleaa
