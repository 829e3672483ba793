import Derived.Test.YtlmakgadjjpleaaF4
open Go Go.Proofs Go.Sy
namespace Go.Proofs.Ytlmakgadjjpleaa

theorem cut_a (N : Int) (xs : List (List DV)) (h : 0 ≤ N) : List.drop ((none : Option Int).getD 0).toNat (List.take ((some (if N < (xs.length : Int) then N else (xs.length : Int))).getD (xs.length : Int)).toNat xs) = xs.take N.toNat := by
  simp only [Option.getD_none, Option.getD_some, Int.toNat_zero, List.drop_zero]
  split
  · rfl
  · rw [Int.toNat_natCast, List.take_of_length_le (by omega), List.take_of_length_le (by omega)]
theorem cut_b (n : Int) (c : Nat) (xs : List (List DV)) : List.drop ((none : Option Int).getD 0).toNat (List.take ((some (c : Int)).getD n).toNat xs) = xs.take c := by simp
theorem cut_c (n : Nat) (c : Nat) (xs : List (List DV)) (h : xs.length = n) : List.drop ((some (c : Int)).getD 0).toNat (List.take ((none : Option Int).getD n).toNat xs) = xs.drop c := by
  simp only [Option.getD_none, Option.getD_some, Int.toNat_natCast]
  rw [List.take_of_length_le (by omega)]

theorem runL_len (k m x mn mx ev fr : Int) : ∀ (a : List Int) (old cnt : Int), (runL k m x mn mx ev fr old cnt a).length ≤ a.length
  | [], old, cnt => by simp [runL]
  | v :: a, old, cnt => by
    have h1 := runL_len k m x mn mx ev fr a v (cnt + 1)
    have h2 := runL_len k m x mn mx ev fr a old (cnt + 1)
    simp only [runL]
    split <;> simp <;> omega

theorem ints_cells (a : List Int) : ∀ e ∈ (ints a).map (·.map SV.d), allCells e = true := by
  intro e he
  simp only [ints, List.map_map, List.mem_map] at he
  obtain ⟨v, _, rfl⟩ := he
  rfl

set_option maxRecDepth 100000 in
theorem cuts_eff (k m x mn mx ev fr old cnt : Int) (l : List Int) (cut : Int) (hl : l.length ≤ 9223372036854775807) : Eff Try.prog 6 [.agg (cells k m x mn mx ev fr old cnt), .d (.sl 1 (ints l)), .i cut] [] 0 (fun r _ _ => r = .b true) := by
  refine eff_of Try.func6 rfl rfl rfl fun cx e hP => ?_
  refine AWP.run e tab_ok 300 rfl (by first | trivial | (simp [in64] <;> omega)) ?_
  obtain ⟨l', hl'⟩ : ∃ l', l' = l.take 40 := ⟨_, rfl⟩
  have h40 : l'.length ≤ 40 := by rw [hl']; simp; omega
  obtain ⟨c, hc⟩ : ∃ c : Nat, c = (min (max cut 0) l'.length).toNat := ⟨_, rfl⟩
  have hc' : c ≤ l'.length := by omega
  have hcut : List.drop ((none : Option Int).getD 0).toNat (List.take ((some (if 40 < ((ints l).length : Int) then 40 else ((ints l).length : Int))).getD ((ints l).length : Int)).toNat (ints l)) = ints l' := by
    rw [cut_a 40 (ints l) (by omega), hl']; exact List.map_take.symm
  refine AWP.less e (tm := [(30, .d (.sl 1 (ints l'))), (29, .agg (cells k m x mn mx ev fr old cnt)), (1, .d (.sl 1 (ints l'))), (2, .i c), (3, .ptr 0 0), (6, .b false)]) (hp := [(0, .box (cells k m x mn mx ev fr old cnt))]) (nx := 1) ?_ ?_ ?_ ?_ ?_ ?_
  · refine ⟨congrArg (fun z => some (SV.d (.sl 1 z))) hcut, rfl, congrArg (fun z => some (SV.d (.sl 1 z))) hcut, ?_, rfl, rfl, trivial⟩
    show some (SV.i _) = some (SV.i _)
    rw [hcut]
    congr 2
    rw [hc]
    simp only [List.length_map]
    split <;> split <;> omega
  · exact ⟨rfl, trivial⟩
  · rfl
  · exact ⟨rfl, rfl, trivial⟩
  · rfl
  clear hcut hc hl'
  by_cases hright : rightB k mn mx ev fr cnt = true
  rotate_left
  · refine AWP.call e (run_bad k m x mn mx ev fr old cnt l' (by simpa using hright)) rfl [] (.cons (.refl _) (.cons (.refl _) .nil)) rfl rfl ?_
    rintro _ _ _ rfl
    refine ⟨rfl, .inl rfl, ?_⟩
    refine AWP.run e tab_ok 300 rfl (by first | trivial | (simp [in64] <;> omega)) ?_
    repeat (
      first
        | (refine AWP.guard rfl true ?_ ?_; (focus (first | rfl | (simp; omega) | (simp [*]; done)); done); refine AWP.run e tab_ok 300 rfl (by first | trivial | (simp [in64] <;> omega)) ?_)
        | (refine AWP.guard rfl false ?_ ?_; (focus (first | rfl | (simp; omega) | (simp [*]; done)); done); refine AWP.run e tab_ok 300 rfl (by first | trivial | (simp [in64] <;> omega)) ?_)
        | (refine AWP.cond rfl true ?_ ?_; (focus (first | rfl | (simp; omega) | (simp [*]; done)); done); refine AWP.run e tab_ok 300 rfl (by first | trivial | (simp [in64] <;> omega)) ?_)
        | (refine AWP.cond rfl false ?_ ?_; (focus (first | rfl | (simp; omega) | (simp [*]; done)); done); refine AWP.run e tab_ok 300 rfl (by first | trivial | (simp [in64] <;> omega)) ?_)
        | (refine AWP.pick rfl true ?_ ?_; (focus (first | rfl | (simp; omega) | (simp [*]; done)); done); refine AWP.run e tab_ok 300 rfl (by first | trivial | (simp [in64] <;> omega)) ?_)
        | (refine AWP.pick rfl false ?_ ?_; (focus (first | rfl | (simp; omega) | (simp [*]; done)); done); refine AWP.run e tab_ok 300 rfl (by first | trivial | (simp [in64] <;> omega)) ?_)
      )
    refine AWP.call e alive_eff rfl [] .nil rfl rfl ?_
    rintro _ _ _ rfl
    refine ⟨rfl, .inl rfl, ?_⟩
    refine AWP.run e tab_ok 300 rfl (by first | trivial | (simp [in64] <;> omega)) ?_
    repeat (
      first
        | (refine AWP.guard rfl true ?_ ?_; (focus (first | rfl | (simp; omega) | (simp [*]; done)); done); refine AWP.run e tab_ok 300 rfl (by first | trivial | (simp [in64] <;> omega)) ?_)
        | (refine AWP.guard rfl false ?_ ?_; (focus (first | rfl | (simp; omega) | (simp [*]; done)); done); refine AWP.run e tab_ok 300 rfl (by first | trivial | (simp [in64] <;> omega)) ?_)
        | (refine AWP.cond rfl true ?_ ?_; (focus (first | rfl | (simp; omega) | (simp [*]; done)); done); refine AWP.run e tab_ok 300 rfl (by first | trivial | (simp [in64] <;> omega)) ?_)
        | (refine AWP.cond rfl false ?_ ?_; (focus (first | rfl | (simp; omega) | (simp [*]; done)); done); refine AWP.run e tab_ok 300 rfl (by first | trivial | (simp [in64] <;> omega)) ?_)
        | (refine AWP.pick rfl true ?_ ?_; (focus (first | rfl | (simp; omega) | (simp [*]; done)); done); refine AWP.run e tab_ok 300 rfl (by first | trivial | (simp [in64] <;> omega)) ?_)
        | (refine AWP.pick rfl false ?_ ?_; (focus (first | rfl | (simp; omega) | (simp [*]; done)); done); refine AWP.run e tab_ok 300 rfl (by first | trivial | (simp [in64] <;> omega)) ?_)
      )
    refine AWP.ret e tab_ok rfl ?_
    rw [hP]
    rfl
  by_cases hlate : cnt + l'.length ≤ 1099511627776
  rotate_left
  · refine AWP.call e (run_late k m x mn mx ev fr old cnt l' hright (by omega) hlate) rfl [] (.cons (.refl _) (.cons (.refl _) .nil)) rfl rfl ?_
    rintro _ _ _ rfl
    refine ⟨rfl, .inl rfl, ?_⟩
    refine AWP.run e tab_ok 300 rfl (by first | trivial | (simp [in64] <;> omega)) ?_
    repeat (
      first
        | (refine AWP.guard rfl true ?_ ?_; (focus (first | rfl | (simp; omega) | (simp [*]; done)); done); refine AWP.run e tab_ok 300 rfl (by first | trivial | (simp [in64] <;> omega)) ?_)
        | (refine AWP.guard rfl false ?_ ?_; (focus (first | rfl | (simp; omega) | (simp [*]; done)); done); refine AWP.run e tab_ok 300 rfl (by first | trivial | (simp [in64] <;> omega)) ?_)
        | (refine AWP.cond rfl true ?_ ?_; (focus (first | rfl | (simp; omega) | (simp [*]; done)); done); refine AWP.run e tab_ok 300 rfl (by first | trivial | (simp [in64] <;> omega)) ?_)
        | (refine AWP.cond rfl false ?_ ?_; (focus (first | rfl | (simp; omega) | (simp [*]; done)); done); refine AWP.run e tab_ok 300 rfl (by first | trivial | (simp [in64] <;> omega)) ?_)
        | (refine AWP.pick rfl true ?_ ?_; (focus (first | rfl | (simp; omega) | (simp [*]; done)); done); refine AWP.run e tab_ok 300 rfl (by first | trivial | (simp [in64] <;> omega)) ?_)
        | (refine AWP.pick rfl false ?_ ?_; (focus (first | rfl | (simp; omega) | (simp [*]; done)); done); refine AWP.run e tab_ok 300 rfl (by first | trivial | (simp [in64] <;> omega)) ?_)
      )
    refine AWP.call e alive_eff rfl [] .nil rfl rfl ?_
    rintro _ _ _ rfl
    refine ⟨rfl, .inl rfl, ?_⟩
    refine AWP.run e tab_ok 300 rfl (by first | trivial | (simp [in64] <;> omega)) ?_
    repeat (
      first
        | (refine AWP.guard rfl true ?_ ?_; (focus (first | rfl | (simp; omega) | (simp [*]; done)); done); refine AWP.run e tab_ok 300 rfl (by first | trivial | (simp [in64] <;> omega)) ?_)
        | (refine AWP.guard rfl false ?_ ?_; (focus (first | rfl | (simp; omega) | (simp [*]; done)); done); refine AWP.run e tab_ok 300 rfl (by first | trivial | (simp [in64] <;> omega)) ?_)
        | (refine AWP.cond rfl true ?_ ?_; (focus (first | rfl | (simp; omega) | (simp [*]; done)); done); refine AWP.run e tab_ok 300 rfl (by first | trivial | (simp [in64] <;> omega)) ?_)
        | (refine AWP.cond rfl false ?_ ?_; (focus (first | rfl | (simp; omega) | (simp [*]; done)); done); refine AWP.run e tab_ok 300 rfl (by first | trivial | (simp [in64] <;> omega)) ?_)
        | (refine AWP.pick rfl true ?_ ?_; (focus (first | rfl | (simp; omega) | (simp [*]; done)); done); refine AWP.run e tab_ok 300 rfl (by first | trivial | (simp [in64] <;> omega)) ?_)
        | (refine AWP.pick rfl false ?_ ?_; (focus (first | rfl | (simp; omega) | (simp [*]; done)); done); refine AWP.run e tab_ok 300 rfl (by first | trivial | (simp [in64] <;> omega)) ?_)
      )
    refine AWP.ret e tab_ok rfl ?_
    rw [hP]
    rfl
  have hr : 1 ≤ k ∧ k ≤ 8 ∧ mn ≤ mx ∧ 0 ≤ cnt ∧ cnt ≤ 1099511627776 ∧ (k = 8 → 1 ≤ ev ∧ ev ≤ 1000000 ∧ 0 ≤ fr ∧ fr < ev) := by
    have := hright; unfold rightB at this; exact of_decide_eq_true this
  refine AWP.call e (run_ok k m x mn mx ev fr old cnt l' hright hlate) rfl [] (.cons (.refl _) (.cons (.refl _) .nil)) rfl rfl ?_
  rintro _ _ _ rfl
  refine ⟨rfl, .inl rfl, ?_⟩
  generalize hall : runL k m x mn mx ev fr old cnt l' = all
  refine AWP.run e tab_ok 300 rfl (by first | trivial | (simp [in64] <;> omega)) ?_
  repeat (
    first
      | (refine AWP.guard rfl true ?_ ?_; (focus (first | rfl | (simp; omega) | (simp [*]; done)); done); refine AWP.run e tab_ok 300 rfl (by first | trivial | (simp [in64] <;> omega)) ?_)
      | (refine AWP.guard rfl false ?_ ?_; (focus (first | rfl | (simp; omega) | (simp [*]; done)); done); refine AWP.run e tab_ok 300 rfl (by first | trivial | (simp [in64] <;> omega)) ?_)
      | (refine AWP.cond rfl true ?_ ?_; (focus (first | rfl | (simp; omega) | (simp [*]; done)); done); refine AWP.run e tab_ok 300 rfl (by first | trivial | (simp [in64] <;> omega)) ?_)
      | (refine AWP.cond rfl false ?_ ?_; (focus (first | rfl | (simp; omega) | (simp [*]; done)); done); refine AWP.run e tab_ok 300 rfl (by first | trivial | (simp [in64] <;> omega)) ?_)
      | (refine AWP.pick rfl true ?_ ?_; (focus (first | rfl | (simp; omega) | (simp [*]; done)); done); refine AWP.run e tab_ok 300 rfl (by first | trivial | (simp [in64] <;> omega)) ?_)
      | (refine AWP.pick rfl false ?_ ?_; (focus (first | rfl | (simp; omega) | (simp [*]; done)); done); refine AWP.run e tab_ok 300 rfl (by first | trivial | (simp [in64] <;> omega)) ?_)
    )
  refine AWP.dr ?_
  first
    | refine Dr.step rfl (VStep.ev e tab_ok rfl rfl (by first | assumption | with_reducible trivial | (simp; omega) | (simp [*]; done))) ?_
    | refine Dr.step rfl (VStep.go rfl (VStep.ev e tab_ok rfl rfl (by first | assumption | with_reducible trivial | (simp; omega) | (simp [*]; done)))) ?_
    | refine Dr.step rfl (VStep.goA rfl (by first | assumption | with_reducible trivial | (simp; omega) | (simp [*]; done)) (VStep.ev e tab_ok rfl rfl (by first | assumption | with_reducible trivial | (simp; omega) | (simp [*]; done)))) ?_
    | refine Dr.step rfl (VStep.not e rfl rfl rfl) ?_
    | refine Dr.step rfl (VStep.notA e rfl rfl (by first | assumption | with_reducible trivial | (simp; omega) | (simp [*]; done))) ?_
    | refine Dr.step rfl (VStep.un e rfl rfl) ?_
  first
    | refine Dr.step rfl (VStep.ev e tab_ok rfl rfl (by first | assumption | with_reducible trivial | (simp; omega) | (simp [*]; done))) ?_
    | refine Dr.step rfl (VStep.go rfl (VStep.ev e tab_ok rfl rfl (by first | assumption | with_reducible trivial | (simp; omega) | (simp [*]; done)))) ?_
    | refine Dr.step rfl (VStep.goA rfl (by first | assumption | with_reducible trivial | (simp; omega) | (simp [*]; done)) (VStep.ev e tab_ok rfl rfl (by first | assumption | with_reducible trivial | (simp; omega) | (simp [*]; done)))) ?_
    | refine Dr.step rfl (VStep.not e rfl rfl rfl) ?_
    | refine Dr.step rfl (VStep.notA e rfl rfl (by first | assumption | with_reducible trivial | (simp; omega) | (simp [*]; done))) ?_
    | refine Dr.step rfl (VStep.un e rfl rfl) ?_
  first
    | refine Dr.step rfl (VStep.ev e tab_ok rfl rfl (by first | assumption | with_reducible trivial | (simp; omega) | (simp [*]; done))) ?_
    | refine Dr.step rfl (VStep.go rfl (VStep.ev e tab_ok rfl rfl (by first | assumption | with_reducible trivial | (simp; omega) | (simp [*]; done)))) ?_
    | refine Dr.step rfl (VStep.goA rfl (by first | assumption | with_reducible trivial | (simp; omega) | (simp [*]; done)) (VStep.ev e tab_ok rfl rfl (by first | assumption | with_reducible trivial | (simp; omega) | (simp [*]; done)))) ?_
    | refine Dr.step rfl (VStep.not e rfl rfl rfl) ?_
    | refine Dr.step rfl (VStep.notA e rfl rfl (by first | assumption | with_reducible trivial | (simp; omega) | (simp [*]; done))) ?_
    | refine Dr.step rfl (VStep.un e rfl rfl) ?_
  refine Dr.step rfl (vstepE e tab_ok rfl rfl (by simp [ints]; omega) (congrArg (fun z => SV.d (.sl 1 z)) ((cut_b _ c _).trans List.map_take.symm))) ?_
  refine Dr.step rfl (VStep.call e (run_ok k m x mn mx ev fr old cnt (l'.take c) hright (by rw [List.length_take]; omega)) rfl [] (.cons (.refl _) (.cons (.refl _) .nil)) rfl rfl rfl (.inl rfl)) ?_
  repeat (
    first
      | refine Dr.step rfl (VStep.ev e tab_ok rfl rfl (by first | assumption | with_reducible trivial | (simp; omega) | (simp [*]; done))) ?_
      | refine Dr.step rfl (VStep.go rfl (VStep.ev e tab_ok rfl rfl (by first | assumption | with_reducible trivial | (simp; omega) | (simp [*]; done)))) ?_
      | refine Dr.step rfl (VStep.goA rfl (by first | assumption | with_reducible trivial | (simp; omega) | (simp [*]; done)) (VStep.ev e tab_ok rfl rfl (by first | assumption | with_reducible trivial | (simp; omega) | (simp [*]; done)))) ?_
      | refine Dr.step rfl (VStep.not e rfl rfl rfl) ?_
      | refine Dr.step rfl (VStep.notA e rfl rfl (by first | assumption | with_reducible trivial | (simp; omega) | (simp [*]; done))) ?_
      | refine Dr.step rfl (VStep.un e rfl rfl) ?_
    )
  refine Dr.fin e rfl rfl (by kernel_rfl) ?_
  generalize ha : runL k m x mn mx ev fr old cnt (l'.take c) = a
  refine AWP.run e tab_ok 300 rfl (by first | trivial | (simp [in64] <;> omega)) ?_
  refine AWP.loop (ι := Nat × Int × Int) (fun s => ⟨[(54, .i s.1), (53, .i c), (52, .d (.sl 1 (ints (l'.take c)))), (7, .d (.sl 1 (ints all))), (9, .d (.sl 1 (ints a))), (10, .i 0), (1, .d (.sl 1 (ints l'))), (2, .i c), (3, .ptr 0 0), (6, .b false)], [(0, .box (cells k m x mn mx ev fr s.2.1 s.2.2))], 1⟩)
    (fun s => s.1 ≤ c ∧ s.2.2 = cnt + s.1 ∧ ∀ r, runL k m x mn mx ev fr old cnt (l'.take s.1 ++ r) = runL k m x mn mx ev fr old cnt (l'.take s.1) ++ runL k m x mn mx ev fr s.2.1 s.2.2 r) (fun s => c - s.1)
    (0, old, cnt) ⟨Nat.zero_le _, by simp, fun r => by simp [runL]⟩ ?_ ?_
  · intro g
    refine AWP.less e ?_ ?_ ?_ ?_ ?_ g
    · refine ⟨rfl, ?_, congrArg (fun z => some (SV.d (.sl 1 z))) ((cut_b _ c _).trans List.map_take.symm), rfl, rfl, rfl, rfl, rfl, rfl, rfl, trivial⟩
      refine (congrArg (fun z : List (List DV) => some (SV.i z.length)) (cut_b _ c (ints l'))).trans ?_
      show some (SV.i _) = some (SV.i _)
      congr 2
      simp [ints]
      omega
    · exact ⟨rfl, trivial⟩
    · rfl
    · exact ⟨rfl, rfl, trivial⟩
    · rfl
  rintro ⟨i, o', c'⟩ Φ hI next
  obtain ⟨h1, h2, h3⟩ : i ≤ c ∧ c' = cnt + i ∧ ∀ r, runL k m x mn mx ev fr old cnt (l'.take i ++ r) = runL k m x mn mx ev fr old cnt (l'.take i) ++ runL k m x mn mx ev fr o' c' r := hI
  have hright' : rightB k mn mx ev fr c' = true := by
    unfold rightB; refine decide_eq_true ?_; omega
  refine AWP.run e tab_ok 300 rfl (by first | trivial | (simp [in64] <;> omega)) ?_
  refine AWP.cond2 rfl (fun hlt => ?_) (fun hlt => ?_)
  · have hlt : i < c := by simpa using hlt
    have hlt' : i < l'.length := by omega
    refine AWP.run e tab_ok 300 rfl (by first | trivial | (simp [in64] <;> omega)) ?_
    refine AWP.idx e tab_ok rfl rfl rfl rfl i rfl (el := [.v (.int .i64 l'[i])]) (by simp [hlt', hlt]) ?_
    refine AWP.run e tab_ok 300 rfl (by first | trivial | (simp [in64] <;> omega)) ?_
    refine AWP.call e (step_ok k m x mn mx ev fr o' c' l'[i] hright' (by omega) (by omega)) rfl [] (.cons (.refl _) (.cons (.refl _) .nil)) rfl rfl ?_
    rintro _ _ _ rfl
    refine ⟨rfl, .inl rfl, ?_⟩
    refine AWP.run e tab_ok 300 rfl (by first | trivial | (simp [in64] <;> omega)) ?_
    repeat (
      first
        | (refine AWP.guard rfl true ?_ ?_; (focus (first | rfl | (simp; omega) | (simp [*]; done)); done); refine AWP.run e tab_ok 300 rfl (by first | trivial | (simp [in64] <;> omega)) ?_)
        | (refine AWP.guard rfl false ?_ ?_; (focus (first | rfl | (simp; omega) | (simp [*]; done)); done); refine AWP.run e tab_ok 300 rfl (by first | trivial | (simp [in64] <;> omega)) ?_)
        | (refine AWP.cond rfl true ?_ ?_; (focus (first | rfl | (simp; omega) | (simp [*]; done)); done); refine AWP.run e tab_ok 300 rfl (by first | trivial | (simp [in64] <;> omega)) ?_)
        | (refine AWP.cond rfl false ?_ ?_; (focus (first | rfl | (simp; omega) | (simp [*]; done)); done); refine AWP.run e tab_ok 300 rfl (by first | trivial | (simp [in64] <;> omega)) ?_)
        | (refine AWP.pick rfl true ?_ ?_; (focus (first | rfl | (simp; omega) | (simp [*]; done)); done); refine AWP.run e tab_ok 300 rfl (by first | trivial | (simp [in64] <;> omega)) ?_)
        | (refine AWP.pick rfl false ?_ ?_; (focus (first | rfl | (simp; omega) | (simp [*]; done)); done); refine AWP.run e tab_ok 300 rfl (by first | trivial | (simp [in64] <;> omega)) ?_)
      )
    refine AWP.less e ?_ ?_ ?_ ?_ ?_ (next (i + 1, (if passesB k m x mn mx ev fr o' c' l'[i] = true then l'[i] else o'), c' + 1) ?_ ?_)
    · exact ⟨rfl, rfl, rfl, rfl, rfl, rfl, rfl, rfl, rfl, rfl, trivial⟩
    · exact ⟨rfl, trivial⟩
    · rfl
    · exact ⟨rfl, rfl, trivial⟩
    · rfl
    · refine ⟨hlt, ?_, fun r => ?_⟩
      · simp; omega
      · show runL k m x mn mx ev fr old cnt (l'.take (i + 1) ++ r) = runL k m x mn mx ev fr old cnt (l'.take (i + 1)) ++ runL k m x mn mx ev fr (if passesB k m x mn mx ev fr o' c' l'[i] = true then l'[i] else o') (c' + 1) r
        rw [List.take_succ_eq_append_getElem hlt', List.append_assoc, h3, h3 [l'[i]]]
        simp only [List.singleton_append, runL, List.append_assoc]
        split <;> simp
    · show c - (i + 1) < c - i
      omega
  · have hlt : ¬ i < c := by simpa using hlt
    obtain rfl : i = c := by omega
    have hend : all = a ++ runL k m x mn mx ev fr o' c' (l'.drop i) := by
      rw [← hall, ← ha, ← h3, List.take_append_drop]
    refine AWP.run e tab_ok 300 rfl (by first | trivial | (simp [in64] <;> omega)) ?_
    refine AWP.dr ?_
    first
      | refine Dr.step rfl (VStep.ev e tab_ok rfl rfl (by first | assumption | with_reducible trivial | (simp; omega) | (simp [*]; done))) ?_
      | refine Dr.step rfl (VStep.go rfl (VStep.ev e tab_ok rfl rfl (by first | assumption | with_reducible trivial | (simp; omega) | (simp [*]; done)))) ?_
      | refine Dr.step rfl (VStep.goA rfl (by first | assumption | with_reducible trivial | (simp; omega) | (simp [*]; done)) (VStep.ev e tab_ok rfl rfl (by first | assumption | with_reducible trivial | (simp; omega) | (simp [*]; done)))) ?_
      | refine Dr.step rfl (VStep.not e rfl rfl rfl) ?_
      | refine Dr.step rfl (VStep.notA e rfl rfl (by first | assumption | with_reducible trivial | (simp; omega) | (simp [*]; done))) ?_
      | refine Dr.step rfl (VStep.un e rfl rfl) ?_
    first
      | refine Dr.step rfl (VStep.ev e tab_ok rfl rfl (by first | assumption | with_reducible trivial | (simp; omega) | (simp [*]; done))) ?_
      | refine Dr.step rfl (VStep.go rfl (VStep.ev e tab_ok rfl rfl (by first | assumption | with_reducible trivial | (simp; omega) | (simp [*]; done)))) ?_
      | refine Dr.step rfl (VStep.goA rfl (by first | assumption | with_reducible trivial | (simp; omega) | (simp [*]; done)) (VStep.ev e tab_ok rfl rfl (by first | assumption | with_reducible trivial | (simp; omega) | (simp [*]; done)))) ?_
      | refine Dr.step rfl (VStep.not e rfl rfl rfl) ?_
      | refine Dr.step rfl (VStep.notA e rfl rfl (by first | assumption | with_reducible trivial | (simp; omega) | (simp [*]; done))) ?_
      | refine Dr.step rfl (VStep.un e rfl rfl) ?_
    first
      | refine Dr.step rfl (VStep.ev e tab_ok rfl rfl (by first | assumption | with_reducible trivial | (simp; omega) | (simp [*]; done))) ?_
      | refine Dr.step rfl (VStep.go rfl (VStep.ev e tab_ok rfl rfl (by first | assumption | with_reducible trivial | (simp; omega) | (simp [*]; done)))) ?_
      | refine Dr.step rfl (VStep.goA rfl (by first | assumption | with_reducible trivial | (simp; omega) | (simp [*]; done)) (VStep.ev e tab_ok rfl rfl (by first | assumption | with_reducible trivial | (simp; omega) | (simp [*]; done)))) ?_
      | refine Dr.step rfl (VStep.not e rfl rfl rfl) ?_
      | refine Dr.step rfl (VStep.notA e rfl rfl (by first | assumption | with_reducible trivial | (simp; omega) | (simp [*]; done))) ?_
      | refine Dr.step rfl (VStep.un e rfl rfl) ?_
    refine Dr.step rfl (vstepE e tab_ok rfl rfl (by simp [ints]; omega) (congrArg (fun z => SV.d (.sl 1 z)) ((cut_c _ i (ints l') rfl).trans List.map_drop.symm))) ?_
    refine Dr.step rfl (VStep.call e (run_ok k m x mn mx ev fr o' c' (l'.drop i) hright' (by rw [List.length_drop]; omega)) rfl [] (.cons (.refl _) (.cons (.refl _) .nil)) rfl rfl rfl (.inl rfl)) ?_
    repeat (
      first
        | refine Dr.step rfl (VStep.ev e tab_ok rfl rfl (by first | assumption | with_reducible trivial | (simp; omega) | (simp [*]; done))) ?_
        | refine Dr.step rfl (VStep.go rfl (VStep.ev e tab_ok rfl rfl (by first | assumption | with_reducible trivial | (simp; omega) | (simp [*]; done)))) ?_
        | refine Dr.step rfl (VStep.goA rfl (by first | assumption | with_reducible trivial | (simp; omega) | (simp [*]; done)) (VStep.ev e tab_ok rfl rfl (by first | assumption | with_reducible trivial | (simp; omega) | (simp [*]; done)))) ?_
        | refine Dr.step rfl (VStep.not e rfl rfl rfl) ?_
        | refine Dr.step rfl (VStep.notA e rfl rfl (by first | assumption | with_reducible trivial | (simp; omega) | (simp [*]; done))) ?_
        | refine Dr.step rfl (VStep.un e rfl rfl) ?_
      )
    refine Dr.fin e rfl rfl (by kernel_rfl) ?_
    generalize runL k m x mn mx ev fr o' c' (l'.drop i) = b at hend ⊢
    refine AWP.run e tab_ok 300 rfl (by first | trivial | (simp [in64] <;> omega)) ?_
    refine AWP.call e alive_eff rfl [] .nil rfl rfl ?_
    rintro _ _ _ rfl
    refine ⟨rfl, .inl rfl, ?_⟩
    refine AWP.run e tab_ok 300 rfl (by first | trivial | (simp [in64] <;> omega)) ?_
    repeat (
      first
        | (refine AWP.guard rfl true ?_ ?_; (focus (first | rfl | (simp; omega) | (simp [*]; done)); done); refine AWP.run e tab_ok 300 rfl (by first | trivial | (simp [in64] <;> omega)) ?_)
        | (refine AWP.guard rfl false ?_ ?_; (focus (first | rfl | (simp; omega) | (simp [*]; done)); done); refine AWP.run e tab_ok 300 rfl (by first | trivial | (simp [in64] <;> omega)) ?_)
        | (refine AWP.cond rfl true ?_ ?_; (focus (first | rfl | (simp; omega) | (simp [*]; done)); done); refine AWP.run e tab_ok 300 rfl (by first | trivial | (simp [in64] <;> omega)) ?_)
        | (refine AWP.cond rfl false ?_ ?_; (focus (first | rfl | (simp; omega) | (simp [*]; done)); done); refine AWP.run e tab_ok 300 rfl (by first | trivial | (simp [in64] <;> omega)) ?_)
        | (refine AWP.pick rfl true ?_ ?_; (focus (first | rfl | (simp; omega) | (simp [*]; done)); done); refine AWP.run e tab_ok 300 rfl (by first | trivial | (simp [in64] <;> omega)) ?_)
        | (refine AWP.pick rfl false ?_ ?_; (focus (first | rfl | (simp; omega) | (simp [*]; done)); done); refine AWP.run e tab_ok 300 rfl (by first | trivial | (simp [in64] <;> omega)) ?_)
      )
    have hab : a.length + b.length ≤ 40 := by
      have h9 := runL_len k m x mn mx ev fr l' old cnt
      rw [hall, hend, List.length_append] at h9
      omega
    refine AWP.append e tab_ok rfl rfl rfl rfl rfl rfl rfl rfl (.sl (ints a)) rfl (ints_cells a) (by simp; omega) (by simp; omega) fun C2 hC2 => ?_
    refine AWP.run e tab_ok 300 rfl (by first | trivial | (simp [in64] <;> omega)) ?_
    refine AWP.append e tab_ok rfl rfl rfl rfl rfl rfl rfl rfl (.sl (ints b)) (by simp) (ints_cells b) (by simp; omega) (by simp; omega) fun C3 hC3 => ?_
    refine AWP.run e tab_ok 300 rfl (by first | trivial | (simp [in64] <;> omega)) ?_
    refine AWP.call e (same_eff all (a ++ b) (by rw [hend, List.length_append]; omega)) rfl [3] (.cons (.refl _) (.cons (.ownAll (ints (a ++ b)) rfl (by simp [ints]) (by simp) (by simp [ints])) .nil)) rfl rfl ?_
    rintro _ _ _ rfl
    refine ⟨rfl, .inr rfl, ?_⟩
    rw [hend, beq_self_eq_true]
    refine AWP.run e tab_ok 300 rfl (by first | trivial | (simp [in64] <;> omega)) ?_
    refine AWP.ret e tab_ok rfl ?_
    rw [hP]
    rfl

end Go.Proofs.Ytlmakgadjjpleaa
