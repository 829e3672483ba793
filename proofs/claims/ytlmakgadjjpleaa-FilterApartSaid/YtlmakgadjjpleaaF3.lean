import Derived.Test.YtlmakgadjjpleaaF2
open Go Go.Proofs Go.Sy
namespace Go.Proofs.Ytlmakgadjjpleaa

abbrev ints (l : List Int) : List (List DV) := l.map fun v => [.v (.int .i64 v)]

def runL (k m x mn mx ev fr : Int) : Int → Int → List Int → List Int
  | _, _, [] => []
  | old, cnt, v :: l => if passesB k m x mn mx ev fr old cnt v = true then v :: runL k m x mn mx ev fr v (cnt + 1) l else runL k m x mn mx ev fr old (cnt + 1) l

theorem ints_ok (n : Nat) (l : List Int) : ∀ e ∈ (ints l).map (·.map SV.d), SV.idsLt.go n e = true := by
  intro e he
  simp only [ints, List.map_map, List.mem_map] at he
  obtain ⟨v, _, rfl⟩ := he
  rfl

set_option maxRecDepth 100000 in
theorem run_ok (k m x mn mx ev fr old cnt : Int) (l : List Int) (h : rightB k mn mx ev fr cnt = true) (hc : cnt + l.length ≤ 1099511627776) :
    Eff Try.prog 9 [.agg (cells k m x mn mx ev fr old cnt), .d (.sl 1 (ints l))] [] 0 (fun r _ _ => r = .tup [.d (.sl 1 (ints (runL k m x mn mx ev fr old cnt l))), .i 0]) := by
  have hr : 1 ≤ k ∧ k ≤ 8 ∧ mn ≤ mx ∧ 0 ≤ cnt ∧ cnt ≤ 1099511627776 ∧ (k = 8 → 1 ≤ ev ∧ ev ≤ 1000000 ∧ 0 ≤ fr ∧ fr < ev) := by
    have := h; unfold rightB at this; exact of_decide_eq_true this
  refine eff_of Try.func9 rfl rfl rfl fun cx e hP => ?_
  refine AWP.run e tab_ok 300 rfl (by first | trivial | (simp [in64] <;> omega)) ?_
  refine AWP.call e (right_eff k m x mn mx ev fr old cnt) rfl [] (.cons (.refl _) .nil) rfl rfl ?_
  rintro _ _ _ rfl
  refine ⟨rfl, .inl rfl, ?_⟩
  rw [h]
  refine AWP.run e tab_ok 300 rfl (by first | trivial | (simp [in64] <;> omega)) ?_
  repeat (
    first
      | (refine AWP.guard rfl true ?_ ?_; (focus (first | rfl | (simp; omega) | (simp [*]; done)); done); refine AWP.run e tab_ok 300 rfl (by first | trivial | (simp [in64] <;> omega)) ?_)
      | (refine AWP.guard rfl false ?_ ?_; (focus (first | rfl | (simp; omega) | (simp [*]; done)); done); refine AWP.run e tab_ok 300 rfl (by first | trivial | (simp [in64] <;> omega)) ?_)
      | (refine AWP.cond rfl true ?_ ?_; (focus (first | rfl | (simp; omega) | (simp [*]; done)); done); refine AWP.run e tab_ok 300 rfl (by first | trivial | (simp [in64] <;> omega)) ?_)
      | (refine AWP.cond rfl false ?_ ?_; (focus (first | rfl | (simp; omega) | (simp [*]; done)); done); refine AWP.run e tab_ok 300 rfl (by first | trivial | (simp [in64] <;> omega)) ?_)
      | (refine AWP.pick rfl true ?_ ?_; (focus (first | rfl | (simp; omega) | (simp [*]; done)); done); refine AWP.run e tab_ok 300 rfl (by first | trivial | (simp [in64] <;> omega)) ?_)
      | (refine AWP.pick rfl false ?_ ?_; (focus (first | rfl | (simp; omega) | (simp [*]; done)); done); refine AWP.run e tab_ok 300 rfl (by first | trivial | (simp [in64] <;> omega)) ?_)
    )
  refine AWP.nil_own (t := 6) rfl 2 1 ?_
  refine AWP.loop (ι := Nat × Int × Int × List Int × Nat)
    (fun s => ⟨[(25, .i s.1), (24, .i (ints l).length), (23, .d (.sl 1 (ints l))), (6, .own 1 1 0 s.2.2.2.1.length s.2.2.2.2), (2, .ptr 0 0)], [(0, .box (cells k m x mn mx ev fr s.2.1 s.2.2.1)), (1, .row 2 false 1 ((ints s.2.2.2.1).map (·.map SV.d)) s.2.2.2.2)], 2⟩)
    (fun s => s.1 ≤ l.length ∧ s.2.2.1 = cnt + s.1 ∧ s.2.2.2.1.length ≤ s.1 ∧ s.2.2.2.1 ++ runL k m x mn mx ev fr s.2.1 s.2.2.1 (l.drop s.1) = runL k m x mn mx ev fr old cnt l) (fun s => l.length - s.1)
    (0, old, cnt, [], 0) ⟨Nat.zero_le _, by simp, Nat.le_refl _, rfl⟩
    ?_ ?_
  · intro g
    refine AWP.less e ?_ ?_ ?_ ?_ ?_ g
    · exact ⟨rfl, rfl, rfl, rfl, rfl, trivial⟩
    · exact ⟨rfl, rfl, trivial⟩
    · rfl
    · exact ⟨rfl, rfl, rfl, ints_ok _ _, trivial⟩
    · rfl
  rintro ⟨i, old', c', o, C⟩ Φ hI next
  obtain ⟨h1, h2, h3, h4⟩ : i ≤ l.length ∧ c' = cnt + i ∧ o.length ≤ i ∧ o ++ runL k m x mn mx ev fr old' c' (l.drop i) = runL k m x mn mx ev fr old cnt l := hI
  refine AWP.run e tab_ok 300 rfl (by first | trivial | (simp [in64] <;> omega)) ?_
  refine AWP.cond2 rfl (fun hlt => ?_) (fun hlt => ?_)
  · have hlt : i < l.length := by simpa using hlt
    refine AWP.run e tab_ok 300 rfl (by first | trivial | (simp [in64] <;> omega)) ?_
    refine AWP.idx e tab_ok rfl rfl rfl rfl i rfl (el := [.v (.int .i64 l[i])]) (by simp [hlt]) ?_
    refine AWP.run e tab_ok 300 rfl (by first | trivial | (simp [in64] <;> omega)) ?_
    have hright : rightB k mn mx ev fr c' = true := by
      unfold rightB; refine decide_eq_true ?_; omega
    refine AWP.call e (step_ok k m x mn mx ev fr old' c' l[i] hright (by omega) (by omega)) rfl [] (.cons (.refl _) (.cons (.refl _) .nil)) rfl rfl ?_
    rintro _ _ _ rfl
    refine ⟨rfl, .inl rfl, ?_⟩
    have hdrop : l.drop i = l[i] :: l.drop (i + 1) := (List.drop_eq_getElem_cons hlt)
    rw [hdrop, runL] at h4
    generalize passesB k m x mn mx ev fr old' c' l[i] = is at h4 ⊢
    refine AWP.run e tab_ok 300 rfl (by first | trivial | (simp [in64] <;> omega)) ?_
    refine AWP.cond2 rfl (fun his => ?_) (fun his => ?_)
    · subst his
      refine AWP.run e tab_ok 300 rfl (by first | trivial | (simp [in64] <;> omega)) ?_
      refine AWP.append e tab_ok rfl rfl rfl rfl rfl rfl rfl rfl (.own rfl (by simp)) (by simp) (by simp [allCells, isCell]) (by simp; omega) (by simp; omega) fun C2 hC2 => ?_
      refine AWP.run e tab_ok 300 rfl (by first | trivial | (simp [in64] <;> omega)) ?_
      refine AWP.lessR e [(1, 4)] ?_ ?_ ?_ ?_ ?_ ?_ (next (i + 1, l[i], c' + 1, o ++ [l[i]], C2) ?_ ?_)
      · refine ⟨rfl, rfl, rfl, ?_, rfl, trivial⟩
        show some (SV.own 4 1 0 (o.length + 1) C2) = some (SV.own 4 1 0 (o ++ [l[i]]).length C2)
        simp
      · refine ⟨rfl, ?_, trivial⟩
        show some (Blk.row 2 false 1 ((ints o).map (·.map SV.d) ++ [[SV.i l[i]]]) C2) = some (Blk.row 2 false 1 ((ints (o ++ [l[i]])).map (·.map SV.d)) C2)
        simp [ints]
      · rfl
      · exact ⟨rfl, rfl, rfl, ints_ok _ _, trivial⟩
      · rfl
      · rfl
      · refine ⟨hlt, ?_, ?_, ?_⟩
        · simp; omega
        · simp; omega
        · simpa using h4
      · show l.length - (i + 1) < l.length - i
        omega
    · subst his
      refine AWP.run e tab_ok 300 rfl (by first | trivial | (simp [in64] <;> omega)) ?_
      refine AWP.less e ?_ ?_ ?_ ?_ ?_ (next (i + 1, old', c' + 1, o, C) ?_ ?_)
      · exact ⟨rfl, rfl, rfl, rfl, rfl, trivial⟩
      · exact ⟨rfl, rfl, trivial⟩
      · rfl
      · exact ⟨rfl, rfl, rfl, ints_ok _ _, trivial⟩
      · rfl
      · refine ⟨hlt, ?_, ?_, ?_⟩
        · simp; omega
        · simp; omega
        · simpa using h4
      · show l.length - (i + 1) < l.length - i
        omega
  · refine AWP.run e tab_ok 300 rfl (by first | trivial | (simp [in64] <;> omega)) ?_
    refine AWP.freezeP (id := 1) (ints o) rfl rfl rfl (by simp [lenP]) ?_
    refine AWP.ret e tab_ok rfl ?_
    rw [hP]
    have hle : l.length ≤ i := by simpa using hlt
    rw [List.drop_eq_nil_of_le hle, runL, List.append_nil] at h4
    rw [← h4]
    simp [strip]
    exact List.take_of_length_le (by simp [ints])

set_option maxRecDepth 100000 in
theorem run_bad (k m x mn mx ev fr old cnt : Int) (l : List Int) (h : rightB k mn mx ev fr cnt = false) :
    Eff Try.prog 9 [.agg (cells k m x mn mx ev fr old cnt), .d (.sl 1 (ints l))] [] 0 (fun r _ _ => r = .tup [.d .nil, .i 1]) := by
  refine eff_of Try.func9 rfl rfl rfl fun cx e hP => ?_
  refine AWP.run e tab_ok 300 rfl (by first | trivial | (simp [in64] <;> omega)) ?_
  refine AWP.call e (right_eff k m x mn mx ev fr old cnt) rfl [] (.cons (.refl _) .nil) rfl rfl ?_
  rintro _ _ _ rfl
  refine ⟨rfl, .inl rfl, ?_⟩
  rw [h]
  refine AWP.run e tab_ok 300 rfl (by first | trivial | (simp [in64] <;> omega)) ?_
  repeat (
    first
      | (refine AWP.guard rfl true ?_ ?_; (focus (first | rfl | (simp; omega) | (simp [*]; done)); done); refine AWP.run e tab_ok 300 rfl (by first | trivial | (simp [in64] <;> omega)) ?_)
      | (refine AWP.guard rfl false ?_ ?_; (focus (first | rfl | (simp; omega) | (simp [*]; done)); done); refine AWP.run e tab_ok 300 rfl (by first | trivial | (simp [in64] <;> omega)) ?_)
      | (refine AWP.cond rfl true ?_ ?_; (focus (first | rfl | (simp; omega) | (simp [*]; done)); done); refine AWP.run e tab_ok 300 rfl (by first | trivial | (simp [in64] <;> omega)) ?_)
      | (refine AWP.cond rfl false ?_ ?_; (focus (first | rfl | (simp; omega) | (simp [*]; done)); done); refine AWP.run e tab_ok 300 rfl (by first | trivial | (simp [in64] <;> omega)) ?_)
      | (refine AWP.pick rfl true ?_ ?_; (focus (first | rfl | (simp; omega) | (simp [*]; done)); done); refine AWP.run e tab_ok 300 rfl (by first | trivial | (simp [in64] <;> omega)) ?_)
      | (refine AWP.pick rfl false ?_ ?_; (focus (first | rfl | (simp; omega) | (simp [*]; done)); done); refine AWP.run e tab_ok 300 rfl (by first | trivial | (simp [in64] <;> omega)) ?_)
    )
  refine AWP.ret e tab_ok rfl ?_
  rw [hP]
  rfl

set_option maxRecDepth 100000 in
theorem run_late (k m x mn mx ev fr old cnt : Int) (l : List Int) (h : rightB k mn mx ev fr cnt = true) (hl : l.length ≤ 1000) (hc : ¬ cnt + l.length ≤ 1099511627776) :
    Eff Try.prog 9 [.agg (cells k m x mn mx ev fr old cnt), .d (.sl 1 (ints l))] [] 0 (fun r _ _ => r = .tup [.d .nil, .i 1]) := by
  refine eff_of Try.func9 rfl rfl rfl fun cx e hP => ?_
  refine AWP.run e tab_ok 300 rfl (by first | trivial | (simp [in64] <;> omega)) ?_
  refine AWP.call e (right_eff k m x mn mx ev fr old cnt) rfl [] (.cons (.refl _) .nil) rfl rfl ?_
  rintro _ _ _ rfl
  refine ⟨rfl, .inl rfl, ?_⟩
  rw [h]
  refine AWP.run e tab_ok 300 rfl (by first | trivial | (simp [in64] <;> omega)) ?_
  repeat (
    first
      | (refine AWP.guard rfl true ?_ ?_; (focus (first | rfl | (simp; omega) | (simp [*]; done)); done); refine AWP.run e tab_ok 300 rfl (by first | trivial | (simp [in64] <;> omega)) ?_)
      | (refine AWP.guard rfl false ?_ ?_; (focus (first | rfl | (simp; omega) | (simp [*]; done)); done); refine AWP.run e tab_ok 300 rfl (by first | trivial | (simp [in64] <;> omega)) ?_)
      | (refine AWP.cond rfl true ?_ ?_; (focus (first | rfl | (simp; omega) | (simp [*]; done)); done); refine AWP.run e tab_ok 300 rfl (by first | trivial | (simp [in64] <;> omega)) ?_)
      | (refine AWP.cond rfl false ?_ ?_; (focus (first | rfl | (simp; omega) | (simp [*]; done)); done); refine AWP.run e tab_ok 300 rfl (by first | trivial | (simp [in64] <;> omega)) ?_)
      | (refine AWP.pick rfl true ?_ ?_; (focus (first | rfl | (simp; omega) | (simp [*]; done)); done); refine AWP.run e tab_ok 300 rfl (by first | trivial | (simp [in64] <;> omega)) ?_)
      | (refine AWP.pick rfl false ?_ ?_; (focus (first | rfl | (simp; omega) | (simp [*]; done)); done); refine AWP.run e tab_ok 300 rfl (by first | trivial | (simp [in64] <;> omega)) ?_)
    )
  refine AWP.ret e tab_ok rfl ?_
  rw [hP]
  rfl

end Go.Proofs.Ytlmakgadjjpleaa
