import Derived.Test.YtlmakgadjjpleaaF3
open Go Go.Proofs Go.Sy
namespace Go.Proofs.Ytlmakgadjjpleaa

theorem every_eq (c f ev : Int) (hc : 0 ≤ c) (hf : 0 ≤ f) (he : f < ev) : ((c - f).tmod ev == 0) = (c.tmod ev == f) := by
  rw [Bool.eq_iff_iff, beq_iff_eq, beq_iff_eq, Int.tmod_eq_emod_of_nonneg hc]
  constructor
  · intro h
    have h1 := Int.dvd_of_tmod_eq_zero h
    have h2 := Int.emod_eq_emod_iff_emod_sub_eq_zero.2 (Int.emod_eq_zero_of_dvd h1)
    rw [h2, Int.emod_eq_of_lt hf he]
  · intro h
    exact Int.tmod_eq_zero_of_dvd (Int.dvd_of_emod_eq_zero (by rw [← Int.emod_eq_emod_iff_emod_sub_eq_zero, h, Int.emod_eq_of_lt hf he]))

set_option maxRecDepth 100000 in
theorem refPasses_eff (k m x mn mx ev fr old cnt v : Int) (h : rightB k mn mx ev fr cnt = true) : Eff Try.prog 13 [.agg (cells k m x mn mx ev fr old cnt), .i v] [] 0 (fun r _ _ => r = .b (passesB k m x mn mx ev fr old cnt v)) := by
  have hr : 1 ≤ k ∧ k ≤ 8 ∧ mn ≤ mx ∧ 0 ≤ cnt ∧ cnt ≤ 1099511627776 ∧ (k = 8 → 1 ≤ ev ∧ ev ≤ 1000000 ∧ 0 ≤ fr ∧ fr < ev) := by
    have := h; unfold rightB at this; exact of_decide_eq_true this
  have h8 : k = 8 → ((cnt - fr).tmod ev == 0) = (cnt.tmod ev == fr) := fun hk => every_eq cnt fr ev (by omega) (by omega) (by omega)
  refine eff_of Try.func13 rfl rfl rfl fun cx e hP => ?_
  refine AWP.run e tab_ok 300 rfl (by first | trivial | (simp [in64] <;> omega)) ?_
  repeat' (
    first
      | (refine AWP.ret e tab_ok rfl ?_; rw [hP])
      | (refine AWP.fin e tab_ok rfl ?_; rw [hP])
      | (first
        | (refine AWP.guard rfl true ?_ ?_; (focus (first | rfl | (simp; omega) | (simp [*]; done)); done))
        | (refine AWP.guard rfl false ?_ ?_; (focus (first | rfl | (simp; omega) | (simp [*]; done)); done))
        | (refine AWP.guard2 rfl (fun h => ?_) (fun h => ?_) <;> (try simp only [decide_eq_true_eq, decide_eq_false_iff_not, bne_iff_ne, beq_iff_eq, beq_eq_false_iff_ne, bne_eq_false_iff_eq, ne_eq, Bool.not_eq_true', Bool.not_eq_false', Bool.and_eq_true, Bool.and_eq_false_iff, Bool.or_eq_true, Bool.or_eq_false_iff] at h))
        | (refine AWP.cond rfl true ?_ ?_; (focus (first | rfl | (simp; omega) | (simp [*]; done)); done))
        | (refine AWP.cond rfl false ?_ ?_; (focus (first | rfl | (simp; omega) | (simp [*]; done)); done))
        | (refine AWP.cond2 rfl (fun h => ?_) (fun h => ?_) <;> (try simp only [decide_eq_true_eq, decide_eq_false_iff_not, bne_iff_ne, beq_iff_eq, beq_eq_false_iff_ne, bne_eq_false_iff_eq, ne_eq, Bool.not_eq_true', Bool.not_eq_false', Bool.and_eq_true, Bool.and_eq_false_iff, Bool.or_eq_true, Bool.or_eq_false_iff] at h))
        | (refine AWP.pick rfl true ?_ ?_; (focus (first | rfl | (simp; omega) | (simp [*]; done)); done))
        | (refine AWP.pick rfl false ?_ ?_; (focus (first | rfl | (simp; omega) | (simp [*]; done)); done))
        | (refine AWP.pick2 rfl (fun h => ?_) (fun h => ?_) <;> (try simp only [decide_eq_true_eq, decide_eq_false_iff_not, bne_iff_ne, beq_iff_eq, beq_eq_false_iff_ne, bne_eq_false_iff_eq, ne_eq, Bool.not_eq_true', Bool.not_eq_false', Bool.and_eq_true, Bool.and_eq_false_iff, Bool.or_eq_true, Bool.or_eq_false_iff] at h))) <;>
        refine AWP.run e tab_ok 300 rfl (by first | trivial | (simp [in64] <;> omega)) ?_
    )
  all_goals clear hP e
  all_goals (simp only [strip]; unfold passesB; try simp only [← h8 ‹_›])
  all_goals (repeat' (first | omega | split))
  all_goals first | rfl | (simp [*]; done) | (simp; rw [Bool.eq_iff_iff]; simp; omega)

set_option maxRecDepth 100000 in
theorem refStep_eff (k m x mn mx ev fr old cnt v : Int) (h : rightB k mn mx ev fr cnt = true) (_ : cnt < 1099511627776) (hc0 : 0 ≤ cnt) : Eff Try.prog 16 [.agg (cells k m x mn mx ev fr old cnt), .i v] [] 0 (fun r _ _ => r = .tup [.agg (cells k m x mn mx ev fr (if passesB k m x mn mx ev fr old cnt v = true then v else old) (cnt + 1)), .b (passesB k m x mn mx ev fr old cnt v)]) := by
  refine eff_of Try.func16 rfl rfl rfl fun cx e hP => ?_
  refine AWP.run e tab_ok 300 rfl (by first | trivial | (simp [in64] <;> omega)) ?_
  refine AWP.call e (refPasses_eff k m x mn mx ev fr old cnt v h) rfl [] (.cons (.refl _) (.cons (.refl _) .nil)) rfl rfl ?_
  rintro _ _ _ rfl
  refine ⟨rfl, .inl rfl, ?_⟩
  generalize passesB k m x mn mx ev fr old cnt v = is at hP ⊢
  refine AWP.run e tab_ok 300 rfl (by first | trivial | (simp [in64] <;> omega)) ?_
  repeat' (
    first
      | (refine AWP.ret e tab_ok rfl ?_; rw [hP])
      | (refine AWP.fin e tab_ok rfl ?_; rw [hP])
      | (first
        | (refine AWP.guard rfl true ?_ ?_; (focus (first | rfl | (simp; omega) | (simp [*]; done)); done))
        | (refine AWP.guard rfl false ?_ ?_; (focus (first | rfl | (simp; omega) | (simp [*]; done)); done))
        | (refine AWP.guard2 rfl (fun h => ?_) (fun h => ?_) <;> (try simp only [decide_eq_true_eq, decide_eq_false_iff_not, bne_iff_ne, beq_iff_eq, beq_eq_false_iff_ne, bne_eq_false_iff_eq, ne_eq, Bool.not_eq_true', Bool.not_eq_false', Bool.and_eq_true, Bool.and_eq_false_iff, Bool.or_eq_true, Bool.or_eq_false_iff] at h))
        | (refine AWP.cond rfl true ?_ ?_; (focus (first | rfl | (simp; omega) | (simp [*]; done)); done))
        | (refine AWP.cond rfl false ?_ ?_; (focus (first | rfl | (simp; omega) | (simp [*]; done)); done))
        | (refine AWP.cond2 rfl (fun h => ?_) (fun h => ?_) <;> (try simp only [decide_eq_true_eq, decide_eq_false_iff_not, bne_iff_ne, beq_iff_eq, beq_eq_false_iff_ne, bne_eq_false_iff_eq, ne_eq, Bool.not_eq_true', Bool.not_eq_false', Bool.and_eq_true, Bool.and_eq_false_iff, Bool.or_eq_true, Bool.or_eq_false_iff] at h))
        | (refine AWP.pick rfl true ?_ ?_; (focus (first | rfl | (simp; omega) | (simp [*]; done)); done))
        | (refine AWP.pick rfl false ?_ ?_; (focus (first | rfl | (simp; omega) | (simp [*]; done)); done))
        | (refine AWP.pick2 rfl (fun h => ?_) (fun h => ?_) <;> (try simp only [decide_eq_true_eq, decide_eq_false_iff_not, bne_iff_ne, beq_iff_eq, beq_eq_false_iff_ne, bne_eq_false_iff_eq, ne_eq, Bool.not_eq_true', Bool.not_eq_false', Bool.and_eq_true, Bool.and_eq_false_iff, Bool.or_eq_true, Bool.or_eq_false_iff] at h))) <;>
        refine AWP.run e tab_ok 300 rfl (by first | trivial | (simp [in64] <;> omega)) ?_
    )
  all_goals (simp [strip, *]; done)

set_option maxRecDepth 100000 in
theorem refRun_ok (k m x mn mx ev fr old cnt : Int) (l : List Int) (h : rightB k mn mx ev fr cnt = true) (hc : cnt + l.length ≤ 1099511627776) :
    Eff Try.prog 15 [.agg (cells k m x mn mx ev fr old cnt), .d (.sl 1 (ints l))] [] 0 (fun r _ _ => r = .d (.sl 1 (ints (runL k m x mn mx ev fr old cnt l)))) := by
  have hr : 1 ≤ k ∧ k ≤ 8 ∧ mn ≤ mx ∧ 0 ≤ cnt ∧ cnt ≤ 1099511627776 ∧ (k = 8 → 1 ≤ ev ∧ ev ≤ 1000000 ∧ 0 ≤ fr ∧ fr < ev) := by
    have := h; unfold rightB at this; exact of_decide_eq_true this
  refine eff_of Try.func15 rfl rfl rfl fun cx e hP => ?_
  refine AWP.run e tab_ok 300 rfl (by first | trivial | (simp [in64] <;> omega)) ?_
  refine AWP.loop (ι := Nat × Int × Int × List Int × Nat)
    (fun s => ⟨[(13, .i s.1), (12, .i (ints l).length), (11, .d (.sl 1 (ints l))), (5, .own 1 1 0 s.2.2.2.1.length s.2.2.2.2), (2, .ptr 0 0)], [(0, .box (cells k m x mn mx ev fr s.2.1 s.2.2.1)), (1, .row 2 false 1 ((ints s.2.2.2.1).map (·.map SV.d)) s.2.2.2.2)], 2⟩)
    (fun s => s.1 ≤ l.length ∧ s.2.2.1 = cnt + s.1 ∧ s.2.2.2.1.length ≤ s.1 ∧ s.2.2.2.1 ++ runL k m x mn mx ev fr s.2.1 s.2.2.1 (l.drop s.1) = runL k m x mn mx ev fr old cnt l) (fun s => l.length - s.1)
    (0, old, cnt, [], 0) ⟨Nat.zero_le _, by simp, Nat.le_refl _, rfl⟩
    ?_ ?_
  · intro g
    refine AWP.less e ?_ ?_ ?_ ?_ ?_ g
    · exact ⟨rfl, rfl, rfl, rfl, rfl, trivial⟩
    · exact ⟨rfl, rfl, trivial⟩
    · rfl
    · exact ⟨rfl, rfl, rfl, ints_ok _ _, trivial⟩
    · rfl
  rintro ⟨i, old', c', o, C⟩ Φ hI next
  obtain ⟨h1, h2, h3, h4⟩ : i ≤ l.length ∧ c' = cnt + i ∧ o.length ≤ i ∧ o ++ runL k m x mn mx ev fr old' c' (l.drop i) = runL k m x mn mx ev fr old cnt l := hI
  refine AWP.run e tab_ok 300 rfl (by first | trivial | (simp [in64] <;> omega)) ?_
  refine AWP.cond2 rfl (fun hlt => ?_) (fun hlt => ?_)
  · have hlt : i < l.length := by simpa using hlt
    refine AWP.run e tab_ok 300 rfl (by first | trivial | (simp [in64] <;> omega)) ?_
    refine AWP.idx e tab_ok rfl rfl rfl rfl i rfl (el := [.v (.int .i64 l[i])]) (by simp [hlt]) ?_
    refine AWP.run e tab_ok 300 rfl (by first | trivial | (simp [in64] <;> omega)) ?_
    have hright : rightB k mn mx ev fr c' = true := by
      unfold rightB; refine decide_eq_true ?_; omega
    refine AWP.call e (refStep_eff k m x mn mx ev fr old' c' l[i] hright (by omega) (by omega)) rfl [] (.cons (.refl _) (.cons (.refl _) .nil)) rfl rfl ?_
    rintro _ _ _ rfl
    refine ⟨rfl, .inl rfl, ?_⟩
    have hdrop : l.drop i = l[i] :: l.drop (i + 1) := (List.drop_eq_getElem_cons hlt)
    rw [hdrop, runL] at h4
    generalize passesB k m x mn mx ev fr old' c' l[i] = is at h4 ⊢
    refine AWP.run e tab_ok 300 rfl (by first | trivial | (simp [in64] <;> omega)) ?_
    refine AWP.cond2 rfl (fun his => ?_) (fun his => ?_)
    · subst his
      refine AWP.run e tab_ok 300 rfl (by first | trivial | (simp [in64] <;> omega)) ?_
      refine AWP.append e tab_ok rfl rfl rfl rfl rfl rfl rfl rfl (.own rfl (by simp)) (by simp) (by simp [allCells, isCell]) (by simp; omega) (by simp; omega) fun C2 hC2 => ?_
      refine AWP.run e tab_ok 300 rfl (by first | trivial | (simp [in64] <;> omega)) ?_
      refine AWP.lessR e [(1, 4)] ?_ ?_ ?_ ?_ ?_ ?_ (next (i + 1, l[i], c' + 1, o ++ [l[i]], C2) ?_ ?_)
      · refine ⟨rfl, rfl, rfl, ?_, rfl, trivial⟩
        show some (SV.own 4 1 0 (o.length + 1) C2) = some (SV.own 4 1 0 (o ++ [l[i]]).length C2)
        simp
      · refine ⟨rfl, ?_, trivial⟩
        show some (Blk.row 2 false 1 ((ints o).map (·.map SV.d) ++ [[SV.i l[i]]]) C2) = some (Blk.row 2 false 1 ((ints (o ++ [l[i]])).map (·.map SV.d)) C2)
        simp [ints]
      · rfl
      · exact ⟨rfl, rfl, rfl, ints_ok _ _, trivial⟩
      · rfl
      · rfl
      · refine ⟨hlt, ?_, ?_, ?_⟩
        · simp; omega
        · simp; omega
        · simpa using h4
      · show l.length - (i + 1) < l.length - i
        omega
    · subst his
      refine AWP.run e tab_ok 300 rfl (by first | trivial | (simp [in64] <;> omega)) ?_
      refine AWP.less e ?_ ?_ ?_ ?_ ?_ (next (i + 1, old', c' + 1, o, C) ?_ ?_)
      · exact ⟨rfl, rfl, rfl, rfl, rfl, trivial⟩
      · exact ⟨rfl, rfl, trivial⟩
      · rfl
      · exact ⟨rfl, rfl, rfl, ints_ok _ _, trivial⟩
      · rfl
      · refine ⟨hlt, ?_, ?_, ?_⟩
        · simp; omega
        · simp; omega
        · simpa using h4
      · show l.length - (i + 1) < l.length - i
        omega
  · refine AWP.run e tab_ok 300 rfl (by first | trivial | (simp [in64] <;> omega)) ?_
    refine AWP.freezeP (id := 1) (ints o) rfl rfl rfl (by simp [lenP]) ?_
    refine AWP.ret e tab_ok rfl ?_
    rw [hP]
    have hle : l.length ≤ i := by simpa using hlt
    rw [List.drop_eq_nil_of_le hle, runL, List.append_nil] at h4
    rw [← h4]
    simp [strip]
    exact List.take_of_length_le (by simp [ints])

set_option maxRecDepth 100000 in
theorem same_eff (a b : List Int) (ha : a.length ≤ 1099511627776) : Eff Try.prog 14 [.d (.sl 1 (ints a)), .d (.sl 1 (ints b))] [] 0 (fun r _ _ => r = .b (a == b)) := by
  refine eff_of Try.func14 rfl rfl rfl fun cx e hP => ?_
  refine AWP.run e tab_ok 300 rfl (by first | trivial | (simp [in64] <;> omega)) ?_
  refine AWP.cond2 rfl (fun hne => ?_) (fun hne => ?_)
  · refine AWP.run e tab_ok 300 rfl (by first | trivial | (simp [in64] <;> omega)) ?_
    refine AWP.ret e tab_ok rfl ?_
    rw [hP]
    have hne : a.length ≠ b.length := by simpa [bne_iff_ne, Int.natCast_inj] using hne
    show SV.b false = SV.b (a == b)
    have : (a == b) = false := by
      rw [beq_eq_false_iff_ne]
      rintro rfl
      exact hne rfl
    rw [this]
  · have hne : a.length = b.length := by
      have := hne; simp [bne_eq_false_iff_eq] at this; omega
    refine AWP.run e tab_ok 300 rfl (by first | trivial | (simp [in64] <;> omega)) ?_
    refine AWP.loop (ι := Nat) (fun i => ⟨[(13, .i i), (12, .i (ints a).length), (0, .d (.sl 1 (ints a))), (1, .d (.sl 1 (ints b)))], [], 0⟩) (fun i => i ≤ a.length ∧ a.take i = b.take i) (fun i => a.length - i) 0 ⟨Nat.zero_le _, rfl⟩ ?_ ?_
    · intro g
      refine AWP.less e ?_ ?_ ?_ ?_ ?_ g
      · exact ⟨rfl, rfl, rfl, rfl, trivial⟩
      · exact trivial
      · rfl
      · exact trivial
      · rfl
    rintro i Φ ⟨hi, hs⟩ next
    refine AWP.run e tab_ok 300 rfl (by first | trivial | (simp [in64] <;> omega)) ?_
    refine AWP.cond2 rfl (fun hlt => ?_) (fun hlt => ?_)
    · have hlt : i < a.length := by simpa using hlt
      have hlb : i < b.length := by omega
      refine AWP.run e tab_ok 300 rfl (by first | trivial | (simp [in64] <;> omega)) ?_
      refine AWP.dr ?_
      repeat (
        first
          | (refine Dr.step rfl (VStep.ev e tab_ok rfl rfl ?_) ?_; (focus (first | assumption | with_reducible trivial | rfl | (simp; omega) | (simp [*]; done))))
          | (refine Dr.step rfl (VStep.go rfl (VStep.ev e tab_ok rfl rfl ?_)) ?_; (focus (first | assumption | with_reducible trivial | rfl | (simp; omega) | (simp [*]; done))))
          | (refine Dr.step rfl (VStep.goA rfl ?_ (VStep.ev e tab_ok rfl rfl ?_)) ?_; (focus (first | assumption | with_reducible trivial | rfl | (simp; omega) | (simp [*]; done))); (focus (first | assumption | with_reducible trivial | rfl | (simp; omega) | (simp [*]; done))))
          | refine Dr.step rfl (VStep.not e rfl rfl rfl) ?_
          | (refine Dr.step rfl (VStep.notA e rfl rfl ?_) ?_; (focus (first | assumption | with_reducible trivial | rfl | (simp; omega) | (simp [*]; done))))
          | refine Dr.step rfl (VStep.un e rfl rfl) ?_
          | (refine Dr.step rfl (VStep.pickA e rfl rfl (v := true) ?_ rfl) ?_; (focus (first | assumption | with_reducible trivial | rfl | (simp; omega) | (simp [*]; done))))
          | (refine Dr.step rfl (VStep.pickA e rfl rfl (v := false) ?_ rfl) ?_; (focus (first | assumption | with_reducible trivial | rfl | (simp; omega) | (simp [*]; done))))
        )
      refine Dr.step rfl (VStep.idx e tab_ok rfl rfl rfl rfl i rfl (el := [.v (.int .i64 a[i])]) (by simp [hlt])) ?_
      repeat (
        first
          | (refine Dr.step rfl (VStep.ev e tab_ok rfl rfl ?_) ?_; (focus (first | assumption | with_reducible trivial | rfl | (simp; omega) | (simp [*]; done))))
          | (refine Dr.step rfl (VStep.go rfl (VStep.ev e tab_ok rfl rfl ?_)) ?_; (focus (first | assumption | with_reducible trivial | rfl | (simp; omega) | (simp [*]; done))))
          | (refine Dr.step rfl (VStep.goA rfl ?_ (VStep.ev e tab_ok rfl rfl ?_)) ?_; (focus (first | assumption | with_reducible trivial | rfl | (simp; omega) | (simp [*]; done))); (focus (first | assumption | with_reducible trivial | rfl | (simp; omega) | (simp [*]; done))))
          | refine Dr.step rfl (VStep.not e rfl rfl rfl) ?_
          | (refine Dr.step rfl (VStep.notA e rfl rfl ?_) ?_; (focus (first | assumption | with_reducible trivial | rfl | (simp; omega) | (simp [*]; done))))
          | refine Dr.step rfl (VStep.un e rfl rfl) ?_
          | (refine Dr.step rfl (VStep.pickA e rfl rfl (v := true) ?_ rfl) ?_; (focus (first | assumption | with_reducible trivial | rfl | (simp; omega) | (simp [*]; done))))
          | (refine Dr.step rfl (VStep.pickA e rfl rfl (v := false) ?_ rfl) ?_; (focus (first | assumption | with_reducible trivial | rfl | (simp; omega) | (simp [*]; done))))
        )
      refine Dr.step rfl (VStep.idx e tab_ok rfl rfl rfl rfl i rfl (el := [.v (.int .i64 b[i])]) (by simp [hlb])) ?_
      repeat (
        first
          | (refine Dr.step rfl (VStep.ev e tab_ok rfl rfl ?_) ?_; (focus (first | assumption | with_reducible trivial | rfl | (simp; omega) | (simp [*]; done))))
          | (refine Dr.step rfl (VStep.go rfl (VStep.ev e tab_ok rfl rfl ?_)) ?_; (focus (first | assumption | with_reducible trivial | rfl | (simp; omega) | (simp [*]; done))))
          | (refine Dr.step rfl (VStep.goA rfl ?_ (VStep.ev e tab_ok rfl rfl ?_)) ?_; (focus (first | assumption | with_reducible trivial | rfl | (simp; omega) | (simp [*]; done))); (focus (first | assumption | with_reducible trivial | rfl | (simp; omega) | (simp [*]; done))))
          | refine Dr.step rfl (VStep.not e rfl rfl rfl) ?_
          | (refine Dr.step rfl (VStep.notA e rfl rfl ?_) ?_; (focus (first | assumption | with_reducible trivial | rfl | (simp; omega) | (simp [*]; done))))
          | refine Dr.step rfl (VStep.un e rfl rfl) ?_
          | (refine Dr.step rfl (VStep.pickA e rfl rfl (v := true) ?_ rfl) ?_; (focus (first | assumption | with_reducible trivial | rfl | (simp; omega) | (simp [*]; done))))
          | (refine Dr.step rfl (VStep.pickA e rfl rfl (v := false) ?_ rfl) ?_; (focus (first | assumption | with_reducible trivial | rfl | (simp; omega) | (simp [*]; done))))
        )
      refine Dr.fin e rfl rfl (by kernel_rfl) ?_
      refine AWP.run e tab_ok 300 rfl (by first | trivial | (simp [in64] <;> omega)) ?_
      refine AWP.cond2 rfl (fun hv => ?_) (fun hv => ?_)
      · refine AWP.run e tab_ok 300 rfl (by first | trivial | (simp [in64] <;> omega)) ?_
        refine AWP.ret e tab_ok rfl ?_
        rw [hP]
        have hv : a[i] ≠ b[i] := by simpa using hv
        show SV.b false = SV.b (a == b)
        have : (a == b) = false := by
          rw [beq_eq_false_iff_ne]
          rintro rfl
          exact hv rfl
        rw [this]
      · have hv : a[i] = b[i] := by simpa using hv
        refine AWP.run e tab_ok 300 rfl (by first | trivial | (simp [in64] <;> omega)) ?_
        refine AWP.less e ?_ ?_ ?_ ?_ ?_ (next (i + 1) ?_ ?_)
        · exact ⟨rfl, rfl, rfl, rfl, trivial⟩
        · exact trivial
        · rfl
        · exact trivial
        · rfl
        · exact ⟨hlt, by rw [List.take_succ_eq_append_getElem hlt, List.take_succ_eq_append_getElem hlb, hs, hv]⟩
        · omega
    · refine AWP.run e tab_ok 300 rfl (by first | trivial | (simp [in64] <;> omega)) ?_
      refine AWP.ret e tab_ok rfl ?_
      rw [hP]
      have hle : a.length ≤ i := by simpa using hlt
      rw [List.take_of_length_le hle, List.take_of_length_le (by omega)] at hs
      show SV.b true = SV.b (a == b)
      rw [hs, beq_self_eq_true]

set_option maxRecDepth 100000 in
theorem alive_eff : Eff Try.prog 12 [] [] 0 (fun r _ _ => r = .b true) := by
  refine eff_of Try.func12 rfl rfl rfl fun cx e hP => ?_
  refine AWP.run e tab_ok 300 rfl (by first | trivial | (simp [in64] <;> omega)) ?_
  refine AWP.freezeP (id := 0) (ints [1, 1, 2, 2, 1]) rfl rfl rfl (by simp [lenP, ints, argT]) ?_
  refine AWP.call e (run_ok 5 (-1) 0 0 0 0 0 0 0 [1, 1, 2, 2, 1] rfl (by simp)) rfl [] (.cons (.refl _) (.cons (.refl _) .nil)) rfl rfl ?_
  rintro _ _ _ rfl
  refine ⟨rfl, .inl rfl, ?_⟩
  rw [show runL 5 (-1) 0 0 0 0 0 0 0 [1, 1, 2, 2, 1] = [1, 2, 1] by decide]
  refine AWP.run e tab_ok 300 rfl (by first | trivial | (simp [in64] <;> omega)) ?_
  repeat (
    first
      | (refine AWP.guard rfl true ?_ ?_; (focus (first | rfl | (simp; omega) | (simp [*]; done)); done); refine AWP.run e tab_ok 300 rfl (by first | trivial | (simp [in64] <;> omega)) ?_)
      | (refine AWP.guard rfl false ?_ ?_; (focus (first | rfl | (simp; omega) | (simp [*]; done)); done); refine AWP.run e tab_ok 300 rfl (by first | trivial | (simp [in64] <;> omega)) ?_)
      | (refine AWP.cond rfl true ?_ ?_; (focus (first | rfl | (simp; omega) | (simp [*]; done)); done); refine AWP.run e tab_ok 300 rfl (by first | trivial | (simp [in64] <;> omega)) ?_)
      | (refine AWP.cond rfl false ?_ ?_; (focus (first | rfl | (simp; omega) | (simp [*]; done)); done); refine AWP.run e tab_ok 300 rfl (by first | trivial | (simp [in64] <;> omega)) ?_)
      | (refine AWP.pick rfl true ?_ ?_; (focus (first | rfl | (simp; omega) | (simp [*]; done)); done); refine AWP.run e tab_ok 300 rfl (by first | trivial | (simp [in64] <;> omega)) ?_)
      | (refine AWP.pick rfl false ?_ ?_; (focus (first | rfl | (simp; omega) | (simp [*]; done)); done); refine AWP.run e tab_ok 300 rfl (by first | trivial | (simp [in64] <;> omega)) ?_)
    )
  refine AWP.call e (same_eff [1, 2, 1] [1, 2, 1] (by simp)) rfl [1] (.cons (.refl _) (.cons (.own (ys := ints [1, 2, 1]) rfl (by simp) (by simp [ints])) .nil)) rfl rfl ?_
  rintro _ _ _ rfl
  refine ⟨rfl, .inr rfl, ?_⟩
  refine AWP.run e tab_ok 300 rfl (by first | trivial | (simp [in64] <;> omega)) ?_
  refine AWP.ret e tab_ok rfl ?_
  rw [hP]
  rfl

end Go.Proofs.Ytlmakgadjjpleaa
