import Derived.Test.YtkilkilejnaflaaF1
open Go Go.Proofs Go.Sy
namespace Go.Proofs.Ytkilkilejnaflaa

def rightG (s g : List Int) (t : Int) : Bool := decide (1 ≤ s.length ∧ s.length ≤ 16 ∧ g.length = s.length ∧ 0 ≤ t ∧ t ≤ 1099511627776)

theorem ints_len (l : List Int) : (ints l).length = l.length := List.length_map _

set_option maxRecDepth 100000 in
theorem may_eff (s : List Int) : Eff Try.prog 19 [sl s] [] 0 (fun r _ _ => r = .b (decide (1 ≤ s.length) && decide (s.length ≤ 16))) := by
  refine eff_of Try.func19 rfl rfl rfl fun cx e hP => ?_
  refine AWP.runL e tab_ok L19 300 rfl (by first | trivial | (simp [in64] <;> omega)) ?_
  repeat' (
    first
      | (refine AWP.ret e tab_ok rfl ?_; rw [hP])
      | (refine AWP.fin e tab_ok rfl ?_; rw [hP])
      | (first
        | (refine AWP.askT rfl ?_; (first | (refine Told.t rfl ?_) | (refine Told.f rfl ?_) | (refine Told.t ?_ ?_; (focus (first | assumption | (simp; omega) | (simp [*]; done)); done)) | (refine Told.f ?_ ?_; (focus (first | assumption | (simp; omega) | (simp [*]; done)); done)) | (refine Told.both (fun h => ?_) (fun h => ?_) <;> (try simp only [decide_eq_true_eq, decide_eq_false_iff_not] at h))))) <;>
        refine AWP.runL e tab_ok L19 300 rfl (by first | trivial | (simp [in64] <;> omega)) ?_
    )
  all_goals (first | rfl | (first | refine congrArg SV.b ?_ | skip); (try rw [Bool.eq_iff_iff]); simp only [decide_eq_true_eq, Bool.and_eq_true, Bool.false_eq_true, false_iff, List.length_map] at *; omega)

set_option maxRecDepth 100000 in
theorem has_eff (s : List Int) (i : Int) : Eff Try.prog 21 [sl s, .i i] [] 0 (fun r _ _ => r = .b (decide (0 ≤ i) && decide (i < s.length))) := by
  refine eff_of Try.func21 rfl rfl rfl fun cx e hP => ?_
  refine AWP.runL e tab_ok L21 300 rfl (by first | trivial | (simp [in64] <;> omega)) ?_
  repeat' (
    first
      | (refine AWP.ret e tab_ok rfl ?_; rw [hP])
      | (refine AWP.fin e tab_ok rfl ?_; rw [hP])
      | (first
        | (refine AWP.askT rfl ?_; (first | (refine Told.t rfl ?_) | (refine Told.f rfl ?_) | (refine Told.t ?_ ?_; (focus (first | assumption | (simp; omega) | (simp [*]; done)); done)) | (refine Told.f ?_ ?_; (focus (first | assumption | (simp; omega) | (simp [*]; done)); done)) | (refine Told.both (fun h => ?_) (fun h => ?_) <;> (try simp only [decide_eq_true_eq, decide_eq_false_iff_not] at h))))) <;>
        refine AWP.runL e tab_ok L21 300 rfl (by first | trivial | (simp [in64] <;> omega)) ?_
    )
  all_goals (first | rfl | (first | refine congrArg SV.b ?_ | skip); (try rw [Bool.eq_iff_iff]); simp only [decide_eq_true_eq, Bool.and_eq_true, Bool.false_eq_true, false_iff, List.length_map] at *; omega)

set_option maxRecDepth 100000 in
theorem right_eff (s g : List Int) (t : Int) : Eff Try.prog 14 [.agg (grp s g t)] [] 0 (fun r _ _ => r = .b (rightG s g t)) := by
  refine eff_of Try.func14 rfl rfl rfl fun cx e hP => ?_
  refine AWP.runL e tab_ok L14 300 rfl (by first | trivial | (simp [in64] <;> omega)) ?_
  refine AWP.callQ e rfl rfl ?_
  refine CallQ.mk (may_eff s) rfl rfl ?_
  refine AWP.runL e tab_ok L14 300 rfl (by first | trivial | (simp [in64] <;> omega)) ?_
  repeat' (
    first
      | (refine AWP.ret e tab_ok rfl ?_; rw [hP])
      | (refine AWP.fin e tab_ok rfl ?_; rw [hP])
      | (first
        | (refine AWP.askT rfl ?_; (first | (refine Told.t rfl ?_) | (refine Told.f rfl ?_) | (refine Told.t ?_ ?_; (focus (first | assumption | (simp; omega) | (simp [*]; done)); done)) | (refine Told.f ?_ ?_; (focus (first | assumption | (simp; omega) | (simp [*]; done)); done)) | (refine Told.both (fun h => ?_) (fun h => ?_) <;> (try simp only [decide_eq_true_eq, decide_eq_false_iff_not, beq_iff_eq, beq_eq_false_iff_ne, ne_eq, Bool.and_eq_true, Bool.and_eq_false_iff] at h))))) <;>
        refine AWP.runL e tab_ok L14 300 rfl (by first | trivial | (simp [in64] <;> omega)) ?_
    )
  all_goals (first | rfl | (first | refine congrArg SV.b ?_ | skip); (try rw [Bool.eq_iff_iff]); simp only [decide_eq_true_eq, Bool.false_eq_true, false_iff, List.length_map, rightG] at *; omega)

set_option maxRecDepth 100000 in
theorem refRight_eff (s g : List Int) (t : Int) : Eff Try.prog 15 [.agg (grp s g t)] [] 0 (fun r _ _ => r = .b (rightG s g t)) := by
  refine eff_of Try.func15 rfl rfl rfl fun cx e hP => ?_
  refine AWP.runL e tab_ok L15 300 rfl (by first | trivial | (simp [in64] <;> omega)) ?_
  repeat' (
    first
      | (refine AWP.ret e tab_ok rfl ?_; rw [hP])
      | (refine AWP.fin e tab_ok rfl ?_; rw [hP])
      | (first
        | (refine AWP.askT rfl ?_; (first | (refine Told.t rfl ?_) | (refine Told.f rfl ?_) | (refine Told.t ?_ ?_; (focus (first | assumption | (simp; omega) | (simp [*]; done)); done)) | (refine Told.f ?_ ?_; (focus (first | assumption | (simp; omega) | (simp [*]; done)); done)) | (refine Told.both (fun h => ?_) (fun h => ?_) <;> (try simp only [decide_eq_true_eq, decide_eq_false_iff_not, beq_iff_eq, beq_eq_false_iff_ne, ne_eq] at h))))) <;>
        refine AWP.runL e tab_ok L15 300 rfl (by first | trivial | (simp [in64] <;> omega)) ?_
    )
  all_goals (first | rfl | (first | refine congrArg SV.b ?_ | skip); (try rw [Bool.eq_iff_iff]); simp only [decide_eq_true_eq, Bool.false_eq_true, false_iff, List.length_map, rightG] at *; omega)

theorem ints_ne {s : List Int} (h : s ≠ []) : ints s ≠ [] := by
  cases s <;> simp at *

theorem ints_ok (n : Nat) (l : List Int) : ∀ e ∈ (ints l).map (·.map SV.d), SV.idsLt.go n e = true := okEls n _
theorem ints_cells (a : List Int) : ∀ e ∈ (ints a).map (·.map SV.d), allCells e = true := by
  intro e he
  simp only [ints, List.map_map, List.mem_map] at he
  obtain ⟨v, _, rfl⟩ := he
  rfl

set_option maxRecDepth 100000 in
theorem clone_eff (s : List Int) (h : s ≠ []) (hl : s.length ≤ 100) : Eff Try.prog 20 [sl s] [] 0 (fun r _ _ => r = sl s) := by
  refine eff_of Try.func20 rfl rfl rfl fun cx e hP => ?_
  refine AWP.run e tab_ok 300 rfl ?_ ?_
  · exact ⟨ints_ne h, trivial, trivial, trivial⟩
  refine AWP.cond rfl false rfl ?_
  refine AWP.runL e tab_ok L20 300 rfl (by first | trivial | (simp [in64] <;> omega)) ?_
  refine AWP.append e tab_ok rfl rfl rfl rfl rfl rfl rfl rfl (.sl (ints s)) rfl (ints_cells s) (by simp; omega) (by simp; omega) fun C2 hC2 => ?_
  refine AWP.runL e tab_ok L20 300 rfl (by first | trivial | (simp [in64] <;> omega)) ?_
  refine AWP.freezeP (id := 1) (ints s) rfl rfl rfl (by simp [lenP]) ?_
  refine AWP.ret e tab_ok rfl ?_
  rw [hP]
  simp [strip, List.take_of_length_le]

end Go.Proofs.Ytkilkilejnaflaa
