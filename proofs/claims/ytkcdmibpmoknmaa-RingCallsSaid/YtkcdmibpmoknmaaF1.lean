import Derived.Test.YtkcdmibpmoknmaaSyv
import Derived.Test.YtkcdmibpmoknmaaL
import Derived.Test.YtkcdmibpmoknmaaProg
open Go Go.Proofs Go.Sy
namespace Go.Proofs.Ytkcdmibpmoknmaa
def tab : Tab := [
  (3, ⟨.int .i64, 1, 8, [.v (.int .i64 0)]⟩),
  (4, ⟨.bool, 1, 1, [.v (.bool false)]⟩),
  (9, ⟨.str, 1, 16, [.v (.string .empty)]⟩),
  (22, ⟨.slice 3, 1, 24, [.nil]⟩),
  (24, ⟨.struct [(22, 0), (3, 1), (4, 2)], 3, 40, [.nil, .v (.int .i64 0), .v (.bool false)]⟩),
  (25, ⟨.int .i64, 1, 8, [.v (.int .i64 0)]⟩),
  (35, ⟨.slice 9, 1, 24, [.nil]⟩),
  (37, ⟨.struct [(35, 0), (3, 1), (4, 2)], 3, 40, [.nil, .v (.int .i64 0), .v (.bool false)]⟩),
  (55, ⟨.slice 3, 1, 24, [.nil]⟩),
  (57, ⟨.slice 9, 1, 24, [.nil]⟩)]
theorem tab_ok : TabOk Try.prog tab := tabChk_ok (by kernel_rfl)

theorem take_map {α : Type} (f : α → List DV) (N : Int) (l : List α) (h : 0 ≤ N) : List.drop ((none : Option Int).getD 0).toNat (List.take ((some (if N < ((l.map f).length : Int) then N else ((l.map f).length : Int))).getD ((l.map f).length : Int)).toNat (l.map f)) = (l.take N.toNat).map f := by
  simp only [Option.getD_none, Option.getD_some, Int.toNat_zero, List.drop_zero, List.length_map]
  split
  · exact List.map_take.symm
  · rw [Int.toNat_natCast, List.take_of_length_le (by simp), List.take_of_length_le (by omega)]
theorem drop_map {α : Type} (f : α → List DV) (w n : Nat) (l : List α) (h : l.length = n) : List.drop ((some (w : Int)).getD 0).toNat (List.take ((none : Option Int).getD (n : Int)).toNat (l.map f)) = (l.drop w).map f := by
  simp only [Option.getD_none, Option.getD_some, Int.toNat_natCast]
  rw [List.take_of_length_le (by simp; omega), List.map_drop]

def rightR (n : Nat) (c : Int) : Bool := decide (1 ≤ c ∧ c ≤ 16 ∧ (n : Int) ≤ c)
theorem rightR_get {n : Nat} {c : Int} (h : rightR n c = true) : 1 ≤ c ∧ c ≤ 16 ∧ (n : Int) ≤ c := of_decide_eq_true h

-- $1 letter, $2 type of an element, $3 its value, $4 zero, $5 New, $6 Right, $7 Room, $8 Put, $9 Take, $A behind, $B Clone, $C the slice's type
abbrev rowI (l : List (Int)) : List (List DV) := l.map fun v => [.v (.int .i64 v)]
abbrev slI (l : List (Int)) : SV := .d (.sl 1 (rowI l))
abbrev ringI (l : List (Int)) (c : Int) (b : Bool) : SV := .agg [slI l, .i c, .b b]
theorem rowI_ok (n : Nat) (l : List (Int)) : ∀ e ∈ (rowI l).map (·.map SV.d), SV.idsLt.go n e = true := okEls n _
theorem rowI_cells (a : List (Int)) : ∀ e ∈ (rowI a).map (·.map SV.d), allCells e = true := by
  intro e he
  simp only [rowI, List.map_map, List.mem_map] at he
  obtain ⟨v, _, rfl⟩ := he
  rfl
theorem rowI_ne {s : List (Int)} (h : s ≠ []) : rowI s ≠ [] := by
  cases s <;> simp at *

set_option maxRecDepth 100000 in
theorem newI_ok (n : Int) (b : Bool) (h1 : 1 ≤ n) (h2 : n ≤ 16) : Eff Try.prog 7 [.i n, .b b] [] 0 (fun r _ _ => r = .tup [ringI [] n b, .i 0]) := by
  refine eff_of Try.func7 rfl rfl rfl fun cx e hP => ?_
  refine AWP.runL e tab_ok L7 300 rfl (by first | trivial | (simp [in64] <;> omega)) ?_
  repeat (
    first
      | (refine AWP.askT rfl ?_; (first | (refine Told.t rfl ?_) | (refine Told.f rfl ?_) | (refine Told.t ?_ ?_; (focus (first | assumption | (simp; omega) | (simp [*]; done)); done)) | (refine Told.f ?_ ?_; (focus (first | assumption | (simp; omega) | (simp [*]; done)); done))); refine AWP.runL e tab_ok L7 300 rfl (by first | trivial | (simp [in64] <;> omega)) ?_)
    )
  refine AWP.retW e tab_ok rfl (r' := .tup [ringI [] n b, .i 0]) ?_ ?_
  (focus (repeat' (first | exact WkL.nil | (refine WkL.cons ?_ ?_) | exact Wk.refl _ | exact Wk.nil _ | (refine Wk.aggL ?_) | (refine Wk.tupL ?_))))
  rw [hP]

set_option maxRecDepth 100000 in
theorem newI_bad (n : Int) (b : Bool) (h : n < 1 ∨ 16 < n) : Eff Try.prog 7 [.i n, .b b] [] 0 (fun r _ _ => r = .tup [ringI [] 0 false, .i 1]) := by
  refine eff_of Try.func7 rfl rfl rfl fun cx e hP => ?_
  rcases h with h | h
  · refine AWP.runL e tab_ok L7 300 rfl (by first | trivial | (simp [in64] <;> omega)) ?_
    repeat (
      first
        | (refine AWP.askT rfl ?_; (first | (refine Told.t rfl ?_) | (refine Told.f rfl ?_) | (refine Told.t ?_ ?_; (focus (first | assumption | (simp; omega) | (simp [*]; done)); done)) | (refine Told.f ?_ ?_; (focus (first | assumption | (simp; omega) | (simp [*]; done)); done))); refine AWP.runL e tab_ok L7 300 rfl (by first | trivial | (simp [in64] <;> omega)) ?_)
      )
    refine AWP.retW e tab_ok rfl (r' := .tup [ringI [] 0 false, .i 1]) ?_ ?_
    (focus (repeat' (first | exact WkL.nil | (refine WkL.cons ?_ ?_) | exact Wk.refl _ | exact Wk.nil _ | (refine Wk.aggL ?_) | (refine Wk.tupL ?_))))
    rw [hP]
  · refine AWP.runL e tab_ok L7 300 rfl (by first | trivial | (simp [in64] <;> omega)) ?_
    repeat (
      first
        | (refine AWP.askT rfl ?_; (first | (refine Told.t rfl ?_) | (refine Told.f rfl ?_) | (refine Told.t ?_ ?_; (focus (first | assumption | (simp; omega) | (simp [*]; done)); done)) | (refine Told.f ?_ ?_; (focus (first | assumption | (simp; omega) | (simp [*]; done)); done))); refine AWP.runL e tab_ok L7 300 rfl (by first | trivial | (simp [in64] <;> omega)) ?_)
      )
    refine AWP.retW e tab_ok rfl (r' := .tup [ringI [] 0 false, .i 1]) ?_ ?_
    (focus (repeat' (first | exact WkL.nil | (refine WkL.cons ?_ ?_) | exact Wk.refl _ | exact Wk.nil _ | (refine Wk.aggL ?_) | (refine Wk.tupL ?_))))
    rw [hP]

set_option maxRecDepth 100000 in
theorem rightI_eff (l : List (Int)) (c : Int) (b : Bool) : Eff Try.prog 23 [ringI l c b] [] 0 (fun r _ _ => r = .b (rightR l.length c)) := by
  refine eff_of Try.func23 rfl rfl rfl fun cx e hP => ?_
  refine AWP.runL e tab_ok L23 300 rfl (by first | trivial | (simp [in64] <;> omega)) ?_
  repeat' (
    first
      | (refine AWP.ret e tab_ok rfl ?_; rw [hP])
      | (refine AWP.fin e tab_ok rfl ?_; rw [hP])
      | (first
        | (refine AWP.askT rfl ?_; (first | (refine Told.t rfl ?_) | (refine Told.f rfl ?_) | (refine Told.t ?_ ?_; (focus (first | assumption | (simp; omega) | (simp [*]; done)); done)) | (refine Told.f ?_ ?_; (focus (first | assumption | (simp; omega) | (simp [*]; done)); done)) | (refine Told.both (fun h => ?_) (fun h => ?_) <;> (try simp only [decide_eq_true_eq, decide_eq_false_iff_not] at h))))) <;>
        refine AWP.runL e tab_ok L23 300 rfl (by first | trivial | (simp [in64] <;> omega)) ?_
    )
  all_goals (first | rfl | (first | refine congrArg SV.b ?_ | skip); (try rw [Bool.eq_iff_iff]); simp only [decide_eq_true_eq, Bool.false_eq_true, false_iff, List.length_map, rightR] at *; omega)

set_option maxRecDepth 100000 in
theorem roomI_eff (l : List (Int)) (c : Int) (b : Bool) (h : rightR l.length c = true) : Eff Try.prog 11 [ringI l c b] [] 0 (fun r _ _ => r = .i (c - l.length)) := by
  have hr := rightI_eff l c b
  obtain ⟨h1, h2, h3⟩ := rightR_get h
  rw [h] at hr
  refine eff_of Try.func11 rfl rfl rfl fun cx e hP => ?_
  refine AWP.runL e tab_ok L11 300 rfl (by first | trivial | (simp [in64] <;> omega)) ?_
  repeat (
    first
      | (refine AWP.askT rfl ?_; (first | (refine Told.t rfl ?_) | (refine Told.f rfl ?_) | (refine Told.t ?_ ?_; (focus (first | assumption | (simp; omega) | (simp [*]; done)); done)) | (refine Told.f ?_ ?_; (focus (first | assumption | (simp; omega) | (simp [*]; done)); done))); refine AWP.runL e tab_ok L11 300 rfl (by first | trivial | (simp [in64] <;> omega)) ?_)
      | (refine AWP.callQ e rfl rfl ?_; (first | refine CallQ.mk (hr) rfl rfl ?_); refine AWP.runL e tab_ok L11 300 rfl (by first | trivial | (simp [in64] <;> omega)) ?_)
    )
  refine AWP.ret e tab_ok rfl ?_
  rw [hP]
  all_goals first | rfl | (simp [strip]; done)

set_option maxRecDepth 100000 in
theorem roomI_bad (l : List (Int)) (c : Int) (b : Bool) (h : rightR l.length c = false) : Eff Try.prog 11 [ringI l c b] [] 0 (fun r _ _ => r = .i 0) := by
  have hr := rightI_eff l c b
  rw [h] at hr
  refine eff_of Try.func11 rfl rfl rfl fun cx e hP => ?_
  refine AWP.runL e tab_ok L11 300 rfl (by first | trivial | (simp [in64] <;> omega)) ?_
  repeat (
    first
      | (refine AWP.askT rfl ?_; (first | (refine Told.t rfl ?_) | (refine Told.f rfl ?_) | (refine Told.t ?_ ?_; (focus (first | assumption | (simp; omega) | (simp [*]; done)); done)) | (refine Told.f ?_ ?_; (focus (first | assumption | (simp; omega) | (simp [*]; done)); done))); refine AWP.runL e tab_ok L11 300 rfl (by first | trivial | (simp [in64] <;> omega)) ?_)
      | (refine AWP.callQ e rfl rfl ?_; (first | refine CallQ.mk (hr) rfl rfl ?_); refine AWP.runL e tab_ok L11 300 rfl (by first | trivial | (simp [in64] <;> omega)) ?_)
    )
  refine AWP.ret e tab_ok rfl ?_
  rw [hP]
  all_goals first | rfl | (simp [strip]; done)

abbrev rowS (l : List (ByteArray)) : List (List DV) := l.map fun v => [.v (.string v)]
abbrev slS (l : List (ByteArray)) : SV := .d (.sl 1 (rowS l))
abbrev ringS (l : List (ByteArray)) (c : Int) (b : Bool) : SV := .agg [slS l, .i c, .b b]
theorem rowS_ok (n : Nat) (l : List (ByteArray)) : ∀ e ∈ (rowS l).map (·.map SV.d), SV.idsLt.go n e = true := okEls n _
theorem rowS_cells (a : List (ByteArray)) : ∀ e ∈ (rowS a).map (·.map SV.d), allCells e = true := by
  intro e he
  simp only [rowS, List.map_map, List.mem_map] at he
  obtain ⟨v, _, rfl⟩ := he
  rfl
theorem rowS_ne {s : List (ByteArray)} (h : s ≠ []) : rowS s ≠ [] := by
  cases s <;> simp at *

set_option maxRecDepth 100000 in
theorem newS_ok (n : Int) (b : Bool) (h1 : 1 ≤ n) (h2 : n ≤ 16) : Eff Try.prog 12 [.i n, .b b] [] 0 (fun r _ _ => r = .tup [ringS [] n b, .i 0]) := by
  refine eff_of Try.func12 rfl rfl rfl fun cx e hP => ?_
  refine AWP.runL e tab_ok L12 300 rfl (by first | trivial | (simp [in64] <;> omega)) ?_
  repeat (
    first
      | (refine AWP.askT rfl ?_; (first | (refine Told.t rfl ?_) | (refine Told.f rfl ?_) | (refine Told.t ?_ ?_; (focus (first | assumption | (simp; omega) | (simp [*]; done)); done)) | (refine Told.f ?_ ?_; (focus (first | assumption | (simp; omega) | (simp [*]; done)); done))); refine AWP.runL e tab_ok L12 300 rfl (by first | trivial | (simp [in64] <;> omega)) ?_)
    )
  refine AWP.retW e tab_ok rfl (r' := .tup [ringS [] n b, .i 0]) ?_ ?_
  (focus (repeat' (first | exact WkL.nil | (refine WkL.cons ?_ ?_) | exact Wk.refl _ | exact Wk.nil _ | (refine Wk.aggL ?_) | (refine Wk.tupL ?_))))
  rw [hP]

set_option maxRecDepth 100000 in
theorem newS_bad (n : Int) (b : Bool) (h : n < 1 ∨ 16 < n) : Eff Try.prog 12 [.i n, .b b] [] 0 (fun r _ _ => r = .tup [ringS [] 0 false, .i 1]) := by
  refine eff_of Try.func12 rfl rfl rfl fun cx e hP => ?_
  rcases h with h | h
  · refine AWP.runL e tab_ok L12 300 rfl (by first | trivial | (simp [in64] <;> omega)) ?_
    repeat (
      first
        | (refine AWP.askT rfl ?_; (first | (refine Told.t rfl ?_) | (refine Told.f rfl ?_) | (refine Told.t ?_ ?_; (focus (first | assumption | (simp; omega) | (simp [*]; done)); done)) | (refine Told.f ?_ ?_; (focus (first | assumption | (simp; omega) | (simp [*]; done)); done))); refine AWP.runL e tab_ok L12 300 rfl (by first | trivial | (simp [in64] <;> omega)) ?_)
      )
    refine AWP.retW e tab_ok rfl (r' := .tup [ringS [] 0 false, .i 1]) ?_ ?_
    (focus (repeat' (first | exact WkL.nil | (refine WkL.cons ?_ ?_) | exact Wk.refl _ | exact Wk.nil _ | (refine Wk.aggL ?_) | (refine Wk.tupL ?_))))
    rw [hP]
  · refine AWP.runL e tab_ok L12 300 rfl (by first | trivial | (simp [in64] <;> omega)) ?_
    repeat (
      first
        | (refine AWP.askT rfl ?_; (first | (refine Told.t rfl ?_) | (refine Told.f rfl ?_) | (refine Told.t ?_ ?_; (focus (first | assumption | (simp; omega) | (simp [*]; done)); done)) | (refine Told.f ?_ ?_; (focus (first | assumption | (simp; omega) | (simp [*]; done)); done))); refine AWP.runL e tab_ok L12 300 rfl (by first | trivial | (simp [in64] <;> omega)) ?_)
      )
    refine AWP.retW e tab_ok rfl (r' := .tup [ringS [] 0 false, .i 1]) ?_ ?_
    (focus (repeat' (first | exact WkL.nil | (refine WkL.cons ?_ ?_) | exact Wk.refl _ | exact Wk.nil _ | (refine Wk.aggL ?_) | (refine Wk.tupL ?_))))
    rw [hP]

set_option maxRecDepth 100000 in
theorem rightS_eff (l : List (ByteArray)) (c : Int) (b : Bool) : Eff Try.prog 19 [ringS l c b] [] 0 (fun r _ _ => r = .b (rightR l.length c)) := by
  refine eff_of Try.func19 rfl rfl rfl fun cx e hP => ?_
  refine AWP.runL e tab_ok L19 300 rfl (by first | trivial | (simp [in64] <;> omega)) ?_
  repeat' (
    first
      | (refine AWP.ret e tab_ok rfl ?_; rw [hP])
      | (refine AWP.fin e tab_ok rfl ?_; rw [hP])
      | (first
        | (refine AWP.askT rfl ?_; (first | (refine Told.t rfl ?_) | (refine Told.f rfl ?_) | (refine Told.t ?_ ?_; (focus (first | assumption | (simp; omega) | (simp [*]; done)); done)) | (refine Told.f ?_ ?_; (focus (first | assumption | (simp; omega) | (simp [*]; done)); done)) | (refine Told.both (fun h => ?_) (fun h => ?_) <;> (try simp only [decide_eq_true_eq, decide_eq_false_iff_not] at h))))) <;>
        refine AWP.runL e tab_ok L19 300 rfl (by first | trivial | (simp [in64] <;> omega)) ?_
    )
  all_goals (first | rfl | (first | refine congrArg SV.b ?_ | skip); (try rw [Bool.eq_iff_iff]); simp only [decide_eq_true_eq, Bool.false_eq_true, false_iff, List.length_map, rightR] at *; omega)

set_option maxRecDepth 100000 in
theorem roomS_eff (l : List (ByteArray)) (c : Int) (b : Bool) (h : rightR l.length c = true) : Eff Try.prog 20 [ringS l c b] [] 0 (fun r _ _ => r = .i (c - l.length)) := by
  have hr := rightS_eff l c b
  obtain ⟨h1, h2, h3⟩ := rightR_get h
  rw [h] at hr
  refine eff_of Try.func20 rfl rfl rfl fun cx e hP => ?_
  refine AWP.runL e tab_ok L20 300 rfl (by first | trivial | (simp [in64] <;> omega)) ?_
  repeat (
    first
      | (refine AWP.askT rfl ?_; (first | (refine Told.t rfl ?_) | (refine Told.f rfl ?_) | (refine Told.t ?_ ?_; (focus (first | assumption | (simp; omega) | (simp [*]; done)); done)) | (refine Told.f ?_ ?_; (focus (first | assumption | (simp; omega) | (simp [*]; done)); done))); refine AWP.runL e tab_ok L20 300 rfl (by first | trivial | (simp [in64] <;> omega)) ?_)
      | (refine AWP.callQ e rfl rfl ?_; (first | refine CallQ.mk (hr) rfl rfl ?_); refine AWP.runL e tab_ok L20 300 rfl (by first | trivial | (simp [in64] <;> omega)) ?_)
    )
  refine AWP.ret e tab_ok rfl ?_
  rw [hP]
  all_goals first | rfl | (simp [strip]; done)

set_option maxRecDepth 100000 in
theorem roomS_bad (l : List (ByteArray)) (c : Int) (b : Bool) (h : rightR l.length c = false) : Eff Try.prog 20 [ringS l c b] [] 0 (fun r _ _ => r = .i 0) := by
  have hr := rightS_eff l c b
  rw [h] at hr
  refine eff_of Try.func20 rfl rfl rfl fun cx e hP => ?_
  refine AWP.runL e tab_ok L20 300 rfl (by first | trivial | (simp [in64] <;> omega)) ?_
  repeat (
    first
      | (refine AWP.askT rfl ?_; (first | (refine Told.t rfl ?_) | (refine Told.f rfl ?_) | (refine Told.t ?_ ?_; (focus (first | assumption | (simp; omega) | (simp [*]; done)); done)) | (refine Told.f ?_ ?_; (focus (first | assumption | (simp; omega) | (simp [*]; done)); done))); refine AWP.runL e tab_ok L20 300 rfl (by first | trivial | (simp [in64] <;> omega)) ?_)
      | (refine AWP.callQ e rfl rfl ?_; (first | refine CallQ.mk (hr) rfl rfl ?_); refine AWP.runL e tab_ok L20 300 rfl (by first | trivial | (simp [in64] <;> omega)) ?_)
    )
  refine AWP.ret e tab_ok rfl ?_
  rw [hP]
  all_goals first | rfl | (simp [strip]; done)

end Go.Proofs.Ytkcdmibpmoknmaa
