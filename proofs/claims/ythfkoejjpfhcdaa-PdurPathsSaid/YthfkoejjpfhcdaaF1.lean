import Derived.Test.YthfkoejjpfhcdaaEd
import Derived.Test.YthfkoejjpfhcdaaL
import Derived.Test.YthfkoejjpfhcdaaProg
open Go Go.Proofs Go.Sy
namespace Go.Proofs.Ythfkoejjpfhcdaa
def tab : Tab := [
  (3, ⟨.int .i64, 1, 8, [.v (.int .i64 0)]⟩),
  (4, ⟨.bool, 1, 1, [.v (.bool false)]⟩),
  (9, ⟨.str, 1, 16, [.v (.string .empty)]⟩),
  (22, ⟨.slice 38, 1, 24, [.nil]⟩),
  (23, ⟨.slice 4, 1, 24, [.nil]⟩),
  (25, ⟨.struct [(22, 0), (23, 1)], 2, 48, [.nil, .nil]⟩),
  (29, ⟨.int .i64, 1, 8, [.v (.int .i64 0)]⟩),
  (34, ⟨.slice 9, 1, 24, [.nil]⟩),
  (36, ⟨.struct [(34, 0), (3, 1), (4, 2)], 3, 40, [.nil, .v (.int .i64 0), .v (.bool false)]⟩),
  (38, ⟨.struct [(3, 0), (3, 1), (3, 2), (36, 3)], 6, 64, [.v (.int .i64 0), .v (.int .i64 0), .v (.int .i64 0), .nil, .v (.int .i64 0), .v (.bool false)]⟩),
  (40, ⟨.slice 43, 1, 24, [.nil]⟩),
  (43, ⟨.struct [(3, 0), (3, 1), (9, 2), (4, 3)], 4, 40, [.v (.int .i64 0), .v (.int .i64 0), .v (.string .empty), .v (.bool false)]⟩),
  (45, ⟨.struct [(3, 0), (3, 1)], 2, 16, [.v (.int .i64 0), .v (.int .i64 0)]⟩),
  (68, ⟨.slice 9, 1, 24, [.nil]⟩)]
theorem tab_ok : TabOk Try.prog tab := tabChk_ok (by kernel_rfl)
-- from chapter 12: KIND (rows, Right, Room), KINDB (behind, Put, Take); parameters as told in c12s/F2.l (5, New, is not used)
theorem take_map {α : Type} (f : α → List DV) (N : Int) (l : List α) (h : 0 ≤ N) : List.drop ((none : Option Int).getD 0).toNat (List.take ((some (if N < ((l.map f).length : Int) then N else ((l.map f).length : Int))).getD ((l.map f).length : Int)).toNat (l.map f)) = (l.take N.toNat).map f := by
  simp only [Option.getD_none, Option.getD_some, Int.toNat_zero, List.drop_zero, List.length_map]
  split
  · exact List.map_take.symm
  · rw [Int.toNat_natCast, List.take_of_length_le (by simp), List.take_of_length_le (by omega)]
theorem drop_map {α : Type} (f : α → List DV) (w n : Nat) (l : List α) (h : l.length = n) : List.drop ((some (w : Int)).getD 0).toNat (List.take ((none : Option Int).getD (n : Int)).toNat (l.map f)) = (l.drop w).map f := by
  simp only [Option.getD_none, Option.getD_some, Int.toNat_natCast]
  rw [List.take_of_length_le (by simp; omega), List.map_drop]

def rightR (n : Nat) (c : Int) : Bool := decide (1 ≤ c ∧ c ≤ 16 ∧ (n : Int) ≤ c)
theorem rightR_get {n : Nat} {c : Int} (h : rightR n c = true) : 1 ≤ c ∧ c ≤ 16 ∧ (n : Int) ≤ c := of_decide_eq_true h

-- $1 letter, $2 type of an element, $3 its value, $4 zero, $5 New, $6 Right, $7 Room, $8 Put, $9 Take, $A behind, $B Clone, $C the slice's type

abbrev rowS (l : List (ByteArray)) : List (List DV) := l.map fun v => [.v (.string v)]
abbrev slS (l : List (ByteArray)) : SV := .d (.sl 1 (rowS l))
abbrev ringS (l : List (ByteArray)) (c : Int) (b : Bool) : SV := .agg [slS l, .i c, .b b]
theorem rowS_ok (n : Nat) (l : List (ByteArray)) : ∀ e ∈ (rowS l).map (·.map SV.d), SV.idsLt.go n e = true := okEls n _
theorem rowS_cells (a : List (ByteArray)) : ∀ e ∈ (rowS a).map (·.map SV.d), allCells e = true := by
  intro e he
  simp only [rowS, List.map_map, List.mem_map] at he
  obtain ⟨v, _, rfl⟩ := he
  rfl
theorem rowS_ne {s : List (ByteArray)} (h : s ≠ []) : rowS s ≠ [] := by
  cases s <;> simp at *

set_option maxRecDepth 100000 in
theorem rightS_eff (l : List (ByteArray)) (c : Int) (b : Bool) : Eff Try.prog 26 [ringS l c b] [] 0 (fun r _ _ => r = .b (rightR l.length c)) := by
  refine eff_of Try.func26 rfl rfl rfl fun cx e hP => ?_
  refine AWP.runL e tab_ok L26 300 rfl (by first | trivial | (simp [in64] <;> omega) | (simp only [in64, true_and, and_true]; omega)) ?_
  repeat' (
    first
      | (refine AWP.ret e tab_ok rfl ?_; rw [hP])
      | (refine AWP.fin e tab_ok rfl ?_; rw [hP])
      | (first
        | (refine AWP.askT rfl ?_; (first | (refine Told.t rfl ?_) | (refine Told.f rfl ?_) | (refine Told.t ?_ ?_; (focus assumption)) | (refine Told.f ?_ ?_; (focus assumption)) | (refine Told.t ?_ ?_; (focus (first | (simp; omega) | (simp [*]; done)); done)) | (refine Told.f ?_ ?_; (focus (first | (simp; omega) | (simp [*]; done)); done)) | (refine Told.both (fun h => ?_) (fun h => ?_) <;> (try simp only [decide_eq_true_eq, decide_eq_false_iff_not] at h))))) <;>
        refine AWP.runL e tab_ok L26 300 rfl (by first | trivial | (simp [in64] <;> omega) | (simp only [in64, true_and, and_true]; omega)) ?_
    )
  all_goals (first | rfl | (first | refine congrArg SV.b ?_ | skip); (try rw [Bool.eq_iff_iff]); simp only [decide_eq_true_eq, Bool.false_eq_true, false_iff, List.length_map, rightR] at *; omega)

set_option maxRecDepth 100000 in
theorem roomS_eff (l : List (ByteArray)) (c : Int) (b : Bool) (h : rightR l.length c = true) : Eff Try.prog 29 [ringS l c b] [] 0 (fun r _ _ => r = .i (c - l.length)) := by
  have hr := rightS_eff l c b
  obtain ⟨h1, h2, h3⟩ := rightR_get h
  rw [h] at hr
  refine eff_of Try.func29 rfl rfl rfl fun cx e hP => ?_
  refine AWP.runL e tab_ok L29 300 rfl (by first | trivial | (simp [in64] <;> omega) | (simp only [in64, true_and, and_true]; omega)) ?_
  repeat (
    first
      | (refine AWP.askT rfl ?_; (first | (refine Told.t rfl ?_) | (refine Told.f rfl ?_) | (refine Told.t ?_ ?_; (focus assumption)) | (refine Told.f ?_ ?_; (focus assumption)) | (refine Told.t ?_ ?_; (focus (first | (simp; omega) | (simp [*]; done)); done)) | (refine Told.f ?_ ?_; (focus (first | (simp; omega) | (simp [*]; done)); done))); refine AWP.runL e tab_ok L29 300 rfl (by first | trivial | (simp [in64] <;> omega) | (simp only [in64, true_and, and_true]; omega)) ?_)
      | (refine AWP.callQ e rfl rfl ?_; (first | refine CallQ.mk (hr) rfl rfl ?_); refine AWP.runL e tab_ok L29 300 rfl (by first | trivial | (simp [in64] <;> omega) | (simp only [in64, true_and, and_true]; omega)) ?_)
      | (refine AWP.eq_agg e tab_ok rfl rfl rfl (.inl ⟨rfl, rfl⟩) ?_ 5 (by omega) rfl ?_ rfl rfl rfl rfl rfl rfl rfl ?_; (focus kernel_rfl); (focus kernel_rfl); refine AWP.runL e tab_ok L29 300 rfl (by first | trivial | (simp [in64] <;> omega) | (simp only [in64, true_and, and_true]; omega)) ?_)
      | (refine AWP.eq_agg e tab_ok rfl rfl rfl (.inr ⟨rfl, rfl⟩) ?_ 5 (by omega) rfl ?_ rfl rfl rfl rfl rfl rfl rfl ?_; (focus kernel_rfl); (focus kernel_rfl); refine AWP.runL e tab_ok L29 300 rfl (by first | trivial | (simp [in64] <;> omega) | (simp only [in64, true_and, and_true]; omega)) ?_)
    )
  refine AWP.ret e tab_ok rfl ?_
  rw [hP]
  all_goals first | rfl | (simp [strip]; done)

set_option maxRecDepth 100000 in
theorem roomS_bad (l : List (ByteArray)) (c : Int) (b : Bool) (h : rightR l.length c = false) : Eff Try.prog 29 [ringS l c b] [] 0 (fun r _ _ => r = .i 0) := by
  have hr := rightS_eff l c b
  rw [h] at hr
  refine eff_of Try.func29 rfl rfl rfl fun cx e hP => ?_
  refine AWP.runL e tab_ok L29 300 rfl (by first | trivial | (simp [in64] <;> omega) | (simp only [in64, true_and, and_true]; omega)) ?_
  repeat (
    first
      | (refine AWP.askT rfl ?_; (first | (refine Told.t rfl ?_) | (refine Told.f rfl ?_) | (refine Told.t ?_ ?_; (focus assumption)) | (refine Told.f ?_ ?_; (focus assumption)) | (refine Told.t ?_ ?_; (focus (first | (simp; omega) | (simp [*]; done)); done)) | (refine Told.f ?_ ?_; (focus (first | (simp; omega) | (simp [*]; done)); done))); refine AWP.runL e tab_ok L29 300 rfl (by first | trivial | (simp [in64] <;> omega) | (simp only [in64, true_and, and_true]; omega)) ?_)
      | (refine AWP.callQ e rfl rfl ?_; (first | refine CallQ.mk (hr) rfl rfl ?_); refine AWP.runL e tab_ok L29 300 rfl (by first | trivial | (simp [in64] <;> omega) | (simp only [in64, true_and, and_true]; omega)) ?_)
      | (refine AWP.eq_agg e tab_ok rfl rfl rfl (.inl ⟨rfl, rfl⟩) ?_ 5 (by omega) rfl ?_ rfl rfl rfl rfl rfl rfl rfl ?_; (focus kernel_rfl); (focus kernel_rfl); refine AWP.runL e tab_ok L29 300 rfl (by first | trivial | (simp [in64] <;> omega) | (simp only [in64, true_and, and_true]; omega)) ?_)
      | (refine AWP.eq_agg e tab_ok rfl rfl rfl (.inr ⟨rfl, rfl⟩) ?_ 5 (by omega) rfl ?_ rfl rfl rfl rfl rfl rfl rfl ?_; (focus kernel_rfl); (focus kernel_rfl); refine AWP.runL e tab_ok L29 300 rfl (by first | trivial | (simp [in64] <;> omega) | (simp only [in64, true_and, and_true]; omega)) ?_)
    )
  refine AWP.ret e tab_ok rfl ?_
  rw [hP]
  all_goals first | rfl | (simp [strip]; done)

set_option maxRecDepth 100000 in
theorem behindS_eff (l : List (ByteArray)) (x : ByteArray) (w : Nat) (hw : w ≤ l.length) (hl : l.length ≤ 100) : Eff Try.prog 30 [slS l, .d (.v (.string x)), .i w] [] 0 (fun r _ _ => r = slS (l.drop w ++ [x])) := by
  refine eff_of Try.func30 rfl rfl rfl fun cx e hP => ?_
  refine AWP.runL e tab_ok L30 300 rfl ?_ ?_
  · simp; omega
  obtain ⟨m, hm⟩ : ∃ m, m = l.drop w := ⟨_, rfl⟩
  have hml : m.length ≤ 100 := by rw [hm]; simp; omega
  refine AWP.less e (tm := [(9, slS m), (1, .d (.v (.string x)))]) (hp := []) (nx := 0) ?_ ?_ ?_ ?_ ?_ ?_
  · exact ⟨congrArg (fun z => some (SV.d (.sl 1 z))) ((drop_map _ w _ l (by simp)).trans (congrArg rowS hm.symm)), rfl, trivial⟩
  · exact trivial
  · rfl
  · exact trivial
  · rfl
  rw [← hm] at hP
  refine AWP.enter e rfl Try.func32 rfl rfl rfl rfl fun cx' e' hP' => ?_
  refine AWP.runL e' tab_ok L32 8 rfl (by trivial) ?_
  refine AWP.nilq e' tab_ok true rfl rfl rfl rfl rfl rfl (.inl ⟨rfl, rfl⟩) fun b hb => ?_
  refine AWP.runL e' tab_ok L32 300 rfl (by first | trivial | (simp [in64] <;> omega) | (simp only [in64, true_and, and_true]; omega)) ?_
  cases b
  · refine AWP.cond rfl false rfl ?_
    refine AWP.runL e' tab_ok L32 300 rfl (by first | trivial | (simp [in64] <;> omega) | (simp only [in64, true_and, and_true]; omega)) ?_
    refine AWP.append e' tab_ok rfl rfl rfl rfl rfl rfl rfl rfl (.sl (rowS m)) rfl (rowS_cells m) (by simp; omega) (by simp; omega) fun C2 hC2 => ?_
    refine AWP.runL e' tab_ok L32 300 rfl (by first | trivial | (simp [in64] <;> omega) | (simp only [in64, true_and, and_true]; omega)) ?_
    refine AWP.ret e' tab_ok rfl ?_
    rw [hP']
    show AWP cx _ _
    refine AWP.runL e tab_ok L30 300 rfl (by first | trivial | (simp [in64] <;> omega) | (simp only [in64, true_and, and_true]; omega)) ?_
    refine AWP.append e tab_ok rfl rfl rfl rfl rfl rfl rfl rfl (.own rfl (by simp)) (by simp) (by simp [allCells, isCell]) (by simp; omega) (by simp; omega) fun C3 hC3 => ?_
    refine AWP.runL e tab_ok L30 300 rfl (by first | trivial | (simp [in64] <;> omega) | (simp only [in64, true_and, and_true]; omega)) ?_
    refine AWP.freezeO (id := 3) (rowS (m ++ [x])) rfl ?_ rfl rfl ?_ ?_ ?_
    (focus (simp))
    (focus (simp [lenDT, lenD, tput, strip]; done))
    (focus (simp [lenDH]; done))
    refine AWP.ret e tab_ok rfl ?_
    rw [hP]
    simp [strip, List.take_of_length_le]
  · refine AWP.cond rfl true rfl ?_
    refine AWP.runL e' tab_ok L32 300 rfl (by first | trivial | (simp [in64] <;> omega) | (simp only [in64, true_and, and_true]; omega)) ?_
    refine AWP.ret e' tab_ok rfl ?_
    rw [hP']
    show AWP cx _ _
    refine AWP.runL e tab_ok L30 300 rfl (by first | trivial | (simp [in64] <;> omega) | (simp only [in64, true_and, and_true]; omega)) ?_
    have hb' : (rowS m).length = 0 := hb rfl
    obtain rfl : m = [] := List.eq_nil_of_length_eq_zero (by simpa using hb')
    refine AWP.nil_own (t := 10) rfl 9 1 ?_
    refine AWP.append e tab_ok rfl rfl rfl rfl rfl rfl rfl rfl (.own rfl (by simp)) (by simp) (by simp [allCells, isCell]) (by simp) (by simp) fun C3 hC3 => ?_
    refine AWP.runL e tab_ok L30 300 rfl (by first | trivial | (simp [in64] <;> omega) | (simp only [in64, true_and, and_true]; omega)) ?_
    refine AWP.freezeO (id := 2) (rowS [x]) rfl ?_ rfl rfl ?_ ?_ ?_
    (focus (rfl))
    (focus (simp [lenDT, lenD, tput, strip]; done))
    (focus (simp [lenDH]; done))
    refine AWP.ret e tab_ok rfl ?_
    rw [hP]
    simp [strip, List.take_of_length_le]

set_option maxRecDepth 100000 in
theorem putS_ok (l : List (ByteArray)) (c : Int) (b : Bool) (x : ByteArray) (h : rightR l.length c = true) (hc : (l.length : Int) < c) : Eff Try.prog 19 [ringS l c b, .d (.v (.string x))] [] 0 (fun r _ _ => r = .tup [ringS (l ++ [x]) c b, .i 0, .i 0]) := by
  have hr := rightS_eff l c b
  have hm := roomS_eff l c b h
  have hb := behindS_eff l x 0 (by omega) (by have := rightR_get h; omega)
  rw [List.drop_zero] at hb
  rw [h] at hr
  refine eff_of Try.func19 rfl rfl rfl fun cx e hP => ?_
  refine AWP.runL e tab_ok L19 300 rfl (by first | trivial | (simp [in64] <;> omega) | (simp only [in64, true_and, and_true]; omega)) ?_
  repeat (
    first
      | (refine AWP.askT rfl ?_; (first | (refine Told.t rfl ?_) | (refine Told.f rfl ?_) | (refine Told.t ?_ ?_; (focus assumption)) | (refine Told.f ?_ ?_; (focus assumption)) | (refine Told.t ?_ ?_; (focus (first | (simp; omega) | (simp [*]; done)); done)) | (refine Told.f ?_ ?_; (focus (first | (simp; omega) | (simp [*]; done)); done))); refine AWP.runL e tab_ok L19 300 rfl (by first | trivial | (simp [in64] <;> omega) | (simp only [in64, true_and, and_true]; omega)) ?_)
      | (refine AWP.callQ e rfl rfl ?_; (first | refine CallQ.mk (hr) rfl rfl ?_ | refine CallQ.mk (hm) rfl rfl ?_ | refine CallQ.mk (hb) rfl rfl ?_); refine AWP.runL e tab_ok L19 300 rfl (by first | trivial | (simp [in64] <;> omega) | (simp only [in64, true_and, and_true]; omega)) ?_)
      | (refine AWP.eq_agg e tab_ok rfl rfl rfl (.inl ⟨rfl, rfl⟩) ?_ 5 (by omega) rfl ?_ rfl rfl rfl rfl rfl rfl rfl ?_; (focus kernel_rfl); (focus kernel_rfl); refine AWP.runL e tab_ok L19 300 rfl (by first | trivial | (simp [in64] <;> omega) | (simp only [in64, true_and, and_true]; omega)) ?_)
      | (refine AWP.eq_agg e tab_ok rfl rfl rfl (.inr ⟨rfl, rfl⟩) ?_ 5 (by omega) rfl ?_ rfl rfl rfl rfl rfl rfl rfl ?_; (focus kernel_rfl); (focus kernel_rfl); refine AWP.runL e tab_ok L19 300 rfl (by first | trivial | (simp [in64] <;> omega) | (simp only [in64, true_and, and_true]; omega)) ?_)
    )
  refine AWP.ret e tab_ok rfl ?_
  rw [hP]
  all_goals first | rfl | (simp [strip]; done)

set_option maxRecDepth 100000 in
theorem putS_full (l : List (ByteArray)) (c : Int) (x : ByteArray) (h : rightR l.length c = true) (hc : (l.length : Int) = c) : Eff Try.prog 19 [ringS l c true, .d (.v (.string x))] [] 0 (fun r _ _ => r = .tup [ringS (l.drop 1 ++ [x]) c true, .i 1, .i 0]) := by
  have hr := rightS_eff l c true
  have hm := roomS_eff l c true h
  have hb := behindS_eff l x 1 (by have := rightR_get h; omega) (by have := rightR_get h; omega)
  rw [h] at hr
  refine eff_of Try.func19 rfl rfl rfl fun cx e hP => ?_
  refine AWP.runL e tab_ok L19 300 rfl (by first | trivial | (simp [in64] <;> omega) | (simp only [in64, true_and, and_true]; omega)) ?_
  repeat (
    first
      | (refine AWP.askT rfl ?_; (first | (refine Told.t rfl ?_) | (refine Told.f rfl ?_) | (refine Told.t ?_ ?_; (focus assumption)) | (refine Told.f ?_ ?_; (focus assumption)) | (refine Told.t ?_ ?_; (focus (first | (simp; omega) | (simp [*]; done)); done)) | (refine Told.f ?_ ?_; (focus (first | (simp; omega) | (simp [*]; done)); done))); refine AWP.runL e tab_ok L19 300 rfl (by first | trivial | (simp [in64] <;> omega) | (simp only [in64, true_and, and_true]; omega)) ?_)
      | (refine AWP.callQ e rfl rfl ?_; (first | refine CallQ.mk (hr) rfl rfl ?_ | refine CallQ.mk (hm) rfl rfl ?_ | refine CallQ.mk (hb) rfl rfl ?_); refine AWP.runL e tab_ok L19 300 rfl (by first | trivial | (simp [in64] <;> omega) | (simp only [in64, true_and, and_true]; omega)) ?_)
      | (refine AWP.eq_agg e tab_ok rfl rfl rfl (.inl ⟨rfl, rfl⟩) ?_ 5 (by omega) rfl ?_ rfl rfl rfl rfl rfl rfl rfl ?_; (focus kernel_rfl); (focus kernel_rfl); refine AWP.runL e tab_ok L19 300 rfl (by first | trivial | (simp [in64] <;> omega) | (simp only [in64, true_and, and_true]; omega)) ?_)
      | (refine AWP.eq_agg e tab_ok rfl rfl rfl (.inr ⟨rfl, rfl⟩) ?_ 5 (by omega) rfl ?_ rfl rfl rfl rfl rfl rfl rfl ?_; (focus kernel_rfl); (focus kernel_rfl); refine AWP.runL e tab_ok L19 300 rfl (by first | trivial | (simp [in64] <;> omega) | (simp only [in64, true_and, and_true]; omega)) ?_)
    )
  refine AWP.ret e tab_ok rfl ?_
  rw [hP]
  all_goals first | rfl | (simp [strip]; done)

set_option maxRecDepth 100000 in
theorem putS_busy (l : List (ByteArray)) (c : Int) (x : ByteArray) (h : rightR l.length c = true) (hc : (l.length : Int) = c) : Eff Try.prog 19 [ringS l c false, .d (.v (.string x))] [] 0 (fun r _ _ => r = .tup [ringS [] 0 false, .i 0, .i 20]) := by
  have hr := rightS_eff l c false
  have hm := roomS_eff l c false h
  rw [h] at hr
  refine eff_of Try.func19 rfl rfl rfl fun cx e hP => ?_
  refine AWP.runL e tab_ok L19 300 rfl (by first | trivial | (simp [in64] <;> omega) | (simp only [in64, true_and, and_true]; omega)) ?_
  repeat (
    first
      | (refine AWP.askT rfl ?_; (first | (refine Told.t rfl ?_) | (refine Told.f rfl ?_) | (refine Told.t ?_ ?_; (focus assumption)) | (refine Told.f ?_ ?_; (focus assumption)) | (refine Told.t ?_ ?_; (focus (first | (simp; omega) | (simp [*]; done)); done)) | (refine Told.f ?_ ?_; (focus (first | (simp; omega) | (simp [*]; done)); done))); refine AWP.runL e tab_ok L19 300 rfl (by first | trivial | (simp [in64] <;> omega) | (simp only [in64, true_and, and_true]; omega)) ?_)
      | (refine AWP.callQ e rfl rfl ?_; (first | refine CallQ.mk (hr) rfl rfl ?_ | refine CallQ.mk (hm) rfl rfl ?_); refine AWP.runL e tab_ok L19 300 rfl (by first | trivial | (simp [in64] <;> omega) | (simp only [in64, true_and, and_true]; omega)) ?_)
      | (refine AWP.eq_agg e tab_ok rfl rfl rfl (.inl ⟨rfl, rfl⟩) ?_ 5 (by omega) rfl ?_ rfl rfl rfl rfl rfl rfl rfl ?_; (focus kernel_rfl); (focus kernel_rfl); refine AWP.runL e tab_ok L19 300 rfl (by first | trivial | (simp [in64] <;> omega) | (simp only [in64, true_and, and_true]; omega)) ?_)
      | (refine AWP.eq_agg e tab_ok rfl rfl rfl (.inr ⟨rfl, rfl⟩) ?_ 5 (by omega) rfl ?_ rfl rfl rfl rfl rfl rfl rfl ?_; (focus kernel_rfl); (focus kernel_rfl); refine AWP.runL e tab_ok L19 300 rfl (by first | trivial | (simp [in64] <;> omega) | (simp only [in64, true_and, and_true]; omega)) ?_)
    )
  refine AWP.retW e tab_ok rfl (r' := .tup [ringS [] 0 false, .i 0, .i 20]) ?_ ?_
  (focus (repeat' (first | exact WkL.nil | (refine WkL.cons ?_ ?_) | exact Wk.refl _ | exact Wk.nil _ | (refine Wk.aggL ?_) | (refine Wk.tupL ?_))))
  rw [hP]

set_option maxRecDepth 100000 in
theorem putS_bad (l : List (ByteArray)) (c : Int) (b : Bool) (x : ByteArray) (h : rightR l.length c = false) : Eff Try.prog 19 [ringS l c b, .d (.v (.string x))] [] 0 (fun r _ _ => r = .tup [ringS [] 0 false, .i 0, .i 1]) := by
  have hr := rightS_eff l c b
  rw [h] at hr
  refine eff_of Try.func19 rfl rfl rfl fun cx e hP => ?_
  refine AWP.runL e tab_ok L19 300 rfl (by first | trivial | (simp [in64] <;> omega) | (simp only [in64, true_and, and_true]; omega)) ?_
  repeat (
    first
      | (refine AWP.askT rfl ?_; (first | (refine Told.t rfl ?_) | (refine Told.f rfl ?_) | (refine Told.t ?_ ?_; (focus assumption)) | (refine Told.f ?_ ?_; (focus assumption)) | (refine Told.t ?_ ?_; (focus (first | (simp; omega) | (simp [*]; done)); done)) | (refine Told.f ?_ ?_; (focus (first | (simp; omega) | (simp [*]; done)); done))); refine AWP.runL e tab_ok L19 300 rfl (by first | trivial | (simp [in64] <;> omega) | (simp only [in64, true_and, and_true]; omega)) ?_)
      | (refine AWP.callQ e rfl rfl ?_; (first | refine CallQ.mk (hr) rfl rfl ?_); refine AWP.runL e tab_ok L19 300 rfl (by first | trivial | (simp [in64] <;> omega) | (simp only [in64, true_and, and_true]; omega)) ?_)
      | (refine AWP.eq_agg e tab_ok rfl rfl rfl (.inl ⟨rfl, rfl⟩) ?_ 5 (by omega) rfl ?_ rfl rfl rfl rfl rfl rfl rfl ?_; (focus kernel_rfl); (focus kernel_rfl); refine AWP.runL e tab_ok L19 300 rfl (by first | trivial | (simp [in64] <;> omega) | (simp only [in64, true_and, and_true]; omega)) ?_)
      | (refine AWP.eq_agg e tab_ok rfl rfl rfl (.inr ⟨rfl, rfl⟩) ?_ 5 (by omega) rfl ?_ rfl rfl rfl rfl rfl rfl rfl ?_; (focus kernel_rfl); (focus kernel_rfl); refine AWP.runL e tab_ok L19 300 rfl (by first | trivial | (simp [in64] <;> omega) | (simp only [in64, true_and, and_true]; omega)) ?_)
    )
  refine AWP.retW e tab_ok rfl (r' := .tup [ringS [] 0 false, .i 0, .i 1]) ?_ ?_
  (focus (repeat' (first | exact WkL.nil | (refine WkL.cons ?_ ?_) | exact Wk.refl _ | exact Wk.nil _ | (refine Wk.aggL ?_) | (refine Wk.tupL ?_))))
  rw [hP]

set_option maxRecDepth 100000 in
theorem takeS_ok (l : List (ByteArray)) (c : Int) (b : Bool) (x : ByteArray) (h : rightR (x :: l).length c = true) : Eff Try.prog 22 [ringS (x :: l) c b] [] 0 (fun r _ _ => r = .tup [ringS l c b, .d (.v (.string x)), .i 0]) := by
  have hr := rightS_eff (x :: l) c b
  rw [h] at hr
  refine eff_of Try.func22 rfl rfl rfl fun cx e hP => ?_
  refine AWP.runL e tab_ok L22 300 rfl (by first | trivial | (simp [in64] <;> omega) | (simp only [in64, true_and, and_true]; omega)) ?_
  repeat (
    first
      | (refine AWP.askT rfl ?_; (first | (refine Told.t rfl ?_) | (refine Told.f rfl ?_) | (refine Told.t ?_ ?_; (focus assumption)) | (refine Told.f ?_ ?_; (focus assumption)) | (refine Told.t ?_ ?_; (focus (first | (simp; omega) | (simp [*]; done)); done)) | (refine Told.f ?_ ?_; (focus (first | (simp; omega) | (simp [*]; done)); done))); refine AWP.runL e tab_ok L22 300 rfl (by first | trivial | (simp [in64] <;> omega) | (simp only [in64, true_and, and_true]; omega)) ?_)
      | (refine AWP.callQ e rfl rfl ?_; (first | refine CallQ.mk (hr) rfl rfl ?_); refine AWP.runL e tab_ok L22 300 rfl (by first | trivial | (simp [in64] <;> omega) | (simp only [in64, true_and, and_true]; omega)) ?_)
      | (refine AWP.eq_agg e tab_ok rfl rfl rfl (.inl ⟨rfl, rfl⟩) ?_ 5 (by omega) rfl ?_ rfl rfl rfl rfl rfl rfl rfl ?_; (focus kernel_rfl); (focus kernel_rfl); refine AWP.runL e tab_ok L22 300 rfl (by first | trivial | (simp [in64] <;> omega) | (simp only [in64, true_and, and_true]; omega)) ?_)
      | (refine AWP.eq_agg e tab_ok rfl rfl rfl (.inr ⟨rfl, rfl⟩) ?_ 5 (by omega) rfl ?_ rfl rfl rfl rfl rfl rfl rfl ?_; (focus kernel_rfl); (focus kernel_rfl); refine AWP.runL e tab_ok L22 300 rfl (by first | trivial | (simp [in64] <;> omega) | (simp only [in64, true_and, and_true]; omega)) ?_)
    )
  refine AWP.idx e tab_ok rfl rfl rfl rfl 0 rfl (el := [.v (.string x)]) rfl ?_
  refine AWP.runL e tab_ok L22 300 rfl ?_ ?_
  · simp; omega
  refine AWP.retW e tab_ok (r' := .tup [ringS l c b, .d (.v (.string x)), .i 0]) rfl ?_ ?_
  · have e1 : List.drop ((some (1 : Int)).getD 0).toNat (List.take ((none : Option Int).getD ((rowS (x :: l)).length : Int)).toNat (rowS (x :: l))) = rowS l := (drop_map _ 1 _ (x :: l) (by simp)).trans rfl
    refine Wk.tupL (.cons (Wk.aggL (.cons ?_ (.cons (.refl _) (.cons (.refl _) .nil)))) (.cons (.refl _) (.cons (.refl _) .nil)))
    exact e1 ▸ Wk.refl _
  rw [hP]

set_option maxRecDepth 100000 in
theorem takeS_none (c : Int) (b : Bool) (h : rightR 0 c = true) : Eff Try.prog 22 [ringS [] c b] [] 0 (fun r _ _ => r = .tup [ringS [] 0 false, .d (.v (.string .empty)), .i 21]) := by
  have hr := rightS_eff [] c b
  rw [show rightR ([] : List (ByteArray)).length c = true from h] at hr
  refine eff_of Try.func22 rfl rfl rfl fun cx e hP => ?_
  refine AWP.runL e tab_ok L22 300 rfl (by first | trivial | (simp [in64] <;> omega) | (simp only [in64, true_and, and_true]; omega)) ?_
  repeat (
    first
      | (refine AWP.askT rfl ?_; (first | (refine Told.t rfl ?_) | (refine Told.f rfl ?_) | (refine Told.t ?_ ?_; (focus assumption)) | (refine Told.f ?_ ?_; (focus assumption)) | (refine Told.t ?_ ?_; (focus (first | (simp; omega) | (simp [*]; done)); done)) | (refine Told.f ?_ ?_; (focus (first | (simp; omega) | (simp [*]; done)); done))); refine AWP.runL e tab_ok L22 300 rfl (by first | trivial | (simp [in64] <;> omega) | (simp only [in64, true_and, and_true]; omega)) ?_)
      | (refine AWP.callQ e rfl rfl ?_; (first | refine CallQ.mk (hr) rfl rfl ?_); refine AWP.runL e tab_ok L22 300 rfl (by first | trivial | (simp [in64] <;> omega) | (simp only [in64, true_and, and_true]; omega)) ?_)
      | (refine AWP.eq_agg e tab_ok rfl rfl rfl (.inl ⟨rfl, rfl⟩) ?_ 5 (by omega) rfl ?_ rfl rfl rfl rfl rfl rfl rfl ?_; (focus kernel_rfl); (focus kernel_rfl); refine AWP.runL e tab_ok L22 300 rfl (by first | trivial | (simp [in64] <;> omega) | (simp only [in64, true_and, and_true]; omega)) ?_)
      | (refine AWP.eq_agg e tab_ok rfl rfl rfl (.inr ⟨rfl, rfl⟩) ?_ 5 (by omega) rfl ?_ rfl rfl rfl rfl rfl rfl rfl ?_; (focus kernel_rfl); (focus kernel_rfl); refine AWP.runL e tab_ok L22 300 rfl (by first | trivial | (simp [in64] <;> omega) | (simp only [in64, true_and, and_true]; omega)) ?_)
    )
  refine AWP.retW e tab_ok rfl (r' := .tup [ringS [] 0 false, .d (.v (.string .empty)), .i 21]) ?_ ?_
  (focus (repeat' (first | exact WkL.nil | (refine WkL.cons ?_ ?_) | exact Wk.refl _ | exact Wk.nil _ | (refine Wk.aggL ?_) | (refine Wk.tupL ?_))))
  rw [hP]

set_option maxRecDepth 100000 in
theorem takeS_bad (l : List (ByteArray)) (c : Int) (b : Bool) (h : rightR l.length c = false) : Eff Try.prog 22 [ringS l c b] [] 0 (fun r _ _ => r = .tup [ringS [] 0 false, .d (.v (.string .empty)), .i 1]) := by
  have hr := rightS_eff l c b
  rw [h] at hr
  refine eff_of Try.func22 rfl rfl rfl fun cx e hP => ?_
  refine AWP.runL e tab_ok L22 300 rfl (by first | trivial | (simp [in64] <;> omega) | (simp only [in64, true_and, and_true]; omega)) ?_
  repeat (
    first
      | (refine AWP.askT rfl ?_; (first | (refine Told.t rfl ?_) | (refine Told.f rfl ?_) | (refine Told.t ?_ ?_; (focus assumption)) | (refine Told.f ?_ ?_; (focus assumption)) | (refine Told.t ?_ ?_; (focus (first | (simp; omega) | (simp [*]; done)); done)) | (refine Told.f ?_ ?_; (focus (first | (simp; omega) | (simp [*]; done)); done))); refine AWP.runL e tab_ok L22 300 rfl (by first | trivial | (simp [in64] <;> omega) | (simp only [in64, true_and, and_true]; omega)) ?_)
      | (refine AWP.callQ e rfl rfl ?_; (first | refine CallQ.mk (hr) rfl rfl ?_); refine AWP.runL e tab_ok L22 300 rfl (by first | trivial | (simp [in64] <;> omega) | (simp only [in64, true_and, and_true]; omega)) ?_)
      | (refine AWP.eq_agg e tab_ok rfl rfl rfl (.inl ⟨rfl, rfl⟩) ?_ 5 (by omega) rfl ?_ rfl rfl rfl rfl rfl rfl rfl ?_; (focus kernel_rfl); (focus kernel_rfl); refine AWP.runL e tab_ok L22 300 rfl (by first | trivial | (simp [in64] <;> omega) | (simp only [in64, true_and, and_true]; omega)) ?_)
      | (refine AWP.eq_agg e tab_ok rfl rfl rfl (.inr ⟨rfl, rfl⟩) ?_ 5 (by omega) rfl ?_ rfl rfl rfl rfl rfl rfl rfl ?_; (focus kernel_rfl); (focus kernel_rfl); refine AWP.runL e tab_ok L22 300 rfl (by first | trivial | (simp [in64] <;> omega) | (simp only [in64, true_and, and_true]; omega)) ?_)
    )
  refine AWP.retW e tab_ok rfl (r' := .tup [ringS [] 0 false, .d (.v (.string .empty)), .i 1]) ?_ ?_
  (focus (repeat' (first | exact WkL.nil | (refine WkL.cons ?_ ?_) | exact Wk.refl _ | exact Wk.nil _ | (refine Wk.aggL ?_) | (refine Wk.tupL ?_))))
  rw [hP]

end Go.Proofs.Ythfkoejjpfhcdaa
