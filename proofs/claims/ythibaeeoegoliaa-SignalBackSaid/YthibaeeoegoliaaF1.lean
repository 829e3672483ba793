import Derived.Test.YthibaeeoegoliaaM
import Derived.Test.YthibaeeoegoliaaL
import Derived.Test.YthibaeeoegoliaaProg
open Go Go.Proofs Go.Sy Go.Signal
namespace Go.Proofs.Ythibaeeoegoliaa
def tab : Tab := [
  (2, ⟨.int .i64, 1, 8, [.v (.int .i64 0)]⟩),
  (3, ⟨.int .i64, 1, 8, [.v (.int .i64 0)]⟩),
  (4, ⟨.bool, 1, 1, [.v (.bool false)]⟩),
  (5, ⟨.int .u8, 1, 1, [.v (.int .u8 0)]⟩),
  (6, ⟨.int .u8, 1, 1, [.v (.int .u8 0)]⟩),
  (9, ⟨.str, 1, 16, [.v (.string .empty)]⟩),
  (23, ⟨.struct [(3, 0), (3, 1), (4, 2), (4, 3)], 4, 24, [.v (.int .i64 0), .v (.int .i64 0), .v (.bool false), .v (.bool false)]⟩),
  (24, ⟨.slice 3, 1, 24, [.nil]⟩),
  (25, ⟨.int .i64, 1, 8, [.v (.int .i64 0)]⟩),
  (44, ⟨.int .u32, 1, 4, [.v (.int .u32 0)]⟩),
  (45, ⟨.slice 5, 1, 24, [.nil]⟩),
  (54, ⟨.int .u64, 1, 8, [.v (.int .u64 0)]⟩)]
theorem tab_ok : TabOk Try.prog tab := tabChk_ok (by kernel_rfl)
abbrev rowI (l : List Int) : List (List DV) := l.map fun v => [.v (.int .i64 v)]
abbrev slI (l : List Int) : SV := .d (.sl 1 (rowI l))
theorem cases_b (b : Bool) : b = true ∨ b = false := by cases b <;> simp
theorem el_at {α : Type} (f : α → List DV) (l : List α) {i : Nat} (h : i < l.length) : (l.map f)[i]? = some (f l[i]) := by simp [h]
/-- The greatest. -/
def mxL : List Int → Int
  | [] => 0
  | a :: l => l.foldl max a
theorem mx_snoc {l : List Int} {i : Nat} (h1 : 1 ≤ i) (h : i < l.length) : mxL (l.take (i + 1)) = max (mxL (l.take i)) l[i] := by
  cases l with
  | nil => simp at h
  | cons a l =>
    obtain ⟨j, rfl⟩ : ∃ j, i = j + 1 := ⟨i - 1, by omega⟩
    have hj : j < l.length := by simpa using h
    show (l.take (j + 1)).foldl max a = _
    rw [List.take_succ_eq_append_getElem hj, List.foldl_append]
    rfl
set_option maxRecDepth 100000 in
theorem max_eff (l : List Int) (h1 : 1 ≤ l.length) (hl : l.length ≤ 1000) : Eff Try.prog 24 [slI l] [] 0 (fun r _ _ => r = .i (mxL l)) := by
  have hsz : (rowI l).length = l.length := List.length_map _
  have hel0 := el_at (fun v => [DV.v (.int .i64 v)]) l (show 0 < l.length by omega)
  have hm0 : mxL (l.take 1) = l[0] := by cases l with
    | nil => simp at h1
    | cons a l => rfl
  refine eff_of Try.func24 rfl rfl rfl fun cx e hP => ?_
  refine AWP.runL e tab_ok L24 300 rfl (by first | trivial | (simp [in64] <;> omega) | (simp only [in64, true_and, and_true]; omega)) ?_
  repeat (
    first
      | (refine AWP.askT rfl ?_; (first | (refine Told.t rfl ?_) | (refine Told.f rfl ?_) | (refine Told.t ?_ ?_; (focus assumption)) | (refine Told.f ?_ ?_; (focus assumption)) | (refine Told.t ?_ ?_; (focus (first | (simp; omega) | (simp [*]; done)); done)) | (refine Told.f ?_ ?_; (focus (first | (simp; omega) | (simp [*]; done)); done))); refine AWP.runL e tab_ok L24 300 rfl (by first | trivial | (simp [in64] <;> omega) | (simp only [in64, true_and, and_true]; omega)) ?_)
      | (refine AWP.eq_agg e tab_ok rfl rfl rfl (.inl ⟨rfl, rfl⟩) ?_ 5 (by omega) rfl ?_ rfl rfl rfl rfl rfl rfl rfl ?_; (focus kernel_rfl); (focus kernel_rfl); refine AWP.runL e tab_ok L24 300 rfl (by first | trivial | (simp [in64] <;> omega) | (simp only [in64, true_and, and_true]; omega)) ?_)
      | (refine AWP.eq_agg e tab_ok rfl rfl rfl (.inr ⟨rfl, rfl⟩) ?_ 5 (by omega) rfl ?_ rfl rfl rfl rfl rfl rfl rfl ?_; (focus kernel_rfl); (focus kernel_rfl); refine AWP.runL e tab_ok L24 300 rfl (by first | trivial | (simp [in64] <;> omega) | (simp only [in64, true_and, and_true]; omega)) ?_)
    )
  refine AWP.idx e tab_ok rfl rfl rfl rfl 0 rfl hel0 ?_
  refine AWP.runL e tab_ok L24 300 rfl (by first | trivial | (simp [in64] <;> omega) | (simp only [in64, true_and, and_true]; omega)) ?_
  refine AWP.loop (ι := Nat × Int) (fun s => ⟨[(4, .i s.1), (3, .i s.2), (0, slI l)], [], 0⟩) (fun s => 1 ≤ s.1 ∧ s.1 ≤ l.length ∧ s.2 = mxL (l.take s.1)) (fun s => l.length - s.1) (1, l[0]) ⟨Nat.le_refl _, h1, hm0.symm⟩ ?_ ?_
  · intro g
    refine AWP.less e ?_ ?_ ?_ ?_ ?_ (g) <;> (repeat' (first | exact True.intro | (refine And.intro ?_ ?_) | rfl | assumption))
  rintro ⟨i, m⟩ Φ ⟨hi1, hi, hm⟩ next
  dsimp only at hi1 hi hm next ⊢
  refine AWP.runL e tab_ok L24 300 rfl (by first | trivial | (simp [in64] <;> omega) | (simp only [in64, true_and, and_true]; omega)) ?_
  refine AWP.cond2 rfl (fun hlt => ?_) (fun hlt => ?_)
  · have hlt : i < l.length := by have := of_decide_eq_true hlt; omega
    have hel := el_at (fun v => [DV.v (.int .i64 v)]) l hlt
    have hs := mx_snoc hi1 hlt
    rw [← hm] at hs
    have nx := fun m' h => next (i + 1, m') ⟨by show 1 ≤ i + 1; omega, hlt, h⟩ (by show l.length - (i + 1) < l.length - i; omega)
    dsimp only at nx
    rw [hs] at nx
    clear next hs
    generalize l[i] = x at *
    refine AWP.runL e tab_ok L24 300 rfl (by first | trivial | (simp [in64] <;> omega) | (simp only [in64, true_and, and_true]; omega)) ?_
    refine AWP.idx e tab_ok rfl rfl rfl rfl i rfl hel ?_
    refine AWP.runL e tab_ok L24 300 rfl (by first | trivial | (simp [in64] <;> omega) | (simp only [in64, true_and, and_true]; omega)) ?_
    have hmx : (if m < x then x else m) = max m x := by
      rw [Int.max_def]; split <;> split <;> omega
    have nx := nx _ hmx
    refine AWP.less e ?_ ?_ ?_ ?_ ?_ (nx) <;> (repeat' (first | exact True.intro | (refine And.intro ?_ ?_) | rfl | assumption))
  · have hlt : ¬ i < l.length := by have := of_decide_eq_false hlt; omega
    obtain rfl : i = l.length := by omega
    rw [List.take_length] at hm
    rw [← hm] at hP
    refine AWP.runL e tab_ok L24 300 rfl (by first | trivial | (simp [in64] <;> omega) | (simp only [in64, true_and, and_true]; omega)) ?_
    refine AWP.ret e tab_ok rfl ?_
    rw [hP]
    all_goals first | rfl | (simp [strip]; done)
end Go.Proofs.Ythibaeeoegoliaa
