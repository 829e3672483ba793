import Derived.Test.YthibaeeoegoliaaEd
import Derived.Test.YthibaeeoegoliaaF11
open Go Go.Proofs Go.RowKit Go.Sy Go.Signal
namespace Go.Proofs.Ythibaeeoegoliaa

/-- May a signal be within so many bytes? -/
def rightB (s : Sig) (size : Int) : Bool := match places s with
  | none => false
  | some l => decide (0 ≤ size ∧ size ≤ 8) && l.all fun (z : Nat) => decide ((z : Int) < 8 * size)
theorem plR_none {s : Sig} (h : places s = none) : plR s = .d .nil := by unfold plR; rw [h]
theorem plR_some {s : Sig} {l : List Nat} (h : places s = some l) : plR s = slI (intsN l) := by unfold plR; rw [h]
theorem mx_lt_foldl (c : Int) (l : List Int) : ∀ a, (l.foldl max a < c ↔ a < c ∧ ∀ x ∈ l, x < c) := by
  induction l with
  | nil => intro a; simp
  | cons b l ih =>
    intro a
    rw [List.foldl_cons, ih]
    simp only [List.mem_cons, forall_eq_or_imp]
    rw [← and_assoc]
    refine and_congr_left fun _ => ?_
    rw [Int.max_def]
    split <;> omega
theorem mx_all {l : List Nat} (h : 1 ≤ l.length) (c : Int) : decide (mxL (intsN l) < c) = l.all fun (z : Nat) => decide ((z : Int) < c) := by
  cases l with
  | nil => simp at h
  | cons a l =>
    show decide ((l.map fun (a : Nat) => (a : Int)).foldl max (a : Int) < c) = _
    rw [Bool.eq_iff_iff, decide_eq_true_eq, mx_lt_foldl]
    simp
set_option maxRecDepth 100000 in
theorem Places_eff (s : Sig) : Eff Try.prog 8 [.agg (sC s)] [] 0 (fun r _ _ => r = match places s with | none => .tup [.d .nil, .i 1] | some l => .tup [slI (intsN l), .i 0]) := by
  have c1 := places_eff s
  cases h : places s with
  | none =>
    rw [plR_none h] at c1
    refine eff_of Try.func8 rfl rfl rfl fun cx e hP => ?_
    refine AWP.runL e tab_ok L8 300 rfl (by first | trivial | (simp [in64] <;> omega) | (simp only [in64, true_and, and_true]; omega)) ?_
    repeat (
      first
        | (refine AWP.askT rfl ?_; (first | (refine Told.t rfl ?_) | (refine Told.f rfl ?_) | (refine Told.t ?_ ?_; (focus assumption)) | (refine Told.f ?_ ?_; (focus assumption)) | (refine Told.t ?_ ?_; (focus (first | (simp; omega) | (simp [*]; done)); done)) | (refine Told.f ?_ ?_; (focus (first | (simp; omega) | (simp [*]; done)); done))); refine AWP.runL e tab_ok L8 300 rfl (by first | trivial | (simp [in64] <;> omega) | (simp only [in64, true_and, and_true]; omega)) ?_)
        | (refine AWP.callQ e rfl rfl ?_; (first | refine CallQ.mk (c1) rfl rfl ?_); refine AWP.runL e tab_ok L8 300 rfl (by first | trivial | (simp [in64] <;> omega) | (simp only [in64, true_and, and_true]; omega)) ?_)
        | (refine AWP.eq_agg e tab_ok rfl rfl rfl (.inl ⟨rfl, rfl⟩) ?_ 5 (by omega) rfl ?_ rfl rfl rfl rfl rfl rfl rfl ?_; (focus kernel_rfl); (focus kernel_rfl); refine AWP.runL e tab_ok L8 300 rfl (by first | trivial | (simp [in64] <;> omega) | (simp only [in64, true_and, and_true]; omega)) ?_)
        | (refine AWP.eq_agg e tab_ok rfl rfl rfl (.inr ⟨rfl, rfl⟩) ?_ 5 (by omega) rfl ?_ rfl rfl rfl rfl rfl rfl rfl ?_; (focus kernel_rfl); (focus kernel_rfl); refine AWP.runL e tab_ok L8 300 rfl (by first | trivial | (simp [in64] <;> omega) | (simp only [in64, true_and, and_true]; omega)) ?_)
      )
    refine AWP.ret e tab_ok rfl ?_
    rw [hP]
    all_goals first | rfl | (simp [strip]; done)
  | some l =>
    rw [plR_some h] at c1
    have hl := places_len h
    have hn : (rowI (intsN l)).length = l.length := by simp
    have hne : rowI (intsN l) ≠ [] := fun h0 => by rw [h0] at hn; simp at hn; omega
    refine eff_of Try.func8 rfl rfl rfl fun cx e hP => ?_
    refine AWP.runL e tab_ok L8 300 rfl (by first | trivial | (simp [in64] <;> omega) | (simp only [in64, true_and, and_true]; omega)) ?_
    repeat (
      first
        | (refine AWP.askT rfl ?_; (first | (refine Told.t rfl ?_) | (refine Told.f rfl ?_) | (refine Told.t ?_ ?_; (focus assumption)) | (refine Told.f ?_ ?_; (focus assumption)) | (refine Told.t ?_ ?_; (focus (first | (simp; omega) | (simp [*]; done)); done)) | (refine Told.f ?_ ?_; (focus (first | (simp; omega) | (simp [*]; done)); done))); refine AWP.runL e tab_ok L8 300 rfl (by first | trivial | (simp [in64] <;> omega) | (simp only [in64, true_and, and_true]; omega)) ?_)
        | (refine AWP.callQ e rfl rfl ?_; (first | refine CallQ.mk (c1) rfl rfl ?_); refine AWP.runL e tab_ok L8 300 rfl (by first | trivial | (simp [in64] <;> omega) | (simp only [in64, true_and, and_true]; omega)) ?_)
        | (refine AWP.eq_agg e tab_ok rfl rfl rfl (.inl ⟨rfl, rfl⟩) ?_ 5 (by omega) rfl ?_ rfl rfl rfl rfl rfl rfl rfl ?_; (focus kernel_rfl); (focus kernel_rfl); refine AWP.runL e tab_ok L8 300 rfl (by first | trivial | (simp [in64] <;> omega) | (simp only [in64, true_and, and_true]; omega)) ?_)
        | (refine AWP.eq_agg e tab_ok rfl rfl rfl (.inr ⟨rfl, rfl⟩) ?_ 5 (by omega) rfl ?_ rfl rfl rfl rfl rfl rfl rfl ?_; (focus kernel_rfl); (focus kernel_rfl); refine AWP.runL e tab_ok L8 300 rfl (by first | trivial | (simp [in64] <;> omega) | (simp only [in64, true_and, and_true]; omega)) ?_)
      )
    refine AWP.ret e tab_ok rfl ?_
    rw [hP]
    all_goals first | rfl | (simp [strip]; done)
set_option maxRecDepth 100000 in
theorem Right_eff (s : Sig) (size : Int) : Eff Try.prog 10 [.agg (sC s), .i size] [] 0 (fun r _ _ => r = .b (rightB s size)) := by
  have c1 := places_eff s
  cases h : places s with
  | none =>
    rw [plR_none h] at c1
    have hR : rightB s size = false := by unfold rightB; rw [h]
    rw [hR]
    refine eff_of Try.func10 rfl rfl rfl fun cx e hP => ?_
    refine AWP.runL e tab_ok L10 300 rfl (by first | trivial | (simp [in64] <;> omega) | (simp only [in64, true_and, and_true]; omega)) ?_
    repeat (
      first
        | (refine AWP.askT rfl ?_; (first | (refine Told.t rfl ?_) | (refine Told.f rfl ?_) | (refine Told.t ?_ ?_; (focus assumption)) | (refine Told.f ?_ ?_; (focus assumption)) | (refine Told.t ?_ ?_; (focus (first | (simp; omega) | (simp [*]; done)); done)) | (refine Told.f ?_ ?_; (focus (first | (simp; omega) | (simp [*]; done)); done))); refine AWP.runL e tab_ok L10 300 rfl (by first | trivial | (simp [in64] <;> omega) | (simp only [in64, true_and, and_true]; omega)) ?_)
        | (refine AWP.callQ e rfl rfl ?_; (first | refine CallQ.mk (c1) rfl rfl ?_); refine AWP.runL e tab_ok L10 300 rfl (by first | trivial | (simp [in64] <;> omega) | (simp only [in64, true_and, and_true]; omega)) ?_)
        | (refine AWP.eq_agg e tab_ok rfl rfl rfl (.inl ⟨rfl, rfl⟩) ?_ 5 (by omega) rfl ?_ rfl rfl rfl rfl rfl rfl rfl ?_; (focus kernel_rfl); (focus kernel_rfl); refine AWP.runL e tab_ok L10 300 rfl (by first | trivial | (simp [in64] <;> omega) | (simp only [in64, true_and, and_true]; omega)) ?_)
        | (refine AWP.eq_agg e tab_ok rfl rfl rfl (.inr ⟨rfl, rfl⟩) ?_ 5 (by omega) rfl ?_ rfl rfl rfl rfl rfl rfl rfl ?_; (focus kernel_rfl); (focus kernel_rfl); refine AWP.runL e tab_ok L10 300 rfl (by first | trivial | (simp [in64] <;> omega) | (simp only [in64, true_and, and_true]; omega)) ?_)
      )
    refine AWP.ret e tab_ok rfl ?_
    rw [hP]
    all_goals first | rfl | (simp [strip]; done)
  | some l =>
    rw [plR_some h] at c1
    have hl := places_len h
    have hn : (rowI (intsN l)).length = l.length := by simp
    have hne : rowI (intsN l) ≠ [] := fun h0 => by rw [h0] at hn; simp at hn; omega
    have c2 := max_eff (intsN l) (by simp; omega) (by simp; omega)
    have hR : rightB s size = (decide (0 ≤ size ∧ size ≤ 8) && decide (mxL (intsN l) < 8 * size)) := by
      unfold rightB; rw [h, mx_all hl.2.1]
    rw [hR]
    generalize mxL (intsN l) = m at *
    refine eff_of Try.func10 rfl rfl rfl fun cx e hP => ?_
    by_cases h1 : size ≥ 0
    · by_cases h2 : size ≤ 8
      · rw [decide_eq_true (show 0 ≤ size ∧ size ≤ 8 from ⟨h1, h2⟩), Bool.true_and] at hP
        refine AWP.runL e tab_ok L10 300 rfl (by first | trivial | (simp [in64] <;> omega) | (simp only [in64, true_and, and_true]; omega)) ?_
        repeat (
          first
            | (refine AWP.askT rfl ?_; (first | (refine Told.t rfl ?_) | (refine Told.f rfl ?_) | (refine Told.t ?_ ?_; (focus assumption)) | (refine Told.f ?_ ?_; (focus assumption)) | (refine Told.t ?_ ?_; (focus (first | (simp; omega) | (simp [*]; done)); done)) | (refine Told.f ?_ ?_; (focus (first | (simp; omega) | (simp [*]; done)); done))); refine AWP.runL e tab_ok L10 300 rfl (by first | trivial | (simp [in64] <;> omega) | (simp only [in64, true_and, and_true]; omega)) ?_)
            | (refine AWP.callQ e rfl rfl ?_; (first | refine CallQ.mk (c1) rfl rfl ?_ | refine CallQ.mk (c2) rfl rfl ?_); refine AWP.runL e tab_ok L10 300 rfl (by first | trivial | (simp [in64] <;> omega) | (simp only [in64, true_and, and_true]; omega)) ?_)
            | (refine AWP.eq_agg e tab_ok rfl rfl rfl (.inl ⟨rfl, rfl⟩) ?_ 5 (by omega) rfl ?_ rfl rfl rfl rfl rfl rfl rfl ?_; (focus kernel_rfl); (focus kernel_rfl); refine AWP.runL e tab_ok L10 300 rfl (by first | trivial | (simp [in64] <;> omega) | (simp only [in64, true_and, and_true]; omega)) ?_)
            | (refine AWP.eq_agg e tab_ok rfl rfl rfl (.inr ⟨rfl, rfl⟩) ?_ 5 (by omega) rfl ?_ rfl rfl rfl rfl rfl rfl rfl ?_; (focus kernel_rfl); (focus kernel_rfl); refine AWP.runL e tab_ok L10 300 rfl (by first | trivial | (simp [in64] <;> omega) | (simp only [in64, true_and, and_true]; omega)) ?_)
          )
        refine AWP.ret e tab_ok rfl ?_
        rw [hP]
        rfl
      · rw [decide_eq_false (show ¬ (0 ≤ size ∧ size ≤ 8) by omega), Bool.false_and] at hP
        refine AWP.runL e tab_ok L10 300 rfl (by first | trivial | (simp [in64] <;> omega) | (simp only [in64, true_and, and_true]; omega)) ?_
        repeat (
          first
            | (refine AWP.askT rfl ?_; (first | (refine Told.t rfl ?_) | (refine Told.f rfl ?_) | (refine Told.t ?_ ?_; (focus assumption)) | (refine Told.f ?_ ?_; (focus assumption)) | (refine Told.t ?_ ?_; (focus (first | (simp; omega) | (simp [*]; done)); done)) | (refine Told.f ?_ ?_; (focus (first | (simp; omega) | (simp [*]; done)); done))); refine AWP.runL e tab_ok L10 300 rfl (by first | trivial | (simp [in64] <;> omega) | (simp only [in64, true_and, and_true]; omega)) ?_)
            | (refine AWP.callQ e rfl rfl ?_; (first | refine CallQ.mk (c1) rfl rfl ?_ | refine CallQ.mk (c2) rfl rfl ?_); refine AWP.runL e tab_ok L10 300 rfl (by first | trivial | (simp [in64] <;> omega) | (simp only [in64, true_and, and_true]; omega)) ?_)
            | (refine AWP.eq_agg e tab_ok rfl rfl rfl (.inl ⟨rfl, rfl⟩) ?_ 5 (by omega) rfl ?_ rfl rfl rfl rfl rfl rfl rfl ?_; (focus kernel_rfl); (focus kernel_rfl); refine AWP.runL e tab_ok L10 300 rfl (by first | trivial | (simp [in64] <;> omega) | (simp only [in64, true_and, and_true]; omega)) ?_)
            | (refine AWP.eq_agg e tab_ok rfl rfl rfl (.inr ⟨rfl, rfl⟩) ?_ 5 (by omega) rfl ?_ rfl rfl rfl rfl rfl rfl rfl ?_; (focus kernel_rfl); (focus kernel_rfl); refine AWP.runL e tab_ok L10 300 rfl (by first | trivial | (simp [in64] <;> omega) | (simp only [in64, true_and, and_true]; omega)) ?_)
          )
        refine AWP.ret e tab_ok rfl ?_
        rw [hP]
        all_goals first | rfl | (simp [strip]; done)
    · rw [decide_eq_false (show ¬ (0 ≤ size ∧ size ≤ 8) by omega), Bool.false_and] at hP
      refine AWP.runL e tab_ok L10 300 rfl (by first | trivial | (simp [in64] <;> omega) | (simp only [in64, true_and, and_true]; omega)) ?_
      repeat (
        first
          | (refine AWP.askT rfl ?_; (first | (refine Told.t rfl ?_) | (refine Told.f rfl ?_) | (refine Told.t ?_ ?_; (focus assumption)) | (refine Told.f ?_ ?_; (focus assumption)) | (refine Told.t ?_ ?_; (focus (first | (simp; omega) | (simp [*]; done)); done)) | (refine Told.f ?_ ?_; (focus (first | (simp; omega) | (simp [*]; done)); done))); refine AWP.runL e tab_ok L10 300 rfl (by first | trivial | (simp [in64] <;> omega) | (simp only [in64, true_and, and_true]; omega)) ?_)
          | (refine AWP.callQ e rfl rfl ?_; (first | refine CallQ.mk (c1) rfl rfl ?_ | refine CallQ.mk (c2) rfl rfl ?_); refine AWP.runL e tab_ok L10 300 rfl (by first | trivial | (simp [in64] <;> omega) | (simp only [in64, true_and, and_true]; omega)) ?_)
          | (refine AWP.eq_agg e tab_ok rfl rfl rfl (.inl ⟨rfl, rfl⟩) ?_ 5 (by omega) rfl ?_ rfl rfl rfl rfl rfl rfl rfl ?_; (focus kernel_rfl); (focus kernel_rfl); refine AWP.runL e tab_ok L10 300 rfl (by first | trivial | (simp [in64] <;> omega) | (simp only [in64, true_and, and_true]; omega)) ?_)
          | (refine AWP.eq_agg e tab_ok rfl rfl rfl (.inr ⟨rfl, rfl⟩) ?_ 5 (by omega) rfl ?_ rfl rfl rfl rfl rfl rfl rfl ?_; (focus kernel_rfl); (focus kernel_rfl); refine AWP.runL e tab_ok L10 300 rfl (by first | trivial | (simp [in64] <;> omega) | (simp only [in64, true_and, and_true]; omega)) ?_)
        )
      refine AWP.ret e tab_ok rfl ?_
      rw [hP]
      all_goals first | rfl | (simp [strip]; done)
theorem intsN_at {l : List Nat} {i : Nat} (h : i < l.length) : (rowI (intsN l))[i]? = some [DV.v (.int .i64 (l[i] : Int))] := by simp [h]
theorem all_snocB {f : Nat → Bool} {l : List Nat} {i : Nat} (h : i < l.length) (hn : (l.take i).all f = true) (hf : f l[i] = true) : (l.take (i + 1)).all f = true := by
  rw [List.take_succ_eq_append_getElem h, List.all_append, hn]
  simp [hf]
theorem all_missB {f : Nat → Bool} {l : List Nat} {i : Nat} (h : i < l.length) (hf : f l[i] = false) : l.all f = false :=
  List.all_eq_false.2 ⟨_, List.getElem_mem h, by rw [hf]; decide⟩
set_option maxRecDepth 100000 in
theorem refRight_eff (s : Sig) (size : Int) : Eff Try.prog 11 [.agg (sC s), .i size] [] 0 (fun r _ _ => r = .b (rightB s size)) := by
  have c1 := refplaces_eff s
  cases h : places s with
  | none =>
    rw [plR_none h] at c1
    have hR : rightB s size = false := by unfold rightB; rw [h]
    rw [hR]
    refine eff_of Try.func11 rfl rfl rfl fun cx e hP => ?_
    refine AWP.runL e tab_ok L11 300 rfl (by first | trivial | (simp [in64] <;> omega) | (simp only [in64, true_and, and_true]; omega)) ?_
    repeat (
      first
        | (refine AWP.askT rfl ?_; (first | (refine Told.t rfl ?_) | (refine Told.f rfl ?_) | (refine Told.t ?_ ?_; (focus assumption)) | (refine Told.f ?_ ?_; (focus assumption)) | (refine Told.t ?_ ?_; (focus (first | (simp; omega) | (simp [*]; done)); done)) | (refine Told.f ?_ ?_; (focus (first | (simp; omega) | (simp [*]; done)); done))); refine AWP.runL e tab_ok L11 300 rfl (by first | trivial | (simp [in64] <;> omega) | (simp only [in64, true_and, and_true]; omega)) ?_)
        | (refine AWP.callQ e rfl rfl ?_; (first | refine CallQ.mk (c1) rfl rfl ?_); refine AWP.runL e tab_ok L11 300 rfl (by first | trivial | (simp [in64] <;> omega) | (simp only [in64, true_and, and_true]; omega)) ?_)
        | (refine AWP.eq_agg e tab_ok rfl rfl rfl (.inl ⟨rfl, rfl⟩) ?_ 5 (by omega) rfl ?_ rfl rfl rfl rfl rfl rfl rfl ?_; (focus kernel_rfl); (focus kernel_rfl); refine AWP.runL e tab_ok L11 300 rfl (by first | trivial | (simp [in64] <;> omega) | (simp only [in64, true_and, and_true]; omega)) ?_)
        | (refine AWP.eq_agg e tab_ok rfl rfl rfl (.inr ⟨rfl, rfl⟩) ?_ 5 (by omega) rfl ?_ rfl rfl rfl rfl rfl rfl rfl ?_; (focus kernel_rfl); (focus kernel_rfl); refine AWP.runL e tab_ok L11 300 rfl (by first | trivial | (simp [in64] <;> omega) | (simp only [in64, true_and, and_true]; omega)) ?_)
      )
    refine AWP.loop (ι := Unit) (fun _ => ⟨[(12, .i 0), (11, .i 0), (10, .d .nil), (5, .d .nil), (1, .i size)], [], 0⟩) (fun _ => True) (fun _ => 0) () trivial ?_ ?_
    · intro g
      refine AWP.less e ?_ ?_ ?_ ?_ ?_ (g) <;> (repeat' (first | exact True.intro | (refine And.intro ?_ ?_) | rfl | assumption))
    intro _ Φ _ next
    refine AWP.runL e tab_ok L11 300 rfl (by first | trivial | (simp [in64] <;> omega) | (simp only [in64, true_and, and_true]; omega)) ?_
    repeat (
      first
        | (refine AWP.askT rfl ?_; (first | (refine Told.t rfl ?_) | (refine Told.f rfl ?_) | (refine Told.t ?_ ?_; (focus assumption)) | (refine Told.f ?_ ?_; (focus assumption)) | (refine Told.t ?_ ?_; (focus (first | (simp; omega) | (simp [*]; done)); done)) | (refine Told.f ?_ ?_; (focus (first | (simp; omega) | (simp [*]; done)); done))); refine AWP.runL e tab_ok L11 300 rfl (by first | trivial | (simp [in64] <;> omega) | (simp only [in64, true_and, and_true]; omega)) ?_)
        | (refine AWP.eq_agg e tab_ok rfl rfl rfl (.inl ⟨rfl, rfl⟩) ?_ 5 (by omega) rfl ?_ rfl rfl rfl rfl rfl rfl rfl ?_; (focus kernel_rfl); (focus kernel_rfl); refine AWP.runL e tab_ok L11 300 rfl (by first | trivial | (simp [in64] <;> omega) | (simp only [in64, true_and, and_true]; omega)) ?_)
        | (refine AWP.eq_agg e tab_ok rfl rfl rfl (.inr ⟨rfl, rfl⟩) ?_ 5 (by omega) rfl ?_ rfl rfl rfl rfl rfl rfl rfl ?_; (focus kernel_rfl); (focus kernel_rfl); refine AWP.runL e tab_ok L11 300 rfl (by first | trivial | (simp [in64] <;> omega) | (simp only [in64, true_and, and_true]; omega)) ?_)
      )
    refine AWP.ret e tab_ok rfl ?_
    rw [hP]
    all_goals first | rfl | (simp [strip]; done)
  | some l =>
    rw [plR_some h] at c1
    have hl := places_len h
    have hn : (rowI (intsN l)).length = l.length := by simp
    have hR : rightB s size = (decide (0 ≤ size ∧ size ≤ 8) && l.all fun (z : Nat) => decide ((z : Int) < 8 * size)) := by
      unfold rightB; rw [h]
    rw [hR]
    refine eff_of Try.func11 rfl rfl rfl fun cx e hP => ?_
    refine AWP.runL e tab_ok L11 300 rfl (by first | trivial | (simp [in64] <;> omega) | (simp only [in64, true_and, and_true]; omega)) ?_
    repeat (
      first
        | (refine AWP.askT rfl ?_; (first | (refine Told.t rfl ?_) | (refine Told.f rfl ?_) | (refine Told.t ?_ ?_; (focus assumption)) | (refine Told.f ?_ ?_; (focus assumption)) | (refine Told.t ?_ ?_; (focus (first | (simp; omega) | (simp [*]; done)); done)) | (refine Told.f ?_ ?_; (focus (first | (simp; omega) | (simp [*]; done)); done))); refine AWP.runL e tab_ok L11 300 rfl (by first | trivial | (simp [in64] <;> omega) | (simp only [in64, true_and, and_true]; omega)) ?_)
        | (refine AWP.callQ e rfl rfl ?_; (first | refine CallQ.mk (c1) rfl rfl ?_); refine AWP.runL e tab_ok L11 300 rfl (by first | trivial | (simp [in64] <;> omega) | (simp only [in64, true_and, and_true]; omega)) ?_)
        | (refine AWP.eq_agg e tab_ok rfl rfl rfl (.inl ⟨rfl, rfl⟩) ?_ 5 (by omega) rfl ?_ rfl rfl rfl rfl rfl rfl rfl ?_; (focus kernel_rfl); (focus kernel_rfl); refine AWP.runL e tab_ok L11 300 rfl (by first | trivial | (simp [in64] <;> omega) | (simp only [in64, true_and, and_true]; omega)) ?_)
        | (refine AWP.eq_agg e tab_ok rfl rfl rfl (.inr ⟨rfl, rfl⟩) ?_ 5 (by omega) rfl ?_ rfl rfl rfl rfl rfl rfl rfl ?_; (focus kernel_rfl); (focus kernel_rfl); refine AWP.runL e tab_ok L11 300 rfl (by first | trivial | (simp [in64] <;> omega) | (simp only [in64, true_and, and_true]; omega)) ?_)
      )
    refine AWP.loop (ι := Nat) (fun i => ⟨[(12, .i i), (11, .i (rowI (intsN l)).length), (10, slI (intsN l)), (5, slI (intsN l)), (1, .i size)], [], 0⟩) (fun i => i ≤ l.length ∧ (0 ≤ size ∧ size ≤ 8 → (l.take i).all (fun (z : Nat) => decide ((z : Int) < 8 * size)) = true)) (fun i => l.length - i) 0 ⟨Nat.zero_le _, fun _ => rfl⟩ ?_ ?_
    · intro g
      refine AWP.less e ?_ ?_ ?_ ?_ ?_ (g) <;> (repeat' (first | exact True.intro | (refine And.intro ?_ ?_) | rfl | assumption))
    rintro i Φ ⟨hi, hg⟩ next
    refine AWP.runL e tab_ok L11 300 rfl (by first | trivial | (simp [in64] <;> omega) | (simp only [in64, true_and, and_true]; omega)) ?_
    refine AWP.cond2 rfl (fun hlt => ?_) (fun hlt => ?_)
    · have hlt : i < l.length := by have := of_decide_eq_true hlt; omega
      have hel := intsN_at hlt
      have nx := fun h => next (i + 1) ⟨hlt, h⟩ (by omega)
      have hmiss := all_missB (f := fun (z : Nat) => decide ((z : Int) < 8 * size)) hlt
      have hhit := fun hg => all_snocB (f := fun (z : Nat) => decide ((z : Int) < 8 * size)) hlt hg
      generalize l[i] = x at *
      clear next
      refine AWP.runL e tab_ok L11 300 rfl (by first | trivial | (simp [in64] <;> omega) | (simp only [in64, true_and, and_true]; omega)) ?_
      refine AWP.idx e tab_ok rfl rfl rfl rfl i rfl hel ?_
      refine AWP.runL e tab_ok L11 7 rfl (by first | trivial | (simp [in64] <;> omega) | (simp only [in64, true_and, and_true]; omega)) ?_
      refine AWP.mulW e rfl rfl rfl ?_
      obtain ⟨q, hq⟩ : ∃ q, q = IntKind.wrap .i64 (8 * size) := ⟨_, rfl⟩
      rw [← hq]
      by_cases hx : (x : Int) ≥ q
      · have hF : (decide (0 ≤ size ∧ size ≤ 8) && l.all fun (z : Nat) => decide ((z : Int) < 8 * size)) = false := by
          by_cases hs : 0 ≤ size ∧ size ≤ 8
          · rw [wrap64_in (by omega)] at hq
            rw [hmiss (decide_eq_false (by omega)), Bool.and_false]
          · rw [decide_eq_false hs, Bool.false_and]
        rw [hF] at hP
        clear hmiss hhit nx hg hq
        refine AWP.runL e tab_ok L11 300 rfl (by first | trivial | (simp [in64] <;> omega) | (simp only [in64, true_and, and_true]; omega)) ?_
        repeat (
          first
            | (refine AWP.askT rfl ?_; (first | (refine Told.t rfl ?_) | (refine Told.f rfl ?_) | (refine Told.t ?_ ?_; (focus assumption)) | (refine Told.f ?_ ?_; (focus assumption)) | (refine Told.t ?_ ?_; (focus (first | (simp; omega) | (simp [*]; done)); done)) | (refine Told.f ?_ ?_; (focus (first | (simp; omega) | (simp [*]; done)); done))); refine AWP.runL e tab_ok L11 300 rfl (by first | trivial | (simp [in64] <;> omega) | (simp only [in64, true_and, and_true]; omega)) ?_)
            | (refine AWP.eq_agg e tab_ok rfl rfl rfl (.inl ⟨rfl, rfl⟩) ?_ 5 (by omega) rfl ?_ rfl rfl rfl rfl rfl rfl rfl ?_; (focus kernel_rfl); (focus kernel_rfl); refine AWP.runL e tab_ok L11 300 rfl (by first | trivial | (simp [in64] <;> omega) | (simp only [in64, true_and, and_true]; omega)) ?_)
            | (refine AWP.eq_agg e tab_ok rfl rfl rfl (.inr ⟨rfl, rfl⟩) ?_ 5 (by omega) rfl ?_ rfl rfl rfl rfl rfl rfl rfl ?_; (focus kernel_rfl); (focus kernel_rfl); refine AWP.runL e tab_ok L11 300 rfl (by first | trivial | (simp [in64] <;> omega) | (simp only [in64, true_and, and_true]; omega)) ?_)
          )
        refine AWP.ret e tab_ok rfl ?_
        rw [hP]
        all_goals first | rfl | (simp [strip]; done)
      · have nx := nx (fun hs => by
          rw [wrap64_in (by omega)] at hq
          exact hhit (hg hs) (decide_eq_true (by omega)))
        clear hmiss hhit hg hq
        refine AWP.runL e tab_ok L11 300 rfl (by first | trivial | (simp [in64] <;> omega) | (simp only [in64, true_and, and_true]; omega)) ?_
        repeat (
          first
            | (refine AWP.askT rfl ?_; (first | (refine Told.t rfl ?_) | (refine Told.f rfl ?_) | (refine Told.t ?_ ?_; (focus assumption)) | (refine Told.f ?_ ?_; (focus assumption)) | (refine Told.t ?_ ?_; (focus (first | (simp; omega) | (simp [*]; done)); done)) | (refine Told.f ?_ ?_; (focus (first | (simp; omega) | (simp [*]; done)); done))); refine AWP.runL e tab_ok L11 300 rfl (by first | trivial | (simp [in64] <;> omega) | (simp only [in64, true_and, and_true]; omega)) ?_)
            | (refine AWP.eq_agg e tab_ok rfl rfl rfl (.inl ⟨rfl, rfl⟩) ?_ 5 (by omega) rfl ?_ rfl rfl rfl rfl rfl rfl rfl ?_; (focus kernel_rfl); (focus kernel_rfl); refine AWP.runL e tab_ok L11 300 rfl (by first | trivial | (simp [in64] <;> omega) | (simp only [in64, true_and, and_true]; omega)) ?_)
            | (refine AWP.eq_agg e tab_ok rfl rfl rfl (.inr ⟨rfl, rfl⟩) ?_ 5 (by omega) rfl ?_ rfl rfl rfl rfl rfl rfl rfl ?_; (focus kernel_rfl); (focus kernel_rfl); refine AWP.runL e tab_ok L11 300 rfl (by first | trivial | (simp [in64] <;> omega) | (simp only [in64, true_and, and_true]; omega)) ?_)
          )
        refine AWP.less e ?_ ?_ ?_ ?_ ?_ (nx) <;> (repeat' (first | exact True.intro | (refine And.intro ?_ ?_) | rfl | assumption))
    · have hlt : ¬ i < l.length := by have := of_decide_eq_false hlt; omega
      obtain rfl : i = l.length := by omega
      rw [List.take_length] at hg
      have hl1 := hl.2.1
      by_cases h1 : size ≥ 0
      · by_cases h2 : size ≤ 8
        · rw [decide_eq_true (show 0 ≤ size ∧ size ≤ 8 from ⟨h1, h2⟩), hg ⟨h1, h2⟩] at hP
          clear hg
          refine AWP.runL e tab_ok L11 300 rfl (by first | trivial | (simp [in64] <;> omega) | (simp only [in64, true_and, and_true]; omega)) ?_
          repeat (
            first
              | (refine AWP.askT rfl ?_; (first | (refine Told.t rfl ?_) | (refine Told.f rfl ?_) | (refine Told.t ?_ ?_; (focus assumption)) | (refine Told.f ?_ ?_; (focus assumption)) | (refine Told.t ?_ ?_; (focus (first | (simp; omega) | (simp [*]; done)); done)) | (refine Told.f ?_ ?_; (focus (first | (simp; omega) | (simp [*]; done)); done))); refine AWP.runL e tab_ok L11 300 rfl (by first | trivial | (simp [in64] <;> omega) | (simp only [in64, true_and, and_true]; omega)) ?_)
              | (refine AWP.eq_agg e tab_ok rfl rfl rfl (.inl ⟨rfl, rfl⟩) ?_ 5 (by omega) rfl ?_ rfl rfl rfl rfl rfl rfl rfl ?_; (focus kernel_rfl); (focus kernel_rfl); refine AWP.runL e tab_ok L11 300 rfl (by first | trivial | (simp [in64] <;> omega) | (simp only [in64, true_and, and_true]; omega)) ?_)
              | (refine AWP.eq_agg e tab_ok rfl rfl rfl (.inr ⟨rfl, rfl⟩) ?_ 5 (by omega) rfl ?_ rfl rfl rfl rfl rfl rfl rfl ?_; (focus kernel_rfl); (focus kernel_rfl); refine AWP.runL e tab_ok L11 300 rfl (by first | trivial | (simp [in64] <;> omega) | (simp only [in64, true_and, and_true]; omega)) ?_)
            )
          refine AWP.ret e tab_ok rfl ?_
          rw [hP]
          exact congrArg SV.b (decide_eq_true h2)
        · rw [decide_eq_false (show ¬ (0 ≤ size ∧ size ≤ 8) by omega), Bool.false_and] at hP
          clear hg
          refine AWP.runL e tab_ok L11 300 rfl (by first | trivial | (simp [in64] <;> omega) | (simp only [in64, true_and, and_true]; omega)) ?_
          repeat (
            first
              | (refine AWP.askT rfl ?_; (first | (refine Told.t rfl ?_) | (refine Told.f rfl ?_) | (refine Told.t ?_ ?_; (focus assumption)) | (refine Told.f ?_ ?_; (focus assumption)) | (refine Told.t ?_ ?_; (focus (first | (simp; omega) | (simp [*]; done)); done)) | (refine Told.f ?_ ?_; (focus (first | (simp; omega) | (simp [*]; done)); done))); refine AWP.runL e tab_ok L11 300 rfl (by first | trivial | (simp [in64] <;> omega) | (simp only [in64, true_and, and_true]; omega)) ?_)
              | (refine AWP.eq_agg e tab_ok rfl rfl rfl (.inl ⟨rfl, rfl⟩) ?_ 5 (by omega) rfl ?_ rfl rfl rfl rfl rfl rfl rfl ?_; (focus kernel_rfl); (focus kernel_rfl); refine AWP.runL e tab_ok L11 300 rfl (by first | trivial | (simp [in64] <;> omega) | (simp only [in64, true_and, and_true]; omega)) ?_)
              | (refine AWP.eq_agg e tab_ok rfl rfl rfl (.inr ⟨rfl, rfl⟩) ?_ 5 (by omega) rfl ?_ rfl rfl rfl rfl rfl rfl rfl ?_; (focus kernel_rfl); (focus kernel_rfl); refine AWP.runL e tab_ok L11 300 rfl (by first | trivial | (simp [in64] <;> omega) | (simp only [in64, true_and, and_true]; omega)) ?_)
            )
          refine AWP.ret e tab_ok rfl ?_
          rw [hP]
          exact congrArg SV.b (decide_eq_false h2)
      · rw [decide_eq_false (show ¬ (0 ≤ size ∧ size ≤ 8) by omega), Bool.false_and] at hP
        clear hg
        refine AWP.runL e tab_ok L11 300 rfl (by first | trivial | (simp [in64] <;> omega) | (simp only [in64, true_and, and_true]; omega)) ?_
        repeat (
          first
            | (refine AWP.askT rfl ?_; (first | (refine Told.t rfl ?_) | (refine Told.f rfl ?_) | (refine Told.t ?_ ?_; (focus assumption)) | (refine Told.f ?_ ?_; (focus assumption)) | (refine Told.t ?_ ?_; (focus (first | (simp; omega) | (simp [*]; done)); done)) | (refine Told.f ?_ ?_; (focus (first | (simp; omega) | (simp [*]; done)); done))); refine AWP.runL e tab_ok L11 300 rfl (by first | trivial | (simp [in64] <;> omega) | (simp only [in64, true_and, and_true]; omega)) ?_)
            | (refine AWP.eq_agg e tab_ok rfl rfl rfl (.inl ⟨rfl, rfl⟩) ?_ 5 (by omega) rfl ?_ rfl rfl rfl rfl rfl rfl rfl ?_; (focus kernel_rfl); (focus kernel_rfl); refine AWP.runL e tab_ok L11 300 rfl (by first | trivial | (simp [in64] <;> omega) | (simp only [in64, true_and, and_true]; omega)) ?_)
            | (refine AWP.eq_agg e tab_ok rfl rfl rfl (.inr ⟨rfl, rfl⟩) ?_ 5 (by omega) rfl ?_ rfl rfl rfl rfl rfl rfl rfl ?_; (focus kernel_rfl); (focus kernel_rfl); refine AWP.runL e tab_ok L11 300 rfl (by first | trivial | (simp [in64] <;> omega) | (simp only [in64, true_and, and_true]; omega)) ?_)
          )
        refine AWP.ret e tab_ok rfl ?_
        rw [hP]
        all_goals first | rfl | (simp [strip]; done)
end Go.Proofs.Ythibaeeoegoliaa
