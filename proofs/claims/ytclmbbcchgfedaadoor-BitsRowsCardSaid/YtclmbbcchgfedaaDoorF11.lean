import Derived.Test.YtclmbbcchgfedaaDoorF10
open Go Go.Proofs Go.Sy
namespace Go.Proofs.YtclmbbcchgfedaaDoor

/-- A row's runs. -/
def put1 (c : UInt8) : List (UInt8 × Nat) → List (UInt8 × Nat)
  | [] => [(c, 1)]
  | (d, k) :: r => if c = d then (d, k + 1) :: r else (c, 1) :: (d, k) :: r
def runs : List UInt8 → List (UInt8 × Nat)
  | [] => []
  | c :: l => put1 c (runs l)
theorem runs_cons (c : UInt8) : ∀ l : List UInt8, runs (c :: l) = (c, (c :: l).length - (l.dropWhile (· == c)).length) :: runs (l.dropWhile (· == c)) := by
  intro l
  induction l generalizing c with
  | nil => rfl
  | cons d l ih =>
    have hle := (List.dropWhile_suffix (l := l) (· == c)).length_le
    by_cases h : d = c
    · subst h
      show put1 d (runs (d :: l)) = _
      rw [ih d]
      simp only [put1, if_true, List.dropWhile_cons, beq_self_eq_true]
      congr 2
      simp only [List.length_cons]
      omega
    · show put1 c (runs (d :: l)) = _
      have h2 : (d == c) = false := by simpa using h
      rw [ih d, List.dropWhile_cons, h2]
      simp only [put1, Bool.false_eq_true, if_false]
      rw [if_neg (fun e => h e.symm), ih d]
      congr 2
      simp
theorem runs_len (l : List UInt8) : (runs l).length ≤ l.length := by
  induction l with
  | nil => exact Nat.le_refl _
  | cons c l ih =>
    show (put1 c (runs l)).length ≤ l.length + 1
    cases h : runs l with
    | nil => simp [put1]
    | cons p r =>
      rw [h] at ih
      obtain ⟨d, k⟩ := p
      simp only [put1]
      split
      · simp only [List.length_cons] at *; omega
      · simp only [List.length_cons] at *; omega
abbrev runC (p : UInt8 × Nat) : List SV := [U p.1, .i p.2]
abbrev runD (p : UInt8 × Nat) : List DV := [.v (.int .u8 (p.1.toNat : Int)), .v (.int .i64 (p.2 : Int))]
theorem run_el {a b : Int} {c : UInt8} {k : Nat} (h1 : a = (c.toNat : Int)) (h2 : b = (k : Int)) : [SV.d (.v (.int .u8 a)), SV.d (.v (.int .i64 b))] = runC (c, k) := by subst h1 h2; rfl
abbrev runsV (rs : List (UInt8 × Nat)) : SV := .d (.sl 2 (rs.map runD))
theorem run_ids (rs : List (UInt8 × Nat)) (m : Nat) : ∀ e ∈ rs.map runC, SV.idsLt.go m e = true := by
  intro e he
  obtain ⟨b, _, rfl⟩ := List.mem_map.1 he
  rfl
theorem run_cells (rs : List (UInt8 × Nat)) : rs.map runC = (rs.map runD).map (·.map SV.d) := by
  rw [List.map_map]
  rfl

set_option maxRecDepth 100000 in
set_option maxHeartbeats 1000000 in
theorem runs_bad (l : List UInt8) (hw : wellB l = false) : Eff Tryd.prog 21 [.s (strL l)] [] 0 (fun r _ _ => r = .tup [.d .nil, .i 1]) := by
  have c1 := right_eff l
  rw [hw] at c1
  refine eff_of Tryd.func21 rfl rfl rfl fun cx e hP => ?_
  refine AWP.runL e tab_ok L21 300 rfl (by first | trivial | (simp [in64] <;> omega) | (simp only [in64, true_and, and_true]; omega)) ?_
  repeat (
    first
      | (refine AWP.askT rfl ?_; (first | (refine Told.t rfl ?_) | (refine Told.f rfl ?_) | (refine Told.t ?_ ?_; (focus assumption)) | (refine Told.f ?_ ?_; (focus assumption)) | (refine Told.t ?_ ?_; (focus (first | (simp; omega) | (simp [*]; done)); done)) | (refine Told.f ?_ ?_; (focus (first | (simp; omega) | (simp [*]; done)); done))); refine AWP.runL e tab_ok L21 300 rfl (by first | trivial | (simp [in64] <;> omega) | (simp only [in64, true_and, and_true]; omega)) ?_)
      | (refine AWP.callQ e rfl rfl ?_; (first | refine CallQ.mk (c1) rfl rfl ?_); refine AWP.runL e tab_ok L21 300 rfl (by first | trivial | (simp [in64] <;> omega) | (simp only [in64, true_and, and_true]; omega)) ?_)
      | (refine AWP.eq_agg e tab_ok rfl rfl rfl (.inl ⟨rfl, rfl⟩) ?_ 5 (by omega) rfl ?_ rfl rfl rfl rfl rfl rfl rfl ?_; (focus kernel_rfl); (focus kernel_rfl); refine AWP.runL e tab_ok L21 300 rfl (by first | trivial | (simp [in64] <;> omega) | (simp only [in64, true_and, and_true]; omega)) ?_)
      | (refine AWP.eq_agg e tab_ok rfl rfl rfl (.inr ⟨rfl, rfl⟩) ?_ 5 (by omega) rfl ?_ rfl rfl rfl rfl rfl rfl rfl ?_; (focus kernel_rfl); (focus kernel_rfl); refine AWP.runL e tab_ok L21 300 rfl (by first | trivial | (simp [in64] <;> omega) | (simp only [in64, true_and, and_true]; omega)) ?_)
    )
  refine AWP.ret e tab_ok rfl ?_
  rw [hP]
  all_goals first | rfl | (simp [strip]; done)
set_option maxRecDepth 100000 in
set_option maxHeartbeats 1000000 in
theorem runs_ok (l : List UInt8) (hw : wellB l = true) : Eff Tryd.prog 21 [.s (strL l)] [] 0 (fun r _ _ => r = .tup [runsV (runs l), .i 0]) := by
  have c1 := right_eff l
  rw [hw] at c1
  have hl : l.length ≤ 4000 := by unfold wellB at hw; simp only [Bool.and_eq_true, decide_eq_true_eq] at hw; exact hw.1
  have hbits : ∀ b ∈ l, bit b = true := by unfold wellB at hw; simp only [Bool.and_eq_true] at hw; exact List.all_eq_true.1 hw.2
  refine eff_of Tryd.func21 rfl rfl rfl fun cx e hP => ?_
  refine AWP.runL e tab_ok L21 300 rfl (by first | trivial | (simp [in64] <;> omega) | (simp only [in64, true_and, and_true]; omega)) ?_
  repeat (
    first
      | (refine AWP.askT rfl ?_; (first | (refine Told.t rfl ?_) | (refine Told.f rfl ?_) | (refine Told.t ?_ ?_; (focus assumption)) | (refine Told.f ?_ ?_; (focus assumption)) | (refine Told.t ?_ ?_; (focus (first | (simp; omega) | (simp [*]; done)); done)) | (refine Told.f ?_ ?_; (focus (first | (simp; omega) | (simp [*]; done)); done))); refine AWP.runL e tab_ok L21 300 rfl (by first | trivial | (simp [in64] <;> omega) | (simp only [in64, true_and, and_true]; omega)) ?_)
      | (refine AWP.callQ e rfl rfl ?_; (first | refine CallQ.mk (c1) rfl rfl ?_); refine AWP.runL e tab_ok L21 300 rfl (by first | trivial | (simp [in64] <;> omega) | (simp only [in64, true_and, and_true]; omega)) ?_)
      | (refine AWP.eq_agg e tab_ok rfl rfl rfl (.inl ⟨rfl, rfl⟩) ?_ 5 (by omega) rfl ?_ rfl rfl rfl rfl rfl rfl rfl ?_; (focus kernel_rfl); (focus kernel_rfl); refine AWP.runL e tab_ok L21 300 rfl (by first | trivial | (simp [in64] <;> omega) | (simp only [in64, true_and, and_true]; omega)) ?_)
      | (refine AWP.eq_agg e tab_ok rfl rfl rfl (.inr ⟨rfl, rfl⟩) ?_ 5 (by omega) rfl ?_ rfl rfl rfl rfl rfl rfl rfl ?_; (focus kernel_rfl); (focus kernel_rfl); refine AWP.runL e tab_ok L21 300 rfl (by first | trivial | (simp [in64] <;> omega) | (simp only [in64, true_and, and_true]; omega)) ?_)
    )
  refine AWP.nil_own (t := 4) rfl 52 2 ?_
  refine AWP.loop (ι := (List (UInt8 × Nat) × List UInt8) × Nat) (fun x => ⟨[(0, .s (strL x.1.2)), (4, .own 0 2 0 x.1.1.length x.2)], [(0, .row 52 false 2 (x.1.1.map runC) x.2)], 1⟩) (fun x => x.1.1 ++ runs x.1.2 = runs l ∧ x.1.2.length ≤ 4000 ∧ (∀ b ∈ x.1.2, bit b = true) ∧ x.1.1.length + x.1.2.length ≤ 4000) (fun x => x.1.2.length) (([], l), 0) ⟨rfl, hl, hbits, by simpa using hl⟩ ?_ ?_
  · intro g
    refine AWP.less e ?_ ?_ ?_ ?_ ?_ (g) <;> (repeat' (first | exact True.intro | (refine And.intro ?_ ?_) | rfl | assumption))
    exact run_ids _ 1
  rintro ⟨⟨done, cur⟩, C⟩ Φ ⟨h1, h2, h3, h4⟩ next
  dsimp only at h1 h2 h3 h4 next ⊢
  cases cur with
  | nil =>
    have g0 : (!((strL []).toList == (ByteArray.mk #[]).toList)) = false := by rw [str_ne]; rfl
    rw [show runs l = done by rw [← h1]; simp [runs]] at hP
    refine AWP.runL e tab_ok L21 300 rfl (by first | trivial | (simp [in64] <;> omega) | (simp only [in64, true_and, and_true]; omega)) ?_
    repeat (
      first
        | (refine AWP.askT rfl ?_; (first | (refine Told.t rfl ?_) | (refine Told.f rfl ?_) | (refine Told.t ?_ ?_; (focus assumption)) | (refine Told.f ?_ ?_; (focus assumption)) | (refine Told.t ?_ ?_; (focus (first | (simp; omega) | (simp [*]; done)); done)) | (refine Told.f ?_ ?_; (focus (first | (simp; omega) | (simp [*]; done)); done))); refine AWP.runL e tab_ok L21 300 rfl (by first | trivial | (simp [in64] <;> omega) | (simp only [in64, true_and, and_true]; omega)) ?_)
        | (refine AWP.eq_agg e tab_ok rfl rfl rfl (.inl ⟨rfl, rfl⟩) ?_ 5 (by omega) rfl ?_ rfl rfl rfl rfl rfl rfl rfl ?_; (focus kernel_rfl); (focus kernel_rfl); refine AWP.runL e tab_ok L21 300 rfl (by first | trivial | (simp [in64] <;> omega) | (simp only [in64, true_and, and_true]; omega)) ?_)
        | (refine AWP.eq_agg e tab_ok rfl rfl rfl (.inr ⟨rfl, rfl⟩) ?_ 5 (by omega) rfl ?_ rfl rfl rfl rfl rfl rfl rfl ?_; (focus kernel_rfl); (focus kernel_rfl); refine AWP.runL e tab_ok L21 300 rfl (by first | trivial | (simp [in64] <;> omega) | (simp only [in64, true_and, and_true]; omega)) ?_)
      )
    refine AWP.freezeO (id := 0) ((done.map runD)) rfl ?_ rfl rfl ?_ ?_ ?_
    (focus (exact run_cells done))
    (focus (simp [lenDT, lenD]; done))
    (focus (simp [lenDH]; done))
    refine AWP.eqT 2 (runsV done) rfl (by show SV.d (.sl 2 (((done.map runD).drop 0).take done.length)) = runsV done; rw [List.drop_zero, List.take_of_length_le (by simp)]) ?_
    refine AWP.ret e tab_ok rfl ?_
    rw [hP]
    all_goals first | rfl | (simp [strip]; done)
  | cons c cur =>
    have g0 : (!((strL (c :: cur)).toList == (ByteArray.mk #[]).toList)) = true := by rw [str_ne]; rfl
    have hsz : (strL (c :: cur)).size = cur.length + 1 := by rw [strL_size]; rfl
    have hc : bit c = true := h3 c (by simp)
    have c2 := trim1_eff (c :: cur) c (by rcases bit_or hc with e | e <;> rw [e] <;> decide)
    have hdw : (c :: cur).dropWhile (· == c) = cur.dropWhile (· == c) := by simp
    rw [hdw] at c2
    have hle := (List.dropWhile_suffix (l := cur) (· == c)).length_le
    have hsub : ∀ b ∈ cur.dropWhile (· == c), bit b = true := fun b hb => h3 b (by simp [(List.dropWhile_suffix (l := cur) (· == c)).subset hb])
    rw [runs_cons, List.length_cons] at h1
    have hcut : (strL (c :: cur)).extract 0 1 = strL [c] := str_take _ 1 (by simp)
    have hhd := b_hd c cur
    rw [List.length_cons] at h2 h4 next
    generalize cur.dropWhile (· == c) = rs at *
    have hrz : (strL rs).size = rs.length := strL_size rs
    have hrz0 : (strL rs).size ≤ 4000 := by omega
    refine AWP.runL e tab_ok L21 300 rfl (by first | trivial | (simp [in64] <;> omega) | (simp only [in64, true_and, and_true]; omega)) ?_
    repeat (
      first
        | (refine AWP.askT rfl ?_; (first | (refine Told.t rfl ?_) | (refine Told.f rfl ?_) | (refine Told.t ?_ ?_; (focus assumption)) | (refine Told.f ?_ ?_; (focus assumption)) | (refine Told.t ?_ ?_; (focus (first | (simp; omega) | (simp [*]; done)); done)) | (refine Told.f ?_ ?_; (focus (first | (simp; omega) | (simp [*]; done)); done))); refine AWP.runL e tab_ok L21 300 rfl (by first | trivial | (simp [] <;> omega) | (simp only [in64, true_and, and_true]; omega)) ?_)
        | (refine AWP.eq_agg e tab_ok rfl rfl rfl (.inl ⟨rfl, rfl⟩) ?_ 5 (by omega) rfl ?_ rfl rfl rfl rfl rfl rfl rfl ?_; (focus kernel_rfl); (focus kernel_rfl); refine AWP.runL e tab_ok L21 300 rfl (by first | trivial | (simp [in64] <;> omega) | (simp only [in64, true_and, and_true]; omega)) ?_)
        | (refine AWP.eq_agg e tab_ok rfl rfl rfl (.inr ⟨rfl, rfl⟩) ?_ 5 (by omega) rfl ?_ rfl rfl rfl rfl rfl rfl rfl ?_; (focus kernel_rfl); (focus kernel_rfl); refine AWP.runL e tab_ok L21 300 rfl (by first | trivial | (simp [in64] <;> omega) | (simp only [in64, true_and, and_true]; omega)) ?_)
      )
    refine AWP.eqT 13 (.s (strL [c])) rfl (congrArg SV.s hcut) ?_
    repeat (
      first
        | (refine AWP.askT rfl ?_; (first | (refine Told.t rfl ?_) | (refine Told.f rfl ?_) | (refine Told.t ?_ ?_; (focus assumption)) | (refine Told.f ?_ ?_; (focus assumption)) | (refine Told.t ?_ ?_; (focus (first | (simp; omega) | (simp [*]; done)); done)) | (refine Told.f ?_ ?_; (focus (first | (simp; omega) | (simp [*]; done)); done))); refine AWP.runL e tab_ok L21 300 rfl (by first | trivial | (simp [in64] <;> omega) | (simp only [in64, true_and, and_true]; omega)) ?_)
        | (refine AWP.callQ e rfl rfl ?_; (first | refine CallQ.mk (c2) rfl rfl ?_); refine AWP.runL e tab_ok L21 300 rfl (by first | trivial | (simp [in64] <;> omega) | (simp only [in64, true_and, and_true]; omega)) ?_)
        | (refine AWP.eq_agg e tab_ok rfl rfl rfl (.inl ⟨rfl, rfl⟩) ?_ 5 (by omega) rfl ?_ rfl rfl rfl rfl rfl rfl rfl ?_; (focus kernel_rfl); (focus kernel_rfl); refine AWP.runL e tab_ok L21 300 rfl (by first | trivial | (simp [in64] <;> omega) | (simp only [in64, true_and, and_true]; omega)) ?_)
        | (refine AWP.eq_agg e tab_ok rfl rfl rfl (.inr ⟨rfl, rfl⟩) ?_ 5 (by omega) rfl ?_ rfl rfl rfl rfl rfl rfl rfl ?_; (focus kernel_rfl); (focus kernel_rfl); refine AWP.runL e tab_ok L21 300 rfl (by first | trivial | (simp [in64] <;> omega) | (simp only [in64, true_and, and_true]; omega)) ?_)
      )
    refine AWP.append1 runC done (c, cur.length + 1 - rs.length) e tab_ok rfl rfl rfl rfl rfl rfl rfl rfl rfl rfl rfl rfl ?_ rfl (by show (done.length + 1) * 16 ≤ _; omega) (by omega) fun C2 => ?_
    · exact run_el hhd (by rw [hsz, hrz]; omega)
    have nx := next ((done ++ [(c, cur.length + 1 - rs.length)], rs), C2) ⟨by rw [← h1]; simp, by show rs.length ≤ 4000; omega, hsub, by simp; omega⟩ (by show rs.length < cur.length + 1; omega)
    dsimp only at nx
    clear next
    refine AWP.runL e tab_ok L21 300 rfl (by first | trivial | (simp [in64] <;> omega) | (simp only [in64, true_and, and_true]; omega)) ?_
    refine AWP.lessR e [(0, 2)] ?_ ?_ ?_ ?_ ?_ ?_ (nx) <;> (repeat' (first | exact True.intro | (refine And.intro ?_ ?_) | rfl | assumption))
    exact run_ids _ 0

end Go.Proofs.YtclmbbcchgfedaaDoor
