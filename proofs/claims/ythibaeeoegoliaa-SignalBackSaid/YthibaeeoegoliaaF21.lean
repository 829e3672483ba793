import Derived.Test.YthibaeeoegoliaaF20
open Go Go.Proofs Go.RowKit Go.Sy Go.Signal
namespace Go.Proofs.Ythibaeeoegoliaa

theorem valS_nil (s : Sig) : valS s [] = 0 := by unfold valS; split <;> rfl
theorem valS_one (s : Sig) (b : Bool) : valS s [b] = if s.sgn then -bI b else bI b := by
  unfold valS
  cases s.sgn <;> cases b <;> rfl
theorem valS_cons (s : Sig) (b : Bool) {l : List Bool} (h : l ≠ []) : valS s (b :: l) = 2 * valS s l + bI b := by
  obtain ⟨c, m, rfl⟩ : ∃ c m, l = c :: m := by
    cases l with
    | nil => exact absurd rfl h
    | cons c m => exact ⟨c, m, rfl⟩
  unfold valS
  split
  · show (if b then (1 : Int) else 0) + 2 * sgnL (c :: m) = _
    cases b <;> simp [bI] <;> omega
  · show (if b then (1 : Int) else 0) + 2 * numL (c :: m) = _
    cases b <;> simp [bI] <;> omega
theorem valS_in (s : Sig) (l : List Bool) (h : l.length ≤ 63) (h2 : s.sgn = true ∨ l.length ≤ 62) : -4611686018427387904 ≤ valS s l ∧ valS s l < 4611686018427387904 := by
  unfold valS
  split
  · cases l with
    | nil => decide
    | cons b m =>
      have h1 := sgnL_in m b
      have h3 : 2 ^ m.length ≤ 2 ^ 62 := Nat.pow_le_pow_right (by decide) (by simp at h; omega)
      rw [show (2 ^ 62 : Nat) = 4611686018427387904 from by decide] at h3
      omega
  · rename_i hs
    have h1 := numL_ge l
    have h4 := numL_lt l
    have h3 : 2 ^ l.length ≤ 2 ^ 62 := Nat.pow_le_pow_right (by decide) (by rcases h2 with h2 | h2; exact absurd h2 hs; exact h2)
    rw [show (2 ^ 62 : Nat) = 4611686018427387904 from by decide] at h3
    omega
theorem drop_at {α : Type} (l : List α) {r : Nat} (h : r < l.length) : l.drop r = l[r] :: l.drop (r + 1) := List.drop_eq_getElem_cons h
set_option maxRecDepth 100000 in
set_option maxHeartbeats 4000000 in
theorem refGet_eff (d : List UInt8) (s : Sig) {l : List Nat} (h : places s = some l) (hd : d.length ≤ 1000) (hlt : ∀ x ∈ l, x < 8 * d.length) :
    Eff Try.prog 20 [.s (strL d), .agg (sC s)] [] 0 (fun r _ _ => r = .i (valS s (l.map (bitAt d)))) := by
  have c1 := refplaces_eff s
  rw [plR_some h] at c1
  have hl := places_len h
  have hn : (rowI (intsN l)).length = l.length := by simp
  have h63 : s.sgn = true ∨ l.length ≤ 63 := by
    have hg := good_of h
    unfold bad at hg
    simp only [Bool.or_eq_false_iff] at hg
    have h5 := hg.2
    cases hs : s.sgn
    · rw [hs] at h5
      simp at h5
      right; omega
    · exact .inl rfl
  refine eff_of Try.func20 rfl rfl rfl fun cx e hP => ?_
  refine AWP.runL e tab_ok L20 300 rfl (by first | trivial | (simp [in64] <;> omega) | (simp only [in64, true_and, and_true]; omega)) ?_
  repeat (
    first
      | (refine AWP.askT rfl ?_; (first | (refine Told.t rfl ?_) | (refine Told.f rfl ?_) | (refine Told.t ?_ ?_; (focus assumption)) | (refine Told.f ?_ ?_; (focus assumption)) | (refine Told.t ?_ ?_; (focus (first | (simp; omega) | (simp [*]; done)); done)) | (refine Told.f ?_ ?_; (focus (first | (simp; omega) | (simp [*]; done)); done))); refine AWP.runL e tab_ok L20 300 rfl (by first | trivial | (simp [in64] <;> omega) | (simp only [in64, true_and, and_true]; omega)) ?_)
      | (refine AWP.callQ e rfl rfl ?_; (first | refine CallQ.mk (c1) rfl rfl ?_); refine AWP.runL e tab_ok L20 300 rfl (by first | trivial | (simp [in64] <;> omega) | (simp only [in64, true_and, and_true]; omega)) ?_)
      | (refine AWP.eq_agg e tab_ok rfl rfl rfl (.inl ⟨rfl, rfl⟩) ?_ 5 (by omega) rfl ?_ rfl rfl rfl rfl rfl rfl rfl ?_; (focus kernel_rfl); (focus kernel_rfl); refine AWP.runL e tab_ok L20 300 rfl (by first | trivial | (simp [in64] <;> omega) | (simp only [in64, true_and, and_true]; omega)) ?_)
      | (refine AWP.eq_agg e tab_ok rfl rfl rfl (.inr ⟨rfl, rfl⟩) ?_ 5 (by omega) rfl ?_ rfl rfl rfl rfl rfl rfl rfl ?_; (focus kernel_rfl); (focus kernel_rfl); refine AWP.runL e tab_ok L20 300 rfl (by first | trivial | (simp [in64] <;> omega) | (simp only [in64, true_and, and_true]; omega)) ?_)
    )
  refine AWP.eqT 7 (.i ((l.length : Int) - 1)) rfl (congrArg SV.i (by omega)) ?_
  refine AWP.loop (ι := Nat) (fun r => ⟨[(7, .i ((r : Int) - 1)), (6, .i (valS s ((l.drop r).map (bitAt d)))), (5, slI (intsN l)), (0, .s (strL d)), (3, .ptr 0 0)], [(0, .box (sC s))], 1⟩) (fun r => r ≤ l.length) (fun r => r) l.length (Nat.le_refl _) ?_ ?_
  · intro g
    rw [List.drop_length, List.map_nil, valS_nil] at g
    refine AWP.less e ?_ ?_ ?_ ?_ ?_ (g) <;> (repeat' (first | exact True.intro | (refine And.intro ?_ ?_) | rfl | assumption))
  intro r Φ hr next
  refine AWP.runL e tab_ok L20 300 rfl (by first | trivial | (simp [in64] <;> omega) | (simp only [in64, true_and, and_true]; omega)) ?_
  refine AWP.cond2 rfl (fun hil => ?_) (fun hil => ?_)
  · obtain ⟨i, rfl⟩ : ∃ i, r = i + 1 := ⟨r - 1, by have := of_decide_eq_true hil; omega⟩
    have hr : i + 1 ≤ l.length := hr
    have hel := intsN_at (show i < l.length by omega)
    have nx := next i (by omega) (by omega)
    have hx := hlt _ (List.getElem_mem (show i < l.length by omega))
    have c2 := Bit_eff d l[i] hd hx
    rw [drop_at l (show i < l.length by omega), List.map_cons] at nx
    clear next
    generalize bitAt d l[i] = b at *
    generalize l[i] = x at *
    have hi1 : ((i + 1 : Nat) : Int) - 1 = (i : Int) := by omega
    refine AWP.eqT 7 (.i (i : Int)) rfl (congrArg SV.i hi1) ?_
    have hb : 0 ≤ bI b ∧ bI b ≤ 1 := by cases b <;> decide
    by_cases hlast : i + 1 = l.length
    · rw [show l.drop (i + 1) = [] from List.drop_eq_nil_of_le (by omega), List.map_nil] at nx ⊢
      rw [valS_one] at nx
      have ht : ((i : Int) == ((rowI (intsN l)).length : Int) - 1) = true := by rw [hn]; simp; omega
      refine AWP.eqT 6 (.i 0) rfl (congrArg SV.i (valS_nil s)) ?_
      rcases cases_b s.sgn with q | q
      · rw [if_pos q] at nx
        cases b
        · refine AWP.runL e tab_ok L20 300 rfl (by first | trivial | (simp [in64] <;> omega) | (simp only [in64, true_and, and_true]; omega)) ?_
          refine AWP.idx e tab_ok rfl rfl rfl rfl i rfl hel ?_
          refine AWP.runL e tab_ok L20 300 rfl (by first | trivial | (simp [in64] <;> omega) | (simp only [in64, true_and, and_true]; omega)) ?_
          repeat (
            first
              | (refine AWP.askT rfl ?_; (first | (refine Told.t rfl ?_) | (refine Told.f rfl ?_) | (refine Told.t ?_ ?_; (focus assumption)) | (refine Told.f ?_ ?_; (focus assumption)) | (refine Told.t ?_ ?_; (focus (first | (simp; omega) | (simp [*]; done)); done)) | (refine Told.f ?_ ?_; (focus (first | (simp; omega) | (simp [*]; done)); done))); refine AWP.runL e tab_ok L20 300 rfl (by first | trivial | (simp [in64] <;> omega) | (simp only [in64, true_and, and_true]; omega)) ?_)
              | (refine AWP.callQ e rfl rfl ?_; (first | refine CallQ.mk (c2) rfl rfl ?_); refine AWP.runL e tab_ok L20 300 rfl (by first | trivial | (simp [in64] <;> omega) | (simp only [in64, true_and, and_true]; omega)) ?_)
              | (refine AWP.eq_agg e tab_ok rfl rfl rfl (.inl ⟨rfl, rfl⟩) ?_ 5 (by omega) rfl ?_ rfl rfl rfl rfl rfl rfl rfl ?_; (focus kernel_rfl); (focus kernel_rfl); refine AWP.runL e tab_ok L20 300 rfl (by first | trivial | (simp [in64] <;> omega) | (simp only [in64, true_and, and_true]; omega)) ?_)
              | (refine AWP.eq_agg e tab_ok rfl rfl rfl (.inr ⟨rfl, rfl⟩) ?_ 5 (by omega) rfl ?_ rfl rfl rfl rfl rfl rfl rfl ?_; (focus kernel_rfl); (focus kernel_rfl); refine AWP.runL e tab_ok L20 300 rfl (by first | trivial | (simp [in64] <;> omega) | (simp only [in64, true_and, and_true]; omega)) ?_)
            )
          refine AWP.eqT 6 (.i (-bI false)) rfl rfl ?_
          refine AWP.less e ?_ ?_ ?_ ?_ ?_ (nx) <;> (repeat' (first | exact True.intro | (refine And.intro ?_ ?_) | rfl | assumption))
        · refine AWP.runL e tab_ok L20 300 rfl (by first | trivial | (simp [in64] <;> omega) | (simp only [in64, true_and, and_true]; omega)) ?_
          refine AWP.idx e tab_ok rfl rfl rfl rfl i rfl hel ?_
          refine AWP.runL e tab_ok L20 300 rfl (by first | trivial | (simp [in64] <;> omega) | (simp only [in64, true_and, and_true]; omega)) ?_
          repeat (
            first
              | (refine AWP.askT rfl ?_; (first | (refine Told.t rfl ?_) | (refine Told.f rfl ?_) | (refine Told.t ?_ ?_; (focus assumption)) | (refine Told.f ?_ ?_; (focus assumption)) | (refine Told.t ?_ ?_; (focus (first | (simp; omega) | (simp [*]; done)); done)) | (refine Told.f ?_ ?_; (focus (first | (simp; omega) | (simp [*]; done)); done))); refine AWP.runL e tab_ok L20 300 rfl (by first | trivial | (simp [in64] <;> omega) | (simp only [in64, true_and, and_true]; omega)) ?_)
              | (refine AWP.callQ e rfl rfl ?_; (first | refine CallQ.mk (c2) rfl rfl ?_); refine AWP.runL e tab_ok L20 300 rfl (by first | trivial | (simp [in64] <;> omega) | (simp only [in64, true_and, and_true]; omega)) ?_)
              | (refine AWP.eq_agg e tab_ok rfl rfl rfl (.inl ⟨rfl, rfl⟩) ?_ 5 (by omega) rfl ?_ rfl rfl rfl rfl rfl rfl rfl ?_; (focus kernel_rfl); (focus kernel_rfl); refine AWP.runL e tab_ok L20 300 rfl (by first | trivial | (simp [in64] <;> omega) | (simp only [in64, true_and, and_true]; omega)) ?_)
              | (refine AWP.eq_agg e tab_ok rfl rfl rfl (.inr ⟨rfl, rfl⟩) ?_ 5 (by omega) rfl ?_ rfl rfl rfl rfl rfl rfl rfl ?_; (focus kernel_rfl); (focus kernel_rfl); refine AWP.runL e tab_ok L20 300 rfl (by first | trivial | (simp [in64] <;> omega) | (simp only [in64, true_and, and_true]; omega)) ?_)
            )
          refine AWP.eqT 6 (.i (-bI true)) rfl rfl ?_
          refine AWP.less e ?_ ?_ ?_ ?_ ?_ (nx) <;> (repeat' (first | exact True.intro | (refine And.intro ?_ ?_) | rfl | assumption))
      · rw [if_neg (by rw [q]; decide)] at nx
        refine AWP.runL e tab_ok L20 300 rfl (by first | trivial | (simp [in64] <;> omega) | (simp only [in64, true_and, and_true]; omega)) ?_
        refine AWP.idx e tab_ok rfl rfl rfl rfl i rfl hel ?_
        refine AWP.runL e tab_ok L20 300 rfl (by first | trivial | (simp [in64] <;> omega) | (simp only [in64, true_and, and_true]; omega)) ?_
        repeat (
          first
            | (refine AWP.askT rfl ?_; (first | (refine Told.t rfl ?_) | (refine Told.f rfl ?_) | (refine Told.t ?_ ?_; (focus assumption)) | (refine Told.f ?_ ?_; (focus assumption)) | (refine Told.t ?_ ?_; (focus (first | (simp; omega) | (simp [*]; done)); done)) | (refine Told.f ?_ ?_; (focus (first | (simp; omega) | (simp [*]; done)); done))); refine AWP.runL e tab_ok L20 300 rfl (by first | trivial | (simp [in64] <;> omega) | (simp only [in64, true_and, and_true]; omega)) ?_)
            | (refine AWP.callQ e rfl rfl ?_; (first | refine CallQ.mk (c2) rfl rfl ?_); refine AWP.runL e tab_ok L20 300 rfl (by first | trivial | (simp [in64] <;> omega) | (simp only [in64, true_and, and_true]; omega)) ?_)
            | (refine AWP.eq_agg e tab_ok rfl rfl rfl (.inl ⟨rfl, rfl⟩) ?_ 5 (by omega) rfl ?_ rfl rfl rfl rfl rfl rfl rfl ?_; (focus kernel_rfl); (focus kernel_rfl); refine AWP.runL e tab_ok L20 300 rfl (by first | trivial | (simp [in64] <;> omega) | (simp only [in64, true_and, and_true]; omega)) ?_)
            | (refine AWP.eq_agg e tab_ok rfl rfl rfl (.inr ⟨rfl, rfl⟩) ?_ 5 (by omega) rfl ?_ rfl rfl rfl rfl rfl rfl rfl ?_; (focus kernel_rfl); (focus kernel_rfl); refine AWP.runL e tab_ok L20 300 rfl (by first | trivial | (simp [in64] <;> omega) | (simp only [in64, true_and, and_true]; omega)) ?_)
          )
        refine AWP.eqT 6 (.i (bI b)) rfl (congrArg SV.i (by omega)) ?_
        refine AWP.less e ?_ ?_ ?_ ?_ ?_ (nx) <;> (repeat' (first | exact True.intro | (refine And.intro ?_ ?_) | rfl | assumption))
    · have hne : (l.drop (i + 1)).map (bitAt d) ≠ [] := by
        intro h0
        have := congrArg List.length h0
        simp at this
        omega
      have hv := valS_in s ((l.drop (i + 1)).map (bitAt d)) (by simp; omega) (by
        rcases h63 with h | h
        · exact .inl h
        · right; simp; omega)
      rw [valS_cons s b hne] at nx
      clear hne
      generalize valS s ((l.drop (i + 1)).map (bitAt d)) = n at *
      have ht : ((i : Int) == ((rowI (intsN l)).length : Int) - 1) = false := by rw [hn]; simp; omega
      refine AWP.runL e tab_ok L20 300 rfl (by first | trivial | (simp [in64] <;> omega) | (simp only [in64, true_and, and_true]; omega)) ?_
      refine AWP.idx e tab_ok rfl rfl rfl rfl i rfl hel ?_
      refine AWP.runL e tab_ok L20 300 rfl (by first | trivial | (simp [in64] <;> omega) | (simp only [in64, true_and, and_true]; omega)) ?_
      repeat (
        first
          | (refine AWP.askT rfl ?_; (first | (refine Told.t rfl ?_) | (refine Told.f rfl ?_) | (refine Told.t ?_ ?_; (focus assumption)) | (refine Told.f ?_ ?_; (focus assumption)) | (refine Told.t ?_ ?_; (focus (first | (simp; omega) | (simp [*]; done)); done)) | (refine Told.f ?_ ?_; (focus (first | (simp; omega) | (simp [*]; done)); done))); refine AWP.runL e tab_ok L20 300 rfl (by first | trivial | (simp [in64] <;> omega) | (simp only [in64, true_and, and_true]; omega)) ?_)
          | (refine AWP.callQ e rfl rfl ?_; (first | refine CallQ.mk (c2) rfl rfl ?_); refine AWP.runL e tab_ok L20 300 rfl (by first | trivial | (simp [in64] <;> omega) | (simp only [in64, true_and, and_true]; omega)) ?_)
          | (refine AWP.eq_agg e tab_ok rfl rfl rfl (.inl ⟨rfl, rfl⟩) ?_ 5 (by omega) rfl ?_ rfl rfl rfl rfl rfl rfl rfl ?_; (focus kernel_rfl); (focus kernel_rfl); refine AWP.runL e tab_ok L20 300 rfl (by first | trivial | (simp [in64] <;> omega) | (simp only [in64, true_and, and_true]; omega)) ?_)
          | (refine AWP.eq_agg e tab_ok rfl rfl rfl (.inr ⟨rfl, rfl⟩) ?_ 5 (by omega) rfl ?_ rfl rfl rfl rfl rfl rfl rfl ?_; (focus kernel_rfl); (focus kernel_rfl); refine AWP.runL e tab_ok L20 300 rfl (by first | trivial | (simp [in64] <;> omega) | (simp only [in64, true_and, and_true]; omega)) ?_)
        )
      refine AWP.less e ?_ ?_ ?_ ?_ ?_ (nx) <;> (repeat' (first | exact True.intro | (refine And.intro ?_ ?_) | rfl | assumption))
  · obtain rfl : r = 0 := by have := of_decide_eq_false hil; omega
    rw [List.drop_zero]
    refine AWP.runL e tab_ok L20 300 rfl (by first | trivial | (simp [in64] <;> omega) | (simp only [in64, true_and, and_true]; omega)) ?_
    refine AWP.ret e tab_ok rfl ?_
    rw [hP]
    all_goals first | rfl | (simp [strip]; done)
end Go.Proofs.Ythibaeeoegoliaa
