import Derived.Test.YthibaeeoegoliaaF3
open Go Go.Proofs Go.Sy Go.Signal
namespace Go.Proofs.Ythibaeeoegoliaa

abbrev sC (s : Sig) : List SV := [.i s.start, .i s.width, .b s.big, .b s.sgn]
abbrev intsN (l : List Nat) : List Int := l.map fun (a : Nat) => (a : Int)
/-- What a signal's places are, as a row. -/
def plR (s : Sig) : SV := match places s with
  | none => .d .nil
  | some l => slI (intsN l)
abbrev rowN (l : List Nat) : List (List SV) := (rowI (intsN l)).map (·.map SV.d)
def outL (big : Bool) (a n : Nat) : List Nat := if big then (ats big a n).reverse else ats big a n
theorem outL_succ (big : Bool) (a n : Nat) : outL big a (n + 1) = if big then iter big a n :: outL big a n else outL big a n ++ [iter big a n] := by
  unfold outL
  rw [ats_snoc]
  split
  · rw [List.reverse_append]; rfl
  · rfl
theorem outL_len (big : Bool) (a n : Nat) : (outL big a n).length = n := by
  unfold outL
  split
  · rw [List.length_reverse, ats_len]
  · rw [ats_len]
theorem iter_mem (big : Bool) (a : Nat) {i : Nat} : ∀ {n : Nat}, i < n → iter big a i ∈ ats big a n
  | 0, h => absurd h (Nat.not_lt_zero _)
  | n + 1, h => by
    rw [ats_snoc, List.mem_append, List.mem_singleton]
    by_cases e : i = n
    · subst e; exact .inr rfl
    · exact .inl (iter_mem big a (by omega))
theorem rowN_cells (l : List Nat) : ∀ e ∈ rowN l, allCells e = true := by
  intro e he
  simp only [rowN, rowI, intsN, List.map_map, List.mem_map] at he
  obtain ⟨v, _, rfl⟩ := he
  rfl
theorem rowN_len (l : List Nat) : (rowN l).length = l.length := by simp
set_option maxRecDepth 100000 in
set_option maxHeartbeats 2000000 in
theorem refplaces_ok (s : Sig) (hb : bad s = false) : Eff Try.prog 9 [.agg (sC s)] [] 0 (fun r _ _ => r = plR s) := by
  have hb0 := hb
  unfold bad at hb
  simp only [Bool.or_eq_false_iff, decide_eq_false_iff_not] at hb
  obtain ⟨⟨⟨⟨b1, b2⟩, b3⟩, b4⟩, b5⟩ := hb
  obtain ⟨a, ha⟩ : ∃ a : Nat, s.start = a := ⟨s.start.toNat, by omega⟩
  obtain ⟨w, hw⟩ : ∃ w : Nat, s.width = w := ⟨s.width.toNat, by omega⟩
  have b6 : (s.width == 64) = false ∨ s.sgn = true := by
    rcases cases_b (s.width == 64) with q | q
    · rw [q, Bool.true_and] at b5; right; simpa using b5
    · exact .inl q
  refine eff_of Try.func9 rfl rfl rfl fun cx e hP => ?_
  refine AWP.runL e tab_ok L9 300 rfl (by first | trivial | (simp [in64] <;> omega) | (simp only [in64, true_and, and_true]; omega)) ?_
  rcases cases_b (s.width == 64) with q | q
  · have q2 : s.sgn = true := by rcases b6 with h | h; (rw [q] at h; cases h); exact h
    repeat (
      first
        | (refine AWP.askT rfl ?_; (first | (refine Told.t rfl ?_) | (refine Told.f rfl ?_) | (refine Told.t ?_ ?_; (focus assumption)) | (refine Told.f ?_ ?_; (focus assumption)) | (refine Told.t ?_ ?_; (focus (first | (simp; omega) | (simp [*]; done)); done)) | (refine Told.f ?_ ?_; (focus (first | (simp; omega) | (simp [*]; done)); done))); refine AWP.runL e tab_ok L9 300 rfl (by first | trivial | (simp [in64] <;> omega) | (simp only [in64, true_and, and_true]; omega)) ?_)
        | (refine AWP.eq_agg e tab_ok rfl rfl rfl (.inl ⟨rfl, rfl⟩) ?_ 5 (by omega) rfl ?_ rfl rfl rfl rfl rfl rfl rfl ?_; (focus kernel_rfl); (focus kernel_rfl); refine AWP.runL e tab_ok L9 300 rfl (by first | trivial | (simp [in64] <;> omega) | (simp only [in64, true_and, and_true]; omega)) ?_)
        | (refine AWP.eq_agg e tab_ok rfl rfl rfl (.inr ⟨rfl, rfl⟩) ?_ 5 (by omega) rfl ?_ rfl rfl rfl rfl rfl rfl rfl ?_; (focus kernel_rfl); (focus kernel_rfl); refine AWP.runL e tab_ok L9 300 rfl (by first | trivial | (simp [in64] <;> omega) | (simp only [in64, true_and, and_true]; omega)) ?_)
      )
    refine AWP.loop (ι := Nat × Nat) (fun y => ⟨[(5, .i y.1), (4, .i (iter s.big a y.1)), (3, .own 1 1 0 y.1 y.2), (2, .d .nil), (1, .ptr 0 0)], [(0, .box (sC s)), (1, .row 3 false 1 (rowN (outL s.big a y.1)) y.2)], 2⟩) (fun y => y.1 ≤ w ∧ (ats s.big a y.1).any (fun z => decide (64 ≤ z)) = false) (fun y => w - y.1) (0, 0) ⟨Nat.zero_le _, rfl⟩ ?_ ?_
    · intro g
      refine AWP.lessR e [] ?_ ?_ ?_ ?_ ?_ ?_ g
      · exact ⟨rfl, congrArg (fun z => some (SV.i z)) ha, rfl, rfl, rfl, trivial⟩
      · refine ⟨rfl, ?_, trivial⟩
        cases s.big <;> rfl
      · rfl
      · exact ⟨rfl, rfl, rfl, okRow _, trivial⟩
      · rfl
      · rfl
    rintro ⟨i, C⟩ Φ ⟨hi, hn⟩ next
    dsimp only at hi hn next ⊢
    have hil := iter_le s.big a i
    have hw64 : w ≤ 64 := by omega
    refine AWP.runL e tab_ok L9 300 rfl (by first | trivial | (simp [in64] <;> omega) | (simp only [in64, true_and, and_true]; omega)) ?_
    refine AWP.cond2 rfl (fun hlt => ?_) (fun hlt => ?_)
    · have hlt : i < w := by have := of_decide_eq_true hlt; omega
      by_cases h64 : 64 ≤ iter s.big a i
      · have hR : plR s = .d .nil := by
          unfold plR places
          rw [if_neg (by rw [hb0]; decide), if_pos ?_]
          rw [List.any_eq_true]
          refine ⟨iter s.big a i, ?_, by simpa using h64⟩
          rw [show s.start.toNat = a by omega, show s.width.toNat = w by omega]
          exact iter_mem s.big a hlt
        rw [hR] at hP
        refine AWP.runL e tab_ok L9 300 rfl (by first | trivial | (simp [in64] <;> omega) | (simp only [in64, true_and, and_true]; omega)) ?_
        repeat (
          first
            | (refine AWP.askT rfl ?_; (first | (refine Told.t rfl ?_) | (refine Told.f rfl ?_) | (refine Told.t ?_ ?_; (focus assumption)) | (refine Told.f ?_ ?_; (focus assumption)) | (refine Told.t ?_ ?_; (focus (first | (simp; omega) | (simp [*]; done)); done)) | (refine Told.f ?_ ?_; (focus (first | (simp; omega) | (simp [*]; done)); done))); refine AWP.runL e tab_ok L9 300 rfl (by first | trivial | (simp [in64] <;> omega) | (simp only [in64, true_and, and_true]; omega)) ?_)
            | (refine AWP.eq_agg e tab_ok rfl rfl rfl (.inl ⟨rfl, rfl⟩) ?_ 5 (by omega) rfl ?_ rfl rfl rfl rfl rfl rfl rfl ?_; (focus kernel_rfl); (focus kernel_rfl); refine AWP.runL e tab_ok L9 300 rfl (by first | trivial | (simp [in64] <;> omega) | (simp only [in64, true_and, and_true]; omega)) ?_)
            | (refine AWP.eq_agg e tab_ok rfl rfl rfl (.inr ⟨rfl, rfl⟩) ?_ 5 (by omega) rfl ?_ rfl rfl rfl rfl rfl rfl rfl ?_; (focus kernel_rfl); (focus kernel_rfl); refine AWP.runL e tab_ok L9 300 rfl (by first | trivial | (simp [in64] <;> omega) | (simp only [in64, true_and, and_true]; omega)) ?_)
          )
        refine AWP.ret e tab_ok rfl ?_
        rw [hP]
        all_goals first | rfl | (simp [strip]; done)
      · have hn2 : (ats s.big a (i + 1)).any (fun z => decide (64 ≤ z)) = false := by
          rw [ats_snoc, List.any_append, hn]; simp; omega
        have nx := fun C' => next (i + 1, C') ⟨hlt, hn2⟩ (by show w - (i + 1) < w - i; omega)
        dsimp only at nx
        rw [outL_succ] at nx
        clear next
        rcases cases_b s.big with qb | qb
        · rw [if_pos qb] at nx
          have hit : iter s.big a (i + 1) = if iter s.big a i % 8 = 0 then iter s.big a i + 15 else iter s.big a i - 1 := by show nxt s.big _ = _; unfold nxt; rw [if_pos qb]
          rw [hit] at nx
          have hlen := outL_len s.big a i
          refine AWP.runL e tab_ok L9 300 rfl (by first | trivial | (simp [in64] <;> omega) | (simp only [in64, true_and, and_true]; omega)) ?_
          repeat (
            first
              | (refine AWP.askT rfl ?_; (first | (refine Told.t rfl ?_) | (refine Told.f rfl ?_) | (refine Told.t ?_ ?_; (focus assumption)) | (refine Told.f ?_ ?_; (focus assumption)) | (refine Told.t ?_ ?_; (focus (first | (simp; omega) | (simp [*]; done)); done)) | (refine Told.f ?_ ?_; (focus (first | (simp; omega) | (simp [*]; done)); done))); refine AWP.runL e tab_ok L9 300 rfl (by first | trivial | (simp [in64] <;> omega) | (simp only [in64, true_and, and_true]; omega)) ?_)
              | (refine AWP.eq_agg e tab_ok rfl rfl rfl (.inl ⟨rfl, rfl⟩) ?_ 5 (by omega) rfl ?_ rfl rfl rfl rfl rfl rfl rfl ?_; (focus kernel_rfl); (focus kernel_rfl); refine AWP.runL e tab_ok L9 300 rfl (by first | trivial | (simp [in64] <;> omega) | (simp only [in64, true_and, and_true]; omega)) ?_)
              | (refine AWP.eq_agg e tab_ok rfl rfl rfl (.inr ⟨rfl, rfl⟩) ?_ 5 (by omega) rfl ?_ rfl rfl rfl rfl rfl rfl rfl ?_; (focus kernel_rfl); (focus kernel_rfl); refine AWP.runL e tab_ok L9 300 rfl (by first | trivial | (simp [in64] <;> omega) | (simp only [in64, true_and, and_true]; omega)) ?_)
            )
          refine AWP.append e tab_ok rfl rfl rfl rfl rfl rfl rfl rfl (.own rfl (by rw [rowN_len, hlen])) rfl (rowN_cells _) (by rw [rowN_len, hlen]; show (1 + i) * 8 ≤ _; omega) (by rw [rowN_len, hlen]; omega) fun C3 hC3 => ?_
          rw [rowN_len, hlen] at hC3 ⊢
          have h8 : ((((iter s.big a i : Nat) : Int)).tmod 8 == 0) = decide (iter s.big a i % 8 = 0) := by
            rw [Int.tmod_eq_emod_of_nonneg (by omega), Bool.eq_iff_iff, beq_iff_eq, decide_eq_true_eq]; omega
          refine AWP.runL e tab_ok L9 300 rfl (by first | trivial | (simp [in64] <;> omega) | (simp only [in64, true_and, and_true]; omega)) ?_
          by_cases h80 : iter s.big a i % 8 = 0
          · rw [decide_eq_true h80] at h8
            rw [if_pos h80] at nx
            repeat (
              first
                | (refine AWP.askT rfl ?_; (first | (refine Told.t rfl ?_) | (refine Told.f rfl ?_) | (refine Told.t ?_ ?_; (focus assumption)) | (refine Told.f ?_ ?_; (focus assumption)) | (refine Told.t ?_ ?_; (focus (first | (simp; omega) | (simp [*]; done)); done)) | (refine Told.f ?_ ?_; (focus (first | (simp; omega) | (simp [*]; done)); done))); refine AWP.runL e tab_ok L9 300 rfl (by first | trivial | (simp [in64] <;> omega) | (simp only [in64, true_and, and_true]; omega)) ?_)
                | (refine AWP.eq_agg e tab_ok rfl rfl rfl (.inl ⟨rfl, rfl⟩) ?_ 5 (by omega) rfl ?_ rfl rfl rfl rfl rfl rfl rfl ?_; (focus kernel_rfl); (focus kernel_rfl); refine AWP.runL e tab_ok L9 300 rfl (by first | trivial | (simp [in64] <;> omega) | (simp only [in64, true_and, and_true]; omega)) ?_)
                | (refine AWP.eq_agg e tab_ok rfl rfl rfl (.inr ⟨rfl, rfl⟩) ?_ 5 (by omega) rfl ?_ rfl rfl rfl rfl rfl rfl rfl ?_; (focus kernel_rfl); (focus kernel_rfl); refine AWP.runL e tab_ok L9 300 rfl (by first | trivial | (simp [in64] <;> omega) | (simp only [in64, true_and, and_true]; omega)) ?_)
              )
            refine AWP.lessR e [(1, 3)] ?_ ?_ ?_ ?_ ?_ ?_ (nx C3)
            · refine ⟨rfl, ?_, ?_, rfl, rfl, trivial⟩
              · refine congrArg (fun z : Int => some (SV.i z)) ?_
                omega
              · refine congrArg (fun z : Nat => some (SV.own 3 1 0 z C3)) ?_
                omega
            · exact ⟨rfl, rfl, trivial⟩
            · rfl
            · exact ⟨rfl, rfl, rfl, okRow _, trivial⟩
            · rfl
            · rfl
          · rw [decide_eq_false h80] at h8
            rw [if_neg h80] at nx
            repeat (
              first
                | (refine AWP.askT rfl ?_; (first | (refine Told.t rfl ?_) | (refine Told.f rfl ?_) | (refine Told.t ?_ ?_; (focus assumption)) | (refine Told.f ?_ ?_; (focus assumption)) | (refine Told.t ?_ ?_; (focus (first | (simp; omega) | (simp [*]; done)); done)) | (refine Told.f ?_ ?_; (focus (first | (simp; omega) | (simp [*]; done)); done))); refine AWP.runL e tab_ok L9 300 rfl (by first | trivial | (simp [in64] <;> omega) | (simp only [in64, true_and, and_true]; omega)) ?_)
                | (refine AWP.eq_agg e tab_ok rfl rfl rfl (.inl ⟨rfl, rfl⟩) ?_ 5 (by omega) rfl ?_ rfl rfl rfl rfl rfl rfl rfl ?_; (focus kernel_rfl); (focus kernel_rfl); refine AWP.runL e tab_ok L9 300 rfl (by first | trivial | (simp [in64] <;> omega) | (simp only [in64, true_and, and_true]; omega)) ?_)
                | (refine AWP.eq_agg e tab_ok rfl rfl rfl (.inr ⟨rfl, rfl⟩) ?_ 5 (by omega) rfl ?_ rfl rfl rfl rfl rfl rfl rfl ?_; (focus kernel_rfl); (focus kernel_rfl); refine AWP.runL e tab_ok L9 300 rfl (by first | trivial | (simp [in64] <;> omega) | (simp only [in64, true_and, and_true]; omega)) ?_)
              )
            refine AWP.lessR e [(1, 3)] ?_ ?_ ?_ ?_ ?_ ?_ (nx C3)
            · refine ⟨rfl, ?_, ?_, rfl, rfl, trivial⟩
              · refine congrArg (fun z : Int => some (SV.i z)) ?_
                omega
              · refine congrArg (fun z : Nat => some (SV.own 3 1 0 z C3)) ?_
                omega
            · exact ⟨rfl, rfl, trivial⟩
            · rfl
            · exact ⟨rfl, rfl, rfl, okRow _, trivial⟩
            · rfl
            · rfl
        · rw [if_neg (by rw [qb]; decide)] at nx
          have hit : iter s.big a (i + 1) = iter s.big a i + 1 := by show nxt s.big _ = _; unfold nxt; rw [if_neg (by rw [qb]; decide)]
          rw [hit] at nx
          have hlen := outL_len s.big a i
          refine AWP.runL e tab_ok L9 300 rfl (by first | trivial | (simp [in64] <;> omega) | (simp only [in64, true_and, and_true]; omega)) ?_
          repeat (
            first
              | (refine AWP.askT rfl ?_; (first | (refine Told.t rfl ?_) | (refine Told.f rfl ?_) | (refine Told.t ?_ ?_; (focus assumption)) | (refine Told.f ?_ ?_; (focus assumption)) | (refine Told.t ?_ ?_; (focus (first | (simp; omega) | (simp [*]; done)); done)) | (refine Told.f ?_ ?_; (focus (first | (simp; omega) | (simp [*]; done)); done))); refine AWP.runL e tab_ok L9 300 rfl (by first | trivial | (simp [in64] <;> omega) | (simp only [in64, true_and, and_true]; omega)) ?_)
              | (refine AWP.eq_agg e tab_ok rfl rfl rfl (.inl ⟨rfl, rfl⟩) ?_ 5 (by omega) rfl ?_ rfl rfl rfl rfl rfl rfl rfl ?_; (focus kernel_rfl); (focus kernel_rfl); refine AWP.runL e tab_ok L9 300 rfl (by first | trivial | (simp [in64] <;> omega) | (simp only [in64, true_and, and_true]; omega)) ?_)
              | (refine AWP.eq_agg e tab_ok rfl rfl rfl (.inr ⟨rfl, rfl⟩) ?_ 5 (by omega) rfl ?_ rfl rfl rfl rfl rfl rfl rfl ?_; (focus kernel_rfl); (focus kernel_rfl); refine AWP.runL e tab_ok L9 300 rfl (by first | trivial | (simp [in64] <;> omega) | (simp only [in64, true_and, and_true]; omega)) ?_)
            )
          refine AWP.append e tab_ok rfl rfl rfl rfl rfl rfl rfl rfl (.own rfl (by simp)) (by rw [rowN_len, hlen]) (by simp [allCells, isCell]) (by simp; omega) (by simp; omega) fun C3 hC3 => ?_
          refine AWP.runL e tab_ok L9 300 rfl (by first | trivial | (simp [in64] <;> omega) | (simp only [in64, true_and, and_true]; omega)) ?_
          refine AWP.lessR e [(1, 3)] ?_ ?_ ?_ ?_ ?_ ?_ (nx C3)
          · exact ⟨rfl, rfl, rfl, rfl, rfl, trivial⟩
          · refine ⟨rfl, ?_, trivial⟩
            refine congrArg (fun z => some (Blk.row 3 false 1 z C3)) ?_
            simp [rowN, intsN]
          · rfl
          · exact ⟨rfl, rfl, rfl, okRow _, trivial⟩
          · rfl
          · rfl
    · have hlt : ¬ i < w := by have := of_decide_eq_false hlt; omega
      obtain rfl : i = w := by omega
      have hR : plR s = slI (intsN (outL s.big a i)) := by
        unfold plR places
        rw [if_neg (by rw [hb0]; decide)]
        rw [show s.start.toNat = a by omega, show s.width.toNat = i by omega, hn, if_neg (by decide)]
        rfl
      rw [hR] at hP
      refine AWP.eqT 3 (.own 1 1 0 (outL s.big a i).length C) rfl (by rw [outL_len]) ?_
      refine AWP.keep (41 :: L9) rfl ?_
      refine AWP.runL e tab_ok L9 300 rfl (by first | trivial | (simp [in64] <;> omega) | (simp only [in64, true_and, and_true]; omega)) ?_
      refine AWP.freezeF (id := 1) (rowI (intsN (outL s.big a i))) rfl ?_ rfl rfl ?_ ?_ ?_
      (focus (rfl))
      (focus (first | (simp [lenFT, lenF]; done) ))
      (focus (first | (simp [lenFH, lenF, lenF.go]; done) ))
      refine AWP.runL e tab_ok L9 300 rfl (by first | trivial | (simp [in64] <;> omega) | (simp only [in64, true_and, and_true]; omega)) ?_
      refine AWP.ret e tab_ok rfl ?_
      rw [hP]
      rfl
  · repeat (
      first
        | (refine AWP.askT rfl ?_; (first | (refine Told.t rfl ?_) | (refine Told.f rfl ?_) | (refine Told.t ?_ ?_; (focus assumption)) | (refine Told.f ?_ ?_; (focus assumption)) | (refine Told.t ?_ ?_; (focus (first | (simp; omega) | (simp [*]; done)); done)) | (refine Told.f ?_ ?_; (focus (first | (simp; omega) | (simp [*]; done)); done))); refine AWP.runL e tab_ok L9 300 rfl (by first | trivial | (simp [in64] <;> omega) | (simp only [in64, true_and, and_true]; omega)) ?_)
        | (refine AWP.eq_agg e tab_ok rfl rfl rfl (.inl ⟨rfl, rfl⟩) ?_ 5 (by omega) rfl ?_ rfl rfl rfl rfl rfl rfl rfl ?_; (focus kernel_rfl); (focus kernel_rfl); refine AWP.runL e tab_ok L9 300 rfl (by first | trivial | (simp [in64] <;> omega) | (simp only [in64, true_and, and_true]; omega)) ?_)
        | (refine AWP.eq_agg e tab_ok rfl rfl rfl (.inr ⟨rfl, rfl⟩) ?_ 5 (by omega) rfl ?_ rfl rfl rfl rfl rfl rfl rfl ?_; (focus kernel_rfl); (focus kernel_rfl); refine AWP.runL e tab_ok L9 300 rfl (by first | trivial | (simp [in64] <;> omega) | (simp only [in64, true_and, and_true]; omega)) ?_)
      )
    refine AWP.loop (ι := Nat × Nat) (fun y => ⟨[(5, .i y.1), (4, .i (iter s.big a y.1)), (3, .own 1 1 0 y.1 y.2), (2, .d .nil), (1, .ptr 0 0)], [(0, .box (sC s)), (1, .row 3 false 1 (rowN (outL s.big a y.1)) y.2)], 2⟩) (fun y => y.1 ≤ w ∧ (ats s.big a y.1).any (fun z => decide (64 ≤ z)) = false) (fun y => w - y.1) (0, 0) ⟨Nat.zero_le _, rfl⟩ ?_ ?_
    · intro g
      refine AWP.lessR e [] ?_ ?_ ?_ ?_ ?_ ?_ g
      · exact ⟨rfl, congrArg (fun z => some (SV.i z)) ha, rfl, rfl, rfl, trivial⟩
      · refine ⟨rfl, ?_, trivial⟩
        cases s.big <;> rfl
      · rfl
      · exact ⟨rfl, rfl, rfl, okRow _, trivial⟩
      · rfl
      · rfl
    rintro ⟨i, C⟩ Φ ⟨hi, hn⟩ next
    dsimp only at hi hn next ⊢
    have hil := iter_le s.big a i
    have hw64 : w ≤ 64 := by omega
    refine AWP.runL e tab_ok L9 300 rfl (by first | trivial | (simp [in64] <;> omega) | (simp only [in64, true_and, and_true]; omega)) ?_
    refine AWP.cond2 rfl (fun hlt => ?_) (fun hlt => ?_)
    · have hlt : i < w := by have := of_decide_eq_true hlt; omega
      by_cases h64 : 64 ≤ iter s.big a i
      · have hR : plR s = .d .nil := by
          unfold plR places
          rw [if_neg (by rw [hb0]; decide), if_pos ?_]
          rw [List.any_eq_true]
          refine ⟨iter s.big a i, ?_, by simpa using h64⟩
          rw [show s.start.toNat = a by omega, show s.width.toNat = w by omega]
          exact iter_mem s.big a hlt
        rw [hR] at hP
        refine AWP.runL e tab_ok L9 300 rfl (by first | trivial | (simp [in64] <;> omega) | (simp only [in64, true_and, and_true]; omega)) ?_
        repeat (
          first
            | (refine AWP.askT rfl ?_; (first | (refine Told.t rfl ?_) | (refine Told.f rfl ?_) | (refine Told.t ?_ ?_; (focus assumption)) | (refine Told.f ?_ ?_; (focus assumption)) | (refine Told.t ?_ ?_; (focus (first | (simp; omega) | (simp [*]; done)); done)) | (refine Told.f ?_ ?_; (focus (first | (simp; omega) | (simp [*]; done)); done))); refine AWP.runL e tab_ok L9 300 rfl (by first | trivial | (simp [in64] <;> omega) | (simp only [in64, true_and, and_true]; omega)) ?_)
            | (refine AWP.eq_agg e tab_ok rfl rfl rfl (.inl ⟨rfl, rfl⟩) ?_ 5 (by omega) rfl ?_ rfl rfl rfl rfl rfl rfl rfl ?_; (focus kernel_rfl); (focus kernel_rfl); refine AWP.runL e tab_ok L9 300 rfl (by first | trivial | (simp [in64] <;> omega) | (simp only [in64, true_and, and_true]; omega)) ?_)
            | (refine AWP.eq_agg e tab_ok rfl rfl rfl (.inr ⟨rfl, rfl⟩) ?_ 5 (by omega) rfl ?_ rfl rfl rfl rfl rfl rfl rfl ?_; (focus kernel_rfl); (focus kernel_rfl); refine AWP.runL e tab_ok L9 300 rfl (by first | trivial | (simp [in64] <;> omega) | (simp only [in64, true_and, and_true]; omega)) ?_)
          )
        refine AWP.ret e tab_ok rfl ?_
        rw [hP]
        all_goals first | rfl | (simp [strip]; done)
      · have hn2 : (ats s.big a (i + 1)).any (fun z => decide (64 ≤ z)) = false := by
          rw [ats_snoc, List.any_append, hn]; simp; omega
        have nx := fun C' => next (i + 1, C') ⟨hlt, hn2⟩ (by show w - (i + 1) < w - i; omega)
        dsimp only at nx
        rw [outL_succ] at nx
        clear next
        rcases cases_b s.big with qb | qb
        · rw [if_pos qb] at nx
          have hit : iter s.big a (i + 1) = if iter s.big a i % 8 = 0 then iter s.big a i + 15 else iter s.big a i - 1 := by show nxt s.big _ = _; unfold nxt; rw [if_pos qb]
          rw [hit] at nx
          have hlen := outL_len s.big a i
          refine AWP.runL e tab_ok L9 300 rfl (by first | trivial | (simp [in64] <;> omega) | (simp only [in64, true_and, and_true]; omega)) ?_
          repeat (
            first
              | (refine AWP.askT rfl ?_; (first | (refine Told.t rfl ?_) | (refine Told.f rfl ?_) | (refine Told.t ?_ ?_; (focus assumption)) | (refine Told.f ?_ ?_; (focus assumption)) | (refine Told.t ?_ ?_; (focus (first | (simp; omega) | (simp [*]; done)); done)) | (refine Told.f ?_ ?_; (focus (first | (simp; omega) | (simp [*]; done)); done))); refine AWP.runL e tab_ok L9 300 rfl (by first | trivial | (simp [in64] <;> omega) | (simp only [in64, true_and, and_true]; omega)) ?_)
              | (refine AWP.eq_agg e tab_ok rfl rfl rfl (.inl ⟨rfl, rfl⟩) ?_ 5 (by omega) rfl ?_ rfl rfl rfl rfl rfl rfl rfl ?_; (focus kernel_rfl); (focus kernel_rfl); refine AWP.runL e tab_ok L9 300 rfl (by first | trivial | (simp [in64] <;> omega) | (simp only [in64, true_and, and_true]; omega)) ?_)
              | (refine AWP.eq_agg e tab_ok rfl rfl rfl (.inr ⟨rfl, rfl⟩) ?_ 5 (by omega) rfl ?_ rfl rfl rfl rfl rfl rfl rfl ?_; (focus kernel_rfl); (focus kernel_rfl); refine AWP.runL e tab_ok L9 300 rfl (by first | trivial | (simp [in64] <;> omega) | (simp only [in64, true_and, and_true]; omega)) ?_)
            )
          refine AWP.append e tab_ok rfl rfl rfl rfl rfl rfl rfl rfl (.own rfl (by rw [rowN_len, hlen])) rfl (rowN_cells _) (by rw [rowN_len, hlen]; show (1 + i) * 8 ≤ _; omega) (by rw [rowN_len, hlen]; omega) fun C3 hC3 => ?_
          rw [rowN_len, hlen] at hC3 ⊢
          have h8 : ((((iter s.big a i : Nat) : Int)).tmod 8 == 0) = decide (iter s.big a i % 8 = 0) := by
            rw [Int.tmod_eq_emod_of_nonneg (by omega), Bool.eq_iff_iff, beq_iff_eq, decide_eq_true_eq]; omega
          refine AWP.runL e tab_ok L9 300 rfl (by first | trivial | (simp [in64] <;> omega) | (simp only [in64, true_and, and_true]; omega)) ?_
          by_cases h80 : iter s.big a i % 8 = 0
          · rw [decide_eq_true h80] at h8
            rw [if_pos h80] at nx
            repeat (
              first
                | (refine AWP.askT rfl ?_; (first | (refine Told.t rfl ?_) | (refine Told.f rfl ?_) | (refine Told.t ?_ ?_; (focus assumption)) | (refine Told.f ?_ ?_; (focus assumption)) | (refine Told.t ?_ ?_; (focus (first | (simp; omega) | (simp [*]; done)); done)) | (refine Told.f ?_ ?_; (focus (first | (simp; omega) | (simp [*]; done)); done))); refine AWP.runL e tab_ok L9 300 rfl (by first | trivial | (simp [in64] <;> omega) | (simp only [in64, true_and, and_true]; omega)) ?_)
                | (refine AWP.eq_agg e tab_ok rfl rfl rfl (.inl ⟨rfl, rfl⟩) ?_ 5 (by omega) rfl ?_ rfl rfl rfl rfl rfl rfl rfl ?_; (focus kernel_rfl); (focus kernel_rfl); refine AWP.runL e tab_ok L9 300 rfl (by first | trivial | (simp [in64] <;> omega) | (simp only [in64, true_and, and_true]; omega)) ?_)
                | (refine AWP.eq_agg e tab_ok rfl rfl rfl (.inr ⟨rfl, rfl⟩) ?_ 5 (by omega) rfl ?_ rfl rfl rfl rfl rfl rfl rfl ?_; (focus kernel_rfl); (focus kernel_rfl); refine AWP.runL e tab_ok L9 300 rfl (by first | trivial | (simp [in64] <;> omega) | (simp only [in64, true_and, and_true]; omega)) ?_)
              )
            refine AWP.lessR e [(1, 3)] ?_ ?_ ?_ ?_ ?_ ?_ (nx C3)
            · refine ⟨rfl, ?_, ?_, rfl, rfl, trivial⟩
              · refine congrArg (fun z : Int => some (SV.i z)) ?_
                omega
              · refine congrArg (fun z : Nat => some (SV.own 3 1 0 z C3)) ?_
                omega
            · exact ⟨rfl, rfl, trivial⟩
            · rfl
            · exact ⟨rfl, rfl, rfl, okRow _, trivial⟩
            · rfl
            · rfl
          · rw [decide_eq_false h80] at h8
            rw [if_neg h80] at nx
            repeat (
              first
                | (refine AWP.askT rfl ?_; (first | (refine Told.t rfl ?_) | (refine Told.f rfl ?_) | (refine Told.t ?_ ?_; (focus assumption)) | (refine Told.f ?_ ?_; (focus assumption)) | (refine Told.t ?_ ?_; (focus (first | (simp; omega) | (simp [*]; done)); done)) | (refine Told.f ?_ ?_; (focus (first | (simp; omega) | (simp [*]; done)); done))); refine AWP.runL e tab_ok L9 300 rfl (by first | trivial | (simp [in64] <;> omega) | (simp only [in64, true_and, and_true]; omega)) ?_)
                | (refine AWP.eq_agg e tab_ok rfl rfl rfl (.inl ⟨rfl, rfl⟩) ?_ 5 (by omega) rfl ?_ rfl rfl rfl rfl rfl rfl rfl ?_; (focus kernel_rfl); (focus kernel_rfl); refine AWP.runL e tab_ok L9 300 rfl (by first | trivial | (simp [in64] <;> omega) | (simp only [in64, true_and, and_true]; omega)) ?_)
                | (refine AWP.eq_agg e tab_ok rfl rfl rfl (.inr ⟨rfl, rfl⟩) ?_ 5 (by omega) rfl ?_ rfl rfl rfl rfl rfl rfl rfl ?_; (focus kernel_rfl); (focus kernel_rfl); refine AWP.runL e tab_ok L9 300 rfl (by first | trivial | (simp [in64] <;> omega) | (simp only [in64, true_and, and_true]; omega)) ?_)
              )
            refine AWP.lessR e [(1, 3)] ?_ ?_ ?_ ?_ ?_ ?_ (nx C3)
            · refine ⟨rfl, ?_, ?_, rfl, rfl, trivial⟩
              · refine congrArg (fun z : Int => some (SV.i z)) ?_
                omega
              · refine congrArg (fun z : Nat => some (SV.own 3 1 0 z C3)) ?_
                omega
            · exact ⟨rfl, rfl, trivial⟩
            · rfl
            · exact ⟨rfl, rfl, rfl, okRow _, trivial⟩
            · rfl
            · rfl
        · rw [if_neg (by rw [qb]; decide)] at nx
          have hit : iter s.big a (i + 1) = iter s.big a i + 1 := by show nxt s.big _ = _; unfold nxt; rw [if_neg (by rw [qb]; decide)]
          rw [hit] at nx
          have hlen := outL_len s.big a i
          refine AWP.runL e tab_ok L9 300 rfl (by first | trivial | (simp [in64] <;> omega) | (simp only [in64, true_and, and_true]; omega)) ?_
          repeat (
            first
              | (refine AWP.askT rfl ?_; (first | (refine Told.t rfl ?_) | (refine Told.f rfl ?_) | (refine Told.t ?_ ?_; (focus assumption)) | (refine Told.f ?_ ?_; (focus assumption)) | (refine Told.t ?_ ?_; (focus (first | (simp; omega) | (simp [*]; done)); done)) | (refine Told.f ?_ ?_; (focus (first | (simp; omega) | (simp [*]; done)); done))); refine AWP.runL e tab_ok L9 300 rfl (by first | trivial | (simp [in64] <;> omega) | (simp only [in64, true_and, and_true]; omega)) ?_)
              | (refine AWP.eq_agg e tab_ok rfl rfl rfl (.inl ⟨rfl, rfl⟩) ?_ 5 (by omega) rfl ?_ rfl rfl rfl rfl rfl rfl rfl ?_; (focus kernel_rfl); (focus kernel_rfl); refine AWP.runL e tab_ok L9 300 rfl (by first | trivial | (simp [in64] <;> omega) | (simp only [in64, true_and, and_true]; omega)) ?_)
              | (refine AWP.eq_agg e tab_ok rfl rfl rfl (.inr ⟨rfl, rfl⟩) ?_ 5 (by omega) rfl ?_ rfl rfl rfl rfl rfl rfl rfl ?_; (focus kernel_rfl); (focus kernel_rfl); refine AWP.runL e tab_ok L9 300 rfl (by first | trivial | (simp [in64] <;> omega) | (simp only [in64, true_and, and_true]; omega)) ?_)
            )
          refine AWP.append e tab_ok rfl rfl rfl rfl rfl rfl rfl rfl (.own rfl (by simp)) (by rw [rowN_len, hlen]) (by simp [allCells, isCell]) (by simp; omega) (by simp; omega) fun C3 hC3 => ?_
          refine AWP.runL e tab_ok L9 300 rfl (by first | trivial | (simp [in64] <;> omega) | (simp only [in64, true_and, and_true]; omega)) ?_
          refine AWP.lessR e [(1, 3)] ?_ ?_ ?_ ?_ ?_ ?_ (nx C3)
          · exact ⟨rfl, rfl, rfl, rfl, rfl, trivial⟩
          · refine ⟨rfl, ?_, trivial⟩
            refine congrArg (fun z => some (Blk.row 3 false 1 z C3)) ?_
            simp [rowN, intsN]
          · rfl
          · exact ⟨rfl, rfl, rfl, okRow _, trivial⟩
          · rfl
          · rfl
    · have hlt : ¬ i < w := by have := of_decide_eq_false hlt; omega
      obtain rfl : i = w := by omega
      have hR : plR s = slI (intsN (outL s.big a i)) := by
        unfold plR places
        rw [if_neg (by rw [hb0]; decide)]
        rw [show s.start.toNat = a by omega, show s.width.toNat = i by omega, hn, if_neg (by decide)]
        rfl
      rw [hR] at hP
      refine AWP.eqT 3 (.own 1 1 0 (outL s.big a i).length C) rfl (by rw [outL_len]) ?_
      refine AWP.keep (41 :: L9) rfl ?_
      refine AWP.runL e tab_ok L9 300 rfl (by first | trivial | (simp [in64] <;> omega) | (simp only [in64, true_and, and_true]; omega)) ?_
      refine AWP.freezeF (id := 1) (rowI (intsN (outL s.big a i))) rfl ?_ rfl rfl ?_ ?_ ?_
      (focus (rfl))
      (focus (first | (simp [lenFT, lenF]; done) ))
      (focus (first | (simp [lenFH, lenF, lenF.go]; done) ))
      refine AWP.runL e tab_ok L9 300 rfl (by first | trivial | (simp [in64] <;> omega) | (simp only [in64, true_and, and_true]; omega)) ?_
      refine AWP.ret e tab_ok rfl ?_
      rw [hP]
      rfl
end Go.Proofs.Ythibaeeoegoliaa
