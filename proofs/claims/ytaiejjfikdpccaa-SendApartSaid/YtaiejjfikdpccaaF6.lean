import Derived.Test.YtaiejjfikdpccaaF5
open Go Go.Proofs Go.Sy
namespace Go.Proofs.Ytaiejjfikdpccaa

abbrev ints (l : List Int) : List (List DV) := l.map fun v => [.v (.int .i64 v)]
theorem ints_ok (n : Nat) (l : List Int) : ∀ e ∈ (ints l).map (·.map SV.d), SV.idsLt.go n e = true := by
  intro e he
  simp only [ints, List.map_map, List.mem_map] at he
  obtain ⟨v, _, rfl⟩ := he
  rfl

def hold1 (s : SE) : Int := if 0 > s.hold - 1 then 0 else s.hold - 1
def perP (s : SE) : Int := if perB s.way then (if s.period - 1 > 0 then s.period - 1 else s.way.per) else s.period
def perD (s : SE) : Bool := perB s.way && !decide (s.period - 1 > 0)
def agD (s : SE) : Bool := !(s.left == 0) && !decide (s.gap - 1 > 0)
def agGap (s : SE) : Int := if s.left == 0 then s.gap else if s.gap - 1 > 0 then s.gap - 1 else if s.left - 1 > 0 then s.way.gap else s.gap - 1
def agLeft (s : SE) : Int := if s.left == 0 then s.left else if s.gap - 1 > 0 then s.left else s.left - 1
def dueB (s : SE) : Bool := agD s || (perD s || s.asked)
def tickB (s : SE) : Bool := dueB s && (hold1 s == 0)
def tick1 (s : SE) : SE := { s with hold := hold1 s }
def tick2 (s : SE) : SE := { s with hold := hold1 s, period := perP s }
def tick3 (s : SE) : SE := { s with hold := hold1 s, period := perP s, gap := agGap s, left := agLeft s }
def tickS (s : SE) : SE := { s with hold := if tickB s then s.delay else hold1 s, asked := dueB s && decide (hold1 s > 0), period := perP s, gap := agGap s, left := agLeft s }

theorem tick_way (s : SE) : (tickS s).way = s.way := rfl
theorem right_tick {s : SE} (h : rightB s = true) : rightB (tickS s) = true := by
  have hw := wayB_iff.1 (way_ok h)
  obtain ⟨h1, h2, h3, h4, h5, h6, h7, h8⟩ := rightB_iff.1 h
  refine rightB_iff.2 ⟨h1, h2, h3, ?_, ?_, ?_, ?_, ?_⟩
  · show 0 ≤ (if tickB s then s.delay else hold1 s) ∧ (if tickB s then s.delay else hold1 s) ≤ s.delay
    unfold hold1
    split
    · omega
    · split <;> omega
  · rw [tick_way]
    show leastP s.way ≤ perP s ∧ perP s ≤ topP s.way
    unfold leastP topP perP at *
    rcases cases_b (perB s.way) with hb | hb <;> rw [hb] at h5 ⊢
    · have hk : 0 < s.way.per := by
        refine hw.2.2.2.2.2.1 ?_
        unfold perB at hb; simpa using hb
      simp only [if_true] at h5 ⊢
      unfold mx at *
      split <;> split <;> split <;> omega
    · simpa using h5
  · rw [tick_way]
    show 0 ≤ agLeft s ∧ agLeft s ≤ repsD s.way
    unfold agLeft
    by_cases hl : s.left = 0
    · simp [hl]; omega
    · rw [if_neg (by simpa using hl)]
      split <;> omega
  · intro hl
    have hl : agLeft s > 0 := hl
    rw [tick_way]
    show 1 ≤ agGap s ∧ agGap s ≤ s.way.gap
    unfold agLeft at hl
    unfold agGap
    by_cases hz : s.left = 0
    · rw [if_pos (by simpa using hz)] at hl; omega
    · rw [if_neg (by simpa using hz)] at hl ⊢
      have := h7 (by omega)
      split
      · omega
      · rename_i hg
        rw [if_neg hg] at hl
        rw [if_pos hl]
        omega
  · intro hl
    have hl : ¬ agLeft s > 0 := hl
    show agGap s = 0
    unfold agLeft at hl
    unfold agGap
    by_cases hz : s.left = 0
    · rw [if_pos (by simpa using hz)]; exact h8 (by omega)
    · rw [if_neg (by simpa using hz)] at hl ⊢
      have := h7 (by omega)
      split
      · rename_i hg
        rw [if_pos hg] at hl; omega
      · rename_i hg
        rw [if_neg hg] at hl
        rw [if_neg hl]
        omega

def runS (s : SE) : Nat → SE
  | 0 => s
  | n + 1 => tickS (runS s n)
def out (s : SE) : Nat → List Int
  | 0 => []
  | n + 1 => out s n ++ (if tickB (runS s n) then [(n : Int) + 1] else [])
theorem right_run {s : SE} (h : rightB s = true) : ∀ n, rightB (runS s n) = true
  | 0 => h
  | n + 1 => right_tick (right_run h n)
theorem out_len (s : SE) : ∀ n, (out s n).length ≤ n
  | 0 => Nat.le_refl _
  | n + 1 => by
    have := out_len s n
    unfold out
    split <;> simp <;> omega
theorem out_mem (s : SE) : ∀ (n : Nat) (k : Int), k ∈ out s n → 1 ≤ k ∧ k ≤ n
  | 0, k, h => by simp [out] at h
  | n + 1, k, h => by
    unfold out at h
    rcases List.mem_append.1 h with h | h
    · have := out_mem s n k h; omega
    · split at h
      · simp at h; omega
      · simp at h
theorem run_add (s : SE) (a : Nat) : ∀ b, runS s (a + b) = runS (runS s a) b
  | 0 => rfl
  | b + 1 => congrArg tickS (run_add s a b)
theorem out_add (s : SE) (a : Nat) : ∀ b, out s (a + b) = out s a ++ (out (runS s a) b).map fun k => (a : Int) + k
  | 0 => by simp [out]
  | b + 1 => by
    show out s (a + b) ++ (if tickB (runS s (a + b)) then [((a + b : Nat) : Int) + 1] else []) = out s a ++ (out (runS s a) b ++ (if tickB (runS (runS s a) b) then [(b : Int) + 1] else [])).map _
    rw [out_add s a b, run_add, List.map_append, List.append_assoc]
    congr 2
    split
    · simp; omega
    · rfl
end Go.Proofs.Ytaiejjfikdpccaa
