import Derived.Test.YtclmbbcchgfedaaDoorF12
open Go Go.Proofs Go.Sy
namespace Go.Proofs.YtclmbbcchgfedaaDoor

def flat (rs : List (UInt8 × Nat)) : List UInt8 := rs.flatMap fun p => List.replicate p.2 p.1
theorem flat_put (c : UInt8) (rs : List (UInt8 × Nat)) : flat (put1 c rs) = c :: flat rs := by
  cases rs with
  | nil => rfl
  | cons p r =>
    obtain ⟨d, k⟩ := p
    simp only [put1]
    split
    · rename_i h
      subst h
      simp [flat, List.replicate_succ]
    · rfl
theorem flat_runs (l : List UInt8) : flat (runs l) = l := by
  induction l with
  | nil => rfl
  | cons c l ih =>
    show flat (put1 c (runs l)) = _
    rw [flat_put, ih]
theorem flat_succ {rs : List (UInt8 × Nat)} {i : Nat} (h : i < rs.length) : flat (rs.take (i + 1)) = flat (rs.take i) ++ List.replicate rs[i].2 rs[i].1 := by
  unfold flat
  rw [List.take_succ_eq_append_getElem h, List.flatMap_append]
  simp
theorem runs_pos (l : List UInt8) : ∀ p ∈ runs l, 1 ≤ p.2 ∧ p.2 ≤ l.length := by
  induction l with
  | nil => intro p hp; cases hp
  | cons c l ih =>
    intro p hp
    have hp : p ∈ put1 c (runs l) := hp
    cases h : runs l with
    | nil =>
      rw [h] at hp
      simp only [put1, List.mem_singleton] at hp
      subst hp
      simp
    | cons q r =>
      rw [h] at hp ih
      obtain ⟨d, k⟩ := q
      simp only [put1] at hp
      have hq := ih (d, k) (by simp)
      split at hp
      · simp only [List.mem_cons] at hp
        rcases hp with rfl | hp
        · simp only [List.length_cons]; omega
        · have := ih p (by simp [hp]); simp only [List.length_cons]; omega
      · simp only [List.mem_cons] at hp
        rcases hp with rfl | hp | hp
        · simp
        · subst hp; simp only [List.length_cons]; omega
        · have := ih p (by simp [hp]); simp only [List.length_cons]; omega
def apart : List (UInt8 × Nat) → Prop
  | p :: q :: r => p.1 ≠ q.1 ∧ apart (q :: r)
  | _ => True
theorem apart_put (c : UInt8) (rs : List (UInt8 × Nat)) (h : apart rs) : apart (put1 c rs) := by
  cases rs with
  | nil => exact True.intro
  | cons p r =>
    obtain ⟨d, k⟩ := p
    simp only [put1]
    split
    · cases r with
      | nil => exact True.intro
      | cons q r => exact ⟨h.1, h.2⟩
    · rename_i hc
      exact ⟨hc, h⟩
theorem runs_apart (l : List UInt8) : apart (runs l) := by
  induction l with
  | nil => exact True.intro
  | cons c l ih => exact apart_put c _ ih
theorem apart_at : ∀ {rs : List (UInt8 × Nat)}, apart rs → ∀ i (h : i + 1 < rs.length), rs[i].1 ≠ rs[i + 1].1
  | [], _, i, h => by simp at h
  | [_], _, i, h => by simp at h
  | p :: q :: r, ha, 0, _ => ha.1
  | p :: q :: r, ha, i + 1, h => apart_at ha.2 i (by simpa using h)
theorem rep_l (b : UInt8) (n : Nat) : Lib.repeatL [b] n = List.replicate n b := by
  induction n with
  | zero => rfl
  | succ n ih => simp only [Lib.repeatL, ih, List.replicate_succ]; rfl
theorem rep_eff (b : UInt8) (n : Nat) (hn : n ≤ 1000000) : Eff Tryd.prog 25 [.s (strL [b]), .i n] [] 0 (fun r _ _ => r = .s (strL (List.replicate n b))) := by
  have h := eff_calls [.string (strL [b]), .int .i64 n] Tryd.func25 rfl rfl fun w => Any.strings_Repeat Tryd.lays105 Tryd.Builder_Extra_105 (strL [b]) n w (by omega) (by rw [strL_size]; simp; omega)
  rw [strL_data, rep_l] at h
  exact h
theorem short_eff (l : List UInt8) : Eff Tryd.prog 16 [.s (strL l)] [] 0 (fun r _ _ => r = .s (strL (l.take 300))) := by
  have h := cut_str l 300
  refine eff_of Tryd.func16 rfl rfl rfl fun cx e hP => ?_
  refine AWP.runL e tab_ok L16 300 rfl (by first | trivial | (simp [] <;> omega) | (simp only [in64, true_and, and_true]; omega)) ?_
  refine AWP.eqT 2 (.s (strL (l.take 300))) rfl (congrArg SV.s h) ?_
  refine AWP.ret e tab_ok rfl ?_
  rw [hP]
  all_goals first | rfl | (simp [strip]; done)
theorem mod_at (a : Int) (n : Nat) (hn : 0 < n) : ∃ k : Nat, k < n ∧ Int.tmod (Int.tmod a n + n) n = k ∧ -(n : Int) < Int.tmod a n ∧ Int.tmod a n < n := by
  have h1 : -(n : Int) < Int.tmod a n := by
    have := Int.lt_tmod_of_pos a (show (0 : Int) < n by omega)
    omega
  have h2 : Int.tmod a n < n := Int.tmod_lt_of_pos _ (by omega)
  refine ⟨(Int.tmod (Int.tmod a n + n) n).toNat, ?_, ?_, h1, h2⟩
  · have := Int.tmod_lt_of_pos (Int.tmod a n + n) (show (0 : Int) < n by omega)
    omega
  · have := Int.tmod_nonneg (n : Int) (show 0 ≤ Int.tmod a n + n by omega)
    omega
end Go.Proofs.YtclmbbcchgfedaaDoor
