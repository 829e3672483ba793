/-
  CHAPTER 10, PLAIN: a pattern of three runs; no program in sight.
-/
import Derived.Test.YtokhongbpnkinaaDoorEd
namespace Go.Pulse

/-- The part it is in, how many bits of it there were, how old it is. -/
abbrev X := Int × Int × Int
def rightP (mn mx : Int) (x : X) : Bool := decide (1 ≤ mn ∧ mn ≤ 100 ∧ mn ≤ mx ∧ mx ≤ 10000 ∧ 0 ≤ x.1 ∧ x.1 ≤ 2 ∧ 0 ≤ x.2.1 ∧ x.2.1 < mn ∧ 0 ≤ x.2.2 ∧ x.2.2 ≤ mx ∧ (x.1 = 0 → x.2.2 = 0))
def isB (c : UInt8) : Prop := c = 48 ∨ c = 49
/-- What the part looks for. -/
def look (st : Int) : UInt8 := if st = 1 then 49 else 48
def aged (mx : Int) (x : X) : X := if 0 < x.1 then (if mx < x.2.2 + 1 then (0, 0, 0) else (x.1, x.2.1, x.2.2 + 1)) else x
def hit (mn : Int) (x : X) (c : UInt8) : X × Bool :=
  if look x.1 ≠ c then ((x.1, 0, x.2.2), false) else if x.2.1 + 1 < mn then ((x.1, x.2.1 + 1, x.2.2), false) else if x.1 < 2 then ((x.1 + 1, 0, x.2.2), false) else ((0, 0, 0), true)
def stp (mn mx : Int) (x : X) (c : UInt8) : X × Bool := hit mn (aged mx x) c
theorem right_aged {mn mx : Int} {x : X} (h : rightP mn mx x = true) : rightP mn mx (aged mx x) = true := by
  obtain ⟨st, n, ag⟩ := x
  unfold rightP aged at *
  simp only [decide_eq_true_eq] at *
  split
  · split <;> dsimp only at * <;> omega
  · exact h
theorem right_hit {mn mx : Int} {x : X} {c : UInt8} (h : rightP mn mx x = true) : rightP mn mx (hit mn x c).1 = true := by
  obtain ⟨st, n, ag⟩ := x
  unfold rightP hit at *
  simp only [decide_eq_true_eq] at *
  split
  · dsimp only at *; omega
  · split
    · dsimp only at *; omega
    · split
      · dsimp only at *; omega
      · dsimp only at *; omega
theorem right_stp {mn mx : Int} {x : X} {c : UInt8} (h : rightP mn mx x = true) : rightP mn mx (stp mn mx x c).1 = true := right_hit (right_aged h)
theorem stp_done {mn mx : Int} {x : X} {c : UInt8} (h : (stp mn mx x c).2 = true) : (stp mn mx x c).1 = (0, 0, 0) := by
  unfold stp hit at *
  by_cases h1 : look (aged mx x).1 ≠ c
  · rw [if_pos h1] at h; cases h
  · rw [if_neg h1] at h ⊢
    by_cases h2 : (aged mx x).2.1 + 1 < mn
    · rw [if_pos h2] at h; cases h
    · rw [if_neg h2] at h ⊢
      by_cases h3 : (aged mx x).1 < 2
      · rw [if_pos h3] at h; cases h
      · rw [if_neg h3]

/-- Where it is found: behind so many bits. -/
def fnd (mn mx : Int) : X → List UInt8 → Nat
  | _, [] => 0
  | x, c :: l => if (stp mn mx x c).2 = true then 1 else if fnd mn mx (stp mn mx x c).1 l = 0 then 0 else fnd mn mx (stp mn mx x c).1 l + 1
/-- What it is behind these bits. -/
def run (mn mx : Int) : X → List UInt8 → X
  | x, [] => x
  | x, c :: l => run mn mx (stp mn mx x c).1 l
theorem run_snoc {mn mx : Int} (l : List UInt8) (c : UInt8) : ∀ x, run mn mx x (l ++ [c]) = (stp mn mx (run mn mx x l) c).1 := by
  induction l with
  | nil => intro x; rfl
  | cons d l ih => intro x; exact ih _
theorem right_run {mn mx : Int} (l : List UInt8) : ∀ x, rightP mn mx x = true → rightP mn mx (run mn mx x l) = true := by
  induction l with
  | nil => exact fun _ h => h
  | cons d l ih => exact fun x h => ih _ (right_stp h)
theorem fnd_le {mn mx : Int} (l : List UInt8) : ∀ x, fnd mn mx x l ≤ l.length := by
  induction l with
  | nil => exact fun _ => Nat.le_refl _
  | cons d l ih =>
    intro x
    simp only [fnd, List.length_cons]
    have := ih (stp mn mx x d).1
    split
    · omega
    · split <;> omega
theorem fnd_at {mn mx : Int} (l : List UInt8) (m : List UInt8) (c : UInt8) : ∀ x, fnd mn mx x l = 0 → (stp mn mx (run mn mx x l) c).2 = true → fnd mn mx x (l ++ c :: m) = l.length + 1 := by
  induction l with
  | nil => intro x _ h; simp only [List.nil_append, fnd]; rw [if_pos (show (stp mn mx x c).2 = true from h)]; rfl
  | cons d l ih =>
    intro x h0 h
    simp only [fnd] at h0
    simp only [List.cons_append, fnd]
    split at h0
    · cases h0
    · rename_i hd
      rw [if_neg hd]
      split at h0
      · rename_i h1
        have := ih _ h1 h
        rw [this, if_neg (by omega)]
        rfl
      · omega
theorem fnd_snoc {mn mx : Int} (l : List UInt8) (c : UInt8) : ∀ x, fnd mn mx x l = 0 → (stp mn mx (run mn mx x l) c).2 = false → fnd mn mx x (l ++ [c]) = 0 := by
  induction l with
  | nil => intro x _ h; simp only [List.nil_append, fnd]; rw [if_neg (by rw [show (stp mn mx x c).2 = false from h]; decide)]; rfl
  | cons d l ih =>
    intro x h0 h
    simp only [fnd] at h0
    simp only [List.cons_append, fnd]
    split at h0
    · cases h0
    · rename_i hd
      rw [if_neg hd]
      split at h0
      · rename_i h1
        rw [ih _ h1 h]
        rfl
      · omega

/-! ### Where no so many equal bits stand beside one another -/
def has (s sub : List UInt8) : Prop := ∃ u v, s = u ++ (sub ++ v)
theorem has_more {s sub : List UInt8} (c : UInt8) (h : has s sub) : has (s ++ [c]) sub := by
  obtain ⟨u, v, rfl⟩ := h
  exact ⟨u, v ++ [c], by simp⟩
def Inv (mn : Int) (pre : List UInt8) (x : X) : Prop :=
  (∃ u, pre = u ++ List.replicate x.2.1.toNat (look x.1)) ∧ (1 ≤ x.1 → has pre (List.replicate mn.toNat 48)) ∧ (2 ≤ x.1 → has pre (List.replicate mn.toNat 49))
theorem inv_stp {mn mx : Int} {x : X} (c : UInt8) {pre : List UInt8} (hr : rightP mn mx x = true) (h : Inv mn pre x) : Inv mn (pre ++ [c]) (stp mn mx x c).1 ∧ ((stp mn mx x c).2 = true → has (pre ++ [c]) (List.replicate mn.toNat 48) ∧ has (pre ++ [c]) (List.replicate mn.toNat 49)) := by
  have ha : Inv mn pre (aged mx x) := by
    unfold aged
    split
    · split
      · exact ⟨⟨pre, by simp⟩, fun h => absurd h (by decide), fun h => absurd h (by decide)⟩
      · exact h
    · exact h
  have hr := right_aged hr
  unfold stp
  generalize aged mx x = y at *
  obtain ⟨st, n, ag⟩ := y
  obtain ⟨⟨u, h1⟩, h2, h3⟩ := ha
  unfold rightP at hr
  simp only [decide_eq_true_eq] at hr
  have h1 : pre = u ++ List.replicate n.toNat (look st) := h1
  have h2 : 1 ≤ st → has pre (List.replicate mn.toNat 48) := h2
  have h3 : 2 ≤ st → has pre (List.replicate mn.toNat 49) := h3
  unfold hit
  dsimp only
  split
  · exact ⟨⟨⟨pre ++ [c], by simp⟩, fun h => has_more c (h2 h), fun h => has_more c (h3 h)⟩, fun h => by cases h⟩
  · rename_i hc
    have hc : look st = c := Decidable.not_not.1 hc
    have hnew : pre ++ [c] = u ++ List.replicate (n + 1).toNat (look st) := by
      rw [h1, List.append_assoc, ← hc, ← List.replicate_succ']
      congr 2
      omega
    split
    · exact ⟨⟨⟨u, hnew⟩, fun h => has_more c (h2 h), fun h => has_more c (h3 h)⟩, fun h => by cases h⟩
    · have hmn : (n + 1).toNat = mn.toNat := by omega
      have hhas : has (pre ++ [c]) (List.replicate mn.toNat (look st)) := ⟨u, [], by rw [hnew, hmn]; simp⟩
      split
      · refine ⟨⟨⟨pre ++ [c], by simp⟩, fun _ => ?_, fun h => ?_⟩, fun h => by cases h⟩
        · by_cases h0 : st = 0
          · subst h0; exact hhas
          · exact has_more c (h2 (by omega))
        · have h : 2 ≤ st + 1 := h
          have : st = 1 := by omega
          subst this
          exact hhas
      · have : st = 2 := by omega
        subst this
        exact ⟨⟨⟨pre ++ [c], by simp⟩, fun h => absurd h (by decide), fun h => absurd h (by decide)⟩, fun _ => ⟨has_more c (h2 (by decide)), has_more c (h3 (by decide))⟩⟩
theorem no_fnd {mn mx : Int} (l : List UInt8) : ∀ (pre : List UInt8) (x : X), rightP mn mx x = true → Inv mn pre x → ¬ (has (pre ++ l) (List.replicate mn.toNat 48) ∧ has (pre ++ l) (List.replicate mn.toNat 49)) → fnd mn mx x l = 0 := by
  induction l with
  | nil => exact fun _ _ _ _ _ => rfl
  | cons c l ih =>
    intro pre x hr h hn
    obtain ⟨h1, h2⟩ := inv_stp (mx := mx) c hr h
    have e : pre ++ c :: l = (pre ++ [c]) ++ l := by simp
    rw [e] at hn
    simp only [fnd]
    rw [ih _ _ (right_stp hr) h1 hn]
    rw [if_neg, if_pos rfl]
    intro hd
    obtain ⟨⟨u, v, q1⟩, ⟨u', v', q2⟩⟩ := h2 hd
    exact hn ⟨⟨u, v ++ l, by rw [q1]; simp⟩, ⟨u', v' ++ l, by rw [q2]; simp⟩⟩
theorem none_fnd {mn mx : Int} (l : List UInt8) (hr : rightP mn mx (0, 0, 0) = true) (hn : ¬ (has l (List.replicate mn.toNat 48) ∧ has l (List.replicate mn.toNat 49))) : fnd mn mx (0, 0, 0) l = 0 :=
  no_fnd l [] (0, 0, 0) hr ⟨⟨[], rfl⟩, fun h => absurd h (by decide), fun h => absurd h (by decide)⟩ hn
theorem not_has (c d : UInt8) (hcd : d ≠ c) (k m : Nat) (hm : 1 ≤ m) : ¬ has (List.replicate k c) (List.replicate m d) := by
  rintro ⟨u, v, h⟩
  have : d ∈ List.replicate k c := by
    rw [h]
    have : d ∈ List.replicate m d := List.mem_replicate.2 ⟨by omega, rfl⟩
    simp [this]
  exact hcd (List.eq_of_mem_replicate this)
end Go.Pulse
