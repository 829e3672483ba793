/-
  CHAPTER 14, PLAIN: where a signal's bits are; no program in sight.
-/
import Derived.Test.YthibaeeoegoliaaEd
namespace Go.Signal

/-- A signal: its first bit, how many, told by its highest one, signed. -/
structure Sig where
  start : Int
  width : Int
  big : Bool
  sgn : Bool
def bad (s : Sig) : Bool := decide (s.start < 0) || decide (63 < s.start) || decide (s.width < 1) || decide (64 < s.width) || (s.width == 64 && !s.sgn)
/-- The place behind one. -/
def nxt (big : Bool) (a : Nat) : Nat := if big then (if a % 8 = 0 then a + 15 else a - 1) else a + 1
def ats (big : Bool) : Nat → Nat → List Nat
  | _, 0 => []
  | a, n + 1 => a :: ats big (nxt big a) n
def iter (big : Bool) (a : Nat) : Nat → Nat
  | 0 => a
  | n + 1 => nxt big (iter big a n)
theorem iter_nxt (big : Bool) (n : Nat) : ∀ a, iter big (nxt big a) n = iter big a (n + 1) := by
  induction n with
  | zero => exact fun _ => rfl
  | succ n ih => exact fun a => congrArg (nxt big) (ih a)
theorem ats_snoc (big : Bool) (n : Nat) : ∀ a, ats big a (n + 1) = ats big a n ++ [iter big a n] := by
  induction n with
  | zero => exact fun _ => rfl
  | succ n ih =>
    intro a
    show a :: ats big (nxt big a) (n + 1) = a :: ats big (nxt big a) n ++ [_]
    rw [ih, iter_nxt]
    rfl
theorem ats_len (big : Bool) (n : Nat) : ∀ a, (ats big a n).length = n := by
  induction n with
  | zero => exact fun _ => rfl
  | succ n ih => exact fun a => congrArg Nat.succ (ih _)
theorem iter_le (big : Bool) (a n : Nat) : iter big a n ≤ a + 15 * n := by
  induction n with
  | zero => exact Nat.le_refl _
  | succ n ih =>
    show nxt big _ ≤ _
    unfold nxt
    split
    · split <;> omega
    · omega
theorem ats_le (big : Bool) (n : Nat) : ∀ a, ∀ x ∈ ats big a n, x ≤ a + 15 * n := by
  induction n with
  | zero => intro a x hx; cases hx
  | succ n ih =>
    intro a x hx
    rw [ats_snoc, List.mem_append, List.mem_singleton] at hx
    rcases hx with hx | rfl
    · have := ih a x hx; omega
    · have := iter_le big a n; omega
/-- A signal's places, the lowest bit's first. -/
def places (s : Sig) : Option (List Nat) :=
  if bad s then none else if (ats s.big s.start.toNat s.width.toNat).any (fun a => decide (64 ≤ a)) then none
  else some (if s.big then (ats s.big s.start.toNat s.width.toNat).reverse else ats s.big s.start.toNat s.width.toNat)
theorem places_lt {s : Sig} {l : List Nat} (h : places s = some l) : ∀ a ∈ l, a < 64 := by
  unfold places at h
  split at h
  · cases h
  · split at h
    · cases h
    · rename_i hn
      cases h
      intro a ha
      have ha : a ∈ ats s.big s.start.toNat s.width.toNat := by
        split at ha
        · exact List.mem_reverse.1 ha
        · exact ha
      have := List.any_eq_false.1 (Bool.eq_false_iff.2 hn) a ha
      simpa using this
theorem places_len {s : Sig} {l : List Nat} (h : places s = some l) : (l.length : Int) = s.width ∧ 1 ≤ l.length ∧ l.length ≤ 64 := by
  unfold places at h
  split at h
  · cases h
  · rename_i hb
    split at h
    · cases h
    · cases h
      have hb := Bool.eq_false_iff.2 hb
      unfold bad at hb
      simp only [Bool.or_eq_false_iff, decide_eq_false_iff_not] at hb
      have : (if s.big = true then (ats s.big s.start.toNat s.width.toNat).reverse else ats s.big s.start.toNat s.width.toNat).length = s.width.toNat := by
        split
        · rw [List.length_reverse, ats_len]
        · rw [ats_len]
      rw [this]
      omega
end Go.Signal
