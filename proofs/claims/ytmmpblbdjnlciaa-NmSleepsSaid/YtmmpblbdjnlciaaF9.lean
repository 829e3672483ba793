import Derived.Test.YtmmpblbdjnlciaaF8
open Go Go.Proofs Go.Sy
namespace Go.Proofs.Ytmmpblbdjnlciaa

structure AV where
  kind : Int
  on : Bool
  ticks : Int
abbrev rowA (a : AV) : List DV := [.v (.int .i64 a.kind), .v (.bool a.on), .v (.int .i64 a.ticks)]
theorem acts_of : ∀ (ys : List (List DV)), (∀ el ∈ ys, Tyd tab 8 38 el) → ∃ l : List AV, ys = l.map rowA
  | [], _ => ⟨[], rfl⟩
  | el :: ys, h => by
    obtain ⟨l, rfl⟩ := acts_of ys fun e he => h e (by simp [he])
    obtain ⟨_, _, rfl, ⟨n, rfl, _, _⟩, _, _, rfl, ⟨on, rfl⟩, _, _, rfl, ⟨t, rfl, _, _⟩, rfl⟩ := h el (by simp)
    exact ⟨⟨n, on, t⟩ :: l, rfl⟩

theorem mod30 (z : Int) : ∃ k : Nat, k < 30 ∧ Int.tmod (Int.tmod z 30 + 30) 30 = k ∧ -30 < Int.tmod z 30 ∧ Int.tmod z 30 < 30 := by
  have h1 := Int.tmod_lt_of_pos z (show (0 : Int) < 30 by omega)
  have h2 := Int.lt_tmod_of_pos z (show (0 : Int) < 30 by omega)
  have h3 : 0 ≤ Int.tmod (Int.tmod z 30 + 30) 30 := Int.tmod_nonneg _ (by omega)
  have h4 := Int.tmod_lt_of_pos (Int.tmod z 30 + 30) (show (0 : Int) < 30 by omega)
  exact ⟨(Int.tmod (Int.tmod z 30 + 30) 30).toNat, by omega, by omega, h2, h1⟩

/-- What is known of the ticks without frames (c), and without all that (d). -/
def II (p : PV) : NS → Int → Int → Prop
  | .sleep, _, _ => True
  | .prep l, c, d => p.hrd + (p.wt - l) ≤ c ∧ d ≤ p.rep + p.hrd + (p.wt - l)
  | .rep w a _ q, c, d => p.hrd - q ≤ c ∧ (w = true → d = 0) ∧ d ≤ p.rep - a
  | .norm _ q, c, d => p.hrd - q ≤ c ∧ d = 0
  | .ready q, c, d => p.hrd - q ≤ c ∧ d ≤ p.rep + (p.hrd - q)

def resB (k : Nat) (s x : NS) : Bool := (k == 2 && s.st != 0) || (k == 3 && s.aw) || (!s.aw && x.aw)

theorem II_begin {p : PV} (hp : OkP p) (w : Bool) {c d : Int} (hc : 0 ≤ c) (hd : d = 0) : II p (beginS p w) c d := by
  have := hp.r0; have := hp.h0
  unfold beginS
  split
  · cases w
    · exact ⟨by omega, by omega⟩
    · exact ⟨by omega, hd⟩
  · exact ⟨by omega, fun _ => hd, by omega⟩
theorem aw_begin {p : PV} (w : Bool) : (beginS p w).aw = true := by
  unfold beginS
  split
  · cases w <;> rfl
  · rfl

theorem II_act {p : PV} (hp : OkP p) {s : NS} (hs : OkS p s) {c d : Int} (h : II p s c d) (hc : 0 ≤ c) (hd : 0 ≤ d) (on : Bool) (k : Nat) (hk : k < 4) :
    II p (actS p on s k) (if resB k s (actS p on s k) then 0 else c) (if resB k s (actS p on s k) || ((actS p on s k).wants || s.wants) then 0 else d) := by
  have hr0 := hp.r0
  have hh0 := hp.h0
  have hB : ∀ (k : Nat) (s : NS) (w : Bool), s.aw = false → II p (beginS p w) (if resB k s (beginS p w) then 0 else c) (if resB k s (beginS p w) || ((beginS p w).wants || s.wants) then 0 else d) := by
    intro k s w hw
    have : resB k s (beginS p w) = true := by simp [resB, hw, aw_begin]
    rw [this]
    exact II_begin hp w (Int.le_refl _) rfl
  rcases (show k = 0 ∨ k = 1 ∨ k = 2 ∨ k = 3 by omega) with rfl | rfl | rfl | rfl
  · cases s with
    | sleep => cases on; exact trivial; exact hB _ .sleep true rfl
    | prep l => cases on; exact h; exact hB _ (.prep l) true rfl
    | rep w a x q =>
      have hs : (1 ≤ a ∧ a ≤ p.rep) ∧ (0 ≤ x ∧ x ≤ p.cyc) ∧ 1 ≤ q ∧ q ≤ p.hrd := hs
      obtain ⟨h1, h2, h3⟩ := h
      have e1 : resB 0 (.rep w a x q) (.rep on a x q) = false := rfl
      show II p (.rep on a x q) (if resB 0 (.rep w a x q) (.rep on a x q) then 0 else c) (if resB 0 (.rep w a x q) (.rep on a x q) || (on || w) then 0 else d)
      rw [e1]
      cases on <;> cases w
      · exact ⟨h1, fun h => by simp at h, h3⟩
      · exact ⟨h1, fun h => by simp at h, by show (0 : Int) ≤ p.rep - a; omega⟩
      · exact ⟨h1, fun _ => rfl, by show (0 : Int) ≤ p.rep - a; omega⟩
      · exact ⟨h1, fun _ => rfl, by show (0 : Int) ≤ p.rep - a; omega⟩
    | norm x q =>
      have hs : (0 ≤ x ∧ x ≤ p.cyc) ∧ 1 ≤ q ∧ q ≤ p.hrd := hs
      obtain ⟨h1, h2⟩ := h
      cases on
      · exact ⟨h1, by show (0 : Int) ≤ p.rep + (p.hrd - q); omega⟩
      · exact ⟨h1, rfl⟩
    | ready q =>
      obtain ⟨h1, h2⟩ := h
      cases on
      · exact ⟨h1, h2⟩
      · exact ⟨h1, rfl⟩
  · cases s with
    | sleep => exact hB _ .sleep false rfl
    | prep l => exact h
    | rep w a x q =>
      have hs : (1 ≤ a ∧ a ≤ p.rep) ∧ (0 ≤ x ∧ x ≤ p.cyc) ∧ 1 ≤ q ∧ q ≤ p.hrd := hs
      obtain ⟨h1, h2, h3⟩ := h
      cases w
      · exact ⟨h1, fun h => by simp at h, h3⟩
      · exact ⟨h1, fun _ => rfl, by show (0 : Int) ≤ p.rep - a; omega⟩
    | norm x q => exact ⟨h.1, rfl⟩
    | ready q => exact h
  · cases s with
    | sleep => exact trivial
    | prep l => exact hB _ (.prep l) false rfl
    | rep w a x q =>
      have hs : (1 ≤ a ∧ a ≤ p.rep) ∧ (0 ≤ x ∧ x ≤ p.cyc) ∧ 1 ≤ q ∧ q ≤ p.hrd := hs
      exact ⟨by show p.hrd - p.hrd ≤ 0; omega, fun _ => rfl, by show (0 : Int) ≤ p.rep - a; omega⟩
    | norm x q => exact ⟨by show p.hrd - p.hrd ≤ 0; omega, rfl⟩
    | ready q => exact ⟨by show p.hrd - p.hrd ≤ 0; omega, by show (0 : Int) ≤ p.rep + (p.hrd - p.hrd); omega⟩
  · cases s with
    | sleep => exact trivial
    | prep l => exact h
    | rep w a x q =>
      have hs : (1 ≤ a ∧ a ≤ p.rep) ∧ (0 ≤ x ∧ x ≤ p.cyc) ∧ 1 ≤ q ∧ q ≤ p.hrd := hs
      exact ⟨by show p.hrd - p.hrd ≤ 0; omega, fun _ => rfl, by show (0 : Int) ≤ p.rep - a; omega⟩
    | norm x q => exact ⟨by show p.hrd - p.hrd ≤ 0; omega, rfl⟩
    | ready q => exact ⟨by show p.hrd - p.hrd ≤ 0; omega, by show (0 : Int) ≤ p.rep + (p.hrd - p.hrd); omega⟩

/-- What a tick keeps, s to x. -/
structure TL (p : PV) (s x : NS) (is : Bool) (c d : Int) : Prop where
  fa : x.st = 0 → s.st ≠ 0 → p.hrd + p.wt ≤ c
  fb : x.st = 0 → x.wants = false ∧ is = false
  fc : is = true → II p (sentS p x) 0 0 ∧ (sentS p x).st ≠ 0
  fd : is = false → II p x c (if x.wants then 0 else d) ∧ (x.st ≠ 0 → (if x.wants then 0 else d) < p.hrd + p.wt + p.rep + 1)

theorem II_tick {p : PV} (hp : OkP p) {s : NS} (hs : OkS p s) {c d : Int} (h : II p s c d) (hc : 0 ≤ c) (hd : 0 ≤ d) : TL p s (tickS p s) (tickB s) (c + 1) (d + 1) := by
  have hr0 := hp.r0
  have hh0 := hp.h0
  have hw0 := hp.w0
  cases s with
  | sleep => exact ⟨fun _ h => absurd rfl h, fun _ => ⟨rfl, rfl⟩, fun h => by simp [tickB] at h, fun _ => ⟨trivial, fun h => absurd rfl h⟩⟩
  | prep l =>
    have hs : 1 ≤ l ∧ l ≤ p.wt := hs
    obtain ⟨h1, h2⟩ := h
    show TL p (.prep l) (if l - 1 = 0 then .sleep else .prep (l - 1)) false (c + 1) (d + 1)
    split
    · exact ⟨fun _ _ => by omega, fun _ => ⟨rfl, rfl⟩, fun h => by simp at h, fun _ => ⟨trivial, fun h => absurd rfl h⟩⟩
    · exact ⟨fun h => absurd h (by simp [NS.st]), fun h => absurd h (by simp [NS.st]), fun h => by simp at h, fun _ => ⟨⟨by omega, by show d + 1 ≤ _; omega⟩, fun _ => by show d + 1 < _; omega⟩⟩
  | ready q =>
    have hs : 1 ≤ q ∧ q ≤ p.hrd := hs
    obtain ⟨h1, h2⟩ := h
    show TL p (.ready q) (if q - 1 > 0 then .ready (q - 1) else .prep p.wt) false (c + 1) (d + 1)
    split
    · exact ⟨fun h => absurd h (by simp [NS.st]), fun h => absurd h (by simp [NS.st]), fun h => by simp at h, fun _ => ⟨⟨by omega, by show d + 1 ≤ _; omega⟩, fun _ => by show d + 1 < _; omega⟩⟩
    · exact ⟨fun h => absurd h (by simp [NS.st]), fun h => absurd h (by simp [NS.st]), fun h => by simp at h, fun _ => ⟨⟨by omega, by show d + 1 ≤ _; omega⟩, fun _ => by show d + 1 < _; omega⟩⟩
  | norm x q =>
    have hs : (0 ≤ x ∧ x ≤ p.cyc) ∧ 1 ≤ q ∧ q ≤ p.hrd := hs
    obtain ⟨h1, h2⟩ := h
    have hq : p.hrd - qd p q ≤ c + 1 := by unfold qd; split <;> omega
    exact ⟨fun h => absurd h (by simp [NS.st, tickS]), fun h => absurd h (by simp [NS.st, tickS]), fun _ => ⟨⟨by show p.hrd - p.hrd ≤ 0; omega, rfl⟩, by simp [NS.st, tickS, sentS]⟩, fun _ => ⟨⟨hq, rfl⟩, fun _ => by show (0 : Int) < _; omega⟩⟩
  | rep w a x q =>
    have hs : (1 ≤ a ∧ a ≤ p.rep) ∧ (0 ≤ x ∧ x ≤ p.cyc) ∧ 1 ≤ q ∧ q ≤ p.hrd := hs
    obtain ⟨h1, h2, h3⟩ := h
    have hq : p.hrd - qd p q ≤ c + 1 := by unfold qd; split <;> omega
    have hq2 : qd p q ≤ p.hrd := by unfold qd; split <;> omega
    show TL p (.rep w a x q) (if a - 1 = 0 then (if w then .norm 0 (qd p q) else .ready (qd p q)) else .rep w (a - 1) (xd p x) (qd p q)) _ (c + 1) (d + 1)
    split
    · cases w
      · exact ⟨fun h => absurd h (by simp [NS.st]), fun h => absurd h (by simp [NS.st]), fun _ => ⟨⟨by show p.hrd - p.hrd ≤ 0; omega, by show (0 : Int) ≤ _; omega⟩, by simp [NS.st, sentS]⟩, fun _ => ⟨⟨hq, by show d + 1 ≤ _; omega⟩, fun _ => by show d + 1 < _; omega⟩⟩
      · exact ⟨fun h => absurd h (by simp [NS.st]), fun h => absurd h (by simp [NS.st]), fun _ => ⟨⟨by show p.hrd - p.hrd ≤ 0; omega, rfl⟩, by simp [NS.st, sentS]⟩, fun _ => ⟨⟨hq, rfl⟩, fun _ => by show (0 : Int) < _; omega⟩⟩
    · cases w
      · exact ⟨fun h => absurd h (by simp [NS.st]), fun h => absurd h (by simp [NS.st]), fun _ => ⟨⟨by show p.hrd - p.hrd ≤ 0; omega, fun _ => rfl, by show (0 : Int) ≤ p.rep - (a - 1); omega⟩, by simp [NS.st, sentS]⟩, fun _ => ⟨⟨hq, fun h => by simp at h, by show d + 1 ≤ p.rep - (a - 1); omega⟩, fun _ => by show d + 1 < _; omega⟩⟩
      · exact ⟨fun h => absurd h (by simp [NS.st]), fun h => absurd h (by simp [NS.st]), fun _ => ⟨⟨by show p.hrd - p.hrd ≤ 0; omega, fun _ => rfl, by show (0 : Int) ≤ p.rep - (a - 1); omega⟩, by simp [NS.st, sentS]⟩, fun _ => ⟨⟨hq, fun _ => rfl, by show (0 : Int) ≤ p.rep - (a - 1); omega⟩, fun _ => by show (0 : Int) < _; omega⟩⟩
end Go.Proofs.Ytmmpblbdjnlciaa
