/-
  The plain law of stuffing: what is stuffed is read back; no program in sight. Condition: what the theorems state ahead.
-/
import Derived.Test.YthdcegeampcalaaGreatDoorEd
namespace Go.Stuff

abbrev X := UInt8 × Nat
/-- What is known behind a bit; what the bit is (1 data, 2 put in, 3 an error). -/
def sst (x : X) (c : UInt8) : X := if x.2 = 5 then (if c = x.1 then x else (c, 1)) else if c = x.1 then (x.1, x.2 + 1) else (c, 1)
def kind (x : X) (c : UInt8) : Nat := if x.2 = 5 then (if c = x.1 then 3 else 2) else 1
def oth (c : UInt8) : UInt8 := c ^^^ 48 ^^^ 49
def isB (c : UInt8) : Prop := c = 48 ∨ c = 49
theorem oth_ne {c : UInt8} (h : isB c) : oth c ≠ c := by rcases h with rfl | rfl <;> decide
theorem oth_eq {c d : UInt8} (h : isB c) (h' : isB d) (hn : d ≠ c) : d = oth c := by
  rcases h with rfl | rfl <;> rcases h' with rfl | rfl <;> first | rfl | exact absurd rfl hn
theorem oth_b {c : UInt8} (h : isB c) : isB (oth c) := by rcases h with rfl | rfl <;> unfold isB <;> decide

def stuffL (x : X) : List UInt8 → List UInt8
  | [] => []
  | c :: l => if (sst x c).2 = 5 then c :: oth c :: stuffL (sst (sst x c) (oth c)) l else c :: stuffL (sst x c) l
def stuffE (x : X) : List UInt8 → X
  | [] => x
  | c :: l => if (sst x c).2 = 5 then stuffE (sst (sst x c) (oth c)) l else stuffE (sst x c) l
theorem stuffE_app (l : List UInt8) : ∀ (x : X) (m : List UInt8), stuffE x (l ++ m) = stuffE (stuffE x l) m := by
  induction l with
  | nil => intro x m; rfl
  | cons c l ih => intro x m; simp only [List.cons_append, stuffE]; split <;> exact ih _ _
theorem stuffL_app (l : List UInt8) : ∀ (x : X) (m : List UInt8), stuffL x (l ++ m) = stuffL x l ++ stuffL (stuffE x l) m := by
  induction l with
  | nil => intro x m; rfl
  | cons c l ih => intro x m; simp only [List.cons_append, stuffL, stuffE]; split <;> simp [ih]
theorem sst_five {x : X} {c : UInt8} (hx : x.2 ≤ 4) (h : (sst x c).2 = 5) : x.2 = 4 ∧ c = x.1 ∧ sst x c = (c, 5) := by
  unfold sst at h ⊢
  rw [if_neg (by omega)] at h ⊢
  split at h
  · rename_i e
    rw [if_pos e]
    have h : x.2 + 1 = 5 := h
    exact ⟨by omega, e, by rw [e, h]⟩
  · exact absurd h (by simp)
theorem sst_le {x : X} {c : UInt8} (hx : x.2 ≤ 4) : (sst x c).2 ≤ x.2 + 1 ∧ (sst x c).1 = c ∧ 1 ≤ (sst x c).2 := by
  unfold sst
  rw [if_neg (by omega)]
  split
  · rename_i e; exact ⟨Nat.le_refl _, e.symm, by simp⟩
  · exact ⟨by simp, rfl, Nat.le_refl _⟩
theorem sst_oth {c : UInt8} (h : isB c) : sst (c, 5) (oth c) = (oth c, 1) := by
  unfold sst
  rw [if_pos rfl, if_neg (oth_ne h)]
theorem kind_data {x : X} (c : UInt8) (hx : x.2 ≤ 4) : kind x c = 1 := by unfold kind; rw [if_neg (by omega)]
theorem stuffE_le (l : List UInt8) : ∀ (x : X), x.2 ≤ 4 → (∀ c ∈ l, isB c) → (stuffE x l).2 ≤ 4 := by
  induction l with
  | nil => exact fun x h _ => h
  | cons c l ih =>
    intro x hx hb
    simp only [stuffE]
    have hc := hb c (by simp)
    split
    · rename_i h
      obtain ⟨h1, h2, h3⟩ := sst_five hx h
      rw [h3, sst_oth hc]
      exact ih _ (by show 1 ≤ 4; decide) fun d hd => hb d (by simp [hd])
    · rename_i h
      have := (sst_le (c := c) hx).1
      exact ih _ (by omega) fun d hd => hb d (by simp [hd])

def unst : X → List UInt8 → Option (List UInt8 × X)
  | x, [] => some ([], x)
  | x, c :: l => if kind x c = 3 then none else (unst (sst x c) l).map fun p => (if kind x c = 1 then c :: p.1 else p.1, p.2)
theorem unst_app (l : List UInt8) : ∀ (x : X) (m : List UInt8), unst x (l ++ m) = (unst x l).bind fun p => (unst p.2 m).map fun q => (p.1 ++ q.1, q.2) := by
  induction l with
  | nil => intro x m; simp [unst]
  | cons c l ih =>
    intro x m
    simp only [List.cons_append, unst]
    split
    · rfl
    · rw [ih]
      cases unst (sst x c) l with
      | none => rfl
      | some p =>
        simp only [Option.bind_some, Option.map_some]
        cases unst p.2 m with
        | none => rfl
        | some q =>
          simp only [Option.map_some]
          split <;> rfl
/-- What is stuffed is unstuffed as it was. -/
theorem unst_stuff (l : List UInt8) : ∀ (x : X), x.2 ≤ 4 → (∀ c ∈ l, isB c) → unst x (stuffL x l) = some (l, stuffE x l) := by
  induction l with
  | nil => exact fun x _ _ => rfl
  | cons c l ih =>
    intro x hx hb
    have hc := hb c (by simp)
    have hl : ∀ d ∈ l, isB d := fun d hd => hb d (by simp [hd])
    simp only [stuffL, stuffE]
    split
    · rename_i h
      obtain ⟨h1, h2, h3⟩ := sst_five hx h
      rw [h3, sst_oth hc]
      simp only [unst]
      rw [kind_data c hx, h3, sst_oth hc, ih _ (by show 1 ≤ 4; decide) hl]
      have : kind (c, 5) (oth c) = 2 := by unfold kind; rw [if_pos rfl, if_neg (oth_ne hc)]
      rw [this]
      rfl
    · rename_i h
      have := (sst_le (c := c) hx).1
      simp only [unst]
      rw [kind_data c hx, ih _ (by omega) hl]
      rfl
/-- What is unstuffed, stuffed, is the row. -/
theorem stuff_unst : ∀ (n : Nat) (s : List UInt8) (x : X) (o : List UInt8) (y : X), s.length ≤ n → x.2 ≤ 4 → (∀ c ∈ s, isB c) → unst x s = some (o, y) → y.2 ≠ 5 → stuffL x o = s
  | n, [], x, o, y, _, _, _, h, _ => by
    simp only [unst, Option.some.injEq, Prod.mk.injEq] at h
    rw [← h.1]; rfl
  | n + 1, c :: s, x, o, y, hn, hx, hb, h, hy => by
    have hc := hb c (by simp)
    have hl : ∀ d ∈ s, isB d := fun d hd => hb d (by simp [hd])
    simp only [unst, kind_data c hx] at h
    rw [if_neg (by decide)] at h
    simp only [Option.map_eq_some_iff, if_true] at h
    obtain ⟨⟨o', y'⟩, h1, h2⟩ := h
    simp only [Prod.mk.injEq] at h2
    obtain ⟨rfl, rfl⟩ := h2
    simp only [stuffL]
    split
    · rename_i h5
      obtain ⟨e1, e2, e3⟩ := sst_five hx h5
      rw [e3] at h1 ⊢
      rw [sst_oth hc]
      cases s with
      | nil =>
        simp only [unst, Option.some.injEq, Prod.mk.injEq] at h1
        exact absurd (by rw [← h1.2]) hy
      | cons d s =>
        have hd := hl d (by simp)
        simp only [unst] at h1
        have hk : kind (c, 5) d = if d = c then 3 else 2 := by unfold kind; rw [if_pos rfl]
        by_cases e : d = c
        · rw [hk, if_pos e] at h1; simp at h1
        · obtain rfl := oth_eq hc hd e
          rw [hk, if_neg e, sst_oth hc, if_neg (show ¬ (2 : Nat) = 3 by decide)] at h1
          simp only [Option.map_eq_some_iff] at h1
          obtain ⟨p, h3, h4⟩ := h1
          simp at h4
          obtain ⟨h4, h5⟩ := h4
          have := stuff_unst n s (oth c, 1) o' y' (by simp at hn; omega) (by show 1 ≤ 4; decide) (fun d hd => hl d (by simp [hd])) (by rw [h3, ← h4, ← h5]) hy
          rw [this]
    · rename_i h5
      have := (sst_le (c := c) hx).1
      rw [stuff_unst n s _ o' y' (by simpa using hn) (by omega) hl h1 hy]
theorem stuff_len (l : List UInt8) : ∀ (x : X), x.2 ≤ 4 → (∀ c ∈ l, isB c) → l.length ≤ (stuffL x l).length ∧ 4 * (stuffL x l).length ≤ 5 * l.length + x.2 := by
  induction l with
  | nil => exact fun x _ _ => ⟨Nat.le_refl _, by simp [stuffL]⟩
  | cons c l ih =>
    intro x hx hb
    have hc := hb c (by simp)
    have hl : ∀ d ∈ l, isB d := fun d hd => hb d (by simp [hd])
    simp only [stuffL]
    split
    · rename_i h
      obtain ⟨h1, h2, h3⟩ := sst_five hx h
      rw [h3, sst_oth hc]
      have := ih (oth c, 1) (by show 1 ≤ 4; decide) hl
      simp only [List.length_cons] at this ⊢
      omega
    · rename_i h
      have h1 := (sst_le (c := c) hx).1
      have := ih (sst x c) (by omega) hl
      simp only [List.length_cons]
      omega
theorem stuff_bits (l : List UInt8) : ∀ (x : X), (∀ c ∈ l, isB c) → ∀ c ∈ stuffL x l, isB c := by
  induction l with
  | nil => intro x _ c hc; simp [stuffL] at hc
  | cons d l ih =>
    intro x hb c hc
    have hd := hb d (by simp)
    have hl : ∀ d ∈ l, isB d := fun d hd => hb d (by simp [hd])
    simp only [stuffL] at hc
    split at hc
    · simp only [List.mem_cons] at hc
      rcases hc with rfl | rfl | hc
      · exact hd
      · exact oth_b hd
      · exact ih _ hl c hc
    · simp only [List.mem_cons] at hc
      rcases hc with rfl | hc
      · exact hd
      · exact ih _ hl c hc
/-- Six equal bits are told, wherever they stand. -/
theorem unst_le (l : List UInt8) : ∀ (x : X), x.2 ≤ 5 → ∀ p, unst x l = some p → p.2.2 ≤ 5 := by
  induction l with
  | nil => intro x hx p h; simp only [unst, Option.some.injEq] at h; rw [← h]; exact hx
  | cons c l ih =>
    intro x hx p h
    simp only [unst] at h
    split at h
    · cases h
    · simp only [Option.map_eq_some_iff] at h
      obtain ⟨q, h1, h2⟩ := h
      have : (sst x c).2 ≤ 5 := by
        unfold sst
        split
        · split
          · exact hx
          · show 1 ≤ 5; decide
        · split
          · show x.2 + 1 ≤ 5; omega
          · show 1 ≤ 5; decide
      have := ih _ this q h1
      rw [← h2]; exact this
theorem unst_run (c : UInt8) (v : List UInt8) : ∀ (k m : Nat), m ≤ 5 → 6 ≤ k + m → unst (c, m) (List.replicate k c ++ v) = none
  | 0, m, hm, h => by omega
  | k + 1, m, hm, h => by
    rw [List.replicate_succ, List.cons_append]
    simp only [unst]
    by_cases e : m = 5
    · subst e
      rw [if_pos (by unfold kind; rw [if_pos rfl, if_pos rfl])]
    · have hk : kind (c, m) c = 1 := by unfold kind; rw [if_neg e]
      have hs : sst (c, m) c = (c, m + 1) := by unfold sst; rw [if_neg e, if_pos rfl]
      rw [hk, hs, unst_run c v k (m + 1) (by omega) (by omega)]
      rfl
theorem unst_six (x : X) (hx : x.2 ≤ 5) (c : UInt8) (v : List UInt8) : unst x (List.replicate 6 c ++ v) = none := by
  by_cases e : c = x.1
  · have : x = (c, x.2) := by rw [e]
    rw [this]
    exact unst_run c v 6 x.2 hx (by omega)
  · rw [List.replicate_succ, List.cons_append]
    simp only [unst]
    have hs : sst x c = (c, 1) := by unfold sst; simp [e]
    rw [hs, unst_run c v 5 1 (by omega) (by omega)]
    split <;> rfl
theorem unst_six_in (x : X) (hx : x.2 ≤ 5) (u v : List UInt8) (c : UInt8) : unst x (u ++ (List.replicate 6 c ++ v)) = none := by
  rw [unst_app]
  cases h : unst x u with
  | none => rfl
  | some p =>
    simp only [Option.bind_some]
    rw [unst_six p.2 (unst_le u x hx p h)]
    rfl
theorem stuff_no_six (l : List UInt8) (hb : ∀ c ∈ l, isB c) (u v : List UInt8) (c : UInt8) : stuffL (0, 0) l ≠ u ++ (List.replicate 6 c ++ v) := by
  intro h
  have h1 := unst_stuff l (0, 0) (by decide) hb
  rw [h, unst_six_in _ (by decide)] at h1
  cases h1

def has5 (s : List UInt8) : Prop := ∃ u v c, s = u ++ (List.replicate 5 c ++ v)
theorem stuff_run (c : UInt8) (v : List UInt8) (hc : isB c) (hv : ∀ d ∈ v, isB d) : ∀ (k m : Nat), m ≤ 4 → 5 ≤ k + m → k + v.length < (stuffL (c, m) (List.replicate k c ++ v)).length
  | 0, m, hm, h => by omega
  | k + 1, m, hm, h => by
    rw [List.replicate_succ, List.cons_append]
    have hs : sst (c, m) c = (c, m + 1) := by unfold sst; rw [if_neg (show ¬ m = 5 by omega), if_pos rfl]
    have hb : ∀ d ∈ List.replicate k c ++ v, isB d := by
      intro d hd
      rcases List.mem_append.1 hd with hd | hd
      · rw [List.eq_of_mem_replicate hd]; exact hc
      · exact hv d hd
    simp only [stuffL, hs]
    split
    · rename_i e
      have e : m = 4 := by omega
      subst e
      have := (stuff_len (List.replicate k c ++ v) (sst (c, 4 + 1) (oth c)) (by rw [sst_oth hc]; show 1 ≤ 4; decide) hb).1
      simp only [List.length_cons, List.length_append, List.length_replicate] at this ⊢
      omega
    · rename_i e
      have := stuff_run c v hc hv k (m + 1) (by omega) (by omega)
      simp only [List.length_cons]
      omega
theorem stuff_five (x : X) (hx : x.2 ≤ 4) (c : UInt8) (v : List UInt8) (hc : isB c) (hv : ∀ d ∈ v, isB d) : 5 + v.length < (stuffL x (List.replicate 5 c ++ v)).length := by
  by_cases e : c = x.1
  · have : x = (c, x.2) := by rw [e]
    rw [this]
    exact stuff_run c v hc hv 5 x.2 hx (by omega)
  · rw [List.replicate_succ, List.cons_append]
    have hs : sst x c = (c, 1) := by unfold sst; simp [e]
    simp only [stuffL, hs]
    rw [if_neg (by decide)]
    have := stuff_run c v hc hv 4 1 (by omega) (by omega)
    simp only [List.length_cons]
    omega
theorem stuff_same_no5 (s : List UInt8) (hb : ∀ c ∈ s, isB c) (h : stuffL (0, 0) s = s) : ¬ has5 s := by
  rintro ⟨u, v, c, rfl⟩
  have h := congrArg List.length h
  rw [stuffL_app] at h
  have h1 := (stuff_len u (0, 0) (by decide) fun d hd => hb d (by simp [hd])).1
  have h2 := stuff_five (stuffE (0, 0) u) (stuffE_le u _ (by decide) fun d hd => hb d (by simp [hd])) c v (hb c (by simp)) fun d hd => hb d (by simp [hd])
  simp only [List.length_append, List.length_replicate] at h h1 h2
  omega
theorem no5_same (s : List UInt8) : ∀ (x : X), x.2 ≤ 4 → ¬ has5 (List.replicate x.2 x.1 ++ s) → stuffL x s = s ∧ ∀ h : s ≠ [], (stuffE x s).1 = s.getLast h := by
  induction s with
  | nil => intro x _ _; exact ⟨rfl, fun h => absurd rfl h⟩
  | cons c s ih =>
    intro x hx h
    by_cases e : c = x.1
    · have hs : sst x c = (x.1, x.2 + 1) := by unfold sst; rw [if_neg (by omega), if_pos e]
      have h' : ¬ has5 (List.replicate (x.2 + 1) x.1 ++ s) := by
        rw [List.replicate_succ', List.append_assoc]
        rw [e] at h; exact h
      have h4 : x.2 + 1 ≤ 4 := by
        rcases Nat.lt_or_ge 3 x.2 with g | g
        · exact absurd ⟨[], s, x.1, by rw [show x.2 + 1 = 5 by omega]; rfl⟩ h'
        · omega
      have := ih (x.1, x.2 + 1) h4 h'
      simp only [stuffL, stuffE, hs]
      rw [if_neg (show ¬ x.2 + 1 = 5 by omega), if_neg (show ¬ x.2 + 1 = 5 by omega), this.1]
      refine ⟨rfl, fun _ => ?_⟩
      by_cases hn : s = []
      · subst hn; exact e.symm
      · rw [this.2 hn, List.getLast_cons hn]
    · have hs : sst x c = (c, 1) := by unfold sst; rw [if_neg (by omega), if_neg e]
      have h' : ¬ has5 (List.replicate 1 c ++ s) := by
        rintro ⟨u, v, d, hu⟩
        exact h ⟨List.replicate x.2 x.1 ++ u, v, d, by rw [List.append_assoc, ← hu]; rfl⟩
      have := ih (c, 1) (by show 1 ≤ 4; decide) h'
      simp only [stuffL, stuffE, hs]
      rw [if_neg (show ¬ 1 = 5 by decide), if_neg (show ¬ 1 = 5 by decide), this.1]
      refine ⟨rfl, fun _ => ?_⟩
      by_cases hn : s = []
      · subst hn; rfl
      · rw [this.2 hn, List.getLast_cons hn]
theorem no5_stuff (s : List UInt8) (h : ¬ has5 s) : stuffL (0, 0) s = s ∧ ∀ hn : s ≠ [], (stuffE (0, 0) s).1 = s.getLast hn := no5_same s (0, 0) (by decide) h
/-- A bit, and four of the other one behind it. -/
theorem five_behind (s : List UInt8) (h5 : ¬ has5 s) (hb : ∀ c ∈ s, isB c) (x y : UInt8) (hx : isB x) (hy : isB y) (hxy : x ≠ y) (hl : ∀ hn : s ≠ [], s.getLast hn ≠ x) :
    stuffL (0, 0) (s ++ [x, y, y, y, y]) = s ++ [x, y, y, y, y] ∧ stuffL (0, 0) (s ++ [x, y, y, y, y, y]) = s ++ [x, y, y, y, y, y, x] := by
  obtain ⟨e1, e2⟩ := no5_stuff s h5
  have hq := stuffE_le s (0, 0) (by decide) hb
  have hne : ¬ x = (stuffE (0, 0) s).1 := by
    by_cases hn : s = []
    · subst hn
      show ¬ x = 0
      rcases hx with rfl | rfl <;> decide
    · rw [e2 hn]; exact fun h => hl hn h.symm
  have s1 : sst (stuffE (0, 0) s) x = (x, 1) := by unfold sst; simp [hne]
  have s2 : sst (x, 1) y = (y, 1) := by unfold sst; rw [if_neg (show ¬ (1 : Nat) = 5 by decide), if_neg (fun e => hxy e.symm)]
  have s3 : ∀ n, n < 5 → sst (y, n) y = (y, n + 1) := fun n hn => by unfold sst; rw [if_neg (show ¬ n = 5 by omega), if_pos rfl]
  have s4 : oth y = x := (oth_eq hy hx hxy).symm
  constructor
  · rw [stuffL_app, e1]
    congr 1
    simp only [stuffL, s1, s2, s3 1 (by decide), s3 2 (by decide), s3 3 (by decide)]
    rfl
  · rw [stuffL_app, e1]
    congr 1
    simp only [stuffL, s1, s2, s3 1 (by decide), s3 2 (by decide), s3 3 (by decide), s3 4 (by decide), s4]
    rfl
end Go.Stuff
