import Derived.Test.YthibaeeoegoliaaF9
open Go Go.Proofs Go.RowKit Go.Sy Go.Signal
namespace Go.Proofs.Ythibaeeoegoliaa

theorem mx_foldl (l : List Int) : ∀ a, (64 ≤ l.foldl max a ↔ 64 ≤ a ∨ ∃ x ∈ l, 64 ≤ x) := by
  induction l with
  | nil => intro a; simp
  | cons b l ih =>
    intro a
    rw [List.foldl_cons, ih]
    simp only [List.mem_cons, exists_eq_or_imp]
    rw [Int.max_def]
    split <;> constructor <;> rintro (h | h) <;> first | (left; omega) | (right; left; omega) | (right; right; exact h) | (right; exact h) | skip
    all_goals first | (rcases h with h | h <;> first | (left; omega) | (right; exact h)) | skip
theorem mx_any {l : List Nat} (h : 1 ≤ l.length) : 64 ≤ mxL (intsN l) ↔ l.any (fun z => decide (64 ≤ z)) = true := by
  cases l with
  | nil => simp at h
  | cons a l =>
    show 64 ≤ (l.map fun (a : Nat) => (a : Int)).foldl max (a : Int) ↔ _
    rw [mx_foldl]
    simp only [List.any_cons, Bool.or_eq_true, decide_eq_true_eq, List.any_eq_true, List.mem_map]
    constructor
    · rintro (h | ⟨x, ⟨y, hy, rfl⟩, hx⟩)
      · left; omega
      · right; exact ⟨y, hy, by omega⟩
    · rintro (h | ⟨y, hy, hx⟩)
      · left; omega
      · right; exact ⟨_, ⟨y, hy, rfl⟩, by omega⟩
theorem outL_any (big : Bool) (a k : Nat) (f : Nat → Bool) : (outL big a k).any f = (ats big a k).any f := by
  unfold outL
  split
  · exact List.any_reverse
  · rfl
theorem encN_ints (l : List Nat) : encN l = (intsN l).map fun v => Value.int .i64 v := by
  simp [encN, intsN]
theorem encN_rev (l : List Nat) : encN l.reverse = (intsN l).reverse.map fun v => Value.int .i64 v := by
  simp [encN, intsN, List.map_reverse]
theorem hMax0 (base : Nat) (W : World) (v : Value) (l : List Nat) (hr : W.ownsRow base 3 1 v l.length (encN l)) (h1 : 1 ≤ l.length) (hl : l.length ≤ 64) :
    CallsIn Fence.wide (3 - 1) Try.prog 24 #[v] W fun e W' => e = .returned (.int .i64 (mxL (intsN l))) ∧ Below W.heap.size W W' := by
  have hn : (intsN l).length = l.length := List.length_map _
  rw [encN_ints, ← hn] at hr
  exact callsIn_wide.2 (max_calls base W v (intsN l) hr (by omega) (by omega))
theorem hRev0 (base : Nat) (W : World) (v : Value) (l : List Nat) (hr : W.ownsRow base 3 1 v l.length (encN l)) (h1 : 1 ≤ l.length) (hl : l.length ≤ 64) :
    CallsIn Fence.wide (3 - 1) Try.prog 33 #[v] W fun e W' => (∃ u, e = .returned u) ∧ W'.ownsRow base 3 1 v l.length (encN l.reverse) ∧ W.grownBy W' v.ownBlock := by
  have hn : (intsN l).length = l.length := List.length_map _
  rw [encN_ints, ← hn] at hr
  have := rev_calls base W v (intsN l) hr (by omega) (by omega)
  rw [← encN_rev, hn] at this
  exact callsIn_wide.2 this
/-- What the walk of the kit said of a signal that may be. -/
def Said (w : World) (big : Bool) (a k : Nat) (e : Ending) (W' : World) : Prop :=
  ∃ v, e = .returned v ∧ Below w.heap.size w W' ∧
      ((64 ≤ mxL (intsN (outL big a k)) ∧ v = .slice none 0 0) ∨ (mxL (intsN (outL big a k)) < 64 ∧ W'.ownsRow (w.heap.size + 4) 3 1 v k (encN (outL big a k))))
theorem places_said (s : Sig) (hb : bad s = false) (w : World) : Calls Try.prog 23 #[.agg #[.int .i64 s.start, .int .i64 s.width, .bool s.big, .bool s.sgn]] w (Said w s.big s.start.toNat s.width.toNat) := by
  unfold bad at hb
  simp only [Bool.or_eq_false_iff, decide_eq_false_iff_not] at hb
  obtain ⟨⟨⟨⟨b1, b2⟩, b3⟩, b4⟩, b5⟩ := hb
  obtain ⟨st, wd, big, sgn⟩ := s
  dsimp only at b1 b2 b3 b4 b5 ⊢
  obtain ⟨a, rfl⟩ : ∃ a : Nat, st = a := ⟨st.toNat, by omega⟩
  obtain ⟨k, rfl⟩ : ∃ k : Nat, wd = k := ⟨wd.toNat, by omega⟩
  rw [Int.toNat_natCast, Int.toNat_natCast]
  refine callsIn_wide (n := 3).1 ?_
  by_cases h64 : k = 64
  · subst h64
    have hs : sgn = true := by cases sgn with
      | true => rfl
      | false => simp at b5
    subst hs
    cases big with
    | false => exact placesW_in Fence.wide 3 trivial trivial trivial trivial trivial trivial trivial rfl (by omega) a () (by omega) 64 (by omega) (by omega) (fun _ => rfl) w hMax0 hRev0
    | true => exact placesE_in Fence.wide 3 trivial trivial trivial trivial trivial trivial trivial rfl (by omega) a () (by omega) 64 (by omega) (by omega) (fun _ => rfl) w hMax0 hRev0
  · cases big with
    | false => exact placesU_in Fence.wide 3 trivial trivial trivial trivial trivial trivial trivial rfl (by omega) a sgn (by omega) k (by omega) (by omega) (by omega) w hMax0 hRev0
    | true => exact placesD_in Fence.wide 3 trivial trivial trivial trivial trivial trivial trivial rfl (by omega) a sgn (by omega) k (by omega) (by omega) (by omega) w hMax0 hRev0
theorem places_good (s : Sig) (hb : bad s = false) : Eff Try.prog 23 [.agg (sC s)] [] 0 (fun r _ _ => r = plR s) := by
  refine ⟨enters (fn := Try.f23) rfl rfl rfl, fun cx vs hP hF hH hs hd => ?_⟩
  obtain ⟨y, rfl⟩ : ∃ y, vs = #[y] := ⟨vs[0]'(by rw [hs]; exact Nat.one_pos), by
    apply Array.ext
    · exact hs
    · intro j h1 h2
      have : j = 0 := by simp at h2; omega
      subst this; rfl⟩
  have hv : y = .agg #[.int .i64 s.start, .int .i64 s.width, .bool s.big, .bool s.sgn] := by
    have := hd 0 (.agg (sC s)) y rfl rfl
    cases this with
    | agg us g1 g2 =>
      have h4 : us.size = 4 := g1
      have e0 := (g2 0 (.i s.start) us[0] rfl (by simp [h4])).vv
      have e1 := (g2 1 (.i s.width) us[1] rfl (by simp [h4])).vv
      have e2 := (g2 2 (.b s.big) us[2] rfl (by simp [h4])).vv
      have e3 := (g2 3 (.b s.sgn) us[3] rfl (by simp [h4])).vv
      congr 1
      apply Array.ext
      · exact g1
      · intro j h3 h5
        have : j = 0 ∨ j = 1 ∨ j = 2 ∨ j = 3 := by omega
        rcases this with rfl | rfl | rfl | rfl
        · exact e0
        · exact e1
        · exact e2
        · exact e3
  subst hv
  have hb0 := hb
  unfold bad at hb
  simp only [Bool.or_eq_false_iff, decide_eq_false_iff_not] at hb
  obtain ⟨⟨⟨⟨b1, b2⟩, b3⟩, b4⟩, b5⟩ := hb
  refine (places_said s hb0 cx.w0).mono ?_
  rintro e w' ⟨v, rfl, hB, hr⟩
  have hlen := outL_len s.big s.start.toNat s.width.toNat
  have hany := mx_any (l := outL s.big s.start.toNat s.width.toNat) (by omega)
  rw [outL_any] at hany
  have hHn : ∀ (ok : Nat → Prop), (∀ b, cx.ok0 b → ok b) → (∀ b, ok b → b < w'.heap.size) → (∀ b, ok b → cx.ok0 b ∨ cx.w0.heap.size ≤ b ∨ cx.F b) → HInv cx cx.μ0 ok [] 0 w' := fun ok k1 k2 k3 =>
    ⟨hH.mu, hH.fresh, k1, k2, k3, fun i B hi => absurd hi (by simp [aget]), fun i j B C b hi => absurd hi (by simp [aget]), fun b hb _ => hB.block b hb, hB.size, hB.os, hB.tape, hB.output⟩
  rcases hr with ⟨hm, rfl⟩ | ⟨hm, hrow⟩
  · have hR : plR s = .d .nil := by
      unfold plR places
      rw [if_neg (by rw [hb0]; decide), if_pos (hany.1 hm)]
    rw [hR]
    exact ⟨_, cx.μ0, cx.ok0, .d .nil, [], 0, rfl, hHn _ (fun _ h => h) (fun b hb => Nat.lt_of_lt_of_le (hH.lt b hb) hB.size) (fun _ h => .inl h), .d .nil, rfl⟩
  · have hR : plR s = slI (intsN (outL s.big s.start.toNat s.width.toNat)) := by
      unfold plR places
      rw [if_neg (by rw [hb0]; decide), if_neg (fun h => by have := hany.2 h; omega)]
      rfl
    rw [hR]
    rw [encN_ints] at hrow
    have hn : (intsN (outL s.big s.start.toNat s.width.toNat)).length = s.width.toNat := by rw [List.length_map, hlen]
    refine ⟨_, cx.μ0, fun b => cx.ok0 b ∨ v.ownBlock = some b, _, [], 0, rfl, hHn _ (fun _ h => .inl h) (fun b hb => ?_) (fun b hb => ?_), .d (row_den (base := cx.w0.heap.size + 4) (by rw [hn]; exact hrow) (by omega) (fun b hb => .inr hb)), rfl⟩
    · rcases hb with hb | hb
      · exact Nat.lt_of_lt_of_le (hH.lt b hb) hB.size
      · exact (hrow.lt b hb).2
    · rcases hb with hb | hb
      · exact .inl hb
      · have := (hrow.lt b hb).1
        exact .inr (.inl (by omega))
end Go.Proofs.Ythibaeeoegoliaa
