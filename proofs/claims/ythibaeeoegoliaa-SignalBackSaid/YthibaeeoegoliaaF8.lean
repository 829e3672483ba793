import Derived.Test.YthibaeeoegoliaaF7
open Go Go.Proofs Go.RowKit Go.Sy Go.Signal
namespace Go.Proofs.Ythibaeeoegoliaa

/-- The row when its first i have been changed with its last i. -/
def rvL (l : List Int) (i : Nat) : List Int := (List.range l.length).map fun j => if j < i ∨ l.length ≤ i + j then l.getD (l.length - 1 - j) 0 else l.getD j 0
theorem rvL_len (l : List Int) (i : Nat) : (rvL l i).length = l.length := by simp [rvL]
theorem rvL_at (l : List Int) (i j : Nat) (h : j < l.length) : (rvL l i)[j]? = some (if j < i ∨ l.length ≤ i + j then l.getD (l.length - 1 - j) 0 else l.getD j 0) := by
  simp [rvL, h]
theorem rvL_0 (l : List Int) : rvL l 0 = l := by
  apply List.ext_getElem?
  intro j
  by_cases h : j < l.length
  · rw [rvL_at l 0 j h, if_neg (by omega), List.getD_eq_getElem?_getD, List.getElem?_eq_getElem h]; rfl
  · rw [List.getElem?_eq_none (by rw [rvL_len]; omega), List.getElem?_eq_none (by omega)]
theorem rvL_end (l : List Int) (i : Nat) (h : l.length ≤ 2 * i + 1) : rvL l i = l.reverse := by
  apply List.ext_getElem?
  intro j
  by_cases hj : j < l.length
  · rw [rvL_at l i j hj, List.getElem?_reverse hj]
    have h2 : l[l.length - 1 - j]? = some (l.getD (l.length - 1 - j) 0) := by
      rw [List.getD_eq_getElem?_getD, List.getElem?_eq_getElem (by omega)]; rfl
    rw [h2]
    by_cases c : j < i ∨ l.length ≤ i + j
    · rw [if_pos c]
    · rw [if_neg c, show j = l.length - 1 - j by omega]
      congr 2
      omega
  · rw [List.getElem?_eq_none (by rw [rvL_len]; omega), List.getElem?_eq_none (by simp; omega)]
theorem rvL_step (l : List Int) (i : Nat) (h : 2 * i + 1 < l.length) : ((rvL l i).set i (l.getD (l.length - 1 - i) 0)).set (l.length - 1 - i) (l.getD i 0) = rvL l (i + 1) := by
  apply List.ext_getElem?
  intro j
  by_cases hj : j < l.length
  · rw [rvL_at l (i + 1) j hj, List.getElem?_set, List.getElem?_set, List.length_set, rvL_len]
    by_cases h1 : l.length - 1 - i = j
    · rw [if_pos h1, if_pos (by omega), if_pos (by omega), ← h1]
      congr 2
      omega
    · rw [if_neg h1]
      by_cases h2 : i = j
      · rw [if_pos h2, if_pos (by omega), if_pos (by omega), h2]
      · rw [if_neg h2, rvL_at l i j hj]
        by_cases c : j < i ∨ l.length ≤ i + j
        · rw [if_pos c, if_pos (by omega)]
        · rw [if_neg c, if_neg (by omega)]
  · rw [List.getElem?_eq_none (by simp [rvL_len]; omega), List.getElem?_eq_none (by rw [rvL_len]; omega)]
abbrev rowS (l : List Int) : List (List SV) := (rowI l).map (·.map SV.d)
theorem rowS_at {l : List Int} {j : Nat} {v : Int} (h : l[j]? = some v) : (rowS l)[j]? = some [SV.i v] := by
  simp [h]
theorem rowS_set (l : List Int) (j : Nat) (v : Int) : (rowS l).set j [SV.i v] = rowS (l.set j v) := by
  simp [List.map_set]
set_option maxRecDepth 100000 in
set_option maxHeartbeats 4000000 in
theorem rev_eff (l : List Int) (C : Nat) (h1 : 1 ≤ l.length) (hl : l.length ≤ 64) : Eff Try.prog 33 [.own 0 1 0 l.length C] [(0, .row 3 false 1 (rowS l) C)] 1 (fun _ h _ => aget 0 h = some (.row 3 false 1 (rowS l.reverse) C)) := by
  refine eff_of Try.func33 rfl rfl rfl fun cx e hP => ?_
  refine AWP.runL e tab_ok L33 300 rfl (by first | trivial | (simp [in64] <;> omega) | (simp only [in64, true_and, and_true]; omega)) ?_
  refine AWP.eqT 3 (.i ((l.length : Int) - 1 - ((0 : Nat) : Int))) rfl (by simp) ?_
  refine AWP.loop (ι := Nat) (fun i => ⟨[(3, .i ((l.length : Int) - 1 - (i : Int))), (2, .i i), (0, .own 0 1 0 l.length C)], [(0, .row 3 false 1 (rowS (rvL l i)) C)], 1⟩) (fun i => 2 * i ≤ l.length + 1) (fun i => l.length - i) 0 (by omega) ?_ ?_
  · intro g
    rw [rvL_0] at g
    refine AWP.less e ?_ ?_ ?_ ?_ ?_ (g) <;> (repeat' (first | exact True.intro | (refine And.intro ?_ ?_) | rfl | assumption))
    exact okEls 1 _
  intro i Φ hi next
  have hi : 2 * i ≤ l.length + 1 := hi
  refine AWP.runL e tab_ok L33 300 rfl (by first | trivial | (simp [in64] <;> omega) | (simp only [in64, true_and, and_true]; omega)) ?_
  refine AWP.cond2 rfl (fun hlt => ?_) (fun hlt => ?_)
  · have hlt : 2 * i + 1 < l.length := by have := of_decide_eq_true hlt; omega
    have nx := next (i + 1) (by show 2 * (i + 1) ≤ l.length + 1; omega) (by show l.length - (i + 1) < l.length - i; omega)
    clear next
    rw [← rvL_step l i hlt, ← rowS_set, ← rowS_set] at nx
    have g1 := rowS_at (rvL_at l i i (by omega))
    have g2 := rowS_at (rvL_at l i (l.length - 1 - i) (by omega))
    rw [if_neg (by omega)] at g1
    rw [if_neg (by omega)] at g2
    have g3 : ((rowS (rvL l i)).set i [SV.i (l.getD (l.length - 1 - i) 0)])[l.length - 1 - i]? = some [SV.i (l.getD (l.length - 1 - i) 0)] := by
      rw [List.getElem?_set, if_neg (by omega)]; exact g2
    generalize l.getD (l.length - 1 - i) 0 = x at *
    generalize l.getD i 0 = y at *
    generalize hR : rowS (rvL l i) = R at *
    have hR0 : Blk.okR 1 (.row 3 false 1 R C) := by rw [← hR]; exact okRow _
    have hR0' : ∀ z ∈ R, SV.idsLt.go 0 z = true := by rw [← hR]; exact okEls 0 _
    have hR0'' : ∀ z ∈ R, SV.idsLt.go 1 z = true := by rw [← hR]; exact okEls 1 _
    have hR1 : ∀ z ∈ R.set i [SV.i x], SV.idsLt.go 0 z = true := by
      intro z hz
      rcases List.mem_or_eq_of_mem_set hz with h | rfl
      · rw [← hR] at h; exact okEls 0 _ z h
      · rfl
    have hR2 : ∀ z ∈ (R.set i [SV.i x]).set (l.length - 1 - i) [SV.i y], SV.idsLt.go 0 z = true := by
      intro z hz
      rcases List.mem_or_eq_of_mem_set hz with h | rfl
      · exact hR1 z h
      · rfl
    refine AWP.runL e tab_ok L33 300 rfl (by first | trivial | (simp [in64] <;> omega) | (simp only [in64, true_and, and_true]; omega)) ?_
    refine AWP.keep L33 rfl ?_
    refine AWP.drg 9 ?_
    (refine DrG.runS e tab_ok 200 rfl (by first | trivial | (simp [in64] <;> omega) | (simp only [in64, true_and, and_true]; omega)) ?_)
    repeat (
      first
        | (refine DrG.askT rfl ?_; (first | (refine Told.t rfl ?_) | (refine Told.f rfl ?_) | (refine Told.t ?_ ?_; (focus assumption)) | (refine Told.f ?_ ?_; (focus assumption)) | (refine Told.t ?_ ?_; (focus (first | (simp; omega) | (simp [*]; done)); done)) | (refine Told.f ?_ ?_; (focus (first | (simp; omega) | (simp [*]; done)); done))); (refine DrG.runS e tab_ok 200 rfl (by first | trivial | (simp [in64] <;> omega) | (simp only [in64, true_and, and_true]; omega)) ?_))
        | (refine DrG.eq_agg e tab_ok rfl rfl rfl (.inl ⟨rfl, rfl⟩) ?_ 5 (by omega) rfl ?_ rfl rfl rfl rfl rfl rfl rfl ?_; (focus kernel_rfl); (focus kernel_rfl); (refine DrG.runS e tab_ok 200 rfl (by first | trivial | (simp [in64] <;> omega) | (simp only [in64, true_and, and_true]; omega)) ?_))
        | (refine DrG.eq_aggGo e tab_ok rfl rfl rfl rfl (.inl ⟨rfl, rfl⟩) ?_ 5 (by omega) rfl ?_ rfl rfl rfl rfl rfl rfl rfl ?_; (focus kernel_rfl); (focus kernel_rfl); (refine DrG.runS e tab_ok 200 rfl (by first | trivial | (simp [in64] <;> omega) | (simp only [in64, true_and, and_true]; omega)) ?_))
        | (refine DrG.eq_agg e tab_ok rfl rfl rfl (.inr ⟨rfl, rfl⟩) ?_ 5 (by omega) rfl ?_ rfl rfl rfl rfl rfl rfl rfl ?_; (focus kernel_rfl); (focus kernel_rfl); (refine DrG.runS e tab_ok 200 rfl (by first | trivial | (simp [in64] <;> omega) | (simp only [in64, true_and, and_true]; omega)) ?_))
        | (refine DrG.eq_aggGo e tab_ok rfl rfl rfl rfl (.inr ⟨rfl, rfl⟩) ?_ 5 (by omega) rfl ?_ rfl rfl rfl rfl rfl rfl rfl ?_; (focus kernel_rfl); (focus kernel_rfl); (refine DrG.runS e tab_ok 200 rfl (by first | trivial | (simp [in64] <;> omega) | (simp only [in64, true_and, and_true]; omega)) ?_))
      )
    refine DrG.idx_own (l.length - 1 - i) e tab_ok rfl rfl rfl rfl (by omega) (by omega) rfl ?_
    refine DrG.load_el (.i x) e tab_ok rfl rfl rfl rfl (by rw [Nat.zero_add]; exact g2) rfl rfl ?_
    (refine DrG.runS e tab_ok 200 rfl (by first | trivial | (simp [in64] <;> omega) | (simp only [in64, true_and, and_true]; omega)) ?_)
    repeat (
      first
        | (refine DrG.askT rfl ?_; (first | (refine Told.t rfl ?_) | (refine Told.f rfl ?_) | (refine Told.t ?_ ?_; (focus assumption)) | (refine Told.f ?_ ?_; (focus assumption)) | (refine Told.t ?_ ?_; (focus (first | (simp; omega) | (simp [*]; done)); done)) | (refine Told.f ?_ ?_; (focus (first | (simp; omega) | (simp [*]; done)); done))); (refine DrG.runS e tab_ok 200 rfl (by first | trivial | (simp [in64] <;> omega) | (simp only [in64, true_and, and_true]; omega)) ?_))
        | (refine DrG.eq_agg e tab_ok rfl rfl rfl (.inl ⟨rfl, rfl⟩) ?_ 5 (by omega) rfl ?_ rfl rfl rfl rfl rfl rfl rfl ?_; (focus kernel_rfl); (focus kernel_rfl); (refine DrG.runS e tab_ok 200 rfl (by first | trivial | (simp [in64] <;> omega) | (simp only [in64, true_and, and_true]; omega)) ?_))
        | (refine DrG.eq_aggGo e tab_ok rfl rfl rfl rfl (.inl ⟨rfl, rfl⟩) ?_ 5 (by omega) rfl ?_ rfl rfl rfl rfl rfl rfl rfl ?_; (focus kernel_rfl); (focus kernel_rfl); (refine DrG.runS e tab_ok 200 rfl (by first | trivial | (simp [in64] <;> omega) | (simp only [in64, true_and, and_true]; omega)) ?_))
        | (refine DrG.eq_agg e tab_ok rfl rfl rfl (.inr ⟨rfl, rfl⟩) ?_ 5 (by omega) rfl ?_ rfl rfl rfl rfl rfl rfl rfl ?_; (focus kernel_rfl); (focus kernel_rfl); (refine DrG.runS e tab_ok 200 rfl (by first | trivial | (simp [in64] <;> omega) | (simp only [in64, true_and, and_true]; omega)) ?_))
        | (refine DrG.eq_aggGo e tab_ok rfl rfl rfl rfl (.inr ⟨rfl, rfl⟩) ?_ 5 (by omega) rfl ?_ rfl rfl rfl rfl rfl rfl rfl ?_; (focus kernel_rfl); (focus kernel_rfl); (refine DrG.runS e tab_ok 200 rfl (by first | trivial | (simp [in64] <;> omega) | (simp only [in64, true_and, and_true]; omega)) ?_))
      )
    refine DrG.idx_own i e tab_ok rfl rfl rfl rfl rfl (by omega) rfl ?_
    refine DrG.load_el (.i y) e tab_ok rfl rfl rfl rfl (by rw [Nat.zero_add]; exact g1) rfl rfl ?_
    (refine DrG.runS e tab_ok 200 rfl (by first | trivial | (simp [in64] <;> omega) | (simp only [in64, true_and, and_true]; omega)) ?_)
    repeat (
      first
        | (refine DrG.askT rfl ?_; (first | (refine Told.t rfl ?_) | (refine Told.f rfl ?_) | (refine Told.t ?_ ?_; (focus assumption)) | (refine Told.f ?_ ?_; (focus assumption)) | (refine Told.t ?_ ?_; (focus (first | (simp; omega) | (simp [*]; done)); done)) | (refine Told.f ?_ ?_; (focus (first | (simp; omega) | (simp [*]; done)); done))); (refine DrG.runS e tab_ok 200 rfl (by first | trivial | (simp [in64] <;> omega) | (simp only [in64, true_and, and_true]; omega)) ?_))
        | (refine DrG.eq_agg e tab_ok rfl rfl rfl (.inl ⟨rfl, rfl⟩) ?_ 5 (by omega) rfl ?_ rfl rfl rfl rfl rfl rfl rfl ?_; (focus kernel_rfl); (focus kernel_rfl); (refine DrG.runS e tab_ok 200 rfl (by first | trivial | (simp [in64] <;> omega) | (simp only [in64, true_and, and_true]; omega)) ?_))
        | (refine DrG.eq_aggGo e tab_ok rfl rfl rfl rfl (.inl ⟨rfl, rfl⟩) ?_ 5 (by omega) rfl ?_ rfl rfl rfl rfl rfl rfl rfl ?_; (focus kernel_rfl); (focus kernel_rfl); (refine DrG.runS e tab_ok 200 rfl (by first | trivial | (simp [in64] <;> omega) | (simp only [in64, true_and, and_true]; omega)) ?_))
        | (refine DrG.eq_agg e tab_ok rfl rfl rfl (.inr ⟨rfl, rfl⟩) ?_ 5 (by omega) rfl ?_ rfl rfl rfl rfl rfl rfl rfl ?_; (focus kernel_rfl); (focus kernel_rfl); (refine DrG.runS e tab_ok 200 rfl (by first | trivial | (simp [in64] <;> omega) | (simp only [in64, true_and, and_true]; omega)) ?_))
        | (refine DrG.eq_aggGo e tab_ok rfl rfl rfl rfl (.inr ⟨rfl, rfl⟩) ?_ 5 (by omega) rfl ?_ rfl rfl rfl rfl rfl rfl rfl ?_; (focus kernel_rfl); (focus kernel_rfl); (refine DrG.runS e tab_ok 200 rfl (by first | trivial | (simp [in64] <;> omega) | (simp only [in64, true_and, and_true]; omega)) ?_))
      )
    refine DrG.idx_own i e tab_ok rfl rfl rfl rfl rfl (by omega) rfl ?_
    refine DrG.store_el e tab_ok rfl rfl rfl rfl rfl (by rw [Nat.zero_add]; exact g1) rfl rfl rfl rfl (by rw [Nat.zero_add]; exact hR1) rfl ?_
    (refine DrG.runS e tab_ok 200 rfl (by first | trivial | (simp [in64] <;> omega) | (simp only [in64, true_and, and_true]; omega)) ?_)
    repeat (
      first
        | (refine DrG.askT rfl ?_; (first | (refine Told.t rfl ?_) | (refine Told.f rfl ?_) | (refine Told.t ?_ ?_; (focus assumption)) | (refine Told.f ?_ ?_; (focus assumption)) | (refine Told.t ?_ ?_; (focus (first | (simp; omega) | (simp [*]; done)); done)) | (refine Told.f ?_ ?_; (focus (first | (simp; omega) | (simp [*]; done)); done))); (refine DrG.runS e tab_ok 200 rfl (by first | trivial | (simp [in64] <;> omega) | (simp only [in64, true_and, and_true]; omega)) ?_))
        | (refine DrG.eq_agg e tab_ok rfl rfl rfl (.inl ⟨rfl, rfl⟩) ?_ 5 (by omega) rfl ?_ rfl rfl rfl rfl rfl rfl rfl ?_; (focus kernel_rfl); (focus kernel_rfl); (refine DrG.runS e tab_ok 200 rfl (by first | trivial | (simp [in64] <;> omega) | (simp only [in64, true_and, and_true]; omega)) ?_))
        | (refine DrG.eq_aggGo e tab_ok rfl rfl rfl rfl (.inl ⟨rfl, rfl⟩) ?_ 5 (by omega) rfl ?_ rfl rfl rfl rfl rfl rfl rfl ?_; (focus kernel_rfl); (focus kernel_rfl); (refine DrG.runS e tab_ok 200 rfl (by first | trivial | (simp [in64] <;> omega) | (simp only [in64, true_and, and_true]; omega)) ?_))
        | (refine DrG.eq_agg e tab_ok rfl rfl rfl (.inr ⟨rfl, rfl⟩) ?_ 5 (by omega) rfl ?_ rfl rfl rfl rfl rfl rfl rfl ?_; (focus kernel_rfl); (focus kernel_rfl); (refine DrG.runS e tab_ok 200 rfl (by first | trivial | (simp [in64] <;> omega) | (simp only [in64, true_and, and_true]; omega)) ?_))
        | (refine DrG.eq_aggGo e tab_ok rfl rfl rfl rfl (.inr ⟨rfl, rfl⟩) ?_ 5 (by omega) rfl ?_ rfl rfl rfl rfl rfl rfl rfl ?_; (focus kernel_rfl); (focus kernel_rfl); (refine DrG.runS e tab_ok 200 rfl (by first | trivial | (simp [in64] <;> omega) | (simp only [in64, true_and, and_true]; omega)) ?_))
      )
    refine DrG.idx_own (l.length - 1 - i) e tab_ok rfl rfl rfl rfl (by omega) (by omega) rfl ?_
    refine DrG.store_el e tab_ok rfl rfl rfl rfl rfl (by rw [Nat.zero_add, Nat.zero_add]; exact g3) rfl rfl rfl rfl (by rw [Nat.zero_add, Nat.zero_add]; exact hR2) rfl ?_
    refine DrG.finK e rfl ?_ rfl rfl rfl ?_ ?_
    (focus kernel_rfl)
    (focus (repeat' (first | exact True.intro | (refine And.intro ?_ ?_) | rfl | assumption | exact okRow _)))
    dsimp only [tmS, hpS, tput, effH]
    rw [Nat.zero_add, Nat.zero_add]
    refine AWP.runL e tab_ok L33 300 rfl (by first | trivial | (simp [in64] <;> omega) | (simp only [in64, true_and, and_true]; omega)) ?_
    refine AWP.eqT 3 (.i ((l.length : Int) - 1 - ((i + 1 : Nat) : Int))) rfl (congrArg SV.i (by omega)) ?_
    refine AWP.less e ?_ ?_ ?_ ?_ ?_ (nx) <;> (repeat' (first | exact True.intro | (refine And.intro ?_ ?_) | rfl | assumption))
    intro z hz
    rcases List.mem_or_eq_of_mem_set hz with h | rfl
    · rcases List.mem_or_eq_of_mem_set h with h | rfl
      · exact hR0'' z h
      · rfl
    · rfl
  · have hlt : ¬ 2 * i + 1 < l.length := by have := of_decide_eq_false hlt; omega
    rw [rvL_end l i (by omega)]
    refine AWP.runL e tab_ok L33 300 rfl (by first | trivial | (simp [in64] <;> omega) | (simp only [in64, true_and, and_true]; omega)) ?_
    refine AWP.fin e tab_ok rfl ?_
    rw [hP]
    rfl

/-- The cells of a row of ints. -/
theorem row_cells {μ : Nat → Option Nat} {ok : Nat → Prop} {w : World} {c : Array Value} {l : List Int} {k : Nat} (hk : l.length = k) (hc : k ≤ c.size)
    (h : ∀ (i : Nat) (e : List SV) (j : Nat) (x : SV) (u : Value), (rowS l)[i]? = some e → e[j]? = some x → c[i * 1 + j]? = some u → Den μ ok w x u) : c.toList.take k = l.map fun v => Value.int .i64 v := by
  apply List.ext_getElem?
  intro i
  rw [List.getElem?_take, List.getElem?_map, Array.getElem?_toList]
  by_cases hi : i < k
  · rw [if_pos hi]
    have h1 : l[i]? = some l[i] := List.getElem?_eq_getElem (by omega)
    have h2 : c[i]? = some c[i] := Array.getElem?_eq_getElem (by omega)
    have := (h i [SV.i l[i]] 0 (SV.i l[i]) c[i] (rowS_at h1) rfl (by rw [Nat.mul_one, Nat.add_zero]; exact h2)).vv
    rw [h1, h2, this]
    rfl
  · rw [if_neg hi, List.getElem?_eq_none (by omega)]
    rfl
theorem cells_row {μ : Nat → Option Nat} {ok : Nat → Prop} {w : World} {c : Array Value} {l : List Int} {k : Nat} (h : c.toList.take k = l.map fun v => Value.int .i64 v) :
    ∀ (i : Nat) (e : List SV) (j : Nat) (x : SV) (u : Value), (rowS l)[i]? = some e → e[j]? = some x → c[i * 1 + j]? = some u → Den μ ok w x u := by
  intro i e j x u he hx hu
  rw [List.getElem?_map, List.getElem?_map] at he
  cases hl : l[i]? with
  | none => rw [hl] at he; simp at he
  | some v =>
    rw [hl] at he
    simp at he
    subst he
    cases j with
    | succ j => simp at hx
    | zero =>
      simp at hx
      subst hx
      have h1 : (c.toList.take k)[i]? = some (Value.int .i64 v) := by rw [h, List.getElem?_map, hl]; rfl
      rw [List.getElem?_take] at h1
      split at h1
      · rw [Array.getElem?_toList] at h1
        rw [Nat.mul_one, Nat.add_zero, h1] at hu
        cases hu
        exact .d (.v _)
      · cases h1
/-- A row that a walk of the kit owns, reversed. -/
theorem rev_calls (base : Nat) (W : World) (v : Value) (l : List Int) (hr : W.ownsRow base 3 1 v l.length (l.map fun v => Value.int .i64 v)) (h1 : 1 ≤ l.length) (hl : l.length ≤ 64) :
    Calls Try.prog 33 #[v] W fun e W' => (∃ u, e = .returned u) ∧ W'.ownsRow base 3 1 v l.length (l.reverse.map fun v => Value.int .i64 v) ∧ W.grownBy W' v.ownBlock := by
  rcases hr.2 with ⟨_, h0⟩ | ⟨g, cap, cur, rfl, hb, hg, hn, hm, hs, ht⟩
  · omega
  obtain ⟨_, hE⟩ := rev_eff l cap h1 hl
  have hglt : g < W.heap.size := (Array.getElem?_eq_some_iff.1 hg).1
  let cx : Cx := ⟨Try.prog, default, W, fun i => if i = 0 then some g else none, fun _ => False, fun b => b = g, fun _ _ _ => True, fun _ _ _ => False⟩
  have hrow : (rowS l).length = l.length := by simp
  have hB : DenB cx.μ0 cx.ok0 W g (.row 3 false 1 (rowS l) cap) := by
    refine ⟨cur, (0, 0), hg, fun _ => rfl, fun j _ h => by simp at h, hs, by rw [hrow]; exact hn, fun i e he => ?_, ?_⟩
    · have : e ∈ rowS l := List.mem_of_getElem? he
      simp only [List.mem_map] at this
      obtain ⟨a, ⟨b, _, rfl⟩, rfl⟩ := this
      rfl
    · rw [Nat.mul_one] at ht
      exact cells_row ht
  have hH : HInv cx cx.μ0 cx.ok0 [(0, .row 3 false 1 (rowS l) cap)] 1 W := by
    refine ⟨fun _ _ h => h, fun i hi => if_neg (by omega), fun _ h => h, fun _ h => h.elim, fun _ h => h.elim, fun i B hi => ?_, fun i j B C b hi hj _ _ => ?_, fun _ _ _ => rfl, Nat.le_refl _, rfl, rfl, rfl⟩
    · simp only [aget_cons] at hi
      split at hi
      · rename_i e
        subst e
        cases hi
        exact .inr ⟨g, rfl, hglt, fun h => h, .inr rfl, hB⟩
      · cases hi
    · simp only [aget_cons] at hi hj
      split at hi <;> split at hj <;> first | omega | (cases hi; done) | (cases hj; done)
  refine (hE cx #[.slice (some ⟨g, 0, none⟩) l.length cap] rfl (fun b => ⟨fun h => ⟨0, _, rfl, by rw [h]; rfl⟩, fun ⟨i, B, hi, hb⟩ => ?_⟩) hH rfl (fun j c u hc hu => ?_)).mono ?_
  · simp only [aget_cons] at hi
    split at hi
    · rename_i e
      subst e
      exact (Option.some.inj hb).symm
    · cases hi
  · cases j with
    | zero =>
      cases hc; cases hu
      have := Den.own (μ := cx.μ0) (ok := cx.ok0) (w := W) (id := 0) (k := 1) (lo := 0) (n := l.length) (C := cap) (b := g) rfl (by omega) hm
      exact this
    | succ j => simp at hc
  · rintro e W' ⟨v', μ, ok, r, h, n', rfl, g1, g2, g3⟩
    refine ⟨⟨_, rfl⟩, ?_, ⟨g1.os, g1.tape, g1.output, g1.size, fun k hk hne => g1.frame k hk (fun e => hne (by show some k = some g; rw [show k = g from e]))⟩⟩
    obtain hgh | ⟨b, q1, q2, q3, q4, c, z, q5, q6, q7, q8, q9, q10, q11⟩ := g1.own 0 _ g3
    · exfalso
      have : l.reverse = [] := by
        have hx : (Blk.row 3 false 1 (rowS l.reverse) cap).ghost := hgh.1
        cases hr' : l.reverse with
        | nil => rfl
        | cons a m => rw [hr'] at hx; exact hx.elim
      simp at this
      subst this
      simp at h1
    · have hbg : b = g := by
        have := g1.mu 0 g rfl
        rw [q1] at this
        exact Option.some.inj this
      subst hbg
      have hz := q6 rfl
      subst hz
      refine ⟨by simp, .inr ⟨b, cap, c, rfl, hb, q5, hn, hm, q8, ?_⟩⟩
      rw [Nat.mul_one]
      exact row_cells (by simp) (by rw [q8]; omega) q11
end Go.Proofs.Ythibaeeoegoliaa
