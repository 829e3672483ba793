/-
  SYMBOLIC STATES, over any program, part 3: the laws under 'ev': lists by continuation, loads, stores, types.
-/
import Derived.Test.YtmmpblbdjnlciaaSy2
namespace Go.Sy
open Go.RowKit

theorem mapK_eq {α β R : Type} (f : α → β) (l : List α) (k : List β → R) : mapK f l k = k (l.map f) := by
  induction l generalizing k with
  | nil => rfl
  | cons x l ih => simp only [mapK, ih, List.map_cons]

theorem nth_eq {α : Type} (l : List α) (n : Nat) : nth l n = l[n]? := by
  induction l generalizing n with
  | nil => cases n <;> rfl
  | cons x l ih => cases n with
    | zero => rfl
    | succ n => simp [nth, ih]

theorem lenK_eq {α : Type} (l : List α) : lenK l = l.length := by
  induction l with
  | nil => rfl
  | cons x l ih => simp [lenK, ih]

def tk {α : Type} (n : Nat) (l : List α) : Option (List α) := if n ≤ l.length then some (l.take n) else none

theorem takeK_eq {α R : Type} (n : Nat) (l : List α) (k : Option (List α) → R) : takeK n l k = k (tk n l) := by
  induction n generalizing l k with
  | zero => simp [takeK, tk]
  | succ n ih => cases l with
    | nil => simp [takeK, tk]
    | cons x l =>
      simp only [takeK, ih, tk, List.length_cons, Nat.add_le_add_iff_right, List.take_succ_cons]
      by_cases h : n ≤ l.length
      · simp only [if_pos h]
      · simp only [if_neg h]

def dk {α : Type} (n : Nat) (l : List α) : Option (List α) := if n ≤ l.length then some (l.drop n) else none

theorem dropK_eq {α R : Type} (n : Nat) (l : List α) (k : Option (List α) → R) : dropK n l k = k (dk n l) := by
  induction n generalizing l k with
  | zero => simp [dropK, dk]
  | succ n ih => cases l with
    | nil => simp [dropK, dk]
    | cons x l => simp only [dropK, ih, dk, List.length_cons, Nat.add_le_add_iff_right, List.drop_succ_cons]

/-- xs with ys laid over it from n on. -/
def laid {α : Type} : Nat → List α → List α → Option (List α)
  | 0, [], xs => some xs
  | 0, _ :: _, [] => none
  | 0, y :: ys, _ :: xs => (laid 0 ys xs).map (y :: ·)
  | _ + 1, _, [] => none
  | n + 1, ys, x :: xs => (laid n ys xs).map (x :: ·)

theorem overK_eq {α R : Type} (ys xs : List α) (k : Option (List α) → R) : putK.overK ys xs k = k (laid 0 ys xs) := by
  induction ys generalizing xs k with
  | nil => cases xs <;> simp [putK.overK, laid]
  | cons y ys ih => cases xs with
    | nil => simp [putK.overK, laid]
    | cons x xs =>
      simp only [putK.overK, ih, laid]
      cases laid 0 ys xs <;> rfl

theorem putK_eq {α R : Type} (n : Nat) (ys xs : List α) (k : Option (List α) → R) : putK n ys xs k = k (laid n ys xs) := by
  induction n generalizing xs k with
  | zero => simp only [putK, overK_eq]
  | succ n ih => cases xs with
    | nil => cases ys <;> simp [putK, laid]
    | cons x xs =>
      simp only [putK, ih, laid]
      cases laid n ys xs <;> rfl

theorem laid_spec {α : Type} (n : Nat) (ys xs zs : List α) (h : laid n ys xs = some zs) :
    zs.length = xs.length ∧ n + ys.length ≤ xs.length ∧ ∀ i, zs[i]? = if i < n then xs[i]? else if i < n + ys.length then ys[i - n]? else xs[i]? := by
  induction n generalizing xs zs with
  | zero =>
    induction ys generalizing xs zs with
    | nil =>
      cases xs <;> simp [laid] at h <;> subst h <;> simp
    | cons y ys ih =>
      cases xs with
      | nil => simp [laid] at h
      | cons x xs =>
        simp only [laid, Option.map_eq_some_iff] at h
        obtain ⟨l, hl, rfl⟩ := h
        obtain ⟨h1, h2, h3⟩ := ih xs l hl
        refine ⟨by simp [h1], by simp at h2 ⊢; omega, fun i => ?_⟩
        cases i with
        | zero => simp
        | succ i =>
          have := h3 i
          simp only [Nat.not_lt_zero, if_false, Nat.zero_add, Nat.sub_zero] at this
          simp only [List.getElem?_cons_succ, Nat.not_lt_zero, if_false, List.length_cons, Nat.zero_add, Nat.add_lt_add_iff_right, Nat.sub_zero, this]
  | succ n ih =>
    cases xs with
    | nil => simp [laid] at h
    | cons x xs =>
      simp only [laid, Option.map_eq_some_iff] at h
      obtain ⟨l, hl, rfl⟩ := h
      obtain ⟨h1, h2, h3⟩ := ih xs l hl
      refine ⟨by simp [h1], by simp; omega, fun i => ?_⟩
      cases i with
      | zero => simp
      | succ i =>
        have := h3 i
        simp only [List.getElem?_cons_succ, Nat.add_lt_add_iff_right, this]
        have e : i + 1 < n + 1 + ys.length ↔ i < n + ys.length := by omega
        have e2 : i + 1 - (n + 1) = i - n := by omega
        simp only [e, e2]

/-! ### Types -/
def dvCell : DV → Option Value
  | .v x => some x
  | .nil => some (.slice none 0 0)
  | .sl _ _ => none

structure TyOk (P : Program) (t : TypeId) (y : Ty) : Prop where
  info : ∃ i z, P.info? t = some i ∧ i.size = y.size ∧ i.bytes = y.bytes ∧ i.zero = some z ∧ z.cells.toList.map some = y.zero.map dvCell
  zlen : y.zero.length = y.size
  one : y.td.agg = false → y.size = 1
  td : match y.td with
    | .int k => P.underlying t = some (.int k)
    | .bool => P.underlying t = some .bool
    | .str => P.underlying t = some .string
    | .slice e => P.underlying t = some (.slice e)
    | .arr n e => P.underlying t = some (.array n e)
    | .struct fs => ∃ F : Array Field, P.underlying t = some (.struct F) ∧ F.toList.map (fun f => (f.type, f.offset)) = fs ∧ (F.toList.all fun f => (P.info? f.type).isSome) = true
    | .ptr e => P.underlying t = some (.pointer e)
    | .oth => ∃ D, P.underlying t = some D ∧ (∀ F, D ≠ .struct F) ∧ (∀ n e, D ≠ .array n e)

def TabOk (P : Program) (T : Tab) : Prop := ∀ t y, aget t T = some y → TyOk P t y

section
variable {P : Program} {T : Tab} {w : World}

theorem TyOk.isAgg {t : TypeId} {y : Ty} (h : TyOk P t y) : (isAgg t).run P w = .ok y.td.agg w := by
  have := h.td
  cases e : y.td <;> rw [e] at this <;> simp only at this
  all_goals first
    | (unfold Go.isAgg; simp [run_underlying this, TD.agg]; done)
    | (obtain ⟨F, hF, _⟩ := this; unfold Go.isAgg; simp [run_underlying hF, TD.agg]; done)
    | (obtain ⟨D, hD, h1, h2⟩ := this; unfold Go.isAgg; simp only [Sem.run_bind, run_underlying hD, Result.andThen_ok]; cases D <;> first | rfl | exact absurd rfl (h1 _) | exact absurd rfl (h2 _ _))

theorem TyOk.sizeOf {t : TypeId} {y : Ty} (h : TyOk P t y) : (sizeOf t).run P w = .ok y.size w := by
  obtain ⟨i, z, h1, h2, _⟩ := h.info
  simp [Go.sizeOf, typeInfo, h1, h2]

theorem TyOk.zeroValue {t : TypeId} {y : Ty} (h : TyOk P t y) : ∃ z, (zeroValue t).run P w = .ok z w ∧ z.cells.toList.map some = y.zero.map dvCell := by
  obtain ⟨i, z, h1, _, _, h3, h4⟩ := h.info
  exact ⟨z, by simp [Go.zeroValue, typeInfo, h1, h3], h4⟩

theorem add_add' (b j i : Nat) : (⟨b, j, none⟩ : Addr).add i = ⟨b, j + i, none⟩ := by
  unfold Addr.add
  split
  · subst_vars; rfl
  · rfl

/-- A load of a whole variable, cell by cell. -/
theorem run_loadVar {t : TypeId} {y : Ty} (h : TyOk P t y) (a : Addr) (vs : List Value) (hl : vs.length = y.size) (hc : ∀ j v, vs[j]? = some v → w.cell? (a.add j) = some v) (hagg : y.td.agg = true) :
    (loadVar t a).run P w = .ok (.agg vs.toArray) w := by
  simp only [loadVar, Sem.run_bind, h.isAgg, Result.andThen_ok, hagg, if_true, h.sizeOf]
  rw [← hl, run_loadCells_list w a vs hc]
  rfl

theorem run_loadVar1 {t : TypeId} {y : Ty} (h : TyOk P t y) (a : Addr) (v : Value) (hc : w.cell? a = some v) (hagg : y.td.agg = false) :
    (loadVar t a).run P w = .ok v w := by
  simp only [loadVar, Sem.run_bind, h.isAgg, Result.andThen_ok, hagg, Bool.false_eq_true, if_false]
  simp [run_load, hc]

/-- w' is w but for block b. -/
structure Upd (w w' : World) (b : Nat) : Prop where
  other : ∀ b', b' ≠ b → w'.heap[b']? = w.heap[b']?
  size : w'.heap.size = w.heap.size
  os : w'.os = w.os
  tape : w'.tape = w.tape
  output : w'.output = w.output

theorem Upd.refl (w : World) (b : Nat) : Upd w w b := ⟨fun _ _ => rfl, rfl, rfl, rfl, rfl⟩
theorem Upd.trans {a b c : World} {k : Nat} (h : Upd a b k) (h' : Upd b c k) : Upd a c k :=
  ⟨fun b' hb => (h'.other b' hb).trans (h.other b' hb), h'.size.trans h.size, h'.os.trans h.os, h'.tape.trans h.tape, h'.output.trans h.output⟩
theorem Upd.setCell (w : World) (a : Addr) (v : Value) : Upd w (w.setCell a v) a.block :=
  ⟨fun b' hb => Below.heap_setCell w a v b' hb, by simp, rfl, rfl, rfl⟩

theorem run_storeCells (P : Program) (b j0 : Nat) (T : TypeId) (z : Nat × Nat) : ∀ (vs : List Value) (i : Nat) (w : World) (c : Array Value), w.heap[b]? = some (.cells c T z) → (∀ j, j < c.size → ¬ (z.1 ≤ j ∧ j < z.2)) →
    j0 + i + vs.length ≤ c.size → (∀ v ∈ vs, v.oneCell' = true) →
    ∃ w' c', (storeCells ⟨b, j0, none⟩ vs i).run P w = .ok () w' ∧ w'.heap[b]? = some (.cells c' T z) ∧ c'.size = c.size ∧ Upd w w' b ∧
      ∀ m, c'[m]? = if m < j0 + i then c[m]? else if m < j0 + i + vs.length then vs[m - (j0 + i)]? else c[m]?
  | [], i, w, c, hw, hz, hl, hv => by
    refine ⟨w, c, rfl, hw, rfl, Upd.refl _ _, fun m => ?_⟩
    by_cases h : m < j0 + i
    · rw [if_pos h]
    · rw [if_neg h, if_neg (by simpa using h)]
  | v :: vs, i, w, c, hw, hz, hl, hv => by
    simp only [List.length_cons] at hl
    have hlt : j0 + i < c.size := by omega
    have hc : w.cell? ⟨b, j0 + i, none⟩ = some c[j0 + i] := by
      simp [World.cell?, hw, hlt]
    have hf : w.frozen? ⟨b, j0 + i, none⟩ = false := by
      have := hz _ hlt
      simp only [World.frozen?, hw]
      simpa using this
    have h1 := Joins.block_setCell hw (i := j0 + i) v
    obtain ⟨w', c', r1, r2, r3, r4, r5⟩ := run_storeCells P b j0 T z vs (i + 1) (w.setCell ⟨b, j0 + i, none⟩ v) (c.setIfInBounds (j0 + i) v) h1 (by simpa using hz) (by simp; omega) (fun u hu => hv u (by simp [hu]))
    refine ⟨w', c', ?_, r2, by simpa using r3, (Upd.setCell w ⟨b, j0 + i, none⟩ v).trans r4, fun m => ?_⟩
    · simp only [storeCells, Sem.run_bind, add_add', run_store P w _ v .plain (hv v (by simp)), hc, hf, Bool.false_eq_true, if_false, Result.andThen_ok]
      exact r1
    · rw [r5 m]
      simp only [List.length_cons]
      by_cases h1 : m < j0 + i
      · rw [if_pos (by omega), if_pos h1, Array.getElem?_setIfInBounds_ne (by omega)]
      · by_cases h2 : m = j0 + i
        · subst h2
          rw [if_pos (by omega), if_neg h1, if_pos (by omega)]
          simp [hlt]
        · rw [if_neg (by omega), if_neg h1]
          by_cases h3 : m < j0 + i + (vs.length + 1)
          · rw [if_pos (by omega), if_pos h3]
            have e : m - (j0 + i) = (m - (j0 + (i + 1))) + 1 := by omega
            rw [e, List.getElem?_cons_succ]
          · rw [if_neg (by omega), if_neg h3, Array.getElem?_setIfInBounds_ne (by omega)]

theorem run_storeVar {t : TypeId} {y : Ty} (h : TyOk P t y) {b j : Nat} {T : TypeId} {z : Nat × Nat} {c : Array Value} (v : Value) (hw : w.heap[b]? = some (.cells c T z)) (hz : ∀ j, j < c.size → ¬ (z.1 ≤ j ∧ j < z.2))
    (hs : v.cells.size = y.size) (hl : j + y.size ≤ c.size) (hv : ∀ u ∈ v.cells.toList, u.oneCell' = true) :
    ∃ w' c', (storeVar t ⟨b, j, none⟩ v).run P w = .ok () w' ∧ w'.heap[b]? = some (.cells c' T z) ∧ c'.size = c.size ∧ Upd w w' b ∧
      ∀ m, c'[m]? = if m < j then c[m]? else if m < j + y.size then v.cells[m - j]? else c[m]? := by
  obtain ⟨w', c', r1, r2, r3, r4, r5⟩ := run_storeCells P b j T z v.cells.toList 0 w c hw hz (by simp [hs]; omega) hv
  refine ⟨w', c', ?_, r2, r3, r4, fun m => ?_⟩
  · simp only [storeVar, Sem.run_bind, h.sizeOf, Result.andThen_ok, hs, ne_eq, not_true_eq_false, if_false, Sem.run_pure]
    exact r1
  · have := r5 m
    simp only [Nat.add_zero, Array.length_toList, hs, Array.getElem?_toList] at this
    exact this

end
end Go.Sy
