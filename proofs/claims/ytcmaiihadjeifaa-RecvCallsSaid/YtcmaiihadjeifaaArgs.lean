/-
  ARGUMENTS OPENED, over any program: a slice whose elements take one cell each (nil, empty or not: one form), a string, the cells of a struct by value.
-/
import Derived.WalkKit
import Derived.ProofKit
import Derived.OpenShut
import Derived.Lib.SmallJoins
namespace Go.Camp
open Go.Joins Go.ChangeShapes Go.WideShapes Go.ChangeAt Go.RowKit Go.Deep

theorem lt_of_cell {w : World} {a : Addr} {v : Value} (h : w.cell? a = some v) : a.block < w.heap.size := by
  unfold World.cell? at h
  rcases Nat.lt_or_ge a.block w.heap.size with h' | h'
  · exact h'
  · rw [Array.getElem?_eq_none h'] at h
    cases h

/-- A slice whose elements take one cell: each index leads to an address of its own, where the element lies. -/
theorem open_row1 {H : Type} {enc : TypeId × Value → H} {P : Program} {W : World} {r : Reach} {b0 : Nat} {t e : TypeId} {v : Value} {d : DataW H} {p : List MemPlace}
    (ht : P.underlying t = some (.slice e)) (hc : P.cellsOf e = 1) (hsz : ∀ w, (sizeOf e).run P w = .ok 1 w)
    (hv : Value.okWide P W r b0 t v) (h : DataW.Trod enc P W 0 (fun _ => true) true t v d p) :
    ∃ (ao : Option Addr) (n cap m : Nat) (V : Nat → Value) (D : Nat → DataW H × List MemPlace) (ad : Nat → Addr), v = .slice ao n cap ∧ n ≤ cap ∧ cap ≤ maxLen ∧
      (∀ i, i < n → ∀ w, (Instr.indexAt t (.slice ao n cap) (.int .i64 (i : Int))).run P w = .ok (.pointer (some (ad i))) w) ∧
      (∀ i, i < n → W.cell? (ad i) = some (V i) ∧ (ad i).block < W.heap.size ∧ DataW.trod enc P W 0 (fun _ => true) true m e [V i] = some (D i)) := by
  obtain ⟨a0, n, cap, rfl⟩ := okWide_slice ht hv
  obtain ⟨fuel, hf⟩ := h
  have hel : P.elem t = e := by simp [Program.elem, ht]
  rcases open_slice1 ht hc hf with ⟨hcs, _⟩ | ⟨a, len, cap', m, k, V, D, Pl, hcs, _, hl, hm, hmm, _, hx⟩
  · simp [Value.cells] at hcs
    obtain ⟨rfl, rfl, rfl⟩ := hcs
    exact ⟨none, 0, 0, 0, fun _ => undef, fun _ => (.nil, []), fun _ => ⟨0, 0, none⟩, rfl, Nat.le_refl _, by unfold maxLen; omega, fun i hi => by omega, fun i hi => by omega⟩
  · simp [Value.cells] at hcs
    obtain ⟨rfl, rfl, rfl⟩ := hcs
    have hmn : n ≤ m := by simp at hmm; omega
    refine ⟨some a, n, cap, k, V, fun i => (D i, Pl i), fun i => a.add i, rfl, hl, hm, ?_, ?_⟩
    · intro i hi w
      rw [run_indexAt_slice w t a n cap .i64 i (by rw [hel]; exact ht), if_pos ⟨by omega, by omega⟩, hel, hsz w]
      simp [Result.andThen]
    · intro i hi
      obtain ⟨h1, h2⟩ := hx i (by omega)
      exact ⟨h1, lt_of_cell h1, h2⟩

/-- A slice of integers. -/
theorem open_ints1 {H : Type} {enc : TypeId × Value → H} {P : Program} {W : World} {r : Reach} {b0 : Nat} {t e : TypeId} {k : IntKind} {v : Value} {d : DataW H} {p : List MemPlace}
    (ht : P.underlying t = some (.slice e)) (he : P.underlying e = some (.int k)) (hc : P.cellsOf e = 1) (hsz : ∀ w, (sizeOf e).run P w = .ok 1 w)
    (hv : Value.okWide P W r b0 t v) (h : DataW.Trod enc P W 0 (fun _ => true) true t v d p) :
    ∃ (ao : Option Addr) (n cap : Nat) (f : Nat → Int) (ad : Nat → Addr), v = .slice ao n cap ∧ n ≤ cap ∧ cap ≤ maxLen ∧
      (∀ i, i < n → ∀ w, (Instr.indexAt t (.slice ao n cap) (.int .i64 (i : Int))).run P w = .ok (.pointer (some (ad i))) w) ∧
      (∀ i, i < n → W.cell? (ad i) = some (.int k (f i)) ∧ (ad i).block < W.heap.size ∧ (Lit.int k (f i)).wf = true) := by
  obtain ⟨ao, n, cap, m, V, D, ad, rfl, h1, h2, h3, h4⟩ := open_row1 ht hc hsz hv h
  refine ⟨ao, n, cap, fun i => match V i with | .int _ x => x | _ => 0, ad, rfl, h1, h2, h3, fun i hi => ?_⟩
  obtain ⟨c1, c2, c3⟩ := h4 i hi
  obtain ⟨x, hx, _, hw⟩ := DataW.trod_int he c3
  simp at hx
  simp only [hx] at c1 ⊢
  exact ⟨c1, c2, hw⟩

/-- A slice of bools. -/
theorem open_bools1 {H : Type} {enc : TypeId × Value → H} {P : Program} {W : World} {r : Reach} {b0 : Nat} {t e : TypeId} {v : Value} {d : DataW H} {p : List MemPlace}
    (ht : P.underlying t = some (.slice e)) (he : P.underlying e = some .bool) (hc : P.cellsOf e = 1) (hsz : ∀ w, (sizeOf e).run P w = .ok 1 w)
    (hv : Value.okWide P W r b0 t v) (h : DataW.Trod enc P W 0 (fun _ => true) true t v d p) :
    ∃ (ao : Option Addr) (n cap : Nat) (f : Nat → Bool) (ad : Nat → Addr), v = .slice ao n cap ∧ n ≤ cap ∧ cap ≤ maxLen ∧
      (∀ i, i < n → ∀ w, (Instr.indexAt t (.slice ao n cap) (.int .i64 (i : Int))).run P w = .ok (.pointer (some (ad i))) w) ∧
      (∀ i, i < n → W.cell? (ad i) = some (.bool (f i)) ∧ (ad i).block < W.heap.size) := by
  obtain ⟨ao, n, cap, m, V, D, ad, rfl, h1, h2, h3, h4⟩ := open_row1 ht hc hsz hv h
  refine ⟨ao, n, cap, fun i => match V i with | .bool x => x | _ => false, ad, rfl, h1, h2, h3, fun i hi => ?_⟩
  obtain ⟨c1, c2, c3⟩ := h4 i hi
  obtain ⟨x, hx, _⟩ := DataW.trod_bool he c3
  simp at hx
  simp only [hx] at c1 ⊢
  exact ⟨c1, c2⟩

theorem row1 {α : Type} {cs : Array α} (h : cs.size = 1) : ∃ c0, cs = #[c0] := by
  obtain ⟨l⟩ := cs
  match l, h with
  | [c0], _ => exact ⟨c0, rfl⟩
theorem row2 {α : Type} {cs : Array α} (h : cs.size = 2) : ∃ c0 c1, cs = #[c0, c1] := by
  obtain ⟨l⟩ := cs
  match l, h with
  | [c0, c1], _ => exact ⟨c0, c1, rfl⟩
theorem row3 {α : Type} {cs : Array α} (h : cs.size = 3) : ∃ c0 c1 c2, cs = #[c0, c1, c2] := by
  obtain ⟨l⟩ := cs
  match l, h with
  | [c0, c1, c2], _ => exact ⟨c0, c1, c2, rfl⟩
theorem row4 {α : Type} {cs : Array α} (h : cs.size = 4) : ∃ c0 c1 c2 c3, cs = #[c0, c1, c2, c3] := by
  obtain ⟨l⟩ := cs
  match l, h with
  | [c0, c1, c2, c3], _ => exact ⟨c0, c1, c2, c3, rfl⟩
theorem row5 {α : Type} {cs : Array α} (h : cs.size = 5) : ∃ c0 c1 c2 c3 c4, cs = #[c0, c1, c2, c3, c4] := by
  obtain ⟨l⟩ := cs
  match l, h with
  | [c0, c1, c2, c3, c4], _ => exact ⟨c0, c1, c2, c3, c4, rfl⟩
theorem row6 {α : Type} {cs : Array α} (h : cs.size = 6) : ∃ c0 c1 c2 c3 c4 c5, cs = #[c0, c1, c2, c3, c4, c5] := by
  obtain ⟨l⟩ := cs
  match l, h with
  | [c0, c1, c2, c3, c4, c5], _ => exact ⟨c0, c1, c2, c3, c4, c5, rfl⟩
theorem row7 {α : Type} {cs : Array α} (h : cs.size = 7) : ∃ c0 c1 c2 c3 c4 c5 c6, cs = #[c0, c1, c2, c3, c4, c5, c6] := by
  obtain ⟨l⟩ := cs
  match l, h with
  | [c0, c1, c2, c3, c4, c5, c6], _ => exact ⟨c0, c1, c2, c3, c4, c5, c6, rfl⟩
theorem row8 {α : Type} {cs : Array α} (h : cs.size = 8) : ∃ c0 c1 c2 c3 c4 c5 c6 c7, cs = #[c0, c1, c2, c3, c4, c5, c6, c7] := by
  obtain ⟨l⟩ := cs
  match l, h with
  | [c0, c1, c2, c3, c4, c5, c6, c7], _ => exact ⟨c0, c1, c2, c3, c4, c5, c6, c7, rfl⟩
theorem row9 {α : Type} {cs : Array α} (h : cs.size = 9) : ∃ c0 c1 c2 c3 c4 c5 c6 c7 c8, cs = #[c0, c1, c2, c3, c4, c5, c6, c7, c8] := by
  obtain ⟨l⟩ := cs
  match l, h with
  | [c0, c1, c2, c3, c4, c5, c6, c7, c8], _ => exact ⟨c0, c1, c2, c3, c4, c5, c6, c7, c8, rfl⟩
theorem row10 {α : Type} {cs : Array α} (h : cs.size = 10) : ∃ c0 c1 c2 c3 c4 c5 c6 c7 c8 c9, cs = #[c0, c1, c2, c3, c4, c5, c6, c7, c8, c9] := by
  obtain ⟨l⟩ := cs
  match l, h with
  | [c0, c1, c2, c3, c4, c5, c6, c7, c8, c9], _ => exact ⟨c0, c1, c2, c3, c4, c5, c6, c7, c8, c9, rfl⟩
theorem row11 {α : Type} {cs : Array α} (h : cs.size = 11) : ∃ c0 c1 c2 c3 c4 c5 c6 c7 c8 c9 c10, cs = #[c0, c1, c2, c3, c4, c5, c6, c7, c8, c9, c10] := by
  obtain ⟨l⟩ := cs
  match l, h with
  | [c0, c1, c2, c3, c4, c5, c6, c7, c8, c9, c10], _ => exact ⟨c0, c1, c2, c3, c4, c5, c6, c7, c8, c9, c10, rfl⟩
theorem row12 {α : Type} {cs : Array α} (h : cs.size = 12) : ∃ c0 c1 c2 c3 c4 c5 c6 c7 c8 c9 c10 c11, cs = #[c0, c1, c2, c3, c4, c5, c6, c7, c8, c9, c10, c11] := by
  obtain ⟨l⟩ := cs
  match l, h with
  | [c0, c1, c2, c3, c4, c5, c6, c7, c8, c9, c10, c11], _ => exact ⟨c0, c1, c2, c3, c4, c5, c6, c7, c8, c9, c10, c11, rfl⟩

/-- A struct by value whose fields take one cell each: its cells, and each field's reading. -/
theorem open_cells {H : Type} {enc : TypeId × Value → H} {P : Program} {W : World} {r : Reach} {b0 : Nat} {t : TypeId} {fs : Array Field} {k : Nat} {v : Value} {d : DataW H} {p : List MemPlace}
    (hs : P.underlying t = some (.struct fs)) (hone : oneCellFields P fs = true) (hC : P.cellsOf t = k) (hk : fs.size = k)
    (hv : Value.okWide P W r b0 t v) (h : DataW.Trod enc P W 0 (fun _ => true) true t v d p) :
    ∃ cs : Array Value, v = .agg cs ∧ cs.size = k ∧ ∀ (i : Nat) (f : Field), fs[i]? = some f → ∃ c n y, cs[i]? = some c ∧ DataW.trod enc P W 0 (fun _ => true) true n f.type [c] = some y := by
  obtain ⟨cs, rfl, hsz⟩ := okWide_struct hs hv
  obtain ⟨fuel, hf⟩ := h
  obtain ⟨xs, n, _, _, _, hlen, hx⟩ := DataW.trod_struct hs hf
  refine ⟨cs, rfl, hsz.trans hC, fun i f hi => ?_⟩
  have hi' : i < fs.size := by
    rcases Nat.lt_or_ge i fs.size with h | h
    · exact h
    · rw [Array.getElem?_eq_none h] at hi; cases hi
  have hic : i < cs.size := by omega
  obtain ⟨o, k1⟩ := hone_of hone i f hi
  have := hx i f hi
  rw [o, k1] at this
  have e : (cs.toList.drop i).take 1 = [cs[i]] := by
    rw [List.take_one, List.head?_drop]
    simp [hic]
  have hxi : i < xs.length := by omega
  rw [List.getElem?_eq_getElem hxi] at this
  simp only [Value.cells] at this
  rw [e] at this
  exact ⟨cs[i], n, _, by simp [hic], this⟩

end Go.Camp
