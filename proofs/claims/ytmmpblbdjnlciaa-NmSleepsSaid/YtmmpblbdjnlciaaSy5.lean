/-
  SYMBOLIC STATES, over any program, part 5: 'ev' tells the truth: literals, loads, stores, and all of it.
-/
import Derived.Test.YtmmpblbdjnlciaaSy4
namespace Go.Sy
open Go.RowKit

section
variable {P : Program} {T : Tab} {μ : Nat → Option Nat} {ok : Nat → Prop} {s : St} {a : Act} {w : World}

theorem fold_set (l : List Value) : ∀ (k off : Nat) (c : Array Value), ((l.zipIdx k).foldl (fun (cs : Array Value) (p : Value × Nat) => cs.setIfInBounds (off + p.2) p.1) c).size = c.size ∧
    ∀ m, ((l.zipIdx k).foldl (fun (cs : Array Value) (p : Value × Nat) => cs.setIfInBounds (off + p.2) p.1) c)[m]? = if off + k ≤ m ∧ m < off + k + l.length ∧ m < c.size then l[m - (off + k)]? else c[m]? := by
  induction l with
  | nil => intro k off c; refine ⟨rfl, fun m => ?_⟩; rw [if_neg (by simp; omega)]; rfl
  | cons v l ih =>
    intro k off c
    obtain ⟨h1, h2⟩ := ih (k + 1) off (c.setIfInBounds (off + k) v)
    simp only [List.zipIdx_cons, List.foldl_cons]
    refine ⟨by rw [h1]; simp, fun m => ?_⟩
    rw [h2 m]
    simp only [Array.size_setIfInBounds, List.length_cons]
    by_cases hm : m = off + k
    · subst hm
      rw [if_neg (by omega)]
      by_cases hc : off + k < c.size
      · rw [if_pos ⟨by omega, by omega, hc⟩]; simp [hc]
      · rw [if_neg (by omega)]
        simp [hc]
    · by_cases hlt : off + k ≤ m ∧ m < off + k + (l.length + 1) ∧ m < c.size
      · rw [if_pos hlt, if_pos (by omega)]
        have e : m - (off + k) = (m - (off + (k + 1))) + 1 := by omega
        rw [e, List.getElem?_cons_succ]
      · rw [if_neg hlt, if_neg (by omega), Array.getElem?_setIfInBounds_ne (by omega)]

theorem fill_one (v : Value) (off : Nat) (c : Array Value) : (v.cells.zipIdx.foldl (fun (cs : Array Value) (p : Value × Nat) => cs.setIfInBounds (off + p.2) p.1) c).size = c.size ∧
    ∀ m, (v.cells.zipIdx.foldl (fun (cs : Array Value) (p : Value × Nat) => cs.setIfInBounds (off + p.2) p.1) c)[m]? = if off ≤ m ∧ m < off + v.cells.size ∧ m < c.size then v.cells[m - off]? else c[m]? := by
  have := fold_set v.cells.toList 0 off c
  rw [← Array.foldl_toList, Array.toList_zipIdx]
  simpa using this

theorem cells_one (u : Value) (h : ∀ cs, u ≠ .agg cs) : u.cells = #[u] := by
  cases u <;> first | rfl | exact absurd rfl (h _)

theorem den_agg {x : SV} {vs : Array Value} (h : Den μ ok w x (.agg vs)) : (∃ cs, x = .agg cs) ∨ x = .d (.v (.agg vs)) := by
  cases h with
  | agg _ _ _ => exact .inl ⟨_, rfl⟩
  | d h => cases h; exact .inr rfl

theorem den_tup {x : SV} {vs : Array Value} (h : Den μ ok w x (.tuple vs)) : (∃ cs, x = .tup cs) ∨ x = .d (.v (.tuple vs)) := by
  cases h with
  | tup _ _ _ => exact .inl ⟨_, rfl⟩
  | d h => cases h; exact .inr rfl

theorem isCell_ok {x : SV} {u : Value} (h : Den μ ok w x u) (hc : isCell x = true) : u.oneCell' = true := by
  cases u <;> first | rfl | skip
  · rcases den_agg h with ⟨cs, rfl⟩ | rfl <;> cases hc
  · rcases den_tup h with ⟨cs, rfl⟩ | rfl <;> cases hc

theorem cellsOf_ok {x : SV} {u : Value} (h : Den μ ok w x u) {cs : List SV} (hc : cellsOf x = some cs) : Cells μ ok w cs u.cells := by
  by_cases hu : ∃ vs, u = .agg vs
  · obtain ⟨vs, rfl⟩ := hu
    rcases den_agg h with ⟨cs', rfl⟩ | rfl
    · simp only [cellsOf, Option.some.injEq] at hc
      subst hc
      cases h with | agg _ h1 h2 => exact ⟨h1, h2⟩
    · cases hc
  · have hu' : ∀ cs, u ≠ .agg cs := fun cs e => hu ⟨cs, e⟩
    rw [cells_one u hu']
    have e : cs = [x] := by
      cases x with
      | agg l => cases h with | agg vs _ _ => exact absurd rfl (hu' _)
      | tup l => cases hc
      | d y => cases y with
        | v z => cases z <;> first | (cases hc; rfl) | cases hc
        | _ => cases hc; rfl
      | _ => cases hc; rfl
    subst e
    refine ⟨rfl, fun j c v hj hv => ?_⟩
    cases j with
    | zero => simp at hj hv; subst hj hv; exact h
    | succ j => simp at hj

theorem allCells_mem {l : List SV} (h : allCells l = true) : ∀ x ∈ l, isCell x = true := by
  induction l with
  | nil => simp
  | cons x l ih =>
    simp only [allCells] at h
    cases hx : isCell x
    · rw [hx] at h; cases h
    · rw [hx] at h
      intro y hy
      rcases List.mem_cons.1 hy with rfl | hy
      · exact hx
      · exact ih h y hy

theorem Cells.one {cs : List SV} {vs : Array Value} (h : Cells μ ok w cs vs) (hc : allCells cs = true) : ∀ u ∈ vs.toList, u.oneCell' = true := by
  intro u hu
  obtain ⟨j, hj⟩ := List.mem_iff_getElem?.1 hu
  rw [Array.getElem?_toList] at hj
  have hlt : j < cs.length := by
    have := (Array.getElem?_eq_some_iff.1 hj).1
    rw [← h.1]; exact this
  exact isCell_ok (h.2 j cs[j] u (by simp [hlt]) hj) (allCells_mem hc _ (by simp))

theorem Cells.laid {cs vs cs' : List SV} {c : Array Value} {v : Value} {off : Nat} (h : Cells μ ok w cs c) (hv : Cells μ ok w vs v.cells) (hl : laid off vs cs = some cs') {c' : Array Value} (hs : c'.size = c.size)
    (hm : ∀ m, c'[m]? = if off ≤ m ∧ m < off + v.cells.size ∧ m < c.size then v.cells[m - off]? else c[m]?) : Cells μ ok w cs' c' := by
  obtain ⟨h1, h2, h3⟩ := laid_spec off vs cs cs' hl
  refine ⟨by rw [hs, h.1, h1], fun j x u hx hu => ?_⟩
  rw [h3 j] at hx
  rw [hm j] at hu
  have hsz := h.1
  have hvz := hv.1
  by_cases a1 : j < off
  · rw [if_pos a1] at hx
    rw [if_neg (by omega)] at hu
    exact h.2 j x u hx hu
  · rw [if_neg a1] at hx
    by_cases a2 : j < off + vs.length
    · rw [if_pos a2] at hx
      rw [if_pos (by omega)] at hu
      exact hv.2 _ x u hx hu
    · rw [if_neg a2] at hx
      rw [if_neg (by omega)] at hu
      exact h.2 j x u hx hu

/-! literals -/
def fillD (s : St) (place : Nat → Option (Nat × Nat)) : List (Nat × Operand) → List SV → Option (List SV)
  | [], cs => some cs
  | (i, o) :: l, cs =>
    match place i, opd s o with
    | some (off, size), some x => match cellsOf x with
      | some vs => if vs.length = size then (match laid off vs cs with
        | some cs' => fillD s place l cs'
        | none => none) else none
      | none => none
    | _, _ => none

theorem beq_iff {m n : Nat} : Nat.beq m n = decide (m = n) := by
  by_cases h : m = n
  · subst h; simp
  · rw [beq_ne h]; simp [h]

theorem fillK_eq (s : St) (place : Nat → Option (Nat × Nat)) (l : List (Nat × Operand)) (cs : List SV) (k : List SV → EvR) : fillK s place l cs k = match fillD s place l cs with | some r => k r | none => .stop := by
  induction l generalizing cs with
  | nil => rfl
  | cons p l ih =>
    obtain ⟨i, o⟩ := p
    simp only [fillK, fillD]
    cases hp : place i with
    | none => rfl
    | some q =>
      obtain ⟨off, size⟩ := q
      cases ho : opd s o with
      | none => rfl
      | some x =>
        simp only
        cases hc : cellsOf x with
        | none => rfl
        | some vs =>
          simp only [lenK_eq, beq_iff, putK_eq]
          by_cases hl : vs.length = size
          · simp only [hl, decide_true, cond_true, if_true]
            cases hla : laid off vs cs with
            | none => rfl
            | some cs' => simp only; exact ih cs'
          · simp only [hl, decide_false, cond_false, if_false]

theorem fillD_ok (hd : ∀ t x, aget t s.tmps = some x → Den μ ok w x (a.tmps.getD t undef)) (place : Nat → Option (Nat × Nat)) (l : List (Nat × Operand)) : ∀ (cs cs' : List SV) (c : Array Value), Cells μ ok w cs c → fillD s place l cs = some cs' →
    ∃ c', Instr.fill place c (l.map fun (i, x) => (i, a.eval x)) = some c' ∧ Cells μ ok w cs' c' := by
  induction l with
  | nil =>
    intro cs cs' c h hf
    simp only [fillD, Option.some.injEq] at hf
    subst hf
    exact ⟨c, rfl, h⟩
  | cons p l ih =>
    intro cs cs' c h hf
    obtain ⟨i, o⟩ := p
    simp only [fillD] at hf
    cases hp : place i with
    | none => rw [hp] at hf; cases hf
    | some q =>
      obtain ⟨off, size⟩ := q
      rw [hp] at hf
      cases ho : opd s o with
      | none => rw [ho] at hf; cases hf
      | some x =>
        rw [ho] at hf
        simp only at hf
        cases hc : cellsOf x with
        | none => rw [hc] at hf; cases hf
        | some vs =>
          rw [hc] at hf
          simp only at hf
          by_cases hl : vs.length = size
          · rw [if_pos hl] at hf
            cases hla : laid off vs cs with
            | none => rw [hla] at hf; cases hf
            | some cs1 =>
              rw [hla] at hf
              have hx := opd_den hd ho
              have hv := cellsOf_ok hx hc
              obtain ⟨f1, f2⟩ := fill_one (a.eval o) off c
              obtain ⟨_, hb, _⟩ := laid_spec off vs cs cs1 hla
              obtain ⟨c', g1, g2⟩ := ih cs1 cs' _ (h.laid hv hla f1 f2) hf
              refine ⟨c', ?_, g2⟩
              simp only [List.map_cons, Instr.fill, hp]
              rw [if_neg]
              · exact g1
              · have := hv.1; have := h.1
                simp; omega
          · rw [if_neg hl] at hf; cases hf

theorem zero_cells {z : Value} {l : List DV} (h : z.cells.toList.map some = l.map dvCell) : Cells μ ok w (l.map SV.d) z.cells := by
  have hl : z.cells.size = l.length := by
    have := congrArg List.length h
    simpa using this
  refine ⟨by simp [hl], fun j c u hc hu => ?_⟩
  have hj := congrArg (fun l => l[j]?) h
  simp only [List.getElem?_map, Array.getElem?_toList, hu] at hj
  rw [List.getElem?_map] at hc
  cases e : l[j]? with
  | none => rw [e] at hc; cases hc
  | some x =>
    rw [e] at hc hj
    simp at hc hj
    subst hc
    cases x with
    | v y => simp [dvCell] at hj; subst hj; exact .d (.v _)
    | nil => simp [dvCell] at hj; subst hj; exact .d .nil
    | sl k xs => simp [dvCell] at hj

theorem run_places (F : List Field) (h : (F.all fun f => (P.info? f.type).isSome) = true) :
    (F.mapM (m := Sem) fun f => do pure (f.offset, ← sizeOf f.type)).run P w = .ok (F.map fun f => (f.offset, ((P.info? f.type).map (·.size)).getD 0)) w := by
  induction F with
  | nil => rfl
  | cons f F ih =>
    simp only [List.all_cons, Bool.and_eq_true] at h
    obtain ⟨h1, h2⟩ := h
    obtain ⟨i, hi⟩ := Option.isSome_iff_exists.1 h1
    have hs : (sizeOf f.type).run P w = .ok i.size w := by simp [sizeOf, typeInfo, hi]
    simp only [List.mapM_cons, Sem.run_bind, hs, Result.andThen_ok, Sem.run_pure, ih h2, List.map_cons, hi, Option.map_some, Option.getD_some]

theorem TyOk.size_eq {t : TypeId} {y : Ty} (h : TyOk P t y) : ((P.info? t).map (·.size)).getD 0 = y.size := by
  obtain ⟨i, z, h1, h2, _⟩ := h.info
  simp [h1, h2]

theorem evBuild_ok (hT : TabOk P T) (hd : ∀ t x, aget t s.tmps = some x → Den μ ok w x (a.tmps.getD t undef)) (t : TypeId) (ps : Array (Nat × Operand)) :
    VOk P μ ok w (Instr.build t (ps.map fun (i, x) => (i, a.eval x))) (evBuild T s t ps.toList) := by
  unfold evBuild
  split
  · rename_i y ht
    have hty := hT _ _ ht
    obtain ⟨z, hz1, hz2⟩ := hty.zeroValue (w := w)
    have hc : Cells μ ok w (y.zero.map SV.d) z.cells := zero_cells hz2
    split
    · rename_i fs hfs
      simp only [mapK_eq, fillK_eq]
      cases hf : fillD s (structPlace T fs) ps.toList (y.zero.map SV.d) with
      | none => trivial
      | some cs' =>
        have htd := hty.td
        rw [hfs] at htd
        obtain ⟨F, hF, hm, hall⟩ := htd
        -- the places that the model takes
        have hpl : ∀ (places : Array (Nat × Nat)), places.toList = (F.toList.map fun f => (f.offset, ((P.info? f.type).map (·.size)).getD 0)) → ∀ i q, structPlace T fs i = some q → places[i]? = some q := by
          intro places hp i q hq
          unfold structPlace at hq
          rw [nth_eq, ← hm, List.getElem?_map, Array.getElem?_toList] at hq
          rw [← Array.getElem?_toList, hp, List.getElem?_map, Array.getElem?_toList]
          cases e : F[i]? with
          | none => rw [e] at hq; cases hq
          | some f =>
            rw [e] at hq
            simp only [Option.map_some] at hq
            cases e2 : aget f.type T with
            | none => rw [e2] at hq; cases hq
            | some y2 =>
              rw [e2] at hq
              simp only [Option.some.injEq] at hq
              subst hq
              simp [(hT _ _ e2).size_eq]
        intro _
        have hmono : ∀ (places : Array (Nat × Nat)) (l : List (Nat × Operand)) (cs cs' : List SV), (∀ i q, structPlace T fs i = some q → places[i]? = some q) → fillD s (structPlace T fs) l cs = some cs' → fillD s (places[·]?) l cs = some cs' := by
          intro places l
          induction l with
          | nil => intro cs cs' _ h; exact h
          | cons p l ih =>
            intro cs cs' hpl h
            obtain ⟨i, o⟩ := p
            simp only [fillD] at h ⊢
            cases hp : structPlace T fs i with
            | none => rw [hp] at h; cases h
            | some q =>
              rw [hp] at h
              rw [hpl i q hp]
              obtain ⟨off, size⟩ := q
              cases ho : opd s o with
              | none => rw [ho] at h; cases h
              | some x =>
                rw [ho] at h
                simp only at h ⊢
                cases hc : cellsOf x with
                | none => rw [hc] at h; cases h
                | some vs =>
                  rw [hc] at h
                  simp only at h ⊢
                  by_cases hl : vs.length = size
                  · rw [if_pos hl] at h ⊢
                    cases hla : laid off vs cs with
                    | none => rw [hla] at h; cases h
                    | some cs1 => rw [hla] at h; simp only at h ⊢; exact ih _ _ hpl h
                  · rw [if_neg hl] at h; cases h
        let places : Array (Nat × Nat) := (F.toList.map fun f => (f.offset, ((P.info? f.type).map (·.size)).getD 0)).toArray
        obtain ⟨c', g1, g2⟩ := fillD_ok hd (places[·]?) ps.toList _ _ _ hc (hmono places _ _ _ (hpl places (by simp [places])) hf)
        refine ⟨.agg c', ?_, .agg _ g2.1 g2.2⟩
        simp only [Instr.build, Sem.run_bind, hz1, Result.andThen_ok, run_underlying hF]
        rw [Array.mapM_eq_mapM_toList, Sem.run_map, run_places _ hall]
        simp only [Result.andThen_ok]
        have e : (Array.map (fun (x : Nat × Operand) => (x.1, a.eval x.2)) ps).toList = ps.toList.map fun (i, x) => (i, a.eval x) := by simp
        rw [e]
        simp only [places] at g1
        rw [g1]
        rfl
    · rename_i n e hfs
      split
      · rename_i y2 he
        simp only [mapK_eq, fillK_eq]
        cases hf : fillD s (fun i => some (i * y2.size, y2.size)) ps.toList (y.zero.map SV.d) with
        | none => trivial
        | some cs' =>
          have htd := hty.td
          rw [hfs] at htd
          obtain ⟨c', g1, g2⟩ := fillD_ok hd _ ps.toList _ _ _ hc hf
          refine fun _ => ⟨.agg c', ?_, .agg _ g2.1 g2.2⟩
          simp only [Instr.build, Sem.run_bind, hz1, Result.andThen_ok, run_underlying htd, (hT _ _ he).sizeOf]
          have e : (Array.map (fun (x : Nat × Operand) => (x.1, a.eval x.2)) ps).toList = ps.toList.map fun (i, x) => (i, a.eval x) := by simp
          rw [e, g1]
          rfl
      · trivial
    · trivial
  · trivial

/-! a literal of a slice -/
def rowD (s : St) (size : Nat) : Nat → List (Nat × Operand) → Option (List (List SV))
  | _, [] => some []
  | i, (j, o) :: l =>
    if i = j then (match opd s o with
      | some x => match cellsOf x with
        | some vs => if vs.length = size ∧ allCells vs = true then (match rowD s size (i + 1) l with | some l' => some (vs :: l') | none => none) else none
        | none => none
      | none => none) else none

theorem rowK_eq (s : St) (size : Nat) (l : List (Nat × Operand)) : ∀ (i : Nat) (k : Option (List (List SV)) → EvR), rowK s size i l k = k (rowD s size i l) := by
  induction l with
  | nil => intro i k; rfl
  | cons p l ih =>
    intro i k
    obtain ⟨j, o⟩ := p
    simp only [rowK, rowD, beq_iff]
    by_cases hj : i = j
    · simp only [hj, decide_true, cond_true, if_true]
      cases ho : opd s o with
      | none => rfl
      | some x =>
        simp only
        cases hc : cellsOf x with
        | none => rfl
        | some vs =>
          simp only [lenK_eq, beq_iff]
          by_cases h1 : vs.length = size
          · simp only [h1, decide_true, cond_true]
            cases h2 : allCells vs
            · simp
            · simp only [cond_true, and_self, if_true, ← hj, ih]
              cases rowD s size (i + 1) l <;> rfl
          · simp only [h1, decide_false, cond_false, false_and, if_false]
    · simp only [hj, decide_false, cond_false, if_false]

theorem rowD_ok (hd : ∀ t x, aget t s.tmps = some x → Den μ ok w x (a.tmps.getD t undef)) (size n : Nat) (l : List (Nat × Operand)) : ∀ (i : Nat) (xs : List (List SV)) (c : Array Value), c.size = n * size → i + l.length ≤ n → rowD s size i l = some xs →
    xs.length = l.length ∧ (∀ (q : Nat) (e : List SV), xs[q]? = some e → e.length = size) ∧
    ∃ c', Instr.fill (fun i => some (i * size, size)) c (l.map fun (i, x) => (i, a.eval x)) = some c' ∧ c'.size = c.size ∧ (∀ m, m < i * size → c'[m]? = c[m]?) ∧
      ∀ (q : Nat) (e : List SV) (j : Nat) (x : SV) (u : Value), xs[q]? = some e → e[j]? = some x → c'[(i + q) * size + j]? = some u → Den μ ok w x u := by
  induction l with
  | nil =>
    intro i xs c hs hl h
    simp only [rowD, Option.some.injEq] at h
    subst h
    exact ⟨rfl, by simp, c, rfl, rfl, fun _ _ => rfl, by simp⟩
  | cons p l ih =>
    intro i xs c hs hl h
    obtain ⟨j, o⟩ := p
    simp only [List.length_cons] at hl
    simp only [rowD] at h
    by_cases hj : i = j
    · subst hj
      rw [if_pos rfl] at h
      cases ho : opd s o with
      | none => rw [ho] at h; cases h
      | some x =>
        rw [ho] at h
        simp only at h
        cases hc : cellsOf x with
        | none => rw [hc] at h; cases h
        | some vs =>
          rw [hc] at h
          simp only at h
          by_cases h1 : vs.length = size ∧ allCells vs = true
          · rw [if_pos h1] at h
            obtain ⟨h1, h2⟩ := h1
            cases hr : rowD s size (i + 1) l with
            | none => rw [hr] at h; cases h
            | some xs' =>
              rw [hr] at h
              simp only [Option.some.injEq] at h
              subst h
              have hv := cellsOf_ok (opd_den hd ho) hc
              obtain ⟨f1, f2⟩ := fill_one (a.eval o) (i * size) c
              have hle : (i + 1) * size ≤ n * size := Nat.mul_le_mul_right _ (by omega)
              have hex : (i + 1) * size = i * size + size := by rw [Nat.add_mul, Nat.one_mul]
              obtain ⟨g0, g0', c', g1, g2, g3, g4⟩ := ih (i + 1) xs' _ (by rw [f1]; exact hs) (by omega) hr
              refine ⟨by simp [g0], fun q e he => ?_, c', ?_, g2.trans f1, fun m hm => ?_, fun q e j x u he hx hu => ?_⟩
              · cases q with
                | zero => simp at he; subst he; exact h1
                | succ q => exact g0' q e (by simpa using he)
              · simp only [List.map_cons, Instr.fill]
                rw [if_neg]
                · exact g1
                · have := hv.1
                  simp; omega
              · rw [g3 m (by omega), f2 m, if_neg (by omega)]
              · cases q with
                | zero =>
                  simp at he
                  subst he
                  have hjl : j < vs.length := (List.getElem?_eq_some_iff.1 hx).1
                  rw [Nat.add_zero, g3 _ (by omega), f2, if_pos (by have := hv.1; omega)] at hu
                  have e1 : i * size + j - i * size = j := by omega
                  rw [e1] at hu
                  exact hv.2 j x u hx hu
                | succ q =>
                  have e1 : (i + (q + 1)) = (i + 1) + q := by omega
                  rw [e1] at hu
                  exact g4 q e j x u (by simpa using he) hx hu
          · rw [if_neg h1] at h; cases h
    · rw [if_neg hj] at h; cases h

def EvOk (P : Program) (μ : Nat → Option Nat) (ok : Nat → Prop) (s : St) (a : Act) (w : World) (o : Oper) : EvR → Prop
  | .val x p => p → ∃ y, (execOp a.eval o).run P w = .ok (.value y) w ∧ Den μ ok w x y
  | .box cs => ∃ c T, (execOp a.eval o).run P w = .ok (.value (.pointer (some ⟨w.heap.size, 0, none⟩))) (w.alloc (.cells c T)) ∧ Cells μ ok w cs c
  | .row T k xs n => ∃ c, (execOp a.eval o).run P w = .ok (.value (.slice (some ⟨w.heap.size, 0, none⟩) n n)) (w.alloc (.cells c T)) ∧ n ≤ maxLen ∧ c.size = n * k ∧ xs.length = n ∧
      (∀ (i : Nat) (e : List SV), xs[i]? = some e → e.length = k) ∧ ∀ (i : Nat) (e : List SV) (j : Nat) (x : SV) (u : Value), xs[i]? = some e → e[j]? = some x → c[i * k + j]? = some u → Den μ ok w x u
  | .set id cs => ∃ b w', (execOp a.eval o).run P w = .ok .skip w' ∧ μ id = some b ∧ ¬ ok b ∧ Upd w w' b ∧ DenB μ ok w' b (.box cs) ∧ ∃ B0, aget id s.heap = some B0
  | .stop => True

theorem VOk.ev {o : Oper} {m : Sem Value} {r : EvR} (h : VOk P μ ok w m r) (e : execOp a.eval o = (do pure (.value (← m)))) : EvOk P μ ok s a w o r := by
  cases r with
  | val x p =>
    intro hp
    obtain ⟨y, h1, h2⟩ := h hp
    exact ⟨y, by rw [e, Sem.run_bind, h1]; rfl, h2⟩
  | stop => trivial
  | _ => exact h.elim

theorem evRow_ok (hT : TabOk P T) (hd : ∀ t x, aget t s.tmps = some x → Den μ ok w x (a.tmps.getD t undef)) (o : Oper) (t n : Nat) (ps : Array (Nat × Operand)) (ho : o.op = .buildSlice t n ps) : EvOk P μ ok s a w o (ev T s (.buildSlice t n ps)) := by
  simp only [ev]
  split
  · rename_i e _ _ _ ht
    split
    · rename_i y he
      simp only [lenK_eq, beq_iff, rowK_eq]
      cases h1 : (decide (ps.toList.length = n) && (Nat.ble (n * y.size) 16777216 && Nat.ble n 16777216))
      · trivial
      · simp only [cond_true]
        simp only [Bool.and_eq_true, decide_eq_true_eq] at h1
        obtain ⟨h1, h2, h3⟩ := h1
        have h3 : n ≤ 16777216 := Nat.le_of_ble_eq_true h3
        have h2 : n * y.size ≤ 16777216 := Nat.le_of_ble_eq_true h2
        cases hr : rowD s y.size 0 ps.toList with
        | none => trivial
        | some xs =>
          have hty := hT _ _ he
          obtain ⟨z, hz1, hz2⟩ := hty.zeroValue (w := w)
          have hsz : z.cells.size = y.zero.length := by simpa using congrArg List.length hz2
          let c0 : Array Value := (Array.range (n * y.size)).map fun x => (if n * y.size = 0 then #[] else z.cells)[x % (if n * y.size = 0 then #[] else z.cells).size]!
          obtain ⟨g0, g0', c', g1, g2, g3, g4⟩ := rowD_ok hd y.size n ps.toList 0 xs c0 (by simp [c0]) (by omega) hr
          refine ⟨c', ?_, ?_, by rw [g2]; simp [c0], by omega, g0', fun i e j x u he hx hu => g4 i e j x u he hx (by simpa using hu)⟩
          · have e1 : (ps.map fun (x : Nat × Operand) => (x.1, a.eval x.2)).toList = ps.toList.map fun (i, x) => (i, a.eval x) := by simp
            simp only [execOp, ho, Instr.buildSlice, Sem.run_bind, run_underlying (hT _ _ ht).td, Result.andThen_ok, hty.sizeOf]
            have e2 : ¬ n * y.size > 2 ^ 24 := by omega
            simp only [if_neg e2]
            simp only [c0] at g1
            by_cases hz : n * y.size = 0
            · simp only [if_pos hz] at g1 ⊢
              simp only [Sem.run_bind, Result.andThen_ok, Sem.run_pure]
              rw [e1, g1]
              simp [newRow]
            · simp only [if_neg hz] at g1 ⊢
              simp only [Sem.run_bind, Result.andThen_ok, Sem.run_pure, hz1]
              rw [e1, g1]
              simp [newRow]
          · unfold maxLen; omega
    · trivial
  · trivial

end
end Go.Sy
