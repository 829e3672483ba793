/-
  SYMBOLIC STATES, over any program, part 18: a law's arguments, and its end.
-/
import Derived.Test.YtmmpblbdjnlciaaSyh
import Derived.ProofKit
import Derived.Carry
namespace Go.Sy
open Go.RowKit Go.ChangeShapes Go.WideShapes Go.ChangeAt Go.Joins

/-- What rows of cells a type has. -/
def Tyds (Q : TypeId → List DV → Prop) : List TypeId → List DV → Prop
  | [], xs => xs = []
  | t :: ts, xs => ∃ a b, xs = a ++ b ∧ Q t a ∧ Tyds Q ts b

def tyz (T : Tab) (t : TypeId) : Nat := match aget t T with | some y => y.size | none => 0

def Tyd (T : Tab) : Nat → TypeId → List DV → Prop
  | 0, _, _ => False
  | n + 1, t, xs => match aget t T with
    | some y => match y.td with
      | .int k => ∃ z, xs = [.v (.int k z)] ∧ k.min ≤ z ∧ z ≤ k.max
      | .bool => ∃ b, xs = [.v (.bool b)]
      | .str => ∃ s, xs = [.v (.string s)] ∧ s.size ≤ 9223372036854775807
      | .slice e => ∃ ys, xs = [.sl (tyz T e) ys] ∧ ys.length ≤ 9223372036854775807 ∧ ∀ el ∈ ys, Tyd T n e el
      | .struct fs => Tyds (Tyd T n) (fs.map (·.1)) xs
      | .arr m e => ∃ ys : List (List DV), ys.length = m ∧ xs = ys.flatten ∧ ∀ el ∈ ys, Tyd T n e el
      | _ => False
    | none => False

def contig (T : Tab) : Nat → List (TypeId × Nat) → Option Nat
  | o, [] => some o
  | o, (t, off) :: l => bif Nat.beq o off then contig T (o + tyz T t) l else none

/-- May a law's argument be of this type? -/
def argTy (T : Tab) : Nat → TypeId → Bool
  | 0, _ => false
  | n + 1, t => match aget t T with
    | some y => match y.td with
      | .int _ | .bool | .str => true
      | .slice e => argTy T n e
      | .struct fs => (match contig T 0 fs with | some z => Nat.beq z y.size | none => false) && fs.all fun f => argTy T n f.1
      | .arr m e => Nat.beq y.size (m * tyz T e) && argTy T n e
      | _ => false
    | none => false

def CellsD (ok : Nat → Prop) (w : World) (xs : List DV) (cs : List Value) : Prop := xs.length = cs.length ∧ ∀ (j : Nat) x u, xs[j]? = some x → cs[j]? = some u → DDen ok w x u

theorem CellsD.append {ok : Nat → Prop} {w : World} {xs ys : List DV} {cs ds : List Value} (h : CellsD ok w xs cs) (h' : CellsD ok w ys ds) : CellsD ok w (xs ++ ys) (cs ++ ds) := by
  refine ⟨by simp [h.1, h'.1], fun j x u hx hu => ?_⟩
  by_cases hj : j < xs.length
  · rw [List.getElem?_append_left hj] at hx
    rw [List.getElem?_append_left (by rw [← h.1]; exact hj)] at hu
    exact h.2 j x u hx hu
  · rw [List.getElem?_append_right (by omega)] at hx
    rw [List.getElem?_append_right (by rw [← h.1]; omega), ← h.1] at hu
    exact h'.2 _ x u hx hu

theorem CellsD.one {ok : Nat → Prop} {w : World} {x : DV} {c : Value} (h : DDen ok w x c) : CellsD ok w [x] [c] :=
  ⟨rfl, fun j x' u hx hu => by cases j with | zero => cases hx; cases hu; exact h | succ j => simp at hx⟩

section
variable {H : Type} {enc : TypeId × Value → H} {P : Program} {T : Tab} {W : World}

theorem tyz_ok (hT : TabOk P T) {t : TypeId} {n : Nat} (h : argTy T n t = true) : P.cellsOf t = tyz T t := by
  cases n with
  | zero => cases h
  | succ n =>
    simp only [argTy] at h
    unfold tyz
    cases ht : aget t T with
    | none => rw [ht] at h; cases h
    | some y =>
      obtain ⟨i, z, h1, h2, _⟩ := (hT _ _ ht).info
      simp [Program.cellsOf, h1, h2]

theorem take_split {l : List Value} (a b c : Nat) (h : b ≤ c) : ((l.drop a).take c) = ((l.drop a).take b) ++ ((l.drop (a + b)).take (c - b)) := by
  rw [← List.drop_drop, ← List.take_add]
  congr 1
  omega

theorem open_fields {m : Nat} {Q : TypeId → List DV → Prop} {cs : List Value} {ok : Nat → Prop} : ∀ (fs : List (TypeId × Nat)) (o z : Nat), contig T o fs = some z → z ≤ cs.length →
    (∀ t off, (t, off) ∈ fs → ∃ xs, CellsD ok W xs ((cs.drop off).take (tyz T t)) ∧ Q t xs) → o ≤ z ∧ ∃ xs, CellsD ok W xs ((cs.drop o).take (z - o)) ∧ Tyds Q (fs.map (·.1)) xs
  | [], o, z, hc, hz, h => by
    simp only [contig, Option.some.injEq] at hc
    subst hc
    exact ⟨Nat.le_refl _, [], by simp [CellsD], rfl⟩
  | (t, off) :: fs, o, z, hc, hz, h => by
    simp only [contig] at hc
    by_cases e : o = off
    · subst e
      simp only [Nat.beq_refl, cond_true] at hc
      obtain ⟨h1, xs, h2, h3⟩ := open_fields (m := m) fs (o + tyz T t) z hc hz (fun t' off' hm => h t' off' (by simp [hm]))
      obtain ⟨ys, h4, h5⟩ := h t o (by simp)
      refine ⟨by omega, ys ++ xs, ?_, ys, xs, rfl, h5, h3⟩
      rw [take_split o (tyz T t) (z - o) (by omega)]
      have e2 : z - o - tyz T t = z - (o + tyz T t) := by omega
      rw [e2]
      exact h4.append h2
    · rw [beq_ne e] at hc
      cases hc

theorem flat_split {cs : List Value} {ok : Nat → Prop} {k : Nat} {Q : List DV → Prop} : ∀ (m o : Nat), o + m * k ≤ cs.length → (∀ i, i < m → ∃ xs, CellsD ok W xs ((cs.drop (o + i * k)).take k) ∧ Q xs) →
    ∃ ys : List (List DV), ys.length = m ∧ CellsD ok W ys.flatten ((cs.drop o).take (m * k)) ∧ ∀ el ∈ ys, Q el
  | 0, o, hl, h => ⟨[], rfl, by simp [CellsD], by simp⟩
  | m + 1, o, hl, h => by
    obtain ⟨xs, h1, h2⟩ := h 0 (by omega)
    have hk : (m + 1) * k = m * k + k := by rw [Nat.add_mul, Nat.one_mul]
    obtain ⟨ys, g1, g2, g3⟩ := flat_split (cs := cs) (ok := ok) (k := k) (Q := Q) m (o + k) (by omega) (fun i hi => by
      obtain ⟨xs, q1, q2⟩ := h (i + 1) (by omega)
      refine ⟨xs, ?_, q2⟩
      have e : o + (i + 1) * k = o + k + i * k := by rw [Nat.add_mul, Nat.one_mul]; omega
      rw [← e]
      exact q1)
    refine ⟨xs :: ys, by simp [g1], ?_, fun el he => ?_⟩
    · rw [List.flatten_cons, take_split o k ((m + 1) * k) (by omega)]
      have e2 : (m + 1) * k - k = m * k := by omega
      rw [e2]
      refine CellsD.append ?_ g2
      simpa using h1
    · rcases List.mem_cons.1 he with rfl | he
      · exact h2
      · exact g3 el he

/-- What is read as of a type is known deep down. -/
theorem open_deep (hT : TabOk P T) : ∀ (n : Nat) (t : TypeId) (fuel : Nat) (cs : List Value) (y : DataW H × List MemPlace), argTy T n t = true → DataW.trod enc P W 0 (fun _ => true) true fuel t cs = some y →
    ∃ xs, CellsD (· < W.heap.size) W xs cs ∧ Tyd T n t xs
  | 0, t, fuel, cs, y, ha, _ => by cases ha
  | n + 1, t, fuel, cs, y, ha, h => by
    have ha0 := ha
    simp only [argTy] at ha
    cases ht : aget t T with
    | none => rw [ht] at ha; cases ha
    | some yt =>
      rw [ht] at ha
      simp only at ha
      have hty := hT _ _ ht
      have htd := hty.td
      cases e : yt.td <;> rw [e] at ha htd <;> simp only at ha htd
      case int k =>
        obtain ⟨z, rfl, _, hw⟩ := DataW.trod_int htd h
        simp only [Lit.wf, Bool.and_eq_true, decide_eq_true_eq] at hw
        exact ⟨[.v (.int k z)], .one (.v _), by simp only [Tyd, ht, e]; exact ⟨z, rfl, hw⟩⟩
      case bool =>
        obtain ⟨b, rfl, _⟩ := DataW.trod_bool htd h
        exact ⟨[.v (.bool b)], .one (.v _), by simp only [Tyd, ht, e]; exact ⟨b, rfl⟩⟩
      case str =>
        obtain ⟨s, rfl, _, hs⟩ := DataW.trod_string htd h
        exact ⟨[.v (.string s)], .one (.v _), by simp only [Tyd, ht, e]; exact ⟨s, rfl, hs⟩⟩
      case slice el =>
        have hz := tyz_ok hT ha
        rcases Deep.open_slice htd h with ⟨rfl, _⟩ | ⟨a, len, cap, m, k, D, Pl, rfl, _, hl, hm, hmm, _, hx⟩
        · refine ⟨[.sl (tyz T el) []], .one (.slNil _), ?_⟩
          simp only [Tyd, ht, e]
          exact ⟨[], rfl, by simp, by simp⟩
        · have hmn : len ≤ m := by simp at hmm; omega
          have hex : ∀ i, i < len → ∃ xs : List DV, (∀ (j : Nat) c, xs[j]? = some c → a.block < W.heap.size ∧ ∃ u, W.cell? (a.add (i * tyz T el + j)) = some u ∧ DDen (· < W.heap.size) W c u) ∧ xs.length = tyz T el ∧ Tyd T n el xs := by
            intro i hi
            obtain ⟨cs', h1, h2⟩ := hx i (by omega)
            obtain ⟨xs, h3, h4⟩ := open_deep hT n el k cs' _ ha h2
            obtain ⟨_, q1, q2⟩ := World.cells?_some h1
            rw [hz] at q1 q2
            refine ⟨xs, fun j c hc => ?_, by rw [h3.1, q1], h4⟩
            have hj : j < xs.length := (List.getElem?_eq_some_iff.1 hc).1
            rw [h3.1] at hj
            have hcell := q2 j (by omega)
            rw [Addr.add_add, List.getElem?_eq_getElem hj] at hcell
            refine ⟨?_, cs'[j], hcell, h3.2 j c _ hc (by simp [hj])⟩
            have := World.block_lt_of_cell? W _ hcell
            rwa [add_block] at this
          let F : Nat → List DV := fun i => if h : i < len then Classical.choose (hex i h) else []
          have hF : ∀ i, i < len → (∀ (j : Nat) c, (F i)[j]? = some c → a.block < W.heap.size ∧ ∃ u, W.cell? (a.add (i * tyz T el + j)) = some u ∧ DDen (· < W.heap.size) W c u) ∧ (F i).length = tyz T el ∧ Tyd T n el (F i) := by
            intro i hi
            simp only [F, dif_pos hi]
            exact Classical.choose_spec (hex i hi)
          have hat : ∀ (i : Nat) (el' : List DV), ((List.range len).map F)[i]? = some el' → i < len ∧ el' = F i := by
            intro i el' he
            rw [List.getElem?_map] at he
            by_cases hi : i < len
            · rw [List.getElem?_range hi] at he
              cases he
              exact ⟨hi, rfl⟩
            · rw [List.getElem?_eq_none (by simpa using hi)] at he
              cases he
          refine ⟨[.sl (tyz T el) ((List.range len).map F)], .one ?_, ?_⟩
          · have := DDen.sl (ok := (· < W.heap.size)) (w := W) (tyz T el) ((List.range len).map F) a cap (by simpa using hl) hm (fun i e' he => by obtain ⟨hi, rfl⟩ := hat i e' he; exact (hF i hi).2.1)
              (fun i e' j c he hc => by obtain ⟨hi, rfl⟩ := hat i e' he; obtain ⟨q1, u, q2, _⟩ := (hF i hi).1 j c hc; exact ⟨q1, u, q2⟩)
              (fun i e' j c u he hc hu => by
                obtain ⟨hi, rfl⟩ := hat i e' he
                obtain ⟨q1, u', q2, q3⟩ := (hF i hi).1 j c hc
                rw [q2] at hu
                cases hu
                exact q3)
            simpa using this
          · simp only [Tyd, ht, e]
            refine ⟨_, rfl, by simp; have : maxLen = 9223372036854775807 := rfl; omega, fun el' he => ?_⟩
            obtain ⟨i, hi⟩ := List.mem_iff_getElem?.1 he
            obtain ⟨h1, rfl⟩ := hat i el' hi
            exact (hF i h1).2.2
      case struct fs =>
        obtain ⟨F, hF, hm, _⟩ := htd
        obtain ⟨xs, k, _, _, hlen, hxl, hx⟩ := DataW.trod_struct hF h
        have hcl : P.cellsOf t = yt.size := by have := tyz_ok hT ha0; rw [this]; unfold tyz; rw [ht]
        simp only [Bool.and_eq_true] at ha
        obtain ⟨ha1, ha2⟩ := ha
        cases hc : contig T 0 fs with
        | none => rw [hc] at ha1; cases ha1
        | some z =>
          rw [hc] at ha1
          have hz : z = yt.size := Nat.eq_of_beq_eq_true ha1
          rw [List.all_eq_true] at ha2
          obtain ⟨_, xs', h1, h2⟩ := open_fields (m := n) (Q := Tyd T n) (cs := cs) (ok := (· < W.heap.size)) (W := W) fs 0 z hc (by omega) (fun ft off hmem => by
            have haf := ha2 (ft, off) hmem
            rw [← hm] at hmem
            obtain ⟨f, hf, hfe⟩ := List.mem_map.1 hmem
            obtain ⟨i, hi⟩ := List.mem_iff_getElem?.1 hf
            rw [Array.getElem?_toList] at hi
            cases hfe
            have := hx i f hi
            have hil : i < xs.length := by rw [hxl]; exact (Array.getElem?_eq_some_iff.1 hi).1
            rw [List.getElem?_eq_getElem hil, tyz_ok hT haf] at this
            exact open_deep hT n f.type k _ _ haf this)
          refine ⟨xs', ?_, by simp only [Tyd, ht, e]; exact h2⟩
          rw [List.drop_zero, Nat.sub_zero, List.take_of_length_le (by omega)] at h1
          exact h1
      case arr m el =>
        obtain ⟨xs, k, _, _, hlen, hxl, hx⟩ := DataW.trod_array htd h
        simp only [Bool.and_eq_true] at ha
        obtain ⟨ha1, ha2⟩ := ha
        have hz : yt.size = m * tyz T el := Nat.eq_of_beq_eq_true ha1
        have hcl : P.cellsOf t = yt.size := by have := tyz_ok hT ha0; rw [this]; unfold tyz; rw [ht]
        obtain ⟨ys, h1, h2, h3⟩ := flat_split (W := W) (cs := cs) (ok := (· < W.heap.size)) (k := tyz T el) (Q := Tyd T n el) m 0 (by omega) (fun i hi => by
          have := hx i hi
          rw [List.getElem?_eq_getElem (by omega), tyz_ok hT ha2] at this
          rw [Nat.zero_add]
          exact open_deep hT n el k _ _ ha2 this)
        refine ⟨ys.flatten, ?_, by simp only [Tyd, ht, e]; exact ⟨ys, h1, rfl, h3⟩⟩
        rw [List.drop_zero, List.take_of_length_le (by omega)] at h2
        exact h2
      all_goals cases ha

def argSV (T : Tab) (t : TypeId) (xs : List DV) : SV :=
  match aget t T with
  | some y => match y.td.agg with
    | true => .agg (xs.map SV.d)
    | false => match xs with
      | [x] => .d x
      | _ => undefS
  | none => undefS

def Args (T : Tab) (n : Nat) : List TypeId → List SV → Prop
  | [], l => l = []
  | t :: ts, l => ∃ xs l', l = argSV T t xs :: l' ∧ Tyd T n t xs ∧ Args T n ts l'

theorem open_arg (hT : TabOk P T) {n : Nat} {t : TypeId} {v : Value} {d : DataW H} {p : List MemPlace} {r : Reach} {b0 : Nat} (ha : argTy T n t = true) (hv : Value.okWide P W r b0 t v) (h : DataW.Trod enc P W 0 (fun _ => true) true t v d p) :
    ∃ xs, Tyd T n t xs ∧ Den (fun _ => none) (· < W.heap.size) W (argSV T t xs) v := by
  obtain ⟨fuel, hf⟩ := h
  obtain ⟨xs, h1, h2⟩ := open_deep hT n t fuel _ _ ha hf
  refine ⟨xs, h2, ?_⟩
  cases n with
  | zero => cases ha
  | succ n =>
    simp only [argTy] at ha
    cases ht : aget t T with
    | none => rw [ht] at ha; cases ha
    | some yt =>
      rw [ht] at ha
      simp only at ha
      have htd := (hT _ _ ht).td
      have one : ∀ x, xs = [x] → v.cells = #[v] → yt.td.agg = false → Den (fun _ => none) (· < W.heap.size) W (argSV T t xs) v := by
        rintro x rfl hc hg
        simp only [argSV, ht, hg]
        have := h1.2 0 x v rfl (by rw [Array.getElem?_toList, hc]; rfl)
        exact .d this
      have many : ∀ cs, v = .agg cs → yt.td.agg = true → Den (fun _ => none) (· < W.heap.size) W (argSV T t xs) v := by
        rintro cs rfl hg
        simp only [argSV, ht, hg]
        refine .agg cs ?_ fun j c u hc hu => ?_
        · have := h1.1
          simpa [Value.cells] using this.symm
        · rw [List.getElem?_map] at hc
          cases e : xs[j]? with
          | none => rw [e] at hc; cases hc
          | some x =>
            rw [e] at hc
            cases hc
            exact .d (h1.2 j x u e (by simpa [Value.cells] using hu))
      cases e : yt.td <;> rw [e] at ha htd <;> simp only [Tyd, ht, e] at ha htd h2
      case int k => obtain ⟨z, rfl, _⟩ := h2; obtain ⟨n, rfl⟩ := okWide_int htd hv; exact one _ rfl rfl (by rw [e]; rfl)
      case bool => obtain ⟨z, rfl⟩ := h2; obtain ⟨n, rfl⟩ := okWide_bool htd hv; exact one _ rfl rfl (by rw [e]; rfl)
      case str => obtain ⟨z, rfl, _⟩ := h2; obtain ⟨n, rfl⟩ := okWide_string htd hv; exact one _ rfl rfl (by rw [e]; rfl)
      case slice el => obtain ⟨z, rfl, _⟩ := h2; obtain ⟨a, l, c, rfl⟩ := okWide_slice htd hv; exact one _ rfl rfl (by rw [e]; rfl)
      case struct fs =>
        obtain ⟨F, hF, _⟩ := htd
        obtain ⟨cs, rfl, _⟩ := okWide_struct hF hv
        exact many cs rfl (by rw [e]; rfl)
      case arr m el =>
        simp only [Value.okWide, htd] at hv
        obtain ⟨cs, rfl, _⟩ := hv
        exact many cs rfl (by rw [e]; rfl)
      all_goals cases ha

theorem open_args (hT : TabOk P T) {n : Nat} {r : Reach} {b0 : Nat} : ∀ (ts : List TypeId) (vs : List Value) (ds : List (DataW H)) (ps : List MemPlace), (ts.all fun t => argTy T n t) = true →
    (∀ (j : Nat) t v, ts[j]? = some t → vs[j]? = some v → Value.okWide P W r b0 t v) → DataW.TrodAll enc P W 0 (fun _ => true) true ts vs ds ps →
    ∃ l, Args T n ts l ∧ l.length = vs.length ∧ ∀ (j : Nat) c u, l[j]? = some c → vs[j]? = some u → Den (fun _ => none) (· < W.heap.size) W c u
  | [], [], [], ps, _, _, _ => ⟨[], rfl, rfl, by simp⟩
  | t :: ts, v :: vs, d :: ds, ps, ha, hv, h => by
    simp only [List.all_cons, Bool.and_eq_true] at ha
    obtain ⟨p, q, h1, h2, rfl⟩ := h
    obtain ⟨l, g1, g2, g3⟩ := open_args hT ts vs ds q ha.2 (fun j t v ht hv' => hv (j + 1) t v (by simpa using ht) (by simpa using hv')) h2
    obtain ⟨xs, k1, k2⟩ := open_arg hT ha.1 (hv 0 t v rfl rfl) h1
    refine ⟨argSV T t xs :: l, ⟨xs, l, rfl, k1, g1⟩, by simp [g2], fun j c u hc hu => ?_⟩
    cases j with
    | zero => cases hc; cases hu; exact k2
    | succ j => exact g3 j c u (by simpa using hc) (by simpa using hu)
  | [], _ :: _, _, _, _, _, h => h.elim
  | [], [], _ :: _, _, _, _, h => h.elim
  | _ :: _, [], _, _, _, _, h => h.elim
  | _ :: _, _ :: _, [], _, _, _, h => h.elim

/-- From a law's contract to what its statement asks of a call. -/
theorem calls_law {f : FuncId} {l : List SV} {vs : Array Value} (hE : Eff P f l [] 0 (fun r _ _ => r = .b true)) (h1 : l.length = vs.toList.length) (h2 : ∀ (j : Nat) c u, l[j]? = some c → vs.toList[j]? = some u → Den (fun _ => none) (· < W.heap.size) W c u) :
    Calls P f vs W fun e W' => e = .returned (.bool true) ∧ Below W.heap.size W W' := by
  let cx : Cx := ⟨P, default, W, fun _ => none, (· < W.heap.size), fun _ => False, fun _ _ _ => True⟩
  refine (hE.2 cx vs rfl (fun b => ⟨fun h => h.elim, fun ⟨i, B, h, _⟩ => by simp [aget] at h⟩)
    ⟨fun _ _ h => h, fun _ _ => rfl, fun _ h => h, fun _ h => h, fun _ h => .inl h, fun i B h => by simp [aget] at h, fun i j C D b h => by simp [aget] at h, fun _ _ _ => rfl, Nat.le_refl _, rfl, rfl, rfl⟩ (by simpa using h1.symm) (fun j c u hc hu => h2 j c u hc (by simpa using hu))).mono ?_
  rintro e w' ⟨v, μ, ok, r, h, n', rfl, g1, g2, rfl⟩
  refine ⟨by rw [g2.vv], g1.os, g1.tape, g1.output, g1.size, fun k hk => g1.frame k hk (fun h => h)⟩

theorem trodAll_below {H : Type} {enc : TypeId × Value → H} {P : Program} (hl : laidOutB P = true) {W W' : World} (hb : Below W.heap.size W W') :
    ∀ (ts : List TypeId) (vs : List Value) (ds : List (DataW H)) (ps : List MemPlace), (∀ t ∈ ts, P.readableRec t = true ∧ t < P.types.size) →
      DataW.TrodAll enc P W 0 (fun _ => true) true ts vs ds ps → (∀ x ∈ ps, x.block < W.heap.size) →
      DataW.TrodAll enc P W' 0 (fun b => decide (b < W.heap.size)) true ts vs ds ps
  | [], [], [], ps, _, h, _ => h
  | t :: ts, v :: vs, d :: ds, ps, hr, h, hlt => by
    obtain ⟨p, q, h1, h2, rfl⟩ := h
    refine ⟨p, q, Below.trod hl (hr t (by simp)).1 (hr t (by simp)).2 h1 hb (fun x hx => hlt x (by simp [hx])), ?_, rfl⟩
    exact trodAll_below hl hb ts vs ds q (fun t' ht' => hr t' (by simp [ht'])) h2 (fun x hx => hlt x (by simp [hx]))
  | [], _ :: _, _, _, _, h, _ => h.elim
  | [], [], _ :: _, _, _, h, _ => h.elim
  | _ :: _, [], _, _, _, h, _ => h.elim
  | _ :: _, _ :: _, [], _, _, h, _ => h.elim

/-- THE POST OF A LAW: the result is true; the arguments read as they did; nothing that was there has turned. -/
theorem law_post {H : Type} {enc : TypeId × Value → H} {P : Program} {f : Func} {s : ChangeSpec} {tb : TypeId} (hl : laidOutB P = true) (hvars : s.vars = [])
    (hres : f.resultTypes = #[tb]) (htb : P.underlying tb = some .bool) (hr : (f.params.toList.all fun t => P.readableRec t && decide (t < P.types.size)) = true)
    {W W' : World} {args : Array Value} {ds gs : List (DataW H)} {before : List MemPlace}
    (hW : DataW.Whole enc P f.params.toList s.vars false W args.toList ds gs before)
    (hfn : s.fn H ds = { results := [.lit (.bool true)], args := ds }) (hb : Below W.heap.size W W') :
    s.post enc P f false true false false W args (.bool true) W' := by
  have hr : ∀ t ∈ f.params.toList, P.readableRec t = true ∧ t < P.types.size := fun t ht => by
    have := List.all_eq_true.1 hr t ht
    simpa using this
  have hlt := hW.lt
  have hW' := hW
  obtain ⟨p, q, hA, hV, rfl, _, _⟩ := hW
  rw [hvars] at hV
  obtain ⟨rfl, rfl⟩ := trodVars_none hV
  simp only [List.append_nil] at hlt hW'
  refine ⟨ds, [], p, [], p, [], hW', ?_, ?_, ?_, hb.frame _, fun h => by cases h⟩
  · simp only [List.append_nil, hfn, hres]
    exact trodAll_mk1 (shut_bool htb true)
  · simp only [List.append_nil, hfn]
    exact trodAll_below hl hb _ _ _ _ hr hA hlt
  · simp only [List.append_nil, hfn, hvars]
    exact rfl

theorem trodAll_len {H : Type} {enc : TypeId × Value → H} {P : Program} {W : World} : ∀ (ts : List TypeId) (vs : List Value) (ds : List (DataW H)) (ps : List MemPlace), DataW.TrodAll enc P W 0 (fun _ => true) true ts vs ds ps → ds.length = ts.length
  | [], [], [], _, _ => rfl
  | _ :: ts, _ :: vs, _ :: ds, _, h => by obtain ⟨_, q, _, h2, _⟩ := h; simp [trodAll_len ts vs ds q h2]
  | [], _ :: _, _, _, h => h.elim
  | [], [], _ :: _, _, h => h.elim
  | _ :: _, [], _, _, h => h.elim
  | _ :: _, _ :: _, [], _, h => h.elim

end
end Go.Sy
