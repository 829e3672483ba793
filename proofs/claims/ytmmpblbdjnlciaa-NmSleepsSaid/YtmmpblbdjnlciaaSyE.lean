/-
  SYMBOLIC STATES, over any program, part 40: rows that are made of zeros.
-/
import Derived.Test.YtmmpblbdjnlciaaSyD
namespace Go.Sy
open Go.RowKit
section
variable {cx : Cx} {P : Program} {fn : Func} {lo : Nat} {T : Tab} {k : List It} {tm : List (Nat × SV)} {hp : List (Nat × Blk)} {nx M : Nat} {all : Array Oper} {R : List Rec} {id : Nat}
variable {d : Nat} {rest : List Oper} {ty : TypeId} {pos : String} {after : Array Edge}

theorem madeCells_one {z : Array Value} {v : Value} (hz : z = #[v]) (n i : Nat) (hi : i < n) : (madeCells z n)[i]? = some v := by
  subst hz
  unfold madeCells
  rw [Array.getElem?_map, Array.getElem?_eq_getElem (by simpa using hi)]
  simp [Nat.mod_one]

/-- A row of n zeros (of one cell each). -/
theorem AWP.make1 (e : Env cx P fn lo) (hT : TabOk P T) {t te : TypeId} {a b : Operand} {kl kc : IntKind} {l c : Int} {zt y : Ty} {zc : DV} (n : Nat) (hd : Nat.blt d fn.ntmps = true) (h1 : opd ⟨tm, hp, nx⟩ a = some (.d (.v (.int kl l)))) (h2 : opd ⟨tm, hp, nx⟩ b = some (.d (.v (.int kc c))))
    (h3 : aget t T = some zt) (h4 : zt.td = .slice te) (h5 : aget te T = some y) (h6 : y.zero = [zc]) (hl : l = n) (hc : c = n) (hb : y.bytes * n ≤ 281474976710656) (hn : n ≤ 9223372036854775807)
    (g : AWP cx (.ops all rest :: k) ⟨(d, .own nx 1 0 n n) :: tm, (nx, .row te false 1 (List.replicate n [.d zc]) n) :: hp, Nat.succ nx⟩) :
    AWP cx (.ops all (⟨some d, .makeSlice t a b, ty, pos, after, none⟩ :: rest) :: k) ⟨tm, hp, nx⟩ := by
  obtain ⟨rfl, rfl, _⟩ := e
  subst hl hc
  refine AWP.op rfl fun ac w hi => ?_
  obtain ⟨μ, ok, hI⟩ := hi.one
  have ha := (opd_den hI.tmps h1).int
  have hbv := (opd_den hI.tmps h2).int
  have u1 : cx.P.underlying t = some (.slice te) := by have := (hT _ _ h3).td; rw [h4] at this; exact this
  obtain ⟨ti, z, i1, i2, i3, i4, i5⟩ := (hT _ _ h5).info
  have hsz : y.size = 1 := by rw [← (hT _ _ h5).zlen, h6]; rfl
  have hz1 : ∃ v, z.cells = #[v] ∧ some v = dvCell zc := by
    rw [h6] at i5
    simp only [List.map_cons, List.map_nil] at i5
    cases hzl : z.cells.toList with
    | nil => rw [hzl] at i5; cases i5
    | cons v l =>
      rw [hzl] at i5
      simp only [List.map_cons, List.cons.injEq, List.map_eq_nil_iff] at i5
      obtain ⟨i6, rfl⟩ := i5
      exact ⟨v, by apply Array.ext'; rw [hzl], i6⟩
  obtain ⟨v, hv, hdv⟩ := hz1
  have hden : ∀ {μ : Nat → Option Nat} {ok : Nat → Prop} {w : World}, Den μ ok w (.d zc) v := by
    intro μ ok w
    cases zc with
    | v x => simp only [dvCell, Option.some.injEq] at hdv; subst hdv; exact .d (.v _)
    | nil => simp only [dvCell, Option.some.injEq] at hdv; subst hdv; exact .d .nil
    | sl _ _ => cases hdv
  have hrun := run_make (P := cx.P) w t te ti z u1 i1 i4 kl kc n n (by omega) (Int.le_refl _) (by rw [i3]; omega) (by omega)
  rw [Int.toNat_natCast, i2, hsz, Nat.mul_one] at hrun
  have hex : (execOp ac.eval ⟨some d, .makeSlice t a b, ty, pos, after, none⟩).run cx.P w = .ok (.value (.slice (some ⟨w.heap.size, 0, none⟩) n n)) (w.alloc (.cells (madeCells z.cells n) te)) := by
    simp only [execOp, ha, hbv, Sem.run_bind, hrun, Result.andThen_ok, Sem.run_pure]
  rw [hex, Oper.upon_value]
  have hB : DenB μ ok (w.alloc (.cells (madeCells z.cells n) te)) w.heap.size (.row te false 1 (List.replicate n [.d zc]) n) := by
    refine ⟨_, (0, 0), (MapKept.heap_alloc w _).1, fun _ => rfl, fun j _ hj => by omega, by rw [size_madeCells, Nat.mul_one], by rw [List.length_replicate]; exact Nat.le_refl _, fun i e he => ?_, fun i e j x u he hx hu => ?_⟩
    · rw [List.getElem?_replicate] at he
      split at he
      · cases he; rfl
      · cases he
    · rw [List.getElem?_replicate] at he
      split at he
      · rename_i hin
        cases he
        cases j with
        | zero =>
          cases hx
          rw [Nat.mul_one, Nat.add_zero, madeCells_one hv n i hin] at hu
          cases hu
          exact hden
        | succ j => simp at hx
      · cases he
  have a1 := hI.alloc (.cells (madeCells z.cells n) te) _ hB
  have hμ : upd μ nx w.heap.size nx = some w.heap.size := by simp [upd]
  have a2 := a1.put (Nat.le_of_ble_eq_true hd) (x := .own nx 1 0 n n) (v := .slice (some ⟨w.heap.size, 0, none⟩) n n) (by
    have := Den.own (μ := upd μ nx w.heap.size) (ok := ok) (w := w.alloc (.cells (madeCells z.cells n) te)) (id := nx) (k := 1) (lo := 0) (n := n) (C := n) (b := w.heap.size) hμ (by omega) hn
    simpa using this)
  exact g _ _ a2.inv

def keepH {Q : Type} (L : List Nat) : List Nat → List (Nat × Blk) → (List (Nat × Blk) → Q) → Q
  | _, [], k => k []
  | seen, (t, x) :: l, k => bif memN t seen then keepH L seen l k else bif memN t L then keepH L (t :: seen) l (fun r => k ((t, x) :: r)) else keepH L seen l k
theorem keepH_get {L : List Nat} : ∀ {l : List (Nat × Blk)} {seen : List Nat} {k : List (Nat × Blk) → Option (List (Nat × Blk))} {r : List (Nat × Blk)}, keepH L seen l k = some r → ∃ l', k l' = some r ∧ ∀ i B, aget i l' = some B → memN i seen = false ∧ aget i l = some B
  | [], seen, k, r, h => ⟨[], h, fun i B hi => by simp [aget] at hi⟩
  | (t, x) :: l, seen, k, r, h => by
    have drop : (memN t L = false) → keepH L seen l k = some r → ∃ l', k l' = some r ∧ ∀ i B, aget i l' = some B → memN i seen = false ∧ aget i ((t, x) :: l) = some B := fun hL h => by
      obtain ⟨l', h1, h2⟩ := keepH_getL h
      refine ⟨l', h1, fun i B hi => ?_⟩
      obtain ⟨g1, g2, g3⟩ := h2 i B hi
      refine ⟨g1, ?_⟩
      rw [aget_cons, if_neg (fun e => by rw [e, hL] at g3; cases g3)]
      exact g2
    simp only [keepH] at h
    cases h1 : memN t seen
    · rw [h1] at h
      simp only [cond_false] at h
      cases h2 : memN t L
      · rw [h2] at h
        exact drop h2 h
      · rw [h2] at h
        simp only [cond_true] at h
        obtain ⟨l', g1, g2⟩ := keepH_get h
        refine ⟨_, g1, fun i B hi => ?_⟩
        rw [aget_cons] at hi ⊢
        by_cases e : i = t
        · rw [if_pos e] at hi ⊢; subst e; exact ⟨h1, hi⟩
        · rw [if_neg e] at hi ⊢
          obtain ⟨q1, q2⟩ := g2 i B hi
          rw [memN_cons e] at q1
          exact ⟨q1, q2⟩
    · rw [h1] at h
      simp only [cond_true] at h
      obtain ⟨l', g1, g2⟩ := keepH_get h
      refine ⟨l', g1, fun i B hi => ?_⟩
      obtain ⟨q1, q2⟩ := g2 i B hi
      refine ⟨q1, ?_⟩
      rw [aget_cons, if_neg (fun e => by rw [e, h1] at q1; cases q1)]
      exact q2
where keepH_getL {L : List Nat} : ∀ {l : List (Nat × Blk)} {seen : List Nat} {k : List (Nat × Blk) → Option (List (Nat × Blk))} {r : List (Nat × Blk)}, keepH L seen l k = some r → ∃ l', k l' = some r ∧ ∀ i B, aget i l' = some B → memN i seen = false ∧ aget i l = some B ∧ memN i L = true
  | [], seen, k, r, h => ⟨[], h, fun i B hi => by simp [aget] at hi⟩
  | (t, x) :: l, seen, k, r, h => by
    simp only [keepH] at h
    cases h1 : memN t seen
    · rw [h1] at h
      simp only [cond_false] at h
      cases h2 : memN t L
      · rw [h2] at h
        simp only [cond_false] at h
        obtain ⟨l', g1, g2⟩ := keepH_getL h
        refine ⟨l', g1, fun i B hi => ?_⟩
        obtain ⟨q1, q2, q3⟩ := g2 i B hi
        refine ⟨q1, ?_, q3⟩
        rw [aget_cons, if_neg (fun e => by rw [e, h2] at q3; cases q3)]
        exact q2
      · rw [h2] at h
        simp only [cond_true] at h
        obtain ⟨l', g1, g2⟩ := keepH_getL h
        refine ⟨_, g1, fun i B hi => ?_⟩
        rw [aget_cons] at hi ⊢
        by_cases e : i = t
        · rw [if_pos e] at hi ⊢; subst e; exact ⟨h1, hi, h2⟩
        · rw [if_neg e] at hi ⊢
          obtain ⟨q1, q2, q3⟩ := g2 i B hi
          rw [memN_cons e] at q1
          exact ⟨q1, q2, q3⟩
    · rw [h1] at h
      simp only [cond_true] at h
      obtain ⟨l', g1, g2⟩ := keepH_getL h
      refine ⟨l', g1, fun i B hi => ?_⟩
      obtain ⟨q1, q2, q3⟩ := g2 i B hi
      refine ⟨q1, ?_, q3⟩
      rw [aget_cons, if_neg (fun e => by rw [e, h1] at q1; cases q1)]
      exact q2
/-- Less is known: these blocks alone. -/
theorem AWP.keepB (L : List Nat) {hp2 : List (Nat × Blk)} (h : keepH L [] hp some = some hp2) (g : AWP cx k ⟨tm, hp2, nx⟩) : AWP cx k ⟨tm, hp, nx⟩ := by
  obtain ⟨l', h1, h2⟩ := keepH_get h
  cases h1
  exact AWP.sub (fun _ _ h => h) (fun i B hB => (h2 i B hB).2) g

end
end Go.Sy
