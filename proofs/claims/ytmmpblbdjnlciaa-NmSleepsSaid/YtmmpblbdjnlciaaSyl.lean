/-
  SYMBOLIC STATES, over any program, part 21: owned blocks renamed.
-/
import Derived.Test.YtmmpblbdjnlciaaSyk
namespace Go.Sy
open Go.RowKit

section
variable {cx : Cx} {P : Program} {fn : Func} {lo : Nat} {T : Tab} {k : List It} {tm : List (Nat × SV)} {hp : List (Nat × Blk)} {nx : Nat}
variable {μ : Nat → Option Nat} {ok : Nat → Prop} {w : World}

def renI (r : List (Nat × Nat)) (i : Nat) : Nat := match aget i r with | some a => a | none => i
def renS (r : List (Nat × Nat)) : SV → SV
  | .ptr id j => .ptr (renI r id) j
  | .pel id k i j => .pel (renI r id) k i j
  | .own id k lo n C => .own (renI r id) k lo n C
  | .agg cs => .agg (go r cs)
  | .tup cs => .tup (go r cs)
  | .fn f a b => .fn f (go r a) (go r b)
  | .d x => .d x
  | .ip x => .ip x
  | .lit b => .lit b
where go (r : List (Nat × Nat)) : List SV → List SV
  | [] => []
  | x :: l => renS r x :: go r l

theorem renS_get (r : List (Nat × Nat)) (l : List SV) : (renS.go r l).length = l.length ∧ ∀ (j : Nat) c, l[j]? = some c → (renS.go r l)[j]? = some (renS r c) := by
  induction l with
  | nil => exact ⟨rfl, by simp⟩
  | cons x l ih =>
    refine ⟨by simp only [renS.go, List.length_cons, ih.1], fun j c hc => ?_⟩
    cases j with
    | zero => cases hc; rfl
    | succ j => exact ih.2 j c (by simpa using hc)

theorem Den.ren {r : List (Nat × Nat)} {μ' : Nat → Option Nat} {n : Nat} (hμ : ∀ i, i < n → μ' i = μ (renI r i)) {y : SV} {v : Value} (h : Den μ ok w y v) : ∀ x, y = renS r x → SV.idsLt n x = true → Den μ' ok w x v := by
  induction h with
  | d h => intro x hx _; cases x <;> cases hx; exact .d h
  | ptr h => intro x hx hl; cases x <;> cases hx; exact .ptr (by rw [hμ _ (Nat.le_of_ble_eq_true hl)]; exact h)
  | pel h => intro x hx hl; cases x <;> cases hx; exact .pel (by rw [hμ _ (Nat.le_of_ble_eq_true hl)]; exact h)
  | own h h1 h2 => intro x hx hl; cases x <;> cases hx; exact .own (by rw [hμ _ (Nat.le_of_ble_eq_true hl)]; exact h) h1 h2
  | ip a h4 => intro x hx _; cases x <;> cases hx; exact .ip a h4
  | lit b => intro x hx _; cases x <;> cases hx; exact .lit b
  | ownNil a id k lo => intro x hx _; cases x <;> cases hx; exact .ownNil a _ k lo
  | agg vs h h1 ih =>
    intro x hx hl
    cases x <;> cases hx
    rename_i cs
    obtain ⟨g1, g2⟩ := renS_get r cs
    exact .agg vs (by rw [h, g1]) fun j c u hc hu => ih j _ u (g2 j c hc) hu c rfl (idsLt_go hl j c hc)
  | tup vs h h1 ih =>
    intro x hx hl
    cases x <;> cases hx
    rename_i cs
    obtain ⟨g1, g2⟩ := renS_get r cs
    exact .tup vs (by rw [h, g1]) fun j c u hc hu => ih j _ u (g2 j c hc) hu c rfl (idsLt_go hl j c hc)
  | fn vs us h h1 h2 h3 ih1 ih2 =>
    intro x hx hl
    cases x <;> cases hx
    rename_i a b
    simp only [SV.idsLt, Bool.and_eq_true] at hl
    obtain ⟨g1, g2⟩ := renS_get r a
    obtain ⟨g3, g4⟩ := renS_get r b
    exact .fn vs us (by rw [h, g1]) (fun j c u hc hu => ih1 j _ u (g2 j c hc) hu c rfl (idsLt_go hl.1 j c hc)) (by rw [h2, g3]) (fun j c u hc hu => ih2 j _ u (g4 j c hc) hu c rfl (idsLt_go hl.2 j c hc))

def renB (r : List (Nat × Nat)) : Blk → Blk
  | .box cs => .box (renS.go r cs)
  | .row e f k xs C => .row e f k xs C

/-- Behind the renaming a block's names are known; what a row holds has none. -/
def Blk.okR (n : Nat) : Blk → Prop
  | .box cs => SV.idsLt.go n cs = true
  | .row _ _ _ xs _ => ∀ e ∈ xs, SV.idsLt.go 0 e = true

theorem DenB.ren {r : List (Nat × Nat)} {μ' : Nat → Option Nat} {n : Nat} (hμ : ∀ i, i < n → μ' i = μ (renI r i)) {b : Nat} {B : Blk} (h : DenB μ ok w b (renB r B)) (hl : B.okR n) : DenB μ' ok w b B := by
  cases B with
  | box cs =>
    obtain ⟨c, T, z, h1, hz, h2, h3⟩ := h
    obtain ⟨g1, g2⟩ := renS_get r cs
    exact ⟨c, T, z, h1, hz, by rw [h2, g1], fun j x u hx hu => (h3 j _ u (g2 j x hx) hu).ren hμ x rfl (idsLt_go hl j x hx)⟩
  | row T fz k xs C =>
    obtain ⟨c, z, h1, hf, hz, h2, h3, h4, h5⟩ := h
    exact ⟨c, z, h1, hf, hz, h2, h3, h4, fun i e j x u he hx hu => (h5 i e j x u he hx hu).cut (n := 0) (fun i hi => by omega) (idsLt_go (hl e (List.mem_of_getElem? he)) j x hx)⟩

theorem renB_ghost {r : List (Nat × Nat)} {B : Blk} (h : (renB r B).ghost) : B.ghost := by
  cases B with
  | box cs => exact h
  | row => exact h

def leTR (s' : St) (r : List (Nat × Nat)) : List (Nat × SV) → Prop
  | [] => True
  | (t, x) :: l => (aget t s'.tmps).map strip = some (renS r x) ∧ leTR s' r l
def leHR (s' : St) (r : List (Nat × Nat)) : List (Nat × Blk) → Prop
  | [] => True
  | (i, B) :: l => aget (renI r i) s'.heap = some (renB r B) ∧ leHR s' r l
def okHR (n : Nat) : List (Nat × Blk) → Prop
  | [] => True
  | (i, B) :: l => Nat.blt i n = true ∧ B.okR n ∧ okHR n l
def memN (i : Nat) : List Nat → Bool
  | [] => false
  | j :: l => Nat.beq i j || memN i l

theorem memN_iff {i : Nat} {l : List Nat} : memN i l = true ↔ i ∈ l := by
  induction l with
  | nil => simp [memN]
  | cons j l ih => simp only [memN, Bool.or_eq_true, ih, List.mem_cons, Nat.beq_eq]

def upR (r : List (Nat × Nat)) : Nat → List Nat
  | 0 => []
  | n + 1 => renI r n :: upR r n

def nodupN : List Nat → Bool
  | [] => true
  | x :: l => !memN x l && nodupN l

/-- No two names become one; the renamed ones are no caller's. -/
def okR (lo nx : Nat) (r : List (Nat × Nat)) : Bool := (r.all fun p => Nat.ble lo p.1) && nodupN (upR r nx)

theorem leTR_get {s' : St} {r : List (Nat × Nat)} {l : List (Nat × SV)} (h : leTR s' r l) {n : Nat} (ho : okT n l = true) : ∀ t x, aget t l = some x → (∃ y, aget t s'.tmps = some y ∧ strip y = renS r x) ∧ SV.idsLt n x = true := by
  induction l with
  | nil => intro t x hx; simp [aget] at hx
  | cons p l ih =>
    obtain ⟨u, y⟩ := p
    simp only [okT, Bool.and_eq_true] at ho
    intro t x hx
    rw [aget_cons] at hx
    by_cases e : t = u
    · rw [if_pos e] at hx
      cases hx
      subst e
      exact ⟨by simpa using h.1, ho.1⟩
    · rw [if_neg e] at hx
      exact ih h.2 ho.2 t x hx

theorem leHR_get {s' : St} {r : List (Nat × Nat)} {l : List (Nat × Blk)} (h : leHR s' r l) {n : Nat} (ho : okHR n l) : ∀ t x, aget t l = some x → aget (renI r t) s'.heap = some (renB r x) ∧ t < n ∧ x.okR n := by
  induction l with
  | nil => intro t x hx; simp [aget] at hx
  | cons p l ih =>
    obtain ⟨u, y⟩ := p
    intro t x hx
    rw [aget_cons] at hx
    by_cases e : t = u
    · rw [if_pos e] at hx
      cases hx
      subst e
      exact ⟨h.1, Nat.le_of_ble_eq_true ho.1, ho.2.1⟩
    · rw [if_neg e] at hx
      exact ih h.2 ho.2.2 t x hx

theorem okR_lo {lo nx : Nat} {r : List (Nat × Nat)} (h : okR lo nx r = true) {i a : Nat} (hi : aget i r = some a) : lo ≤ i := by
  simp only [okR, Bool.and_eq_true, List.all_eq_true] at h
  have : ∃ b, (i, b) ∈ r := by
    clear h
    induction r with
    | nil => simp [aget] at hi
    | cons p r ih =>
      obtain ⟨b, c⟩ := p
      rw [aget_cons] at hi
      by_cases e : i = b
      · exact ⟨c, by rw [e]; exact List.mem_cons_self⟩
      · rw [if_neg e] at hi
        obtain ⟨d, hd⟩ := ih hi
        exact ⟨d, List.mem_cons_of_mem _ hd⟩
  obtain ⟨b, hb⟩ := this
  exact Nat.le_of_ble_eq_true (h.1 _ hb)

theorem upR_mem {r : List (Nat × Nat)} : ∀ {n i : Nat}, i < n → renI r i ∈ upR r n
  | n + 1, i, h => by
    by_cases e : i = n
    · rw [e]; exact List.mem_cons_self
    · exact List.mem_cons_of_mem _ (upR_mem (by omega))

theorem upR_inj {r : List (Nat × Nat)} : ∀ {n i j : Nat}, nodupN (upR r n) = true → i < n → j < n → renI r i = renI r j → i = j
  | n + 1, i, j, h, hi, hj, e => by
    simp only [upR, nodupN, Bool.and_eq_true, Bool.not_eq_true'] at h
    have no : ∀ q, q < n → renI r n ≠ renI r q := fun q hq hn => by
      have := memN_iff.2 (upR_mem (r := r) hq)
      rw [← hn, h.1] at this
      cases this
    by_cases e1 : i = n <;> by_cases e2 : j = n
    · rw [e1, e2]
    · rw [e1] at e; exact absurd e (no j (by omega))
    · rw [e2] at e; exact absurd e.symm (no i (by omega))
    · exact upR_inj h.2 (by omega) (by omega) e

theorem renI_inj {lo nx : Nat} {r : List (Nat × Nat)} (h : okR lo nx r = true) {i j : Nat} (hi : i < nx) (hj : j < nx) (e : renI r i = renI r j) : i = j := by
  simp only [okR, Bool.and_eq_true] at h
  exact upR_inj h.2 hi hj e

/-- A state of which less is known, with blocks renamed: 'r' tells which name a block has now. -/
theorem AWP.lessR (e : Env cx P fn lo) (r : List (Nat × Nat)) {tm' : List (Nat × SV)} {hp' : List (Nat × Blk)} {nx' : Nat} (h1 : leTR ⟨tm', hp', nx'⟩ r tm) (h2 : leHR ⟨tm', hp', nx'⟩ r hp) (h3 : okT nx tm = true) (h4 : okHR nx hp) (h5 : okR lo nx r = true) (h6 : Nat.ble lo nx = true) (g : AWP cx k ⟨tm, hp, nx⟩) : AWP cx k ⟨tm', hp', nx'⟩ := fun a w hi => by
  obtain ⟨μ, ok, hi⟩ := hi.one
  refine g a w ?_
  let μ' : Nat → Option Nat := fun i => if i < nx then μ (renI r i) else none
  have hμ : ∀ i, i < nx → μ' i = μ (renI r i) := fun i h => by simp [μ', h]
  refine ⟨hi.defers, hi.size, μ', ok, ⟨fun i b hb => ?_, fun i h => by have h : nx ≤ i := h; simp [μ']; omega, hi.heap.sub, hi.heap.lt, hi.heap.okNew, fun i B hB => ?_, fun i j C D b hC hD hb hb' => ?_, hi.heap.frame, hi.heap.size, hi.heap.os, hi.heap.tape, hi.heap.output⟩, fun t x hx => ?_⟩
  · have hlo := e.lo i b hb
    rw [hμ _ (by have := Nat.le_of_ble_eq_true h6; omega)]
    have : renI r i = i := by
      unfold renI
      cases h : aget i r with
      | none => rfl
      | some a => have := okR_lo h5 h; omega
    rw [this]
    exact hi.heap.mu i b hb
  · obtain ⟨e1, e2, e3⟩ := leHR_get h2 h4 i B hB
    obtain ⟨hg, hn⟩ | ⟨b, g1, g2, g3, g4, g5⟩ := hi.heap.own _ _ e1
    · exact .inl ⟨renB_ghost hg, by rw [hμ _ e2]; exact hn⟩
    exact .inr ⟨b, by rw [hμ _ e2]; exact g1, g2, g3, g4, g5.ren hμ e3⟩
  · obtain ⟨e1, e2, _⟩ := leHR_get h2 h4 i C hC
    obtain ⟨e3, e4, _⟩ := leHR_get h2 h4 j D hD
    rw [hμ _ e2] at hb
    rw [hμ _ e4] at hb'
    exact renI_inj h5 e2 e4 (hi.heap.inj _ _ _ _ b e1 e3 hb hb')
  · obtain ⟨⟨y, e1, e3⟩, e2⟩ := leTR_get h1 h3 t x hx
    exact (strip_den (hi.tmps t y e1)).ren hμ x e3 e2

/-- What the slots have of a row is no more than it has. -/
def lenP (id m n : Nat) : List (Nat × SV) → Prop
  | [] => True
  | (_, .own i k lo q _) :: l => (i = id → k = m ∧ lo + q ≤ n) ∧ lenP id m n l
  | _ :: l => lenP id m n l

theorem lenP_get {id m n : Nat} : ∀ {l : List (Nat × SV)}, lenP id m n l → ∀ t k lo q C, aget t l = some (.own id k lo q C) → k = m ∧ lo + q ≤ n
  | [], _, t, k, lo, q, C, h => by simp [aget] at h
  | (u, x) :: l, hl, t, k, lo, q, C, h => by
    rw [aget_cons] at h
    by_cases e : t = u
    · rw [if_pos e] at h
      cases h
      exact hl.1 rfl
    · rw [if_neg e] at h
      refine lenP_get (l := l) ?_ t k lo q C h
      cases x <;> first | exact hl | exact hl.2

theorem AWP.freezeP {id m C : Nat} {te : TypeId} {fz : Bool} (ys : List (List DV)) (hrow : aget id hp = some (.row te fz m (ys.map (·.map SV.d)) C)) {tm' : List (Nat × SV)} {hp' : List (Nat × Blk)} (hT : frzT id ys tm = some tm') (hdel : adelO id hp = some hp')
    (hlen : lenP id m ys.length tm) (g : AWP cx k ⟨tm', hp', nx⟩) : AWP cx k ⟨tm, hp, nx⟩ := AWP.freeze hrow hT hdel (lenP_get hlen) g

theorem vstepE (e : Env cx P fn lo) (hT : TabOk P T) {all : Array Oper} {d : Nat} {op : Op} {ty : TypeId} {pos : String} {after : Array Edge} (hd : Nat.blt d fn.ntmps = true) {x y : SV} {p : Prop} (he : ev T ⟨tm, hp, nx⟩ op = .val x p) (hp' : p) (hx : x = y) :
    VStep cx all hp nx ⟨some d, op, ty, pos, after, none⟩ tm d y := hx ▸ VStep.ev e hT hd he hp'

/-- A row of int64 that is handed in. -/
theorem ints_of {n : Nat} {t : TypeId} {y : Ty} (ht : aget t T = some y) {q : IntKind} (hy : y.td = .int q) : ∀ (ys : List (List DV)), (∀ el ∈ ys, Tyd T (n + 1) t el) → ∃ l : List Int, ys = l.map (fun v => [.v (.int q v)]) ∧ ∀ z ∈ l, q.min ≤ z ∧ z ≤ q.max
  | [], _ => ⟨[], rfl, by simp⟩
  | el :: ys, h => by
    obtain ⟨l, rfl, h2⟩ := ints_of ht hy ys fun e he => h e (List.mem_cons_of_mem _ he)
    have h1 := h el List.mem_cons_self
    simp only [Tyd, ht, hy] at h1
    obtain ⟨z, rfl, hz⟩ := h1
    refine ⟨z :: l, rfl, fun u hu => ?_⟩
    rw [List.mem_cons] at hu
    obtain rfl | hu := hu
    · exact hz
    · exact h2 u hu

theorem Cv.ownAll {lend : List Nat} {id k n C C' : Nat} {xs : List (List SV)} (ys : List (List DV)) {te : TypeId} {fz : Bool} (h : aget id hp = some (.row te fz k xs C')) (hx : xs = ys.map (·.map SV.d)) (hm : id ∈ lend) (hn : n = ys.length) : Cv hp lend (.own id k 0 n C) (.d (.sl k ys)) := by
  subst hx hn
  have := Cv.own (lo := 0) (n := ys.length) (C := C) h hm (by omega)
  rwa [List.drop_zero, List.take_length] at this

end
end Go.Sy
