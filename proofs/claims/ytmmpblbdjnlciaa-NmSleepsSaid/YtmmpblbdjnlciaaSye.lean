/-
  SYMBOLIC STATES, over any program, part 14: appending; rows that begin as nil; rows that are written no more.
-/
import Derived.Test.YtmmpblbdjnlciaaSyd
namespace Go.Sy
open Go.RowKit

section
variable {cx : Cx} {P : Program} {fn : Func} {lo : Nat} {T : Tab} {k : List It} {s : St} {tm : List (Nat × SV)} {hp : List (Nat × Blk)} {nx : Nat}
variable {all : Array Oper} {rest : List Oper} {d : Nat} {ty : TypeId} {pos : String} {after : Array Edge}

/-- Rows of k cells each lie at a. -/
def RowMem (μ : Nat → Option Nat) (ok : Nat → Prop) (w : World) (a : Addr) (k : Nat) (ys : List (List SV)) : Prop :=
  (∀ (i : Nat) (e : List SV), ys[i]? = some e → e.length = k) ∧ ∀ (i : Nat) (e : List SV) (j : Nat) (x : SV), ys[i]? = some e → e[j]? = some x → ∃ u, w.cell? (a.add (i * k + j)) = some u ∧ Den μ ok w x u

theorem RowMem.gather {μ : Nat → Option Nat} {ok : Nat → Prop} {w : World} {a : Addr} {k : Nat} {ys : List (List SV)} (h : RowMem μ ok w a k ys) :
    ∃ vs : List Value, vs.length = ys.length * k ∧ (∀ (q : Nat) u, vs[q]? = some u → w.cell? (a.add q) = some u) ∧
      (∀ (i : Nat) (e : List SV) (j : Nat) (x : SV) (u : Value), ys[i]? = some e → e[j]? = some x → vs[i * k + j]? = some u → Den μ ok w x u) := by
  have hex : ∀ q, q < ys.length * k → ∃ u, w.cell? (a.add q) = some u := by
    intro q hq
    have hk : 0 < k := by
      rcases Nat.eq_zero_or_pos k with h0 | h0
      · subst h0; simp at hq
      · exact h0
    have h1 : q / k < ys.length := Nat.div_lt_of_lt_mul (by rw [Nat.mul_comm]; exact hq)
    have h2 : q % k < k := Nat.mod_lt _ hk
    have h3 := h.1 (q / k) ys[q / k] (by simp [h1])
    obtain ⟨u, hu, _⟩ := h.2 (q / k) ys[q / k] (q % k) (ys[q / k][q % k]'(by omega)) (by simp [h1]) (by simp)
    refine ⟨u, ?_⟩
    have e : q / k * k + q % k = q := by rw [Nat.mul_comm]; exact Nat.div_add_mod q k
    rwa [e] at hu
  have hvs : ∀ (q : Nat) u, ((List.range (ys.length * k)).map fun q => (w.cell? (a.add q)).getD undef)[q]? = some u → w.cell? (a.add q) = some u := by
    intro q u hq
    rw [List.getElem?_map] at hq
    by_cases hlt : q < ys.length * k
    · rw [List.getElem?_range hlt] at hq
      obtain ⟨u', hu'⟩ := hex q hlt
      simp [hu'] at hq
      rw [hu', hq]
    · rw [List.getElem?_eq_none (by simpa using hlt)] at hq; cases hq
  refine ⟨_, by simp, hvs, fun i e j x u he hx hu => ?_⟩
  obtain ⟨u', h1, h2⟩ := h.2 i e j x he hx
  have := hvs _ u hu
  rw [h1] at this
  cases this
  exact h2

theorem mul_lt_row {i n k j : Nat} (hi : i < n) (hj : j < k) : i * k + j < n * k := by
  have : (i + 1) * k ≤ n * k := Nat.mul_le_mul_right _ hi
  rw [Nat.add_mul, Nat.one_mul] at this
  omega

/-- What is appended: the elements of a row. -/
inductive Src (hp : List (Nat × Blk)) : SV → Nat → List (List SV) → Prop where
  | own {id k n C C' : Nat} {te : TypeId} {fz : Bool} {ys : List (List SV)} (h : aget id hp = some (.row te fz k ys C')) (hn : n = ys.length) : Src hp (.own id k 0 n C) k ys
  | sl {k : Nat} (ys : List (List DV)) : Src hp (.d (.sl k ys)) k (ys.map (·.map SV.d))
  | nil (k : Nat) : Src hp (.d .nil) k []

theorem Src.den {μ : Nat → Option Nat} {ok : Nat → Prop} {w : World} (hh : ∀ i B, aget i hp = some B → (B.ghost ∧ μ i = none) ∨ ∃ b, μ i = some b ∧ ¬ ok b ∧ DenB μ ok w b B) {x : SV} {m : Nat} {ys : List (List SV)} (h : Src hp x m ys) {u : Value} (hu : Den μ ok w x u) :
    (u = .slice none 0 0 ∧ ys = []) ∨ ∃ a c, u = .slice (some a) ys.length c ∧ RowMem μ ok w a m ys := by
  cases h with
  | own h hn =>
    cases hu with
    | ownNil a _ _ _ =>
      have hys := List.eq_nil_of_length_eq_zero (l := ys) (by omega)
      subst hys
      cases a with
      | none => exact .inl ⟨rfl, rfl⟩
      | some a => exact .inr ⟨a, 0, rfl, by simp, by simp⟩
    | own hb h1 h2 =>
      rename_i b
      obtain ⟨_, hn⟩ | ⟨b', q1, q2, hB⟩ := hh _ _ h
      · rw [hn] at hb; cases hb
      rw [hb] at q1
      cases q1
      subst hn
      refine .inr ⟨⟨b, 0, none⟩, _, by rw [Nat.zero_mul], ?_, fun i e j x he hx => ?_⟩
      · obtain ⟨c, z, _, _, _, _, _, g, _⟩ := hB
        exact g
      · obtain ⟨u, hu, hd⟩ := row_cell hB he hx
        exact ⟨u, by rw [add_add', Nat.zero_add]; exact hu, hd⟩
  | sl ys =>
    cases hu with | d hu =>
    rcases slOf hu with ⟨rfl, rfl⟩ | ⟨a0, cap, rfl, g1, g2, g3, g4⟩
    · exact .inl ⟨rfl, rfl⟩
    · refine .inr ⟨a0, cap, by simp, fun i e he => ?_, fun i e j x he hx => ?_⟩
      · rw [List.getElem?_map] at he
        cases e1 : ys[i]? with
        | none => rw [e1] at he; cases he
        | some e0 => rw [e1] at he; cases he; simpa using g3 i e0 e1
      · rw [List.getElem?_map] at he
        cases e1 : ys[i]? with
        | none => rw [e1] at he; cases he
        | some e0 =>
          rw [e1] at he
          cases he
          rw [List.getElem?_map] at hx
          cases e2 : e0[j]? with
          | none => rw [e2] at hx; cases hx
          | some x0 =>
            rw [e2] at hx
            cases hx
            obtain ⟨_, u, hu, hd⟩ := g4 i e0 j x0 e1 e2
            exact ⟨u, hu, .d hd⟩
  | nil m => exact .inl ⟨hu.nil', rfl⟩

def adelO {α : Type} (t : Nat) : List (Nat × α) → Option (List (Nat × α))
  | [] => some []
  | (k, y) :: l => match adelO t l with
    | some l' => bif Nat.beq t k then some l' else some ((k, y) :: l')
    | none => none

theorem adelO_get {α : Type} (t : Nat) : ∀ (l l' : List (Nat × α)), adelO t l = some l' → ∀ u, aget u l' = if u = t then none else aget u l := by
  intro l
  induction l with
  | nil => intro l' h u; simp [adelO] at h; subst h; simp [aget]
  | cons p l ih =>
    obtain ⟨k, y⟩ := p
    intro l' h u
    simp only [adelO] at h
    cases e : adelO t l with
    | none => rw [e] at h; cases h
    | some l1 =>
      rw [e] at h
      simp only at h
      have := ih l1 e u
      by_cases hk : t = k
      · subst hk
        simp only [Nat.beq_refl, cond_true, Option.some.injEq] at h
        subst h
        rw [this, aget_cons]
        by_cases hu : u = t
        · simp [hu]
        · simp [hu]
      · rw [beq_ne hk] at h
        simp only [cond_false, Option.some.injEq] at h
        subst h
        rw [aget_cons, aget_cons, this]
        by_cases hu : u = k
        · subst hu
          have : ¬ u = t := fun e => hk e.symm
          simp [this]
        · simp [hu]

/-- A block dropped. -/
theorem HInv.drop {μ : Nat → Option Nat} {ok : Nat → Prop} {w : World} (h : HInv cx μ ok hp nx w) {hp' : List (Nat × Blk)} (hd : ∀ i B, aget i hp' = some B → aget i hp = some B) : HInv cx μ ok hp' nx w :=
  ⟨h.mu, h.fresh, h.sub, h.lt, h.okNew, fun i B hi => h.own i B (hd i B hi), fun i j C D b hi hj => h.inj i j C D b (hd i C hi) (hd j D hj), h.frame, h.size, h.os, h.tape, h.output⟩

theorem HInv.drew {μ : Nat → Option Nat} {ok : Nat → Prop} {w : World} (h : HInv cx μ ok hp nx w) : HInv cx μ ok hp nx w.drew :=
  ⟨h.mu, h.fresh, h.sub, h.lt, h.okNew, fun i B hi => (h.own i B hi).imp id fun ⟨b, h1, h2, h3, h4, h5⟩ => ⟨b, h1, h2, h3, h4, DenB.mono (w := w) (w' := w.drew) (fun _ _ h => h) (fun _ h => h) (fun _ _ => rfl) rfl h5⟩, h.inj, h.frame, h.size, h.os, h.tape, h.output⟩

theorem Inv1.drew {μ : Nat → Option Nat} {ok : Nat → Prop} {a : Act} {w : World} (h : Inv1 cx μ ok s a w) : Inv1 cx μ ok s a w.drew :=
  ⟨h.defers, h.size, h.heap.drew, fun t x hx => Den.mono (w := w) (w' := w.drew) (fun _ _ h => h) (fun _ h => h) (fun _ _ => rfl) (h.tmps t x hx)⟩

/-- A name for a row that is nil. -/
theorem Inv1.ghost {μ : Nat → Option Nat} {ok : Nat → Prop} {a : Act} {w : World} (h : Inv1 cx μ ok ⟨tm, hp, nx⟩ a w) (te : TypeId) (fz : Bool) (m : Nat) : Inv1 cx μ ok ⟨tm, (nx, .row te fz m [] 0) :: hp, Nat.succ nx⟩ a w := by
  have hn : μ nx = none := h.heap.fresh nx (Nat.le_refl _)
  refine ⟨h.defers, h.size, ⟨h.heap.mu, fun i hi => h.heap.fresh i (by have hi : Nat.succ nx ≤ i := hi; show nx ≤ i; omega), h.heap.sub, h.heap.lt, h.heap.okNew, fun i B hi => ?_, fun i j C D b hi hj hbi hbj => ?_, h.heap.frame, h.heap.size, h.heap.os, h.heap.tape, h.heap.output⟩, h.tmps⟩
  · rw [aget_cons] at hi
    by_cases e : i = nx
    · rw [if_pos e] at hi
      cases hi
      subst e
      exact .inl ⟨trivial, hn⟩
    · rw [if_neg e] at hi
      exact h.heap.own i B hi
  · rw [aget_cons] at hi hj
    have e1 : ¬ i = nx := fun e => by rw [e, hn] at hbi; cases hbi
    have e2 : ¬ j = nx := fun e => by rw [e, hn] at hbj; cases hbj
    rw [if_neg e1] at hi
    rw [if_neg e2] at hj
    exact h.heap.inj i j C D b hi hj hbi hbj

/-- A slot that holds nil: a row of its own, as yet empty. -/
theorem AWP.nil_own {t : Nat} (h1 : aget t tm = some (.d .nil)) (te : TypeId) (m : Nat) (g : AWP cx k ⟨(t, .own nx m 0 0 0) :: tm, (nx, .row te false m [] 0) :: hp, Nat.succ nx⟩) : AWP cx k ⟨tm, hp, nx⟩ := fun a w hi => by
  obtain ⟨μ, ok, hi⟩ := hi.one
  have h2 := hi.tmps t _ h1
  have h3 := hi.ghost te false m
  refine g a w (Inv1.inv (μ := μ) (ok := ok) ⟨h3.defers, h3.size, h3.heap, fun u x hx => ?_⟩)
  simp only [aget_cons] at hx
  by_cases e : u = t
  · rw [if_pos e] at hx
    cases hx
    subst e
    rw [h2.nil']
    exact .ownNil _ _ _ _
  · rw [if_neg e] at hx
    exact h3.tmps u x hx

theorem HInv.move {μ : Nat → Option Nat} {ok : Nat → Prop} {w w' : World} (h : HInv cx μ ok hp nx w) {id b : Nat} {B0 B : Blk} {hp' : List (Nat × Blk)} (hid : aget id hp = some B0) (hb : μ id = some b) (hu : Upd w w' b) (hB : DenB μ ok w' b B) (hdel : adelO id hp = some hp') :
    HInv cx (upd μ nx b) ok ((nx, B) :: hp') (Nat.succ nx) w' := by
  have hset := h.set hid hb hu hB
  have hn : μ nx = none := h.fresh nx (Nat.le_refl _)
  have hm := upd_mono (b := b) hn
  have hget := adelO_get id hp hp' hdel
  have hidn : id ≠ nx := fun e => by rw [e, hn] at hb; cases hb
  have hold : ∀ i C, aget i hp' = some C → i ≠ id ∧ aget i hp = some C := fun i C hi => by
    rw [hget i] at hi
    by_cases e : i = id
    · rw [if_pos e] at hi; cases hi
    · rw [if_neg e] at hi; exact ⟨e, hi⟩
  obtain ⟨_, hn'⟩ | ⟨b', g1, g2, g3, g4, g5⟩ := h.own id B0 hid
  · rw [hn'] at hb; cases hb
  rw [hb] at g1
  cases g1
  refine ⟨fun i c hi => hm _ _ (h.mu i c hi), fun i hi => ?_, h.sub, fun c hc => hset.lt c hc, h.okNew, fun i C hi => ?_, fun i j C D c hi hj hci hcj => ?_, hset.frame, hset.size, hset.os, hset.tape, hset.output⟩
  · unfold upd
    rw [if_neg (by omega)]
    exact h.fresh i (by omega)
  · rw [aget_cons] at hi
    by_cases e : i = nx
    · rw [if_pos e] at hi
      cases hi
      subst e
      exact .inr ⟨b, by simp [upd], by rw [hu.size]; exact g2, g3, g4, hB.mono hm (fun _ h => h) (fun _ _ => rfl) rfl⟩
    · rw [if_neg e] at hi
      obtain ⟨e1, e2⟩ := hold i C hi
      have : aget i ((id, B) :: hp) = some C := by rw [aget_cons, if_neg e1]; exact e2
      obtain ⟨q1, q2⟩ | ⟨c, q1, q2, q3, q4, q5⟩ := hset.own i C this
      · exact .inl ⟨q1, by unfold upd; rw [if_neg e]; exact q2⟩
      · exact .inr ⟨c, hm _ _ q1, q2, q3, q4, q5.mono hm (fun _ h => h) (fun _ _ => rfl) rfl⟩
  · rw [aget_cons] at hi hj
    have key : ∀ i C, i ≠ nx → aget i hp' = some C → ∀ c, upd μ nx b i = some c → μ i = some c ∧ c ≠ b := by
      intro i C e hi c hc
      obtain ⟨e1, e2⟩ := hold i C hi
      unfold upd at hc
      rw [if_neg e] at hc
      exact ⟨hc, fun ec => e1 (h.inj i id C B0 c e2 hid hc (ec ▸ hb))⟩
    by_cases e1 : i = nx <;> by_cases e2 : j = nx
    · rw [e1, e2]
    · rw [if_neg e2] at hj
      have := key j D e2 hj c hcj
      subst e1
      simp [upd] at hci
      exact absurd hci.symm this.2
    · rw [if_neg e1] at hi
      have := key i C e1 hi c hci
      subst e2
      simp [upd] at hcj
      exact absurd hcj.symm this.2
    · rw [if_neg e1] at hi
      rw [if_neg e2] at hj
      exact h.inj i j C D c (hold i C hi).2 (hold j D hj).2 (key i C e1 hi c hci).1 (key j D e2 hj c hcj).1

theorem Inv1.move {μ : Nat → Option Nat} {ok : Nat → Prop} {a : Act} {w w' : World} (h : Inv1 cx μ ok ⟨tm, hp, nx⟩ a w) {id b : Nat} {B0 B : Blk} {hp' : List (Nat × Blk)} (hid : aget id hp = some B0) (hb : μ id = some b) (hu : Upd w w' b) (hB : DenB μ ok w' b B) (hdel : adelO id hp = some hp') :
    Inv1 cx (upd μ nx b) ok ⟨tm, (nx, B) :: hp', Nat.succ nx⟩ a w' := by
  have hm := upd_mono (b := b) (h.heap.fresh nx (Nat.le_refl _))
  obtain ⟨_, hn'⟩ | ⟨b', g1, g2, g3, g4, g5⟩ := h.heap.own id B0 hid
  · rw [hn'] at hb; cases hb
  rw [hb] at g1
  cases g1
  exact ⟨h.defers, h.size, h.heap.move hid hb hu hB hdel, fun t x hx => (h.tmps t x hx).mono hm (fun _ h => h) fun c hc => hu.other c fun e => g3 (e ▸ hc)⟩

theorem Inv1.dropHp {μ : Nat → Option Nat} {ok : Nat → Prop} {a : Act} {w : World} (h : Inv1 cx μ ok ⟨tm, hp, nx⟩ a w) {hp' : List (Nat × Blk)} (hd : ∀ i B, aget i hp' = some B → aget i hp = some B) : Inv1 cx μ ok ⟨tm, hp', nx⟩ a w :=
  ⟨h.defers, h.size, h.heap.drop hd, h.tmps⟩

/-- Cells of two rows, one behind the other. -/
theorem row_app {μ : Nat → Option Nat} {ok : Nat → Prop} {w : World} {m : Nat} {xs ys : List (List SV)} {olds news : List Value} {c2 : Array Value} (hx : ∀ (i : Nat) (e : List SV), xs[i]? = some e → e.length = m) (hy : ∀ (i : Nat) (e : List SV), ys[i]? = some e → e.length = m)
    (ho : ∀ (i : Nat) (e : List SV) (j : Nat) (x : SV) (u : Value), xs[i]? = some e → e[j]? = some x → olds[i * m + j]? = some u → Den μ ok w x u)
    (hn : ∀ (i : Nat) (e : List SV) (j : Nat) (x : SV) (u : Value), ys[i]? = some e → e[j]? = some x → news[i * m + j]? = some u → Den μ ok w x u)
    (h1 : ∀ q, q < xs.length * m → c2[q]? = olds[q]?) (h2 : ∀ q, q < ys.length * m → c2[xs.length * m + q]? = news[q]?) :
    (∀ (i : Nat) (e : List SV), (xs ++ ys)[i]? = some e → e.length = m) ∧ ∀ (i : Nat) (e : List SV) (j : Nat) (x : SV) (u : Value), (xs ++ ys)[i]? = some e → e[j]? = some x → c2[i * m + j]? = some u → Den μ ok w x u := by
  refine ⟨fun i e he => ?_, fun i e j x u he hj hu => ?_⟩
  · by_cases h : i < xs.length
    · rw [List.getElem?_append_left h] at he; exact hx i e he
    · rw [List.getElem?_append_right (by omega)] at he; exact hy _ e he
  · have hjl : j < e.length := (List.getElem?_eq_some_iff.1 hj).1
    by_cases h : i < xs.length
    · rw [List.getElem?_append_left h] at he
      rw [hx i e he] at hjl
      rw [h1 _ (mul_lt_row h hjl)] at hu
      exact ho i e j x u he hj hu
    · rw [List.getElem?_append_right (by omega)] at he
      rw [hy _ e he] at hjl
      have hil : i - xs.length < ys.length := (List.getElem?_eq_some_iff.1 he).1
      have e1 : i * m + j = xs.length * m + ((i - xs.length) * m + j) := by
        rw [← Nat.add_assoc, ← Nat.add_mul]
        congr 2
        omega
      rw [e1, h2 _ (mul_lt_row hil hjl)] at hu
      exact hn _ e j x u he hj hu

theorem app_cells {olds news zs : List Value} {n m q : Nat} (h : olds.length = n) (h' : news.length = m) : (q < n → ((olds ++ news ++ zs).toArray)[q]? = olds[q]?) ∧ (q < m → ((olds ++ news ++ zs).toArray)[n + q]? = news[q]?) := by
  refine ⟨fun hq => ?_, fun hq => ?_⟩
  · rw [List.getElem?_toArray, List.append_assoc, List.getElem?_append_left (by omega)]
  · rw [List.getElem?_toArray, List.append_assoc, List.getElem?_append_right (by omega), h, List.getElem?_append_left (by omega)]
    congr 1
    omega

end
end Go.Sy
