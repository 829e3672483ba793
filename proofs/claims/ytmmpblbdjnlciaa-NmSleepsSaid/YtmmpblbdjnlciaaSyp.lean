/-
  SYMBOLIC STATES, over any program, part 25: a region that draws its order, whatever it does: walked once, in the text's order; a check tells that no order ends elsewhere.
-/
import Derived.Test.YtmmpblbdjnlciaaSyo
namespace Go.Sy
open Go.RowKit

section
variable {cx : Cx} {P : Program} {fn : Func} {lo : Nat} {T : Tab} {k : List It} {tm : List (Nat × SV)} {hp : List (Nat × Blk)} {nx : Nat} {all : Array Oper}

/-! ### Names -/
def SV.freeOf (N : Nat) : SV → Bool
  | .d _ | .ip _ | .lit _ => true
  | .ptr id _ | .pel id _ _ _ | .own id _ _ _ _ => !Nat.beq id N
  | .agg cs | .tup cs => go N cs
  | .fn _ a b => go N a && go N b
where go (N : Nat) : List SV → Bool
  | [] => true
  | x :: l => SV.freeOf N x && go N l

def Blk.freeOf (N : Nat) : Blk → Bool
  | .box cs => SV.freeOf.go N cs
  | .row .. => true

theorem freeI {N M i : Nat} (h : (!Nat.beq i N) = true) : renI [(N, M)] i = i := by
  simp only [Bool.not_eq_true'] at h
  simp [renI, aget, h]

theorem renS_free {N M : Nat} {x : SV} (h : SV.freeOf N x = true) : renS [(N, M)] x = x := by
  have key : ∀ (l : List SV), (∀ x ∈ l, SV.freeOf N x = true → renS [(N, M)] x = x) → SV.freeOf.go N l = true → renS.go [(N, M)] l = l := by
    intro l
    induction l with
    | nil => intro _ _; rfl
    | cons x l ih =>
      intro hx h
      simp only [SV.freeOf.go, Bool.and_eq_true] at h
      simp only [renS.go]
      rw [hx x (by simp) h.1, ih (fun y hy => hx y (by simp [hy])) h.2]
  match x with
  | .d _ => rfl
  | .ip _ => rfl
  | .lit _ => rfl
  | .ptr .. => simp only [renS, freeI h]
  | .pel .. => simp only [renS, freeI h]
  | .own .. => simp only [renS, freeI h]
  | .agg cs => simp only [renS]; rw [key cs (fun x hx hn => renS_free hn) h]
  | .tup cs => simp only [renS]; rw [key cs (fun x hx hn => renS_free hn) h]
  | .fn _ a b =>
    simp only [SV.freeOf, Bool.and_eq_true] at h
    simp only [renS]
    rw [key a (fun x hx hn => renS_free hn) h.1, key b (fun x hx hn => renS_free hn) h.2]
termination_by SizeOf.sizeOf x
decreasing_by all_goals (simp_wf; have := List.sizeOf_lt_of_mem hx; omega)

theorem freeOf_lt {N n : Nat} (hN : n ≤ N) {x : SV} (h : SV.idsLt n x = true) : SV.freeOf N x = true := by
  have key : ∀ (l : List SV), (∀ x ∈ l, SV.idsLt n x = true → SV.freeOf N x = true) → SV.idsLt.go n l = true → SV.freeOf.go N l = true := by
    intro l
    induction l with
    | nil => intro _ _; rfl
    | cons x l ih =>
      intro hx h
      simp only [SV.idsLt.go, Bool.and_eq_true] at h
      simp only [SV.freeOf.go, Bool.and_eq_true]
      exact ⟨hx x (by simp) h.1, ih (fun y hy => hx y (by simp [hy])) h.2⟩
  have one : ∀ i, Nat.blt i n = true → (!Nat.beq i N) = true := fun i hi => by
    have := Nat.le_of_ble_eq_true hi
    rw [beq_ne (by omega)]; rfl
  match x with
  | .d _ => rfl
  | .ip _ => rfl
  | .lit _ => rfl
  | .ptr .. => exact one _ h
  | .pel .. => exact one _ h
  | .own .. => exact one _ h
  | .agg cs => exact key cs (fun x hx hn => freeOf_lt hN hn) h
  | .tup cs => exact key cs (fun x hx hn => freeOf_lt hN hn) h
  | .fn _ a b =>
    simp only [SV.idsLt, Bool.and_eq_true] at h
    simp only [SV.freeOf, Bool.and_eq_true]
    exact ⟨key a (fun x hx hn => freeOf_lt hN hn) h.1, key b (fun x hx hn => freeOf_lt hN hn) h.2⟩
termination_by SizeOf.sizeOf x
decreasing_by all_goals (simp_wf; have := List.sizeOf_lt_of_mem hx; omega)

theorem idsLt_mono {n m : Nat} (hN : n ≤ m) {x : SV} (h : SV.idsLt n x = true) : SV.idsLt m x = true := by
  have key : ∀ (l : List SV), (∀ x ∈ l, SV.idsLt n x = true → SV.idsLt m x = true) → SV.idsLt.go n l = true → SV.idsLt.go m l = true := by
    intro l
    induction l with
    | nil => intro _ _; rfl
    | cons x l ih =>
      intro hx h
      simp only [SV.idsLt.go, Bool.and_eq_true] at h ⊢
      exact ⟨hx x (by simp) h.1, ih (fun y hy => hx y (by simp [hy])) h.2⟩
  have one : ∀ i, Nat.blt i n = true → Nat.blt i m = true := fun i hi => by
    have := Nat.le_of_ble_eq_true hi
    exact Nat.ble_eq_true_of_le (by omega)
  match x with
  | .d _ => rfl
  | .ip _ => rfl
  | .lit _ => rfl
  | .ptr .. => exact one _ h
  | .pel .. => exact one _ h
  | .own .. => exact one _ h
  | .agg cs => exact key cs (fun x hx hn => idsLt_mono hN hn) h
  | .tup cs => exact key cs (fun x hx hn => idsLt_mono hN hn) h
  | .fn _ a b =>
    simp only [SV.idsLt, Bool.and_eq_true] at h ⊢
    exact ⟨key a (fun x hx hn => idsLt_mono hN hn) h.1, key b (fun x hx hn => idsLt_mono hN hn) h.2⟩
termination_by SizeOf.sizeOf x
decreasing_by all_goals (simp_wf; have := List.sizeOf_lt_of_mem hx; omega)

theorem freeOf_go_lt {N n : Nat} (hN : n ≤ N) {l : List SV} (h : SV.idsLt.go n l = true) : SV.freeOf.go N l = true := freeOf_lt (x := .agg l) hN h
theorem idsLt_go_mono {n m : Nat} (hN : n ≤ m) {l : List SV} (h : SV.idsLt.go n l = true) : SV.idsLt.go m l = true := idsLt_mono (x := .agg l) hN h
theorem renS_go_free {N M : Nat} {l : List SV} (h : SV.freeOf.go N l = true) : renS.go [(N, M)] l = l := by
  have := renS_free (x := .agg l) (M := M) h
  simpa [renS] using this

theorem okR_mono {n m : Nat} (hN : n ≤ m) {B : Blk} (h : B.okR n) : B.okR m := by
  cases B with
  | box cs => exact idsLt_go_mono hN h
  | row => exact h
theorem freeB_lt {N n : Nat} (hN : n ≤ N) {B : Blk} (h : B.okR n) : B.freeOf N = true := by
  cases B with
  | box cs => exact freeOf_go_lt hN h
  | row => rfl
theorem renB_free {N M : Nat} {B : Blk} (h : B.freeOf N = true) : renB [(N, M)] B = B := by
  cases B with
  | box cs => simp only [renB]; rw [renS_go_free h]
  | row => rfl

/-- A state of which less is known, with blocks renamed. -/
theorem AWP.lessG (e : Env cx P fn lo) (r : List (Nat × Nat)) {tm' : List (Nat × SV)} {hp' : List (Nat × Blk)} {nx' : Nat} (h1 : ∀ t x, aget t tm = some x → (∃ y, aget t tm' = some y ∧ (y = renS r x ∨ strip y = renS r x)) ∧ SV.idsLt nx x = true)
    (h2 : ∀ i B, aget i hp = some B → aget (renI r i) hp' = some (renB r B) ∧ i < nx ∧ B.okR nx) (hlo : ∀ i a, aget i r = some a → lo ≤ i) (hinj : ∀ i j, i < nx → j < nx → renI r i = renI r j → i = j) (h6 : lo ≤ nx) (g : AWP cx k ⟨tm, hp, nx⟩) : AWP cx k ⟨tm', hp', nx'⟩ := fun a w hi => by
  obtain ⟨μ, ok, hi⟩ := hi.one
  refine g a w ?_
  let μ' : Nat → Option Nat := fun i => if i < nx then μ (renI r i) else none
  have hμ : ∀ i, i < nx → μ' i = μ (renI r i) := fun i h => by simp [μ', h]
  refine ⟨hi.defers, hi.size, μ', ok, ⟨fun i b hb => ?_, fun i h => by have h : nx ≤ i := h; simp [μ']; omega, hi.heap.sub, hi.heap.lt, hi.heap.okNew, fun i B hB => ?_, fun i j C D b hC hD hb hb' => ?_, hi.heap.frame, hi.heap.size, hi.heap.os, hi.heap.tape, hi.heap.output⟩, fun t x hx => ?_⟩
  · have hl := e.lo i b hb
    rw [hμ _ (by omega)]
    have : renI r i = i := by
      unfold renI
      cases h : aget i r with
      | none => rfl
      | some a => have := hlo i a h; omega
    rw [this]
    exact hi.heap.mu i b hb
  · obtain ⟨e1, e2, e3⟩ := h2 i B hB
    obtain ⟨hg, hn⟩ | ⟨b, g1, g2, g3, g4, g5⟩ := hi.heap.own _ _ e1
    · exact .inl ⟨renB_ghost hg, by rw [hμ _ e2]; exact hn⟩
    exact .inr ⟨b, by rw [hμ _ e2]; exact g1, g2, g3, g4, g5.ren hμ e3⟩
  · obtain ⟨e1, e2, _⟩ := h2 i C hC
    obtain ⟨e3, e4, _⟩ := h2 j D hD
    rw [hμ _ e2] at hb
    rw [hμ _ e4] at hb'
    exact hinj i j e2 e4 (hi.heap.inj _ _ _ _ b e1 e3 hb hb')
  · obtain ⟨⟨y, e1, e3⟩, e2⟩ := h1 t x hx
    rcases e3 with e3 | e3
    · exact (hi.tmps t y e1).ren hμ x e3 e2
    · exact (strip_den (hi.tmps t y e1)).ren hμ x e3 e2

theorem AWP.ext {tm2 : List (Nat × SV)} {hp2 : List (Nat × Blk)} (h1 : ∀ t, aget t tm2 = aget t tm) (h2 : ∀ i, aget i hp2 = aget i hp) (g : AWP cx k ⟨tm2, hp2, nx⟩) : AWP cx k ⟨tm, hp, nx⟩ := fun a w hi => by
  obtain ⟨μ, ok, hi⟩ := hi.one
  exact g a w (Inv1.inv (μ := μ) (ok := ok) ⟨hi.defers, hi.size, ⟨hi.heap.mu, hi.heap.fresh, hi.heap.sub, hi.heap.lt, hi.heap.okNew, fun i B hB => hi.heap.own i B (by rw [← h2 i]; exact hB), fun i j B C b hB hC => hi.heap.inj i j B C b (by rw [← h2 i]; exact hB) (by rw [← h2 j]; exact hC), hi.heap.frame, hi.heap.size, hi.heap.os, hi.heap.tape, hi.heap.output⟩, fun t x hx => hi.tmps t x (by rw [← h1 t]; exact hx)⟩)

theorem AWP.grow {m : Nat} (h : nx ≤ m) (g : AWP cx k ⟨tm, hp, m⟩) : AWP cx k ⟨tm, hp, nx⟩ := fun a w hi => by
  obtain ⟨μ, ok, hi⟩ := hi.one
  exact g a w (Inv1.inv (μ := μ) (ok := ok) ⟨hi.defers, hi.size, ⟨hi.heap.mu, fun i hm => hi.heap.fresh i (Nat.le_trans h hm), hi.heap.sub, hi.heap.lt, hi.heap.okNew, hi.heap.own, hi.heap.inj, hi.heap.frame, hi.heap.size, hi.heap.os, hi.heap.tape, hi.heap.output⟩, hi.tmps⟩)

/-! ### What an operation does to blocks -/
def effH : List (Nat × Option Blk) → List (Nat × Blk) → List (Nat × Blk)
  | [], hp => hp
  | (i, some B) :: e, hp => (i, B) :: effH e hp
  | (i, none) :: e, hp => adel i (effH e hp)

theorem aget_effH (i : Nat) : ∀ (e : List (Nat × Option Blk)) (hp : List (Nat × Blk)), aget i (effH e hp) = match aget i e with | some b => b | none => aget i hp
  | [], hp => rfl
  | (j, some B) :: e, hp => by
    simp only [effH, aget_cons]
    by_cases h : i = j
    · rw [if_pos h, if_pos h]
    · rw [if_neg h, if_neg h]; exact aget_effH i e hp
  | (j, none) :: e, hp => by
    simp only [effH, aget_cons, aget_adel]
    by_cases h : i = j
    · rw [if_pos h, if_pos h]
    · rw [if_neg h, if_neg h]; exact aget_effH i e hp

def Low (M : Nat) (tm : List (Nat × SV)) (hp : List (Nat × Blk)) : Prop := (∀ t x, aget t tm = some x → SV.idsLt M x = true) ∧ ∀ i B, aget i hp = some B → i < M ∧ B.okR M
def FreeS (N : Nat) (tm : List (Nat × SV)) (hp : List (Nat × Blk)) : Prop := (∀ t x, aget t tm = some x → SV.freeOf N x = true) ∧ ∀ i B, aget i hp = some B → i ≠ N ∧ B.freeOf N = true

/-- One operation's step, told by the slots and the blocks that it looks at alone. -/
def GStep (cx : Cx) (all : Array Oper) (M : Nat) (o : Oper) (tm : List (Nat × SV)) (rds : List (Nat × Blk)) (d : Option Nat) (x : SV) (eff : List (Nat × Option Blk)) (nw : List Nat) : Prop :=
  ∀ tm' hp' k, (∀ t ∈ o.looksAt all, aget t tm' = aget t tm) → (∀ p ∈ rds, aget p.1 hp' = some p.2) → Low M tm' hp' → (∀ N ∈ nw, FreeS N tm' hp') →
    AWP cx (.ops all [] :: k) ⟨tput d x tm', effH eff hp', M⟩ → AWP cx (.ops all [o] :: k) ⟨tm', hp', M⟩

structure Rec where
  q : Nat
  d : Option Nat
  x : SV
  rd : List Nat
  eff : List (Nat × Option Blk)
  nw : List Nat

def tmS : List Rec → List (Nat × SV) → List (Nat × SV)
  | [], tm => tm
  | r :: R, tm => tput r.d r.x (tmS R tm)
def hpS : List Rec → List (Nat × Blk) → List (Nat × Blk)
  | [], hp => hp
  | r :: R, hp => effH r.eff (hpS R hp)

def effOk (M : Nat) : List (Nat × Option Blk) → Prop
  | [] => True
  | (i, some B) :: e => (Nat.blt i M = true ∧ B.okR M) ∧ effOk M e
  | (_, none) :: e => effOk M e

theorem effOk_get {M : Nat} : ∀ {e : List (Nat × Option Blk)}, effOk M e → ∀ i B, aget i e = some (some B) → i < M ∧ B.okR M
  | [], _, i, B, h => by simp [aget] at h
  | (j, some C) :: e, hl, i, B, h => by
    rw [aget_cons] at h
    by_cases hi : i = j
    · rw [if_pos hi] at h; cases h; subst hi; exact ⟨Nat.le_of_ble_eq_true hl.1.1, hl.1.2⟩
    · rw [if_neg hi] at h; exact effOk_get hl.2 i B h
  | (j, none) :: e, hl, i, B, h => by
    rw [aget_cons] at h
    by_cases hi : i = j
    · rw [if_pos hi] at h; cases h
    · rw [if_neg hi] at h; exact effOk_get (e := e) hl i B h

inductive GoodG (cx : Cx) (all : Array Oper) (M : Nat) (tm : List (Nat × SV)) (hp : List (Nat × Blk)) : List Rec → Prop where
  | nil : GoodG cx all M tm hp []
  | step {R : List Rec} {q : Nat} {o : Oper} {d : Option Nat} {x : SV} {rds : List (Nat × Blk)} {eff : List (Nat × Option Blk)} {nw : List Nat} (h : GoodG cx all M tm hp R) (ho : all[q]? = some o) (hd : ∀ t, d = some t → o.dst = some t)
      (hr : ∀ p ∈ rds, aget p.1 (hpS R hp) = some p.2) (hx : SV.idsLt M x = true) (he : effOk M eff) (hs : GStep cx all M o (tmS R tm) rds d x eff nw) : GoodG cx all M tm hp (⟨q, d, x, rds.map Prod.fst, eff, nw⟩ :: R)

theorem GoodG.get {M : Nat} {R : List Rec} (h : GoodG cx all M tm hp R) : ∀ A r B, R = A ++ r :: B → ∃ o rds, all[r.q]? = some o ∧ (∀ t, r.d = some t → o.dst = some t) ∧ rds.map Prod.fst = r.rd ∧ (∀ p ∈ rds, aget p.1 (hpS B hp) = some p.2) ∧ SV.idsLt M r.x = true ∧ effOk M r.eff ∧
    GStep cx all M o (tmS B tm) rds r.d r.x r.eff r.nw := by
  induction h with
  | nil => intro A r B h; simp at h
  | step h ho hd hr hx he hs ih =>
    intro A r B hR
    cases A with
    | nil =>
      rw [List.nil_append] at hR
      injection hR with h1 h2
      subst h1 h2
      exact ⟨_, _, ho, hd, rfl, hr, hx, he, hs⟩
    | cons a A =>
      rw [List.cons_append] at hR
      injection hR with h1 h2
      exact ih A r B h2

/-! ### The check -/
/-- All that must be done ahead of one of these. -/
def clo (all : List Oper) : Nat → List Nat → List Nat
  | 0, l => l
  | n + 1, l => l ++ clo all n (pre all l)
where pre (all : List Oper) : List Nat → List Nat
  | [] => []
  | q :: l => (match nth all q with | some o => edgesOf o.after.toList | none => []) ++ pre all l

def interN : List Nat → List Nat → Bool
  | [], _ => false
  | x :: l, m => memN x m || interN l m

theorem interN_not {l m : List Nat} (h : interN l m = false) : ∀ x ∈ l, x ∉ m := by
  induction l with
  | nil => intro x hx; cases hx
  | cons y l ih =>
    simp only [interN, Bool.or_eq_false_iff] at h
    intro x hx hm
    rcases List.mem_cons.1 hx with rfl | hx
    · rw [memN_iff.2 hm] at h; cases h.1
    · exact ih h.2 x hx hm

def optL : Option Nat → List Nat
  | some x => [x]
  | none => []

def effFree (N : Nat) : List (Nat × Option Blk) → Bool
  | [] => true
  | (i, some B) :: e => !Nat.beq i N && B.freeOf N && effFree N e
  | (_, none) :: e => effFree N e

def recFree (r : Rec) : List Nat → Bool
  | [] => true
  | N :: l => SV.freeOf N r.x && effFree N r.eff && recFree r l

/-- Do two disturb one another? (r is the later one.) -/
def clash (all : List Oper) (r s : Rec) : Bool :=
  interN (optL s.d) ((match nth all r.q with | some o => o.looksAt all.toArray | none => []) ++ optL r.d) ||
  interN (optL r.d) (match nth all s.q with | some o => o.looksAt all.toArray | none => []) ||
  interN (s.eff.map Prod.fst) (r.rd ++ r.eff.map Prod.fst) || interN (r.eff.map Prod.fst) s.rd || !recFree r s.nw

def chkOne (all : List Oper) (r : Rec) (before : List Nat) : List Rec → Bool
  | [] => true
  | s :: R => (memN s.q before || !clash all r s) && recFree s r.nw && chkOne all r before R

def allLt (n : Nat) : List Nat → Bool
  | [] => true
  | x :: l => Nat.blt x n && allLt n l

def chkG (all : List Oper) (nx M : Nat) : List Rec → Bool
  | [] => true
  | r :: R => !memN r.q (R.map Rec.q) && chkOne all r (clo all (lenK all) [r.q]) R && (match nth all r.q with | some o => allE (R.map Rec.q) o.after.toList | none => false) && (r.nw.all fun N => Nat.ble nx N) && chkG all nx M R

/-! ### What is known behind some of them -/
def look {α : Type} (u : Rec → Option α) (base : α) : List Rec → α
  | [] => base
  | r :: R => match u r with | some x => x | none => look u base R

theorem look_skip {α : Type} {u : Rec → Option α} {base : α} {B : List Rec} : ∀ {A : List Rec}, (∀ r ∈ A, u r = none) → look u base (A ++ B) = look u base B
  | [], _ => rfl
  | r :: A, h => by
    simp only [List.cons_append, look, h r (by simp)]
    exact look_skip fun r hr => h r (by simp [hr])

theorem look_filter {α : Type} {u : Rec → Option α} {base : α} {p : Rec → Bool} : ∀ {B : List Rec}, (∀ r ∈ B, p r = false → u r = none) → look u base (B.filter p) = look u base B
  | [], _ => rfl
  | r :: B, h => by
    have ih := look_filter (u := u) (base := base) (p := p) (B := B) fun r hr => h r (by simp [hr])
    cases hp : p r
    · rw [List.filter_cons_of_neg (by simp [hp]), ih]
      simp only [look, h r (by simp) hp]
    · rw [List.filter_cons_of_pos hp]
      simp only [look, ih]

theorem look_mid {α : Type} {u : Rec → Option α} {base : α} {r : Rec} {B : List Rec} (h : u r = none) : ∀ {A : List Rec}, look u base (A ++ r :: B) = look u base (A ++ B)
  | [] => by simp only [List.nil_append, look, h]
  | a :: A => by simp only [List.cons_append, look, look_mid h]

theorem look_from {α : Type} {u : Rec → Option α} {base : α} : ∀ {R : List Rec}, (∃ r ∈ R, u r = some (look u base R)) ∨ look u base R = base
  | [] => .inr rfl
  | r :: R => by
    cases hu : u r with
    | some x => exact .inl ⟨r, by simp, by simp only [look, hu]⟩
    | none =>
      simp only [look, hu]
      rcases look_from (u := u) (base := base) (R := R) with ⟨s, hs, h⟩ | h
      · exact .inl ⟨s, by simp [hs], h⟩
      · exact .inr h

def uT (t : Nat) (r : Rec) : Option (Option SV) := if r.d = some t then some (some r.x) else none
def uH (i : Nat) (r : Rec) : Option (Option Blk) := aget i r.eff

theorem aget_tput (d : Option Nat) (x : SV) (t : Nat) : aget t (tput d x tm) = if d = some t then some x else aget t tm := by
  cases d with
  | none => simp [tput]
  | some d =>
    simp only [tput, aget_cons, Option.some.injEq]
    by_cases h : t = d
    · subst h; simp
    · rw [if_neg h, if_neg (fun e => h e.symm)]

theorem tmS_look (t : Nat) : ∀ R : List Rec, aget t (tmS R tm) = look (uT t) (aget t tm) R
  | [] => rfl
  | r :: R => by
    simp only [tmS, aget_tput, look, uT]
    by_cases h : r.d = some t
    · rw [if_pos h, if_pos h]
    · rw [if_neg h, if_neg h]; exact tmS_look t R

theorem hpS_look (i : Nat) : ∀ R : List Rec, aget i (hpS R hp) = look (uH i) (aget i hp) R
  | [] => rfl
  | r :: R => by
    simp only [hpS, aget_effH, look, uH]
    cases aget i r.eff with
    | some b => rfl
    | none => exact hpS_look i R

theorem aget_mem {α : Type} {i : Nat} {x : α} : ∀ {l : List (Nat × α)}, aget i l = some x → i ∈ l.map Prod.fst
  | [], h => by simp [aget] at h
  | (j, y) :: l, h => by
    rw [aget_cons] at h
    by_cases e : i = j
    · subst e; simp
    · rw [if_neg e] at h; exact List.mem_cons_of_mem _ (aget_mem h)

def Closed (all : Array Oper) (l : List Nat) : Prop := ∀ i ∈ l, ∀ o, all[i]? = some o → ∀ e ∈ o.after.toList, Region.binds .any e = true → e.on ∈ l

theorem pre_mem {l : List Nat} : ∀ {qs : List Nat}, (∀ q ∈ qs, ∀ o, all[q]? = some o → ∀ e ∈ o.after.toList, Region.binds .any e = true → e.on ∈ l) → ∀ x ∈ clo.pre all.toList qs, x ∈ l
  | [], _, x, h => by simp [clo.pre] at h
  | q :: qs, hq, x, h => by
    simp only [clo.pre, List.mem_append] at h
    rcases h with h | h
    · rw [nth_eq, Array.getElem?_toList] at h
      cases ho : all[q]? with
      | none => rw [ho] at h; simp at h
      | some o =>
        rw [ho] at h
        obtain ⟨e, he, hb, rfl⟩ := edgesOf_mem h
        exact hq q (by simp) o ho e he hb
    · exact pre_mem (fun q hm => hq q (by simp [hm])) x h

theorem clo_mem {l : List Nat} (hc : Closed all l) : ∀ {n : Nat} {qs : List Nat}, (∀ q ∈ qs, q ∈ l) → ∀ x ∈ clo all.toList n qs, x ∈ l
  | 0, qs, h, x, hx => h x hx
  | n + 1, qs, h, x, hx => by
    simp only [clo, List.mem_append] at hx
    rcases hx with hx | hx
    · exact h x hx
    · exact clo_mem hc (pre_mem fun q hq => hc q (h q hq)) x hx

theorem clo_ready {l : List Nat} (hc : Closed all l) {n i : Nat} (hr : ∀ o, all[i]? = some o → ∀ e ∈ o.after.toList, Region.binds .any e = true → e.on ∈ l) : ∀ x ∈ clo all.toList n [i], x = i ∨ x ∈ l := by
  intro x hx
  cases n with
  | zero => simp only [clo, List.mem_singleton] at hx; exact .inl hx
  | succ n =>
    simp only [clo, List.mem_append, List.mem_singleton] at hx
    rcases hx with hx | hx
    · exact .inl hx
    · refine .inr (clo_mem hc (pre_mem fun q hq => ?_) x hx)
      simp only [List.mem_singleton] at hq
      subst hq
      exact hr

theorem chkOne_get {r : Rec} {before : List Nat} : ∀ {R : List Rec}, chkOne all.toList r before R = true → ∀ s ∈ R, (s.q ∈ before ∨ clash all.toList r s = false) ∧ recFree s r.nw = true
  | s' :: R, h, s, hs => by
    simp only [chkOne, Bool.and_eq_true, Bool.or_eq_true, Bool.not_eq_true'] at h
    rcases List.mem_cons.1 hs with rfl | hs
    · exact ⟨h.1.1.imp memN_iff.1 id, h.1.2⟩
    · exact chkOne_get h.2 s hs

theorem chkG_get {M : Nat} : ∀ {A : List Rec} {r : Rec} {B : List Rec}, chkG all.toList nx M (A ++ r :: B) = true →
    (∀ s ∈ B, ((s.q ∈ clo all.toList (lenK all.toList) [r.q] ∨ clash all.toList r s = false) ∧ recFree s r.nw = true) ∧ s.q ≠ r.q) ∧ (∀ a ∈ A, a.q ≠ r.q ∧ (r.q ∈ clo all.toList (lenK all.toList) [a.q] ∨ clash all.toList a r = false) ∧ recFree r a.nw = true) ∧
    (∀ o, all[r.q]? = some o → ∀ e ∈ o.after.toList, Region.binds .any e = true → e.on ∈ B.map Rec.q) ∧ (∀ N ∈ r.nw, nx ≤ N)
  | [], r, B, h => by
    simp only [List.nil_append, chkG, Bool.and_eq_true, Bool.not_eq_true'] at h
    obtain ⟨⟨⟨⟨h1, h2⟩, h3⟩, h4⟩, _⟩ := h
    refine ⟨fun s hs => ⟨chkOne_get h2 s hs, fun e => ?_⟩, by simp, fun o ho => ?_, fun N hN => ?_⟩
    · have : r.q ∈ B.map Rec.q := List.mem_map.2 ⟨s, hs, e⟩
      rw [memN_iff.2 this] at h1
      cases h1
    · rw [nth_eq, Array.getElem?_toList, ho] at h3
      exact allE_iff.1 h3
    · rw [List.all_eq_true] at h4
      exact Nat.le_of_ble_eq_true (h4 N hN)
  | a :: A, r, B, h => by
    simp only [List.cons_append, chkG, Bool.and_eq_true, Bool.not_eq_true'] at h
    obtain ⟨⟨⟨⟨h1, h2⟩, h3⟩, h4⟩, h5⟩ := h
    obtain ⟨g1, g2, g3, g4⟩ := chkG_get h5
    refine ⟨g1, fun b hb => ?_, g3, g4⟩
    rcases List.mem_cons.1 hb with rfl | hb
    · obtain ⟨k1, k2⟩ := chkOne_get h2 r (by simp)
      refine ⟨fun e => ?_, k1, k2⟩
      have : b.q ∈ (A ++ r :: B).map Rec.q := List.mem_map.2 ⟨r, by simp, e.symm⟩
      rw [memN_iff.2 this] at h1
      cases h1
    · exact g2 b hb

theorem recFree_get {r : Rec} : ∀ {l : List Nat}, recFree r l = true → ∀ N ∈ l, SV.freeOf N r.x = true ∧ effFree N r.eff = true
  | N' :: l, h, N, hN => by
    simp only [recFree, Bool.and_eq_true] at h
    rcases List.mem_cons.1 hN with rfl | hN
    · exact h.1
    · exact recFree_get h.2 N hN

theorem effFree_get {N : Nat} : ∀ {e : List (Nat × Option Blk)}, effFree N e = true → ∀ i B, aget i e = some (some B) → i ≠ N ∧ B.freeOf N = true
  | [], _, i, B, h => by simp [aget] at h
  | (j, some C) :: e, hl, i, B, h => by
    simp only [effFree, Bool.and_eq_true, Bool.not_eq_true'] at hl
    rw [aget_cons] at h
    by_cases hi : i = j
    · rw [if_pos hi] at h
      cases h
      refine ⟨fun e => ?_, hl.1.2⟩
      rw [hi] at e
      subst e
      rw [Nat.beq_refl] at hl
      cases hl.1.1
    · rw [if_neg hi] at h; exact effFree_get hl.2 i B h
  | (j, none) :: e, hl, i, B, h => by
    rw [aget_cons] at h
    by_cases hi : i = j
    · rw [if_pos hi] at h; cases h
    · rw [if_neg hi] at h; exact effFree_get (e := e) hl i B h

/-- What two that do not disturb one another keep apart (r is the later one). -/
theorem clash_get {r s : Rec} {o o' : Oper} (h : clash all.toList r s = false) (hr : all[r.q]? = some o) (hs : all[s.q]? = some o') :
    (∀ t, s.d = some t → t ∉ o.looksAt all ∧ r.d ≠ some t) ∧ (∀ t, r.d = some t → t ∉ o'.looksAt all) ∧ (∀ i ∈ s.eff.map Prod.fst, i ∉ r.rd ∧ i ∉ r.eff.map Prod.fst) ∧ (∀ i ∈ r.eff.map Prod.fst, i ∉ s.rd) ∧ recFree r s.nw = true := by
  simp only [clash, nth_eq, Array.getElem?_toList, hr, hs, Bool.or_eq_false_iff, Array.toArray_toList, Bool.not_eq_false'] at h
  obtain ⟨⟨⟨⟨h1, h2⟩, h3⟩, h4⟩, h5⟩ := h
  refine ⟨fun t ht => ?_, fun t ht => ?_, fun i hi => ?_, interN_not h4, h5⟩
  · have := interN_not h1 t (by rw [ht]; simp [optL])
    simp only [List.mem_append, not_or] at this
    refine ⟨this.1, fun e => this.2 ?_⟩
    rw [e]; simp [optL]
  · exact interN_not h2 t (by rw [ht]; simp [optL])
  · have := interN_not h3 i hi
    simpa only [List.mem_append, not_or] using this

theorem StepAll.of {l : List Nat} {fuel : Nat} {s : St} : ∀ {rs : List Nat}, (∀ i ∈ rs, ∃ o, all[i]? = some o ∧ ∀ Φ : Act → World → Prop, (∀ s', AWPAny cx all (i :: l) fuel k s' → AWP cx (.inv Φ :: k) s') → AWP cx (.ops all [o] :: .inv Φ :: k) s) → StepAll cx all l fuel k s rs
  | [], _ => trivial
  | i :: rs, h => ⟨h i (by simp), StepAll.of fun j hj => h j (by simp [hj])⟩

theorem split_at {q : Nat} : ∀ {R : List Rec}, q ∈ R.map Rec.q → ∃ A r B, R = A ++ r :: B ∧ r.q = q
  | r :: R, h => by
    by_cases e : r.q = q
    · exact ⟨[], r, R, rfl, e⟩
    · have h' : q ∈ R.map Rec.q := by
        simp only [List.map_cons, List.mem_cons] at h
        rcases h with h | h
        · exact absurd h.symm e
        · exact h
      obtain ⟨A, s, B, rfl, hs⟩ := split_at h'
      exact ⟨r :: A, s, B, rfl, hs⟩

theorem chkG_nodup {M : Nat} : ∀ {R : List Rec}, chkG all.toList nx M R = true → (R.map Rec.q).Nodup
  | [], _ => List.nodup_nil
  | r :: R, h => by
    simp only [chkG, Bool.and_eq_true, Bool.not_eq_true'] at h
    refine List.nodup_cons.2 ⟨fun hm => ?_, chkG_nodup h.2⟩
    rw [memN_iff.2 hm] at h
    cases h.1.1.1.1

theorem full_of {n : Nat} {l : List Nat} (hn : l.Nodup) (hlt : ∀ i ∈ l, i < n) (hlen : l.length = n) : ∀ i, i < n → i ∈ l := by
  intro i hi
  by_cases h : i ∈ l
  · exact h
  · exfalso
    have h1 : (i :: l).Nodup := List.nodup_cons.2 ⟨h, hn⟩
    have h2 : (i :: l) ⊆ List.range n := fun x hx => by
      rcases List.mem_cons.1 hx with rfl | hx
      · simpa using hi
      · simpa using hlt x hx
    have := nodup_len _ _ h1 h2
    simp at this
    omega

/-- A REGION THAT DRAWS ITS ORDER, walked in one order. -/
theorem AWP.drawG (e : Env cx P fn lo) (hm : P.follows .mixedOrders = true) {id M : Nat} {R : List Rec} (hg : GoodG cx all M tm hp R) (hchk : chkG all.toList nx M R = true) (hlen : R.length = all.size) (hM : nx ≤ M) (hT : okT nx tm = true) (hH : okHR nx hp)
    (g : AWP cx k ⟨tmS R tm, hpS R hp, M⟩) : AWP cx (.code (.region id all true) :: k) ⟨tm, hp, nx⟩ := by
  refine AWP.grow hM ?_
  have hT' : ∀ t x, aget t tm = some x → SV.idsLt nx x = true := by
    clear g hg hlen
    intro t x
    induction tm with
    | nil => intro h; simp [aget] at h
    | cons p tm ih =>
      obtain ⟨u, y⟩ := p
      simp only [okT, Bool.and_eq_true] at hT
      intro h
      rw [aget_cons] at h
      by_cases hu : t = u
      · rw [if_pos hu] at h; cases h; exact hT.1
      · rw [if_neg hu] at h; exact ih hT.2 h
  have hH' : ∀ i B, aget i hp = some B → i < nx ∧ B.okR nx := by
    clear g hg hlen
    intro t x
    induction hp with
    | nil => intro h; simp [aget] at h
    | cons p hp ih =>
      obtain ⟨u, y⟩ := p
      intro h
      rw [aget_cons] at h
      by_cases hu : t = u
      · rw [if_pos hu] at h; cases h; subst hu; exact ⟨Nat.le_of_ble_eq_true hH.1, hH.2.1⟩
      · rw [if_neg hu] at h; exact ih hH.2.2 h
  have hnd := chkG_nodup hchk
  have hall : ∀ r ∈ R, ∃ o, all[r.q]? = some o := fun r hr => by
    obtain ⟨A, B, rfl⟩ := List.append_of_mem hr
    obtain ⟨o, _, ho, _⟩ := hg.get A r B rfl
    exact ⟨o, ho⟩
  have hlt : ∀ r ∈ R, r.q < all.size := fun r hr => by
    obtain ⟨o, ho⟩ := hall r hr
    exact (Array.getElem?_eq_some_iff.1 ho).1
  have hfull : ∀ i, i < all.size → i ∈ R.map Rec.q := full_of hnd (fun i hi => by
    obtain ⟨r, hr, rfl⟩ := List.mem_map.1 hi
    exact hlt r hr) (by simpa using hlen)
  let fl : List Nat → List Rec → List Rec := fun l R => R.filter fun r => memN r.q l
  have claim : ∀ (n : Nat) (l : List Nat) (s : St), l.Nodup → (∀ i ∈ l, i < all.size) → Closed all l → l.length + n = all.size → (∀ t, aget t s.tmps = look (uT t) (aget t tm) (fl l R)) → (∀ i, aget i s.heap = look (uH i) (aget i hp) (fl l R)) → s.next = M →
      AWPAny cx all l n k s := by
    intro n
    induction n with
    | zero =>
      intro l s hl hlt' hc hn h1 h2 h3
      have hin : ∀ i, i < all.size → i ∈ l := full_of hl hlt' (by omega)
      refine AWPAny.done ?_ ?_
      · refine List.eq_nil_iff_forall_not_mem.2 fun i hi => ?_
        obtain ⟨o, _, ho, hni, _⟩ := (rdy_iff _ _ _).1 hi
        rw [Nat.sub_zero, Array.getElem?_toList] at ho
        exact hni (hin i (Array.getElem?_eq_some_iff.1 ho).1)
      · have hf : fl l R = R := List.filter_eq_self.2 fun r hr => memN_iff.2 (hin _ (hlt r hr))
        obtain ⟨tm0, hp0, nx0⟩ := s
        simp only at h1 h2 h3
        subst h3
        refine AWP.ext (fun t => ?_) (fun i => ?_) g
        · rw [tmS_look, h1 t, hf]
        · rw [hpS_look, h2 i, hf]
    | succ n ih =>
      intro l s hl hlt' hc hn h1 h2 h3
      have hsome : rdy l 0 all.toList ≠ [] := by
        intro hnil
        have hno : ∀ (B : List Rec), (∀ r ∈ B, r ∈ R) → (∀ A r C, B = A ++ r :: C → ∀ o, all[r.q]? = some o → ∀ e ∈ o.after.toList, Region.binds .any e = true → e.on ∈ C.map Rec.q) → ∀ r ∈ B, r.q ∈ l := by
          intro B
          induction B with
          | nil => intro _ _ r hr; cases hr
          | cons b B ihB =>
            intro hs ha r hr
            have hB := ihB (fun r hr => hs r (by simp [hr])) fun A r C hC => ha (b :: A) r C (by rw [hC]; rfl)
            rcases List.mem_cons.1 hr with rfl | hr
            · by_cases hq : r.q ∈ l
              · exact hq
              · exfalso
                obtain ⟨o, ho⟩ := hall r (hs r (by simp))
                have : r.q ∈ rdy l 0 all.toList := (rdy_iff _ _ _).2 ⟨o, Nat.zero_le _, by rw [Nat.sub_zero, Array.getElem?_toList]; exact ho, hq, fun e he hb => by
                  obtain ⟨c, hc1, hc2⟩ := List.mem_map.1 (ha [] r B rfl o ho e he hb)
                  rw [← hc2]
                  exact hB c hc1⟩
                rw [hnil] at this
                cases this
            · exact hB r hr
        have hin := hno R (fun _ h => h) fun A r C hC o ho e he hb => by
          rw [hC] at hchk
          exact (chkG_get hchk).2.2.1 o ho e he hb
        have : all.size ≤ l.length := by
          have := nodup_len (R.map Rec.q) l hnd fun i hi => by
            obtain ⟨r, hr, rfl⟩ := List.mem_map.1 hi
            exact hin r hr
          simpa [hlen] using this
        omega
      refine AWPAny.step rfl hsome (StepAll.of fun i hi => ?_)
      obtain ⟨o, _, ho, hni, hri⟩ := (rdy_iff _ _ _).1 hi
      rw [Nat.sub_zero, Array.getElem?_toList] at ho
      have hilt := (Array.getElem?_eq_some_iff.1 ho).1
      refine ⟨o, ho, fun Φ next => ?_⟩
      obtain ⟨A, r, B, hR, rfl⟩ := split_at (hfull i hilt)
      subst hR
      obtain ⟨o', rds, ho', hd, hrd, hrds, hx, heff, hstep⟩ := hg.get A r B rfl
      rw [ho] at ho'
      cases ho'
      obtain ⟨k1, k2, k3, k4⟩ := chkG_get hchk
      have hmn : memN r.q l = false := by
        cases hb : memN r.q l
        · rfl
        · exact absurd (memN_iff.1 hb) hni
      have hfl : fl l (A ++ r :: B) = fl l A ++ fl l B := by
        simp only [fl, List.filter_append]
        rw [List.filter_cons_of_neg (by simp [hmn])]
      -- later ones that are done do not disturb
      have hA : ∀ a ∈ fl l A, ∃ oa, all[a.q]? = some oa ∧ clash all.toList a r = false := fun a ha => by
        obtain ⟨ha1, ha2⟩ := List.mem_filter.1 ha
        obtain ⟨oa, hoa⟩ := hall a (by simp [ha1])
        refine ⟨oa, hoa, ?_⟩
        rcases (k2 a ha1).2.1 with h | h
        · exact absurd (clo_mem hc (fun q hq => by simp only [List.mem_singleton] at hq; rw [hq]; exact memN_iff.1 ha2) _ h) hni
        · exact h
      have hB : ∀ b ∈ B, memN b.q l = false → ∃ ob, all[b.q]? = some ob ∧ clash all.toList r b = false := fun b hb hbl => by
        obtain ⟨ob, hob⟩ := hall b (by simp [hb])
        refine ⟨ob, hob, ?_⟩
        obtain ⟨⟨h, _⟩, hne⟩ := k1 b hb
        rcases h with h | h
        · rcases clo_ready hc (fun o2 ho2 => by rw [ho] at ho2; cases ho2; exact hri) _ h with h | h
          · exact absurd h hne
          · rw [memN_iff.2 h] at hbl; cases hbl
        · exact h
      have low : Low M s.tmps s.heap := by
        refine ⟨fun t x hx => ?_, fun i B' hB' => ?_⟩
        · rw [h1 t] at hx
          rcases look_from (u := uT t) (base := aget t tm) (R := fl l (A ++ r :: B)) with ⟨a, ha, hua⟩ | hb
          · rw [hx] at hua
            obtain ⟨A', C', hAC⟩ := List.append_of_mem (List.mem_filter.1 ha).1
            obtain ⟨_, _, _, _, _, _, hxa, _⟩ := hg.get A' a C' hAC
            simp only [uT] at hua
            split at hua
            · cases hua; exact hxa
            · cases hua
          · rw [hb] at hx
            exact idsLt_mono hM (hT' t x hx)
        · rw [h2 i] at hB'
          rcases look_from (u := uH i) (base := aget i hp) (R := fl l (A ++ r :: B)) with ⟨a, ha, hua⟩ | hb
          · rw [hB'] at hua
            obtain ⟨A', C', hAC⟩ := List.append_of_mem (List.mem_filter.1 ha).1
            obtain ⟨_, _, _, _, _, _, _, hea, _⟩ := hg.get A' a C' hAC
            exact effOk_get hea i B' hua
          · rw [hb] at hB'
            obtain ⟨q1, q2⟩ := hH' i B' hB'
            exact ⟨Nat.lt_of_lt_of_le q1 hM, okR_mono hM q2⟩
      have free : ∀ N ∈ r.nw, FreeS N s.tmps s.heap := by
        intro N hN
        have hrec : ∀ a ∈ fl l (A ++ r :: B), SV.freeOf N a.x = true ∧ effFree N a.eff = true := by
          intro a ha
          rw [hfl] at ha
          rcases List.mem_append.1 ha with ha | ha
          · obtain ⟨oa, hoa, hcl⟩ := hA a ha
            exact recFree_get (clash_get hcl hoa ho).2.2.2.2 N hN
          · exact recFree_get (k1 a (List.mem_filter.1 ha).1).1.2 N hN
        refine ⟨fun t x hx => ?_, fun i B' hB' => ?_⟩
        · rw [h1 t] at hx
          rcases look_from (u := uT t) (base := aget t tm) (R := fl l (A ++ r :: B)) with ⟨a, ha, hua⟩ | hb
          · rw [hx] at hua
            simp only [uT] at hua
            split at hua
            · cases hua; exact (hrec a ha).1
            · cases hua
          · rw [hb] at hx
            exact freeOf_lt (k4 N hN) (hT' t x hx)
        · rw [h2 i] at hB'
          rcases look_from (u := uH i) (base := aget i hp) (R := fl l (A ++ r :: B)) with ⟨a, ha, hua⟩ | hb
          · rw [hB'] at hua
            exact effFree_get (hrec a ha).2 i B' hua
          · rw [hb] at hB'
            obtain ⟨q1, q2⟩ := hH' i B' hB'
            have := k4 N hN
            exact ⟨by omega, freeB_lt this q2⟩
      have hslots : ∀ t ∈ o.looksAt all, aget t s.tmps = aget t (tmS B tm) := by
        intro t ht
        rw [h1 t, hfl, tmS_look, look_skip, look_filter]
        · intro b hb hbl
          obtain ⟨ob, hob, hcl⟩ := hB b hb hbl
          simp only [uT]
          rw [if_neg fun hd => ((clash_get hcl ho hob).1 t hd).1 ht]
        · intro a ha
          obtain ⟨oa, hoa, hcl⟩ := hA a ha
          simp only [uT]
          rw [if_neg fun hd => (clash_get hcl hoa ho).2.1 t hd ht]
      have hreads : ∀ p ∈ rds, aget p.1 s.heap = some p.2 := by
        intro p hp'
        have hpr : p.1 ∈ r.rd := by rw [← hrd]; exact List.mem_map.2 ⟨p, hp', rfl⟩
        rw [← hrds p hp', h2 p.1, hfl, hpS_look, look_skip, look_filter]
        · intro b hb hbl
          obtain ⟨ob, hob, hcl⟩ := hB b hb hbl
          simp only [uH]
          cases hu : aget p.1 b.eff with
          | none => rfl
          | some z => exact absurd hpr ((clash_get hcl ho hob).2.2.1 p.1 (aget_mem hu)).1
        · intro a ha
          obtain ⟨oa, hoa, hcl⟩ := hA a ha
          simp only [uH]
          cases hu : aget p.1 a.eff with
          | none => rfl
          | some z => exact absurd hpr ((clash_get hcl hoa ho).2.2.2.1 p.1 (aget_mem hu))
      have hs3 : s = ⟨s.tmps, s.heap, M⟩ := by rw [← h3]
      rw [hs3]
      refine hstep s.tmps s.heap (.inv Φ :: k) hslots hreads low free ?_
      have hfl' : fl (r.q :: l) (A ++ r :: B) = fl l A ++ r :: fl l B := by
        have hne : ∀ a : Rec, a.q ≠ r.q → memN a.q (r.q :: l) = memN a.q l := fun a ha => by simp only [memN, beq_ne ha, Bool.false_or]
        simp only [fl, List.filter_append]
        rw [List.filter_cons_of_pos (by simp [memN])]
        congr 1
        · exact List.filter_congr fun a ha => hne a (k2 a ha).1
        · congr 1
          exact List.filter_congr fun b hb => hne b (k1 b hb).2
      have hnext := next ⟨tput r.d r.x s.tmps, effH r.eff s.heap, M⟩ (ih (r.q :: l) ⟨tput r.d r.x s.tmps, effH r.eff s.heap, M⟩ (List.nodup_cons.2 ⟨hni, hl⟩) (fun i hi => by
          rcases List.mem_cons.1 hi with rfl | hi
          · exact hilt
          · exact hlt' i hi) (fun i hi oi hoi e he hb => by
          rcases List.mem_cons.1 hi with rfl | hi
          · rw [ho] at hoi; cases hoi; exact List.mem_cons_of_mem _ (hri e he hb)
          · exact List.mem_cons_of_mem _ (hc i hi oi hoi e he hb)) (by simp; omega) (fun t => ?_) (fun i => ?_) rfl)
      · intro a w hi
        exact hnext a w hi
      · rw [hfl']
        show aget t (tput r.d r.x s.tmps) = _
        rw [aget_tput]
        by_cases hdt : r.d = some t
        · rw [if_pos hdt, look_skip]
          · simp only [look, uT, if_pos hdt]
          · intro a ha
            obtain ⟨oa, hoa, hcl⟩ := hA a ha
            simp only [uT]
            rw [if_neg fun hd => (((clash_get hcl hoa ho).1 t hdt).2) hd]
        · rw [if_neg hdt, look_mid (by simp only [uT, if_neg hdt]), h1 t, hfl]
      · rw [hfl']
        show aget i (effH r.eff s.heap) = _
        rw [aget_effH]
        cases hu : aget i r.eff with
        | some z =>
          rw [look_skip]
          · simp only [look, uH, hu]
          · intro a ha
            obtain ⟨oa, hoa, hcl⟩ := hA a ha
            simp only [uH]
            cases hua : aget i a.eff with
            | none => rfl
            | some y => exact absurd (aget_mem hua) ((clash_get hcl hoa ho).2.2.1 i (aget_mem hu)).2
        | none => rw [look_mid (by simp only [uH, hu])]; exact (h2 i).trans (by rw [hfl])
  refine AWP.any e hm all.size rfl (claim all.size [] ⟨tm, hp, M⟩ List.nodup_nil (by simp) (fun i hi => by cases hi) (by simp) (fun t => ?_) (fun i => ?_) rfl)
  · have : fl [] R = [] := by simp [fl, memN]
    rw [this]; rfl
  · have : fl [] R = [] := by simp [fl, memN]
    rw [this]; rfl

end
end Go.Sy
