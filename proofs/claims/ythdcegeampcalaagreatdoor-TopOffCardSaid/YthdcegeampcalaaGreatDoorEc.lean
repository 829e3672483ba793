/-
  SYMBOLIC STATES, over any program, part 25: a region that draws its order, whatever it does: walked once, in the text's order; a check tells that no order ends elsewhere.
-/
import Derived.Test.YthdcegeampcalaaGreatDoorEb
import Derived.Lib.ConvBytes
import Derived.Laws.IdiomStrings
namespace Go.Sy
open Go.RowKit

section
variable {cx : Cx} {P : Program} {fn : Func} {lo : Nat} {T : Tab} {k : List It} {tm : List (Nat × SV)} {hp : List (Nat × Blk)} {nx : Nat} {all : Array Oper}

/-! ### Names -/
def SV.freeOf (N : Nat) : SV → Bool
  | .d _ | .ip _ | .lit _ => true
  | .ptr id _ | .pel id _ _ _ | .own id _ _ _ _ => !Nat.beq id N
  | .agg cs | .tup cs => go N cs
  | .fn _ a b => go N a && go N b
where go (N : Nat) : List SV → Bool
  | [] => true
  | x :: l => SV.freeOf N x && go N l

def Blk.freeOf (N : Nat) : Blk → Bool
  | .box cs => SV.freeOf.go N cs
  | .row .. => true

theorem freeI {N M i : Nat} (h : (!Nat.beq i N) = true) : renI [(N, M)] i = i := by
  simp only [Bool.not_eq_true'] at h
  simp [renI, aget, h]

theorem renS_free {N M : Nat} {x : SV} (h : SV.freeOf N x = true) : renS [(N, M)] x = x := by
  have key : ∀ (l : List SV), (∀ x ∈ l, SV.freeOf N x = true → renS [(N, M)] x = x) → SV.freeOf.go N l = true → renS.go [(N, M)] l = l := by
    intro l
    induction l with
    | nil => intro _ _; rfl
    | cons x l ih =>
      intro hx h
      simp only [SV.freeOf.go, Bool.and_eq_true] at h
      simp only [renS.go]
      rw [hx x (by simp) h.1, ih (fun y hy => hx y (by simp [hy])) h.2]
  match x with
  | .d _ => rfl
  | .ip _ => rfl
  | .lit _ => rfl
  | .ptr .. => simp only [renS, freeI h]
  | .pel .. => simp only [renS, freeI h]
  | .own .. => simp only [renS, freeI h]
  | .agg cs => simp only [renS]; rw [key cs (fun x hx hn => renS_free hn) h]
  | .tup cs => simp only [renS]; rw [key cs (fun x hx hn => renS_free hn) h]
  | .fn _ a b =>
    simp only [SV.freeOf, Bool.and_eq_true] at h
    simp only [renS]
    rw [key a (fun x hx hn => renS_free hn) h.1, key b (fun x hx hn => renS_free hn) h.2]
termination_by SizeOf.sizeOf x
decreasing_by all_goals (simp_wf; have := List.sizeOf_lt_of_mem hx; omega)

theorem freeOf_lt {N n : Nat} (hN : n ≤ N) {x : SV} (h : SV.idsLt n x = true) : SV.freeOf N x = true := by
  have key : ∀ (l : List SV), (∀ x ∈ l, SV.idsLt n x = true → SV.freeOf N x = true) → SV.idsLt.go n l = true → SV.freeOf.go N l = true := by
    intro l
    induction l with
    | nil => intro _ _; rfl
    | cons x l ih =>
      intro hx h
      simp only [SV.idsLt.go, Bool.and_eq_true] at h
      simp only [SV.freeOf.go, Bool.and_eq_true]
      exact ⟨hx x (by simp) h.1, ih (fun y hy => hx y (by simp [hy])) h.2⟩
  have one : ∀ i, Nat.blt i n = true → (!Nat.beq i N) = true := fun i hi => by
    have := Nat.le_of_ble_eq_true hi
    rw [beq_ne (by omega)]; rfl
  match x with
  | .d _ => rfl
  | .ip _ => rfl
  | .lit _ => rfl
  | .ptr .. => exact one _ h
  | .pel .. => exact one _ h
  | .own .. => exact one _ h
  | .agg cs => exact key cs (fun x hx hn => freeOf_lt hN hn) h
  | .tup cs => exact key cs (fun x hx hn => freeOf_lt hN hn) h
  | .fn _ a b =>
    simp only [SV.idsLt, Bool.and_eq_true] at h
    simp only [SV.freeOf, Bool.and_eq_true]
    exact ⟨key a (fun x hx hn => freeOf_lt hN hn) h.1, key b (fun x hx hn => freeOf_lt hN hn) h.2⟩
termination_by SizeOf.sizeOf x
decreasing_by all_goals (simp_wf; have := List.sizeOf_lt_of_mem hx; omega)

theorem idsLt_mono {n m : Nat} (hN : n ≤ m) {x : SV} (h : SV.idsLt n x = true) : SV.idsLt m x = true := by
  have key : ∀ (l : List SV), (∀ x ∈ l, SV.idsLt n x = true → SV.idsLt m x = true) → SV.idsLt.go n l = true → SV.idsLt.go m l = true := by
    intro l
    induction l with
    | nil => intro _ _; rfl
    | cons x l ih =>
      intro hx h
      simp only [SV.idsLt.go, Bool.and_eq_true] at h ⊢
      exact ⟨hx x (by simp) h.1, ih (fun y hy => hx y (by simp [hy])) h.2⟩
  have one : ∀ i, Nat.blt i n = true → Nat.blt i m = true := fun i hi => by
    have := Nat.le_of_ble_eq_true hi
    exact Nat.ble_eq_true_of_le (by omega)
  match x with
  | .d _ => rfl
  | .ip _ => rfl
  | .lit _ => rfl
  | .ptr .. => exact one _ h
  | .pel .. => exact one _ h
  | .own .. => exact one _ h
  | .agg cs => exact key cs (fun x hx hn => idsLt_mono hN hn) h
  | .tup cs => exact key cs (fun x hx hn => idsLt_mono hN hn) h
  | .fn _ a b =>
    simp only [SV.idsLt, Bool.and_eq_true] at h ⊢
    exact ⟨key a (fun x hx hn => idsLt_mono hN hn) h.1, key b (fun x hx hn => idsLt_mono hN hn) h.2⟩
termination_by SizeOf.sizeOf x
decreasing_by all_goals (simp_wf; have := List.sizeOf_lt_of_mem hx; omega)

theorem freeOf_go_lt {N n : Nat} (hN : n ≤ N) {l : List SV} (h : SV.idsLt.go n l = true) : SV.freeOf.go N l = true := freeOf_lt (x := .agg l) hN h
theorem idsLt_go_mono {n m : Nat} (hN : n ≤ m) {l : List SV} (h : SV.idsLt.go n l = true) : SV.idsLt.go m l = true := idsLt_mono (x := .agg l) hN h
theorem renS_go_free {N M : Nat} {l : List SV} (h : SV.freeOf.go N l = true) : renS.go [(N, M)] l = l := by
  have := renS_free (x := .agg l) (M := M) h
  simpa [renS] using this

theorem okR_mono {n m : Nat} (hN : n ≤ m) {B : Blk} (h : B.okR n) : B.okR m := by
  cases B with
  | box cs => exact idsLt_go_mono hN h
  | row => exact h
theorem freeB_lt {N n : Nat} (hN : n ≤ N) {B : Blk} (h : B.okR n) : B.freeOf N = true := by
  cases B with
  | box cs => exact freeOf_go_lt hN h
  | row => rfl
theorem renB_free {N M : Nat} {B : Blk} (h : B.freeOf N = true) : renB [(N, M)] B = B := by
  cases B with
  | box cs => simp only [renB]; rw [renS_go_free h]
  | row => rfl

/-- A state of which less is known, with blocks renamed. -/
theorem AWP.lessG (e : Env cx P fn lo) (r : List (Nat × Nat)) {tm' : List (Nat × SV)} {hp' : List (Nat × Blk)} {nx' : Nat} (h1 : ∀ t x, aget t tm = some x → (∃ y, aget t tm' = some y ∧ (y = renS r x ∨ strip y = renS r x)) ∧ SV.idsLt nx x = true)
    (h2 : ∀ i B, aget i hp = some B → aget (renI r i) hp' = some (renB r B) ∧ i < nx ∧ B.okR nx) (hlo : ∀ i a, aget i r = some a → lo ≤ i) (hinj : ∀ i j, i < nx → j < nx → renI r i = renI r j → i = j) (h6 : lo ≤ nx) (g : AWP cx k ⟨tm, hp, nx⟩) : AWP cx k ⟨tm', hp', nx'⟩ := fun a w hi => by
  obtain ⟨μ, ok, hi⟩ := hi.one
  refine g a w ?_
  let μ' : Nat → Option Nat := fun i => if i < nx then μ (renI r i) else none
  have hμ : ∀ i, i < nx → μ' i = μ (renI r i) := fun i h => by simp [μ', h]
  refine ⟨hi.defers, hi.size, μ', ok, ⟨fun i b hb => ?_, fun i h => by have h : nx ≤ i := h; simp [μ']; omega, hi.heap.sub, hi.heap.lt, hi.heap.okNew, fun i B hB => ?_, fun i j C D b hC hD hb hb' => ?_, hi.heap.frame, hi.heap.size, hi.heap.os, hi.heap.tape, hi.heap.output⟩, fun t x hx => ?_⟩
  · have hl := e.lo i b hb
    rw [hμ _ (by omega)]
    have : renI r i = i := by
      unfold renI
      cases h : aget i r with
      | none => rfl
      | some a => have := hlo i a h; omega
    rw [this]
    exact hi.heap.mu i b hb
  · obtain ⟨e1, e2, e3⟩ := h2 i B hB
    obtain ⟨hg, hn⟩ | ⟨b, g1, g2, g3, g4, g5⟩ := hi.heap.own _ _ e1
    · exact .inl ⟨renB_ghost hg, by rw [hμ _ e2]; exact hn⟩
    exact .inr ⟨b, by rw [hμ _ e2]; exact g1, g2, g3, g4, g5.ren hμ e3⟩
  · obtain ⟨e1, e2, _⟩ := h2 i C hC
    obtain ⟨e3, e4, _⟩ := h2 j D hD
    rw [hμ _ e2] at hb
    rw [hμ _ e4] at hb'
    exact hinj i j e2 e4 (hi.heap.inj _ _ _ _ b e1 e3 hb hb')
  · obtain ⟨⟨y, e1, e3⟩, e2⟩ := h1 t x hx
    rcases e3 with e3 | e3
    · exact (hi.tmps t y e1).ren hμ x e3 e2
    · exact (strip_den (hi.tmps t y e1)).ren hμ x e3 e2

theorem AWP.ext {tm2 : List (Nat × SV)} {hp2 : List (Nat × Blk)} (h1 : ∀ t, aget t tm2 = aget t tm) (h2 : ∀ i, aget i hp2 = aget i hp) (g : AWP cx k ⟨tm2, hp2, nx⟩) : AWP cx k ⟨tm, hp, nx⟩ := fun a w hi => by
  obtain ⟨μ, ok, hi⟩ := hi.one
  exact g a w (Inv1.inv (μ := μ) (ok := ok) ⟨hi.defers, hi.size, ⟨hi.heap.mu, hi.heap.fresh, hi.heap.sub, hi.heap.lt, hi.heap.okNew, fun i B hB => hi.heap.own i B (by rw [← h2 i]; exact hB), fun i j B C b hB hC => hi.heap.inj i j B C b (by rw [← h2 i]; exact hB) (by rw [← h2 j]; exact hC), hi.heap.frame, hi.heap.size, hi.heap.os, hi.heap.tape, hi.heap.output⟩, fun t x hx => hi.tmps t x (by rw [← h1 t]; exact hx)⟩)

theorem AWP.grow {m : Nat} (h : nx ≤ m) (g : AWP cx k ⟨tm, hp, m⟩) : AWP cx k ⟨tm, hp, nx⟩ := fun a w hi => by
  obtain ⟨μ, ok, hi⟩ := hi.one
  exact g a w (Inv1.inv (μ := μ) (ok := ok) ⟨hi.defers, hi.size, ⟨hi.heap.mu, fun i hm => hi.heap.fresh i (Nat.le_trans h hm), hi.heap.sub, hi.heap.lt, hi.heap.okNew, hi.heap.own, hi.heap.inj, hi.heap.frame, hi.heap.size, hi.heap.os, hi.heap.tape, hi.heap.output⟩, hi.tmps⟩)

/-! ### What an operation does to blocks -/
def effH : List (Nat × Option Blk) → List (Nat × Blk) → List (Nat × Blk)
  | [], hp => hp
  | (i, some B) :: e, hp => (i, B) :: effH e hp
  | (i, none) :: e, hp => adel i (effH e hp)

theorem aget_effH (i : Nat) : ∀ (e : List (Nat × Option Blk)) (hp : List (Nat × Blk)), aget i (effH e hp) = match aget i e with | some b => b | none => aget i hp
  | [], hp => rfl
  | (j, some B) :: e, hp => by
    simp only [effH, aget_cons]
    by_cases h : i = j
    · rw [if_pos h, if_pos h]
    · rw [if_neg h, if_neg h]; exact aget_effH i e hp
  | (j, none) :: e, hp => by
    simp only [effH, aget_cons, aget_adel]
    by_cases h : i = j
    · rw [if_pos h, if_pos h]
    · rw [if_neg h, if_neg h]; exact aget_effH i e hp

def Low (M : Nat) (tm : List (Nat × SV)) (hp : List (Nat × Blk)) : Prop := (∀ t x, aget t tm = some x → SV.idsLt M x = true) ∧ ∀ i B, aget i hp = some B → i < M ∧ B.okR M
def FreeS (N : Nat) (tm : List (Nat × SV)) (hp : List (Nat × Blk)) : Prop := (∀ t x, aget t tm = some x → SV.freeOf N x = true) ∧ ∀ i B, aget i hp = some B → i ≠ N ∧ B.freeOf N = true

/-- One operation's step, told by the slots and the blocks that it looks at alone. -/
def GStep (cx : Cx) (all : Array Oper) (M : Nat) (o : Oper) (tm : List (Nat × SV)) (rds : List (Nat × Blk)) (d : Option Nat) (x : SV) (eff : List (Nat × Option Blk)) (nw : List Nat) : Prop :=
  ∀ tm' hp' k, (∀ t ∈ o.looksAt all, aget t tm' = aget t tm) → (∀ p ∈ rds, aget p.1 hp' = some p.2) → Low M tm' hp' → (∀ N ∈ nw, FreeS N tm' hp') →
    AWP cx (.ops all [] :: k) ⟨tput d x tm', effH eff hp', M⟩ → AWP cx (.ops all [o] :: k) ⟨tm', hp', M⟩

structure Rec where
  q : Nat
  d : Option Nat
  x : SV
  rd : List Nat
  eff : List (Nat × Option Blk)
  nw : List Nat

def tmS : List Rec → List (Nat × SV) → List (Nat × SV)
  | [], tm => tm
  | r :: R, tm => tput r.d r.x (tmS R tm)
def hpS : List Rec → List (Nat × Blk) → List (Nat × Blk)
  | [], hp => hp
  | r :: R, hp => effH r.eff (hpS R hp)

def effOk (M : Nat) : List (Nat × Option Blk) → Prop
  | [] => True
  | (i, some B) :: e => (Nat.blt i M = true ∧ B.okR M) ∧ effOk M e
  | (_, none) :: e => effOk M e

theorem effOk_get {M : Nat} : ∀ {e : List (Nat × Option Blk)}, effOk M e → ∀ i B, aget i e = some (some B) → i < M ∧ B.okR M
  | [], _, i, B, h => by simp [aget] at h
  | (j, some C) :: e, hl, i, B, h => by
    rw [aget_cons] at h
    by_cases hi : i = j
    · rw [if_pos hi] at h; cases h; subst hi; exact ⟨Nat.le_of_ble_eq_true hl.1.1, hl.1.2⟩
    · rw [if_neg hi] at h; exact effOk_get hl.2 i B h
  | (j, none) :: e, hl, i, B, h => by
    rw [aget_cons] at h
    by_cases hi : i = j
    · rw [if_pos hi] at h; cases h
    · rw [if_neg hi] at h; exact effOk_get (e := e) hl i B h

inductive GoodG (cx : Cx) (all : Array Oper) (M : Nat) (tm : List (Nat × SV)) (hp : List (Nat × Blk)) : List Rec → Prop where
  | nil : GoodG cx all M tm hp []
  | step {R : List Rec} {q : Nat} {o : Oper} {d : Option Nat} {x : SV} {rds : List (Nat × Blk)} {eff : List (Nat × Option Blk)} {nw : List Nat} (h : GoodG cx all M tm hp R) (ho : all[q]? = some o) (hd : ∀ t, d = some t → o.dst = some t)
      (hr : ∀ p ∈ rds, aget p.1 (hpS R hp) = some p.2) (hx : SV.idsLt M x = true) (he : effOk M eff) (hs : GStep cx all M o (tmS R tm) rds d x eff nw) : GoodG cx all M tm hp (⟨q, d, x, rds.map Prod.fst, eff, nw⟩ :: R)

theorem GoodG.get {M : Nat} {R : List Rec} (h : GoodG cx all M tm hp R) : ∀ A r B, R = A ++ r :: B → ∃ o rds, all[r.q]? = some o ∧ (∀ t, r.d = some t → o.dst = some t) ∧ rds.map Prod.fst = r.rd ∧ (∀ p ∈ rds, aget p.1 (hpS B hp) = some p.2) ∧ SV.idsLt M r.x = true ∧ effOk M r.eff ∧
    GStep cx all M o (tmS B tm) rds r.d r.x r.eff r.nw := by
  induction h with
  | nil => intro A r B h; simp at h
  | step h ho hd hr hx he hs ih =>
    intro A r B hR
    cases A with
    | nil =>
      rw [List.nil_append] at hR
      injection hR with h1 h2
      subst h1 h2
      exact ⟨_, _, ho, hd, rfl, hr, hx, he, hs⟩
    | cons a A =>
      rw [List.cons_append] at hR
      injection hR with h1 h2
      exact ih A r B h2

/-! ### The check -/
/-- All that must be done ahead of one of these. -/
def clo (all : List Oper) : Nat → List Nat → List Nat
  | 0, l => l
  | n + 1, l => l ++ clo all n (pre all l)
where pre (all : List Oper) : List Nat → List Nat
  | [] => []
  | q :: l => (match nth all q with | some o => edgesOf o.after.toList | none => []) ++ pre all l

def interN : List Nat → List Nat → Bool
  | [], _ => false
  | x :: l, m => memN x m || interN l m

theorem interN_not {l m : List Nat} (h : interN l m = false) : ∀ x ∈ l, x ∉ m := by
  induction l with
  | nil => intro x hx; cases hx
  | cons y l ih =>
    simp only [interN, Bool.or_eq_false_iff] at h
    intro x hx hm
    rcases List.mem_cons.1 hx with rfl | hx
    · rw [memN_iff.2 hm] at h; cases h.1
    · exact ih h.2 x hx hm

def optL : Option Nat → List Nat
  | some x => [x]
  | none => []

def effFree (N : Nat) : List (Nat × Option Blk) → Bool
  | [] => true
  | (i, some B) :: e => !Nat.beq i N && B.freeOf N && effFree N e
  | (_, none) :: e => effFree N e

def recFree (r : Rec) : List Nat → Bool
  | [] => true
  | N :: l => SV.freeOf N r.x && effFree N r.eff && recFree r l

/-- Do two disturb one another? (r is the later one.) -/
def clash (all : List Oper) (r s : Rec) : Bool :=
  interN (optL s.d) ((match nth all r.q with | some o => o.looksAt all.toArray | none => []) ++ optL r.d) ||
  interN (optL r.d) (match nth all s.q with | some o => o.looksAt all.toArray | none => []) ||
  interN (s.eff.map Prod.fst) (r.rd ++ r.eff.map Prod.fst) || interN (r.eff.map Prod.fst) s.rd || !recFree r s.nw

def chkOne (all : List Oper) (r : Rec) (before : List Nat) : List Rec → Bool
  | [] => true
  | s :: R => (memN s.q before || !clash all r s) && recFree s r.nw && chkOne all r before R

def allLt (n : Nat) : List Nat → Bool
  | [] => true
  | x :: l => Nat.blt x n && allLt n l

def chkG (all : List Oper) (nx M : Nat) : List Rec → Bool
  | [] => true
  | r :: R => !memN r.q (R.map Rec.q) && chkOne all r (clo all (lenK all) [r.q]) R && (match nth all r.q with | some o => allE (R.map Rec.q) o.after.toList | none => false) && (r.nw.all fun N => Nat.ble nx N) && chkG all nx M R

/-! ### What is known behind some of them -/
def look {α : Type} (u : Rec → Option α) (base : α) : List Rec → α
  | [] => base
  | r :: R => match u r with | some x => x | none => look u base R

theorem look_skip {α : Type} {u : Rec → Option α} {base : α} {B : List Rec} : ∀ {A : List Rec}, (∀ r ∈ A, u r = none) → look u base (A ++ B) = look u base B
  | [], _ => rfl
  | r :: A, h => by
    simp only [List.cons_append, look, h r (by simp)]
    exact look_skip fun r hr => h r (by simp [hr])

theorem look_filter {α : Type} {u : Rec → Option α} {base : α} {p : Rec → Bool} : ∀ {B : List Rec}, (∀ r ∈ B, p r = false → u r = none) → look u base (B.filter p) = look u base B
  | [], _ => rfl
  | r :: B, h => by
    have ih := look_filter (u := u) (base := base) (p := p) (B := B) fun r hr => h r (by simp [hr])
    cases hp : p r
    · rw [List.filter_cons_of_neg (by simp [hp]), ih]
      simp only [look, h r (by simp) hp]
    · rw [List.filter_cons_of_pos hp]
      simp only [look, ih]

theorem look_mid {α : Type} {u : Rec → Option α} {base : α} {r : Rec} {B : List Rec} (h : u r = none) : ∀ {A : List Rec}, look u base (A ++ r :: B) = look u base (A ++ B)
  | [] => by simp only [List.nil_append, look, h]
  | a :: A => by simp only [List.cons_append, look, look_mid h]

theorem look_from {α : Type} {u : Rec → Option α} {base : α} : ∀ {R : List Rec}, (∃ r ∈ R, u r = some (look u base R)) ∨ look u base R = base
  | [] => .inr rfl
  | r :: R => by
    cases hu : u r with
    | some x => exact .inl ⟨r, by simp, by simp only [look, hu]⟩
    | none =>
      simp only [look, hu]
      rcases look_from (u := u) (base := base) (R := R) with ⟨s, hs, h⟩ | h
      · exact .inl ⟨s, by simp [hs], h⟩
      · exact .inr h

def uT (t : Nat) (r : Rec) : Option (Option SV) := if r.d = some t then some (some r.x) else none
def uH (i : Nat) (r : Rec) : Option (Option Blk) := aget i r.eff

theorem aget_tput (d : Option Nat) (x : SV) (t : Nat) : aget t (tput d x tm) = if d = some t then some x else aget t tm := by
  cases d with
  | none => simp [tput]
  | some d =>
    simp only [tput, aget_cons, Option.some.injEq]
    by_cases h : t = d
    · subst h; simp
    · rw [if_neg h, if_neg (fun e => h e.symm)]

theorem tmS_look (t : Nat) : ∀ R : List Rec, aget t (tmS R tm) = look (uT t) (aget t tm) R
  | [] => rfl
  | r :: R => by
    simp only [tmS, aget_tput, look, uT]
    by_cases h : r.d = some t
    · rw [if_pos h, if_pos h]
    · rw [if_neg h, if_neg h]; exact tmS_look t R

theorem hpS_look (i : Nat) : ∀ R : List Rec, aget i (hpS R hp) = look (uH i) (aget i hp) R
  | [] => rfl
  | r :: R => by
    simp only [hpS, aget_effH, look, uH]
    cases aget i r.eff with
    | some b => rfl
    | none => exact hpS_look i R

theorem aget_mem {α : Type} {i : Nat} {x : α} : ∀ {l : List (Nat × α)}, aget i l = some x → i ∈ l.map Prod.fst
  | [], h => by simp [aget] at h
  | (j, y) :: l, h => by
    rw [aget_cons] at h
    by_cases e : i = j
    · subst e; simp
    · rw [if_neg e] at h; exact List.mem_cons_of_mem _ (aget_mem h)

def Closed (all : Array Oper) (l : List Nat) : Prop := ∀ i ∈ l, ∀ o, all[i]? = some o → ∀ e ∈ o.after.toList, Region.binds .any e = true → e.on ∈ l

theorem pre_mem {l : List Nat} : ∀ {qs : List Nat}, (∀ q ∈ qs, ∀ o, all[q]? = some o → ∀ e ∈ o.after.toList, Region.binds .any e = true → e.on ∈ l) → ∀ x ∈ clo.pre all.toList qs, x ∈ l
  | [], _, x, h => by simp [clo.pre] at h
  | q :: qs, hq, x, h => by
    simp only [clo.pre, List.mem_append] at h
    rcases h with h | h
    · rw [nth_eq, Array.getElem?_toList] at h
      cases ho : all[q]? with
      | none => rw [ho] at h; simp at h
      | some o =>
        rw [ho] at h
        obtain ⟨e, he, hb, rfl⟩ := edgesOf_mem h
        exact hq q (by simp) o ho e he hb
    · exact pre_mem (fun q hm => hq q (by simp [hm])) x h

theorem clo_mem {l : List Nat} (hc : Closed all l) : ∀ {n : Nat} {qs : List Nat}, (∀ q ∈ qs, q ∈ l) → ∀ x ∈ clo all.toList n qs, x ∈ l
  | 0, qs, h, x, hx => h x hx
  | n + 1, qs, h, x, hx => by
    simp only [clo, List.mem_append] at hx
    rcases hx with hx | hx
    · exact h x hx
    · exact clo_mem hc (pre_mem fun q hq => hc q (h q hq)) x hx

theorem clo_ready {l : List Nat} (hc : Closed all l) {n i : Nat} (hr : ∀ o, all[i]? = some o → ∀ e ∈ o.after.toList, Region.binds .any e = true → e.on ∈ l) : ∀ x ∈ clo all.toList n [i], x = i ∨ x ∈ l := by
  intro x hx
  cases n with
  | zero => simp only [clo, List.mem_singleton] at hx; exact .inl hx
  | succ n =>
    simp only [clo, List.mem_append, List.mem_singleton] at hx
    rcases hx with hx | hx
    · exact .inl hx
    · refine .inr (clo_mem hc (pre_mem fun q hq => ?_) x hx)
      simp only [List.mem_singleton] at hq
      subst hq
      exact hr

theorem chkOne_get {r : Rec} {before : List Nat} : ∀ {R : List Rec}, chkOne all.toList r before R = true → ∀ s ∈ R, (s.q ∈ before ∨ clash all.toList r s = false) ∧ recFree s r.nw = true
  | s' :: R, h, s, hs => by
    simp only [chkOne, Bool.and_eq_true, Bool.or_eq_true, Bool.not_eq_true'] at h
    rcases List.mem_cons.1 hs with rfl | hs
    · exact ⟨h.1.1.imp memN_iff.1 id, h.1.2⟩
    · exact chkOne_get h.2 s hs

theorem chkG_get {M : Nat} : ∀ {A : List Rec} {r : Rec} {B : List Rec}, chkG all.toList nx M (A ++ r :: B) = true →
    (∀ s ∈ B, ((s.q ∈ clo all.toList (lenK all.toList) [r.q] ∨ clash all.toList r s = false) ∧ recFree s r.nw = true) ∧ s.q ≠ r.q) ∧ (∀ a ∈ A, a.q ≠ r.q ∧ (r.q ∈ clo all.toList (lenK all.toList) [a.q] ∨ clash all.toList a r = false) ∧ recFree r a.nw = true) ∧
    (∀ o, all[r.q]? = some o → ∀ e ∈ o.after.toList, Region.binds .any e = true → e.on ∈ B.map Rec.q) ∧ (∀ N ∈ r.nw, nx ≤ N)
  | [], r, B, h => by
    simp only [List.nil_append, chkG, Bool.and_eq_true, Bool.not_eq_true'] at h
    obtain ⟨⟨⟨⟨h1, h2⟩, h3⟩, h4⟩, _⟩ := h
    refine ⟨fun s hs => ⟨chkOne_get h2 s hs, fun e => ?_⟩, by simp, fun o ho => ?_, fun N hN => ?_⟩
    · have : r.q ∈ B.map Rec.q := List.mem_map.2 ⟨s, hs, e⟩
      rw [memN_iff.2 this] at h1
      cases h1
    · rw [nth_eq, Array.getElem?_toList, ho] at h3
      exact allE_iff.1 h3
    · rw [List.all_eq_true] at h4
      exact Nat.le_of_ble_eq_true (h4 N hN)
  | a :: A, r, B, h => by
    simp only [List.cons_append, chkG, Bool.and_eq_true, Bool.not_eq_true'] at h
    obtain ⟨⟨⟨⟨h1, h2⟩, h3⟩, h4⟩, h5⟩ := h
    obtain ⟨g1, g2, g3, g4⟩ := chkG_get h5
    refine ⟨g1, fun b hb => ?_, g3, g4⟩
    rcases List.mem_cons.1 hb with rfl | hb
    · obtain ⟨k1, k2⟩ := chkOne_get h2 r (by simp)
      refine ⟨fun e => ?_, k1, k2⟩
      have : b.q ∈ (A ++ r :: B).map Rec.q := List.mem_map.2 ⟨r, by simp, e.symm⟩
      rw [memN_iff.2 this] at h1
      cases h1
    · exact g2 b hb

theorem recFree_get {r : Rec} : ∀ {l : List Nat}, recFree r l = true → ∀ N ∈ l, SV.freeOf N r.x = true ∧ effFree N r.eff = true
  | N' :: l, h, N, hN => by
    simp only [recFree, Bool.and_eq_true] at h
    rcases List.mem_cons.1 hN with rfl | hN
    · exact h.1
    · exact recFree_get h.2 N hN

theorem effFree_get {N : Nat} : ∀ {e : List (Nat × Option Blk)}, effFree N e = true → ∀ i B, aget i e = some (some B) → i ≠ N ∧ B.freeOf N = true
  | [], _, i, B, h => by simp [aget] at h
  | (j, some C) :: e, hl, i, B, h => by
    simp only [effFree, Bool.and_eq_true, Bool.not_eq_true'] at hl
    rw [aget_cons] at h
    by_cases hi : i = j
    · rw [if_pos hi] at h
      cases h
      refine ⟨fun e => ?_, hl.1.2⟩
      rw [hi] at e
      subst e
      rw [Nat.beq_refl] at hl
      cases hl.1.1
    · rw [if_neg hi] at h; exact effFree_get hl.2 i B h
  | (j, none) :: e, hl, i, B, h => by
    rw [aget_cons] at h
    by_cases hi : i = j
    · rw [if_pos hi] at h; cases h
    · rw [if_neg hi] at h; exact effFree_get (e := e) hl i B h

/-- What two that do not disturb one another keep apart (r is the later one). -/
theorem clash_get {r s : Rec} {o o' : Oper} (h : clash all.toList r s = false) (hr : all[r.q]? = some o) (hs : all[s.q]? = some o') :
    (∀ t, s.d = some t → t ∉ o.looksAt all ∧ r.d ≠ some t) ∧ (∀ t, r.d = some t → t ∉ o'.looksAt all) ∧ (∀ i ∈ s.eff.map Prod.fst, i ∉ r.rd ∧ i ∉ r.eff.map Prod.fst) ∧ (∀ i ∈ r.eff.map Prod.fst, i ∉ s.rd) ∧ recFree r s.nw = true := by
  simp only [clash, nth_eq, Array.getElem?_toList, hr, hs, Bool.or_eq_false_iff, Array.toArray_toList, Bool.not_eq_false'] at h
  obtain ⟨⟨⟨⟨h1, h2⟩, h3⟩, h4⟩, h5⟩ := h
  refine ⟨fun t ht => ?_, fun t ht => ?_, fun i hi => ?_, interN_not h4, h5⟩
  · have := interN_not h1 t (by rw [ht]; simp [optL])
    simp only [List.mem_append, not_or] at this
    refine ⟨this.1, fun e => this.2 ?_⟩
    rw [e]; simp [optL]
  · exact interN_not h2 t (by rw [ht]; simp [optL])
  · have := interN_not h3 i hi
    simpa only [List.mem_append, not_or] using this

theorem StepAll.of {l : List Nat} {fuel : Nat} {s : St} : ∀ {rs : List Nat}, (∀ i ∈ rs, ∃ o, all[i]? = some o ∧ ∀ Φ : Act → World → Prop, (∀ s', AWPAny cx all (i :: l) fuel k s' → AWP cx (.inv Φ :: k) s') → AWP cx (.ops all [o] :: .inv Φ :: k) s) → StepAll cx all l fuel k s rs
  | [], _ => trivial
  | i :: rs, h => ⟨h i (by simp), StepAll.of fun j hj => h j (by simp [hj])⟩

theorem split_at {q : Nat} : ∀ {R : List Rec}, q ∈ R.map Rec.q → ∃ A r B, R = A ++ r :: B ∧ r.q = q
  | r :: R, h => by
    by_cases e : r.q = q
    · exact ⟨[], r, R, rfl, e⟩
    · have h' : q ∈ R.map Rec.q := by
        simp only [List.map_cons, List.mem_cons] at h
        rcases h with h | h
        · exact absurd h.symm e
        · exact h
      obtain ⟨A, s, B, rfl, hs⟩ := split_at h'
      exact ⟨r :: A, s, B, rfl, hs⟩

theorem chkG_nodup {M : Nat} : ∀ {R : List Rec}, chkG all.toList nx M R = true → (R.map Rec.q).Nodup
  | [], _ => List.nodup_nil
  | r :: R, h => by
    simp only [chkG, Bool.and_eq_true, Bool.not_eq_true'] at h
    refine List.nodup_cons.2 ⟨fun hm => ?_, chkG_nodup h.2⟩
    rw [memN_iff.2 hm] at h
    cases h.1.1.1.1

theorem full_of {n : Nat} {l : List Nat} (hn : l.Nodup) (hlt : ∀ i ∈ l, i < n) (hlen : l.length = n) : ∀ i, i < n → i ∈ l := by
  intro i hi
  by_cases h : i ∈ l
  · exact h
  · exfalso
    have h1 : (i :: l).Nodup := List.nodup_cons.2 ⟨h, hn⟩
    have h2 : (i :: l) ⊆ List.range n := fun x hx => by
      rcases List.mem_cons.1 hx with rfl | hx
      · simpa using hi
      · simpa using hlt x hx
    have := nodup_len _ _ h1 h2
    simp at this
    omega

theorem AWPAny.grow {l : List Nat} {n m : Nat} (h : nx ≤ m) (g : AWPAny cx all l n k ⟨tm, hp, m⟩) : AWPAny cx all l n k ⟨tm, hp, nx⟩ := fun listed a w hs hl hlt hi => by
  obtain ⟨μ, ok, hi⟩ := hi.one
  exact g listed a w hs hl hlt (Inv1.inv (μ := μ) (ok := ok) ⟨hi.defers, hi.size, ⟨hi.heap.mu, fun i hm => hi.heap.fresh i (Nat.le_trans h hm), hi.heap.sub, hi.heap.lt, hi.heap.okNew, hi.heap.own, hi.heap.inj, hi.heap.frame, hi.heap.size, hi.heap.os, hi.heap.tape, hi.heap.output⟩, hi.tmps⟩)

/-- A REGION THAT DRAWS ITS ORDER, walked in one order. -/
theorem AWPAny.drawG {M : Nat} {R : List Rec} (hg : GoodG cx all M tm hp R) (hchk : chkG all.toList nx M R = true) (hlen : R.length = all.size) (hM : nx ≤ M) (hT : okT nx tm = true) (hH : okHR nx hp)
    (g : AWP cx k ⟨tmS R tm, hpS R hp, M⟩) : AWPAny cx all [] all.size k ⟨tm, hp, nx⟩ := by
  refine AWPAny.grow hM ?_
  have hT' : ∀ t x, aget t tm = some x → SV.idsLt nx x = true := by
    clear g hg hlen
    intro t x
    induction tm with
    | nil => intro h; simp [aget] at h
    | cons p tm ih =>
      obtain ⟨u, y⟩ := p
      simp only [okT, Bool.and_eq_true] at hT
      intro h
      rw [aget_cons] at h
      by_cases hu : t = u
      · rw [if_pos hu] at h; cases h; exact hT.1
      · rw [if_neg hu] at h; exact ih hT.2 h
  have hH' : ∀ i B, aget i hp = some B → i < nx ∧ B.okR nx := by
    clear g hg hlen
    intro t x
    induction hp with
    | nil => intro h; simp [aget] at h
    | cons p hp ih =>
      obtain ⟨u, y⟩ := p
      intro h
      rw [aget_cons] at h
      by_cases hu : t = u
      · rw [if_pos hu] at h; cases h; subst hu; exact ⟨Nat.le_of_ble_eq_true hH.1, hH.2.1⟩
      · rw [if_neg hu] at h; exact ih hH.2.2 h
  have hnd := chkG_nodup hchk
  have hall : ∀ r ∈ R, ∃ o, all[r.q]? = some o := fun r hr => by
    obtain ⟨A, B, rfl⟩ := List.append_of_mem hr
    obtain ⟨o, _, ho, _⟩ := hg.get A r B rfl
    exact ⟨o, ho⟩
  have hlt : ∀ r ∈ R, r.q < all.size := fun r hr => by
    obtain ⟨o, ho⟩ := hall r hr
    exact (Array.getElem?_eq_some_iff.1 ho).1
  have hfull : ∀ i, i < all.size → i ∈ R.map Rec.q := full_of hnd (fun i hi => by
    obtain ⟨r, hr, rfl⟩ := List.mem_map.1 hi
    exact hlt r hr) (by simpa using hlen)
  let fl : List Nat → List Rec → List Rec := fun l R => R.filter fun r => memN r.q l
  have claim : ∀ (n : Nat) (l : List Nat) (s : St), l.Nodup → (∀ i ∈ l, i < all.size) → Closed all l → l.length + n = all.size → (∀ t, aget t s.tmps = look (uT t) (aget t tm) (fl l R)) → (∀ i, aget i s.heap = look (uH i) (aget i hp) (fl l R)) → s.next = M →
      AWPAny cx all l n k s := by
    intro n
    induction n with
    | zero =>
      intro l s hl hlt' hc hn h1 h2 h3
      have hin : ∀ i, i < all.size → i ∈ l := full_of hl hlt' (by omega)
      refine AWPAny.done ?_ ?_
      · refine List.eq_nil_iff_forall_not_mem.2 fun i hi => ?_
        obtain ⟨o, _, ho, hni, _⟩ := (rdy_iff _ _ _).1 hi
        rw [Nat.sub_zero, Array.getElem?_toList] at ho
        exact hni (hin i (Array.getElem?_eq_some_iff.1 ho).1)
      · have hf : fl l R = R := List.filter_eq_self.2 fun r hr => memN_iff.2 (hin _ (hlt r hr))
        obtain ⟨tm0, hp0, nx0⟩ := s
        simp only at h1 h2 h3
        subst h3
        refine AWP.ext (fun t => ?_) (fun i => ?_) g
        · rw [tmS_look, h1 t, hf]
        · rw [hpS_look, h2 i, hf]
    | succ n ih =>
      intro l s hl hlt' hc hn h1 h2 h3
      have hsome : rdy l 0 all.toList ≠ [] := by
        intro hnil
        have hno : ∀ (B : List Rec), (∀ r ∈ B, r ∈ R) → (∀ A r C, B = A ++ r :: C → ∀ o, all[r.q]? = some o → ∀ e ∈ o.after.toList, Region.binds .any e = true → e.on ∈ C.map Rec.q) → ∀ r ∈ B, r.q ∈ l := by
          intro B
          induction B with
          | nil => intro _ _ r hr; cases hr
          | cons b B ihB =>
            intro hs ha r hr
            have hB := ihB (fun r hr => hs r (by simp [hr])) fun A r C hC => ha (b :: A) r C (by rw [hC]; rfl)
            rcases List.mem_cons.1 hr with rfl | hr
            · by_cases hq : r.q ∈ l
              · exact hq
              · exfalso
                obtain ⟨o, ho⟩ := hall r (hs r (by simp))
                have : r.q ∈ rdy l 0 all.toList := (rdy_iff _ _ _).2 ⟨o, Nat.zero_le _, by rw [Nat.sub_zero, Array.getElem?_toList]; exact ho, hq, fun e he hb => by
                  obtain ⟨c, hc1, hc2⟩ := List.mem_map.1 (ha [] r B rfl o ho e he hb)
                  rw [← hc2]
                  exact hB c hc1⟩
                rw [hnil] at this
                cases this
            · exact hB r hr
        have hin := hno R (fun _ h => h) fun A r C hC o ho e he hb => by
          rw [hC] at hchk
          exact (chkG_get hchk).2.2.1 o ho e he hb
        have : all.size ≤ l.length := by
          have := nodup_len (R.map Rec.q) l hnd fun i hi => by
            obtain ⟨r, hr, rfl⟩ := List.mem_map.1 hi
            exact hin r hr
          simpa [hlen] using this
        omega
      refine AWPAny.step rfl hsome (StepAll.of fun i hi => ?_)
      obtain ⟨o, _, ho, hni, hri⟩ := (rdy_iff _ _ _).1 hi
      rw [Nat.sub_zero, Array.getElem?_toList] at ho
      have hilt := (Array.getElem?_eq_some_iff.1 ho).1
      refine ⟨o, ho, fun Φ next => ?_⟩
      obtain ⟨A, r, B, hR, rfl⟩ := split_at (hfull i hilt)
      subst hR
      obtain ⟨o', rds, ho', hd, hrd, hrds, hx, heff, hstep⟩ := hg.get A r B rfl
      rw [ho] at ho'
      cases ho'
      obtain ⟨k1, k2, k3, k4⟩ := chkG_get hchk
      have hmn : memN r.q l = false := by
        cases hb : memN r.q l
        · rfl
        · exact absurd (memN_iff.1 hb) hni
      have hfl : fl l (A ++ r :: B) = fl l A ++ fl l B := by
        simp only [fl, List.filter_append]
        rw [List.filter_cons_of_neg (by simp [hmn])]
      -- later ones that are done do not disturb
      have hA : ∀ a ∈ fl l A, ∃ oa, all[a.q]? = some oa ∧ clash all.toList a r = false := fun a ha => by
        obtain ⟨ha1, ha2⟩ := List.mem_filter.1 ha
        obtain ⟨oa, hoa⟩ := hall a (by simp [ha1])
        refine ⟨oa, hoa, ?_⟩
        rcases (k2 a ha1).2.1 with h | h
        · exact absurd (clo_mem hc (fun q hq => by simp only [List.mem_singleton] at hq; rw [hq]; exact memN_iff.1 ha2) _ h) hni
        · exact h
      have hB : ∀ b ∈ B, memN b.q l = false → ∃ ob, all[b.q]? = some ob ∧ clash all.toList r b = false := fun b hb hbl => by
        obtain ⟨ob, hob⟩ := hall b (by simp [hb])
        refine ⟨ob, hob, ?_⟩
        obtain ⟨⟨h, _⟩, hne⟩ := k1 b hb
        rcases h with h | h
        · rcases clo_ready hc (fun o2 ho2 => by rw [ho] at ho2; cases ho2; exact hri) _ h with h | h
          · exact absurd h hne
          · rw [memN_iff.2 h] at hbl; cases hbl
        · exact h
      have low : Low M s.tmps s.heap := by
        refine ⟨fun t x hx => ?_, fun i B' hB' => ?_⟩
        · rw [h1 t] at hx
          rcases look_from (u := uT t) (base := aget t tm) (R := fl l (A ++ r :: B)) with ⟨a, ha, hua⟩ | hb
          · rw [hx] at hua
            obtain ⟨A', C', hAC⟩ := List.append_of_mem (List.mem_filter.1 ha).1
            obtain ⟨_, _, _, _, _, _, hxa, _⟩ := hg.get A' a C' hAC
            simp only [uT] at hua
            split at hua
            · cases hua; exact hxa
            · cases hua
          · rw [hb] at hx
            exact idsLt_mono hM (hT' t x hx)
        · rw [h2 i] at hB'
          rcases look_from (u := uH i) (base := aget i hp) (R := fl l (A ++ r :: B)) with ⟨a, ha, hua⟩ | hb
          · rw [hB'] at hua
            obtain ⟨A', C', hAC⟩ := List.append_of_mem (List.mem_filter.1 ha).1
            obtain ⟨_, _, _, _, _, _, _, hea, _⟩ := hg.get A' a C' hAC
            exact effOk_get hea i B' hua
          · rw [hb] at hB'
            obtain ⟨q1, q2⟩ := hH' i B' hB'
            exact ⟨Nat.lt_of_lt_of_le q1 hM, okR_mono hM q2⟩
      have free : ∀ N ∈ r.nw, FreeS N s.tmps s.heap := by
        intro N hN
        have hrec : ∀ a ∈ fl l (A ++ r :: B), SV.freeOf N a.x = true ∧ effFree N a.eff = true := by
          intro a ha
          rw [hfl] at ha
          rcases List.mem_append.1 ha with ha | ha
          · obtain ⟨oa, hoa, hcl⟩ := hA a ha
            exact recFree_get (clash_get hcl hoa ho).2.2.2.2 N hN
          · exact recFree_get (k1 a (List.mem_filter.1 ha).1).1.2 N hN
        refine ⟨fun t x hx => ?_, fun i B' hB' => ?_⟩
        · rw [h1 t] at hx
          rcases look_from (u := uT t) (base := aget t tm) (R := fl l (A ++ r :: B)) with ⟨a, ha, hua⟩ | hb
          · rw [hx] at hua
            simp only [uT] at hua
            split at hua
            · cases hua; exact (hrec a ha).1
            · cases hua
          · rw [hb] at hx
            exact freeOf_lt (k4 N hN) (hT' t x hx)
        · rw [h2 i] at hB'
          rcases look_from (u := uH i) (base := aget i hp) (R := fl l (A ++ r :: B)) with ⟨a, ha, hua⟩ | hb
          · rw [hB'] at hua
            exact effFree_get (hrec a ha).2 i B' hua
          · rw [hb] at hB'
            obtain ⟨q1, q2⟩ := hH' i B' hB'
            have := k4 N hN
            exact ⟨by omega, freeB_lt this q2⟩
      have hslots : ∀ t ∈ o.looksAt all, aget t s.tmps = aget t (tmS B tm) := by
        intro t ht
        rw [h1 t, hfl, tmS_look, look_skip, look_filter]
        · intro b hb hbl
          obtain ⟨ob, hob, hcl⟩ := hB b hb hbl
          simp only [uT]
          rw [if_neg fun hd => ((clash_get hcl ho hob).1 t hd).1 ht]
        · intro a ha
          obtain ⟨oa, hoa, hcl⟩ := hA a ha
          simp only [uT]
          rw [if_neg fun hd => (clash_get hcl hoa ho).2.1 t hd ht]
      have hreads : ∀ p ∈ rds, aget p.1 s.heap = some p.2 := by
        intro p hp'
        have hpr : p.1 ∈ r.rd := by rw [← hrd]; exact List.mem_map.2 ⟨p, hp', rfl⟩
        rw [← hrds p hp', h2 p.1, hfl, hpS_look, look_skip, look_filter]
        · intro b hb hbl
          obtain ⟨ob, hob, hcl⟩ := hB b hb hbl
          simp only [uH]
          cases hu : aget p.1 b.eff with
          | none => rfl
          | some z => exact absurd hpr ((clash_get hcl ho hob).2.2.1 p.1 (aget_mem hu)).1
        · intro a ha
          obtain ⟨oa, hoa, hcl⟩ := hA a ha
          simp only [uH]
          cases hu : aget p.1 a.eff with
          | none => rfl
          | some z => exact absurd hpr ((clash_get hcl hoa ho).2.2.2.1 p.1 (aget_mem hu))
      have hs3 : s = ⟨s.tmps, s.heap, M⟩ := by rw [← h3]
      rw [hs3]
      refine hstep s.tmps s.heap (.inv Φ :: k) hslots hreads low free ?_
      have hfl' : fl (r.q :: l) (A ++ r :: B) = fl l A ++ r :: fl l B := by
        have hne : ∀ a : Rec, a.q ≠ r.q → memN a.q (r.q :: l) = memN a.q l := fun a ha => by simp only [memN, beq_ne ha, Bool.false_or]
        simp only [fl, List.filter_append]
        rw [List.filter_cons_of_pos (by simp [memN])]
        congr 1
        · exact List.filter_congr fun a ha => hne a (k2 a ha).1
        · congr 1
          exact List.filter_congr fun b hb => hne b (k1 b hb).2
      have hnext := next ⟨tput r.d r.x s.tmps, effH r.eff s.heap, M⟩ (ih (r.q :: l) ⟨tput r.d r.x s.tmps, effH r.eff s.heap, M⟩ (List.nodup_cons.2 ⟨hni, hl⟩) (fun i hi => by
          rcases List.mem_cons.1 hi with rfl | hi
          · exact hilt
          · exact hlt' i hi) (fun i hi oi hoi e he hb => by
          rcases List.mem_cons.1 hi with rfl | hi
          · rw [ho] at hoi; cases hoi; exact List.mem_cons_of_mem _ (hri e he hb)
          · exact List.mem_cons_of_mem _ (hc i hi oi hoi e he hb)) (by simp; omega) (fun t => ?_) (fun i => ?_) rfl)
      · intro a w hi
        exact hnext a w hi
      · rw [hfl']
        show aget t (tput r.d r.x s.tmps) = _
        rw [aget_tput]
        by_cases hdt : r.d = some t
        · rw [if_pos hdt, look_skip]
          · simp only [look, uT, if_pos hdt]
          · intro a ha
            obtain ⟨oa, hoa, hcl⟩ := hA a ha
            simp only [uT]
            rw [if_neg fun hd => (((clash_get hcl hoa ho).1 t hdt).2) hd]
        · rw [if_neg hdt, look_mid (by simp only [uT, if_neg hdt]), h1 t, hfl]
      · rw [hfl']
        show aget i (effH r.eff s.heap) = _
        rw [aget_effH]
        cases hu : aget i r.eff with
        | some z =>
          rw [look_skip]
          · simp only [look, uH, hu]
          · intro a ha
            obtain ⟨oa, hoa, hcl⟩ := hA a ha
            simp only [uH]
            cases hua : aget i a.eff with
            | none => rfl
            | some y => exact absurd (aget_mem hua) ((clash_get hcl hoa ho).2.2.1 i (aget_mem hu)).2
        | none => rw [look_mid (by simp only [uH, hu])]; exact (h2 i).trans (by rw [hfl])
  refine claim all.size [] ⟨tm, hp, M⟩ List.nodup_nil (by simp) (fun i hi => by cases hi) (by simp) (fun t => ?_) (fun i => ?_) rfl
  · have : fl [] R = [] := by simp [fl, memN]
    rw [this]; rfl
  · have : fl [] R = [] := by simp [fl, memN]
    rw [this]; rfl

end
end Go.Sy

/-
  SYMBOLIC STATES, over any program, part 26: the steps of a region that draws its order (drawG).
-/
namespace Go.Sy
open Go.RowKit

section
variable {cx : Cx} {P : Program} {fn : Func} {lo : Nat} {T : Tab} {k : List It} {tm : List (Nat × SV)} {hp : List (Nat × Blk)} {nx M : Nat} {all : Array Oper} {R : List Rec} {id : Nat}
variable {d q : Nat} {rest : List Oper} {ty : TypeId} {pos : String} {after : Array Edge}

/-! ### A walk over such a region -/
def DrG (cx : Cx) (all : Array Oper) (id : Nat) (k : List It) (tm : List (Nat × SV)) (hp : List (Nat × Blk)) (nx M : Nat) (i : Nat) (rest : List Oper) (R : List Rec) : Prop :=
  (GoodG cx all M tm hp R ∧ all.toList.drop i = rest) → cx.P.follows .mixedOrders = true ∧ AWPAny cx all [] all.size k ⟨tm, hp, nx⟩

theorem AWP.drg (M : Nat) (h : DrG cx all id k tm hp nx M 0 all.toList []) : AWP cx (.code (.region id all true) :: k) ⟨tm, hp, nx⟩ := fun a w hi => by
  obtain ⟨hm, h⟩ := h ⟨.nil, rfl⟩
  refine wp_region_any hm (h (Array.replicate all.size false) a _ (by simp) (fun i hi => by simp [hi]) (by simp) ?_)
  obtain ⟨μ, ok, hi⟩ := hi.one
  exact hi.drew.inv

theorem DrG.step {o : Oper} {d : Option Nat} {x : SV} {rds : List (Nat × Blk)} {eff : List (Nat × Option Blk)} {nw : List Nat} (hd : ∀ t, d = some t → o.dst = some t)
    (hr : ∀ p ∈ rds, aget p.1 (hpS R hp) = some p.2) (hx : SV.idsLt M x = true) (he : effOk M eff) (hs : GStep cx all M o (tmS R tm) rds d x eff nw) (h : DrG cx all id k tm hp nx M (Nat.succ q) rest (⟨q, d, x, rds.map Prod.fst, eff, nw⟩ :: R)) : DrG cx all id k tm hp nx M q (o :: rest) R := by
  rintro ⟨h1, h2⟩
  have ho : all[q]? = some o := by
    have := congrArg List.head? h2
    rw [List.head?_drop, Array.getElem?_toList] at this
    exact this
  exact h ⟨.step h1 ho hd hr hx he hs, by show all.toList.drop (q + 1) = rest; rw [← List.tail_drop, h2]; rfl⟩

theorem DrG.fin (e : Env cx P fn lo) (hm : P.follows .mixedOrders = true) (hchk : chkG all.toList nx M R = true) (hlen : Nat.beq (lenK R) (lenK all.toList) = true) (hM : Nat.ble nx M = true) (hT : okT nx tm = true) (hH : okHR nx hp)
    (g : AWP cx k ⟨tmS R tm, hpS R hp, M⟩) {q : Nat} : DrG cx all id k tm hp nx M q [] R := fun h1 => by
  refine ⟨e.P ▸ hm, AWPAny.drawG h1.1 hchk ?_ (Nat.le_of_ble_eq_true hM) hT hH g⟩
  have := Nat.eq_of_beq_eq_true hlen
  rw [lenK_eq, lenK_eq] at this
  simpa using this

/-- A step that touches no owned block. -/
theorem DrG.v {o : Oper} {x : SV} (hd : o.dst = some d) (hv : ∀ hp', VStep cx all hp' M o (tmS R tm) d x) (hx : SV.idsLt M x = true) (h : DrG cx all id k tm hp nx M (Nat.succ q) rest (⟨q, some d, x, [], [], []⟩ :: R)) : DrG cx all id k tm hp nx M q (o :: rest) R :=
  DrG.step (d := some d) (eff := []) (nw := []) (rds := []) (fun t ht => by cases ht; exact hd) (fun p hp => by cases hp) hx trivial (fun tm' hp' k h1 _ _ _ g => hv hp' tm' k h1 g) h

/-- A step that reads one owned block. -/
theorem DrG.v1 {o : Oper} {x : SV} {i : Nat} {B : Blk} (hd : o.dst = some d) (hr : aget i (hpS R hp) = some B) (hv : ∀ hp', aget i hp' = some B → VStep cx all hp' M o (tmS R tm) d x) (hx : SV.idsLt M x = true) (h : DrG cx all id k tm hp nx M (Nat.succ q) rest (⟨q, some d, x, [i], [], []⟩ :: R)) : DrG cx all id k tm hp nx M q (o :: rest) R :=
  DrG.step (d := some d) (eff := []) (nw := []) (rds := [(i, B)]) (fun t ht => by cases ht; exact hd) (fun p hp => by simp only [List.mem_singleton] at hp; subst hp; exact hr) hx trivial (fun tm' hp' k h1 h2 _ _ g => hv hp' (h2 (i, B) (by simp)) tm' k h1 g) h

theorem VStep.load (e : Env cx P fn lo) (hT : TabOk P T) {t : TypeId} {a : Operand} {i j : Nat} {cs : List SV} {y : Ty} {v : SV} (hd : Nat.blt d fn.ntmps = true) (h1 : opd ⟨tm, [], 0⟩ a = some (.ptr i j)) (h2 : aget t T = some y) (h4 : part1 y.td.agg y.size j cs = .val v True)
    (hb : aget i hp = some (.box cs)) : VStep cx all hp nx ⟨some d, .load t a, ty, pos, after, none⟩ tm d v := by
  refine VStep.ev e hT hd (p := True) ?_ trivial
  have h1' : opd ⟨tm, hp, nx⟩ a = some (.ptr i j) := h1
  unfold Sy.ev
  simp only [h1', evLoad, h2, hb, h4]

theorem DrG.load (e : Env cx P fn lo) (hT : TabOk P T) {t : TypeId} {a : Operand} {i j : Nat} {cs : List SV} {y : Ty} {v : SV} (hd : Nat.blt d fn.ntmps = true) (h1 : opd ⟨tmS R tm, [], 0⟩ a = some (.ptr i j)) (h2 : aget t T = some y)
    (h3 : aget i (hpS R hp) = some (.box cs)) (h4 : part1 y.td.agg y.size j cs = .val v True) (hx : SV.idsLt M v = true) (h : DrG cx all id k tm hp nx M (Nat.succ q) rest (⟨q, some d, v, [i], [], []⟩ :: R)) : DrG cx all id k tm hp nx M q (⟨some d, .load t a, ty, pos, after, none⟩ :: rest) R :=
  DrG.v1 rfl h3 (fun _ hb => VStep.load e hT hd h1 h2 h4 hb) hx h

theorem DrG.loadGo (e : Env cx P fn lo) (hT : TabOk P T) {t : TypeId} {a : Operand} {i j jg dj : Nat} {wg : Bool} {cs : List SV} {y : Ty} {v : SV} (hg : guardS all (tmS R tm) jg = .told dj wg) (hd : Nat.blt d fn.ntmps = true) (h1 : opd ⟨tmS R tm, [], 0⟩ a = some (.ptr i j)) (h2 : aget t T = some y)
    (h3 : aget i (hpS R hp) = some (.box cs)) (h4 : part1 y.td.agg y.size j cs = .val v True) (hx : SV.idsLt M v = true) (h : DrG cx all id k tm hp nx M (Nat.succ q) rest (⟨q, some d, v, [i], [], []⟩ :: R)) : DrG cx all id k tm hp nx M q (⟨some d, .load t a, ty, pos, after, some (jg, wg)⟩ :: rest) R :=
  DrG.v1 rfl h3 (fun _ hb => VStep.go hg (VStep.load e hT hd h1 h2 h4 hb)) hx h

theorem DrG.loadGoA (e : Env cx P fn lo) (hT : TabOk P T) {t : TypeId} {a : Operand} {i j jg dj : Nat} {bg wg : Bool} {cs : List SV} {y : Ty} {v : SV} (hg : guardS all (tmS R tm) jg = .ask dj bg) (hb : bg = wg) (hd : Nat.blt d fn.ntmps = true) (h1 : opd ⟨tmS R tm, [], 0⟩ a = some (.ptr i j)) (h2 : aget t T = some y)
    (h3 : aget i (hpS R hp) = some (.box cs)) (h4 : part1 y.td.agg y.size j cs = .val v True) (hx : SV.idsLt M v = true) (h : DrG cx all id k tm hp nx M (Nat.succ q) rest (⟨q, some d, v, [i], [], []⟩ :: R)) : DrG cx all id k tm hp nx M q (⟨some d, .load t a, ty, pos, after, some (jg, wg)⟩ :: rest) R :=
  DrG.v1 rfl h3 (fun _ hb' => VStep.goA hg hb (VStep.load e hT hd h1 h2 h4 hb')) hx h

/-- A store into a variable. -/
theorem DrG.store (e : Env cx P fn lo) (hT : TabOk P T) {dst : Option Nat} {t : TypeId} {a v : Operand} {i j : Nat} {x : SV} {vs cs cs' : List SV} {y : Ty} (hd : dstOk fn.ntmps dst = true) (h1 : opd ⟨tmS R tm, [], 0⟩ a = some (.ptr i j)) (hv : opd ⟨tmS R tm, [], 0⟩ v = some x) (h2 : aget t T = some y)
    (h3 : aget i (hpS R hp) = some (.box cs)) (hvs : cellsOf x = some vs) (hl : Nat.beq (lenK vs) y.size = true) (ha : allCells vs = true) (h4 : laid j vs cs = some cs') (hx : SV.idsLt.go M cs' = true) (hi : Nat.blt i M = true)
    (h : DrG cx all id k tm hp nx M (Nat.succ q) rest (⟨q, dst, undefS, [i], [(i, some (.box cs'))], []⟩ :: R)) : DrG cx all id k tm hp nx M q (⟨dst, .store t a v, ty, pos, after, none⟩ :: rest) R := by
  refine DrG.step (d := dst) (x := undefS) (eff := [(i, some (.box cs'))]) (nw := []) (rds := [(i, .box cs)]) (fun t ht => ht) (fun p hp => by simp only [List.mem_singleton] at hp; subst hp; exact h3) rfl ⟨⟨hi, hx⟩, trivial⟩ (fun tm' hp' k a1 a2 _ _ g => ?_) h
  obtain ⟨rfl, rfl, _⟩ := e
  have h1' : opd ⟨tm', hp', M⟩ a = some (.ptr i j) := (opd_eq fun u hu => a1 u (looks_ops (by simp [Op.operands]) hu)).trans h1
  have hv' : opd ⟨tm', hp', M⟩ v = some x := (opd_eq fun u hu => a1 u (looks_ops (by simp [Op.operands]) hu)).trans hv
  have hb := a2 (i, .box cs) (by simp)
  refine AWP.op_set hT (fun t ht => dstOk_lt hd t ht) (id := i) (cs := cs') ?_ g
  unfold ev
  simp only [h1', hv', evStore, h2, hvs, hl, ha, cond_true, hb, putK_eq, h4]

/-- A name for what was made. -/
theorem AWP.newName (e : Env cx P fn lo) {N : Nat} {d : Option Nat} {x x1 : SV} {eff eff1 : List (Nat × Option Blk)} {tm' : List (Nat × SV)} {hp' : List (Nat × Blk)} (hN : N < M) (hlo : lo ≤ N) (hx : x1 = renS [(N, M)] x) (hxl : SV.idsLt M x = true) (hlow : Low M tm' hp') (hfree : FreeS N tm' hp')
    (heff : ∀ i, i < M → aget (renI [(N, M)] i) eff1 = (aget i eff).map (·.map (renB [(N, M)]))) (hok : effOk M eff) (g : AWP cx k ⟨tput d x tm', effH eff hp', M⟩) : AWP cx k ⟨tput d x1 tm', effH eff1 hp', Nat.succ M⟩ := by
  have hr : ∀ i, renI [(N, M)] i = if i = N then M else i := fun i => by
    unfold renI
    simp only [aget]
    by_cases h : i = N
    · subst h; simp [Nat.beq_refl]
    · simp [beq_ne h, h]
  refine AWP.lessG e [(N, M)] (fun t z hz => ?_) (fun i B hB => ?_) (fun i a hi => ?_) (fun i j hi hj hij => ?_) (by omega) g
  · rw [aget_tput] at hz ⊢
    by_cases hd : d = some t
    · rw [if_pos hd] at hz ⊢
      cases hz
      exact ⟨⟨_, rfl, .inl hx⟩, hxl⟩
    · rw [if_neg hd] at hz ⊢
      exact ⟨⟨z, hz, .inl (renS_free (hfree.1 t z hz)).symm⟩, hlow.1 t z hz⟩
  · rw [aget_effH] at hB ⊢
    cases hu : aget i eff with
    | some b =>
      rw [hu] at hB
      have hb : b = some B := hB
      subst hb
      obtain ⟨q1, q2⟩ := effOk_get hok i B hu
      rw [heff i q1, hu]
      exact ⟨rfl, q1, q2⟩
    | none =>
      rw [hu] at hB
      have hB : aget i hp' = some B := hB
      obtain ⟨q1, q2⟩ := hlow.2 i B hB
      obtain ⟨q3, q4⟩ := hfree.2 i B hB
      rw [heff i q1, hu, hr, if_neg q3, renB_free q4]
      exact ⟨hB, q1, q2⟩
  · simp only [aget] at hi
    by_cases h : i = N
    · omega
    · rw [beq_ne h] at hi; cases hi
  · rw [hr, hr] at hij
    split at hij <;> split at hij <;> omega

theorem newEff {N i : Nat} {B B1 : Blk} (hN : N < M) (hi : i < M) (hB : B1 = renB [(N, M)] B) : aget (renI [(N, M)] i) [(M, some B1)] = (aget i [(N, some B)]).map (·.map (renB [(N, M)])) := by
  unfold renI
  simp only [aget]
  by_cases h : i = N
  · subst h; simp [Nat.beq_refl, hB]
  · simp only [beq_ne h, cond_false]
    rw [beq_ne (by omega)]
    rfl

/-- A variable that is made. -/
theorem DrG.box (N : Nat) (e : Env cx P fn lo) (hT : TabOk P T) {op : Op} {cs : List SV} (hd : Nat.blt d fn.ntmps = true) (hev : ∀ hp', ev T ⟨tmS R tm, hp', M⟩ op = .box cs) (hN : Nat.blt N M = true) (hlo : Nat.ble lo N = true) (hcs : SV.idsLt.go M cs = true) (hf : SV.freeOf.go N cs = true)
    (h : DrG cx all id k tm hp nx M (Nat.succ q) rest (⟨q, some d, .ptr N 0, [], [(N, some (.box cs))], [N]⟩ :: R)) : DrG cx all id k tm hp nx M q (⟨some d, op, ty, pos, after, none⟩ :: rest) R := by
  have hN' := Nat.le_of_ble_eq_true hN
  refine DrG.step (d := some d) (x := .ptr N 0) (eff := [(N, some (.box cs))]) (nw := [N]) (rds := []) (fun t ht => ht) (fun p hp => by cases hp) hN ⟨⟨hN, hcs⟩, trivial⟩ (fun tm' hp' k a1 _ a3 a4 g => ?_) h
  obtain ⟨rfl, rfl, e3, e4⟩ := e
  refine AWP.op_box hT (Nat.le_of_ble_eq_true hd) (cs := cs) ?_ ?_
  · rw [← hev hp']
    exact ev_congr fun y hy t ht => a1 t (looks_ops hy ht)
  · refine AWP.newName ⟨rfl, rfl, e3, e4⟩ (N := N) (d := some d) (x := .ptr N 0) (x1 := .ptr M 0) (eff := [(N, some (.box cs))]) (eff1 := [(M, some (.box cs))]) hN' (Nat.le_of_ble_eq_true hlo) ?_ hN a3 (a4 N (by simp)) (fun i hi => newEff hN' hi ?_) ⟨⟨hN, hcs⟩, trivial⟩ g
    · simp [renS, renI, aget, Nat.beq_refl]
    · simp only [renB]; rw [renS_go_free hf]

/-- A row that is made of parts. -/
theorem DrG.row (N : Nat) (e : Env cx P fn lo) (hT : TabOk P T) {op : Op} {te : TypeId} {m n : Nat} {xs : List (List SV)} (hd : Nat.blt d fn.ntmps = true) (hev : ∀ hp', ev T ⟨tmS R tm, hp', M⟩ op = .row te m xs n) (hN : Nat.blt N M = true) (hlo : Nat.ble lo N = true) (hxs : ∀ e ∈ xs, SV.idsLt.go 0 e = true)
    (h : DrG cx all id k tm hp nx M (Nat.succ q) rest (⟨q, some d, .own N m 0 n n, [], [(N, some (.row te false m xs n))], [N]⟩ :: R)) : DrG cx all id k tm hp nx M q (⟨some d, op, ty, pos, after, none⟩ :: rest) R := by
  have hN' := Nat.le_of_ble_eq_true hN
  refine DrG.step (d := some d) (x := .own N m 0 n n) (eff := [(N, some (.row te false m xs n))]) (nw := [N]) (rds := []) (fun t ht => ht) (fun p hp => by cases hp) hN ⟨⟨hN, hxs⟩, trivial⟩ (fun tm' hp' k a1 _ a3 a4 g => ?_) h
  obtain ⟨rfl, rfl, e3, e4⟩ := e
  refine AWP.op_row hT (Nat.le_of_ble_eq_true hd) (n := m) (m := n) (t := te) (xs := xs) ?_ ?_
  · rw [← hev hp']
    exact ev_congr fun y hy t ht => a1 t (looks_ops hy ht)
  · refine AWP.newName ⟨rfl, rfl, e3, e4⟩ (N := N) (d := some d) (x := .own N m 0 n n) (x1 := .own M m 0 n n) (eff := [(N, some (.row te false m xs n))]) (eff1 := [(M, some (.row te false m xs n))]) hN' (Nat.le_of_ble_eq_true hlo) ?_ hN a3 (a4 N (by simp)) (fun i hi => newEff hN' hi rfl) ⟨⟨hN, hxs⟩, trivial⟩ g
    simp [renS, renI, aget, Nat.beq_refl]

/-- A call that writes to none of the caller's blocks. -/
theorem DrG.call (e : Env cx P fn lo) {f : FuncId} {cs xs : List SV} {r : SV} (hE : Eff P f cs [] 0 (fun r' _ _ => r' = r)) {c : Call} 
    (hc : acall ⟨tmS R tm, [], 0⟩ c = some (f, xs)) (hcv : ∀ hp', CvL hp' [] xs cs) (hno : SV.noIds.go cs = true) (hd : Nat.blt d fn.ntmps = true) (hr : SV.noIds r = true) (h : DrG cx all id k tm hp nx M (Nat.succ q) rest (⟨q, some d, r, [], [], []⟩ :: R)) : DrG cx all id k tm hp nx M q (⟨some d, .call c, ty, pos, after, none⟩ :: rest) R :=
  DrG.v rfl (fun hp' => VStep.call e hE (by
    have : ∀ (l : List Operand), opds ⟨tmS R tm, hp', M⟩ l = opds ⟨tmS R tm, [], 0⟩ l := fun l => by
      induction l with
      | nil => rfl
      | cons o l ih => simp only [opds, ih]; rfl
    have h2 : acall ⟨tmS R tm, hp', M⟩ c = acall ⟨tmS R tm, [], 0⟩ c := by
      obtain ⟨cal, args, ats⟩ := c
      cases cal with
      | value fo => simp only [acall, this]; rfl
      | _ => rfl
    exact h2.trans hc) [] (hcv hp') hno hd hr (.inl rfl)) (idsLt_mono (Nat.zero_le _) (noIds_lt hr)) h

theorem okD (n : Nat) : ∀ l : List DV, SV.idsLt.go n (l.map SV.d) = true
  | [] => rfl
  | _ :: l => by show (true && SV.idsLt.go n (l.map SV.d)) = true; rw [okD n l]; rfl

theorem okEls (n : Nat) (ys : List (List DV)) : ∀ e ∈ ys.map (·.map SV.d), SV.idsLt.go n e = true := by
  intro e he
  obtain ⟨y, _, rfl⟩ := List.mem_map.1 he
  exact okD n y

theorem okRow {n m C : Nat} {te : TypeId} {fz : Bool} (ys : List (List DV)) : Blk.okR n (.row te fz m (ys.map (·.map SV.d)) C) := okEls 0 ys

end
end Go.Sy

/-
  SYMBOLIC STATES, over any program, part 27: the walk by itself, which forgets slots that are used no more; calls, by their number first.
-/
namespace Go.Sy
open Go.RowKit

def keepK {R : Type} (L : List Nat) : List Nat → List (Nat × SV) → (List (Nat × SV) → R) → R
  | _, [], k => k []
  | seen, (t, x) :: l, k => bif memN t seen then keepK L seen l k else bif memN t L then keepK L (t :: seen) l (fun r => k ((t, x) :: r)) else keepK L seen l k
def nubK {R : Type} : List Nat → List (Nat × Blk) → (List (Nat × Blk) → R) → R
  | _, [], k => k []
  | seen, (t, x) :: l, k => bif memN t seen then nubK seen l k else nubK (t :: seen) l (fun r => k ((t, x) :: r))

def keepD (L : List Nat) : List Nat → List (Nat × SV) → List (Nat × SV)
  | _, [] => []
  | seen, (t, x) :: l => bif memN t seen then keepD L seen l else bif memN t L then (t, x) :: keepD L (t :: seen) l else keepD L seen l
def nubD : List Nat → List (Nat × Blk) → List (Nat × Blk)
  | _, [] => []
  | seen, (t, x) :: l => bif memN t seen then nubD seen l else (t, x) :: nubD (t :: seen) l

theorem keepK_eq {R : Type} (L : List Nat) : ∀ (seen : List Nat) (l : List (Nat × SV)) (k : List (Nat × SV) → R), keepK L seen l k = k (keepD L seen l)
  | _, [], k => rfl
  | seen, (t, x) :: l, k => by
    simp only [keepK, keepD, keepK_eq L]
    cases memN t seen <;> cases memN t L <;> rfl
theorem nubK_eq {R : Type} : ∀ (seen : List Nat) (l : List (Nat × Blk)) (k : List (Nat × Blk) → R), nubK seen l k = k (nubD seen l)
  | _, [], k => rfl
  | seen, (t, x) :: l, k => by
    simp only [nubK, nubD, nubK_eq]
    cases memN t seen <;> rfl

section
variable {cx : Cx} {P : Program} {fn : Func} {lo : Nat} {T : Tab} {k : List It} {s : St} {tm : List (Nat × SV)} {hp : List (Nat × Blk)} {nx : Nat}

theorem memN_cons {t u : Nat} {l : List Nat} (h : t ≠ u) : memN t (u :: l) = memN t l := by simp only [memN, beq_ne h, Bool.false_or]

theorem keepD_get {L : List Nat} : ∀ {seen : List Nat} {l : List (Nat × SV)} {t : Nat} {x : SV}, aget t (keepD L seen l) = some x → memN t seen = false ∧ aget t l = some x
  | _, [], t, x, h => by simp [keepD, aget] at h
  | seen, (u, y) :: l, t, x, h => by
    simp only [keepD] at h
    rw [aget_cons]
    cases h1 : memN u seen
    · rw [h1] at h
      simp only [cond_false] at h
      cases h2 : memN u L
      · rw [h2] at h
        simp only [cond_false] at h
        obtain ⟨g1, g2⟩ := keepD_get h
        refine ⟨g1, ?_⟩
        by_cases e : t = u
        · exfalso
          subst e
          have : ∀ {seen : List Nat} {l : List (Nat × SV)}, aget t (keepD L seen l) = none := by
            intro seen l
            induction l generalizing seen with
            | nil => rfl
            | cons p l ih =>
              obtain ⟨v, z⟩ := p
              simp only [keepD]
              cases memN v seen
              · simp only [cond_false]
                cases h3 : memN v L
                · exact ih
                · simp only [cond_true]
                  rw [aget_cons, if_neg (fun e => by rw [e, h3] at h2; cases h2)]
                  exact ih
              · exact ih
          rw [this] at h
          cases h
        · rw [if_neg e]; exact g2
      · rw [h2] at h
        simp only [cond_true] at h
        rw [aget_cons] at h
        by_cases e : t = u
        · rw [if_pos e] at h ⊢
          subst e
          exact ⟨h1, h⟩
        · rw [if_neg e] at h ⊢
          obtain ⟨g1, g2⟩ := keepD_get h
          rw [memN_cons e] at g1
          exact ⟨g1, g2⟩
    · rw [h1] at h
      simp only [cond_true] at h
      obtain ⟨g1, g2⟩ := keepD_get h
      refine ⟨g1, ?_⟩
      rw [if_neg (fun e => by rw [e, h1] at g1; cases g1)]
      exact g2

theorem nubD_get : ∀ {seen : List Nat} {l : List (Nat × Blk)} {t : Nat} {x : Blk}, aget t (nubD seen l) = some x → memN t seen = false ∧ aget t l = some x
  | _, [], t, x, h => by simp [nubD, aget] at h
  | seen, (u, y) :: l, t, x, h => by
    simp only [nubD] at h
    rw [aget_cons]
    cases h1 : memN u seen
    · rw [h1] at h
      simp only [cond_false] at h
      rw [aget_cons] at h
      by_cases e : t = u
      · rw [if_pos e] at h ⊢
        subst e
        exact ⟨h1, h⟩
      · rw [if_neg e] at h ⊢
        obtain ⟨g1, g2⟩ := nubD_get h
        rw [memN_cons e] at g1
        exact ⟨g1, g2⟩
    · rw [h1] at h
      simp only [cond_true] at h
      obtain ⟨g1, g2⟩ := nubD_get h
      refine ⟨g1, ?_⟩
      rw [if_neg (fun e => by rw [e, h1] at g1; cases g1)]
      exact g2

theorem AWP.sub {tm2 : List (Nat × SV)} {hp2 : List (Nat × Blk)} (h1 : ∀ t x, aget t tm2 = some x → aget t tm = some x) (h2 : ∀ i B, aget i hp2 = some B → aget i hp = some B) (g : AWP cx k ⟨tm2, hp2, nx⟩) : AWP cx k ⟨tm, hp, nx⟩ := fun a w hi => by
  obtain ⟨μ, ok, hi⟩ := hi.one
  exact g a w (Inv1.inv (μ := μ) (ok := ok) ⟨hi.defers, hi.size, hi.heap.drop h2, fun t x hx => hi.tmps t x (h1 t x hx)⟩)

theorem keepD_sub {L : List Nat} : ∀ t x, aget t (keepD L [] tm) = some x → aget t tm = some x := fun _ _ h => (keepD_get h).2
theorem nubD_sub : ∀ i B, aget i (nubD [] hp) = some B → aget i hp = some B := fun _ _ h => (nubD_get h).2

end

def arunL (T : Tab) (N : Nat) (L : List Nat) : Nat → List It → List (Nat × SV) → List (Nat × Blk) → Nat → Prop → Out
  | 0, k, tm, hp, nx, ob => ⟨k, ⟨tm, hp, nx⟩, ob⟩
  | n + 1, k, tm, hp, nx, ob =>
    match k with
    | [] => ⟨[], ⟨tm, hp, nx⟩, ob⟩
    | .inv Φ :: k => ⟨.inv Φ :: k, ⟨tm, hp, nx⟩, ob⟩
    | .blk _ :: k => arunL T N L n k tm hp nx ob
    | .ops _ [] :: k => arunL T N L n k tm hp nx ob
    | .ops all (⟨dst, op, ty, pos, after, some (j, w)⟩ :: rest) :: k =>
      match guardS all tm j with
      | .no _ => match dst with
        | some d => bif Nat.blt d N then arunL T N L n (.ops all rest :: k) ((d, undefS) :: tm) hp nx ob else ⟨.ops all (⟨dst, op, ty, pos, after, some (j, w)⟩ :: rest) :: k, ⟨tm, hp, nx⟩, ob⟩
        | none => arunL T N L n (.ops all rest :: k) tm hp nx ob
      | .told _ b => bif (bif b then w else !w) then arunL T N L n (.ops all (⟨dst, op, ty, pos, after, none⟩ :: rest) :: k) tm hp nx ob else (match dst with
        | some d => bif Nat.blt d N then arunL T N L n (.ops all rest :: k) ((d, undefS) :: tm) hp nx ob else ⟨.ops all (⟨dst, op, ty, pos, after, some (j, w)⟩ :: rest) :: k, ⟨tm, hp, nx⟩, ob⟩
        | none => arunL T N L n (.ops all rest :: k) tm hp nx ob)
      | _ => ⟨.ops all (⟨dst, op, ty, pos, after, some (j, w)⟩ :: rest) :: k, ⟨tm, hp, nx⟩, ob⟩
    | .ops all (⟨dst, op, ty, pos, after, none⟩ :: rest) :: k =>
      match dst with
      | none => match ev T ⟨tm, hp, nx⟩ op with
        | .set id cs => arunL T N L n (.ops all rest :: k) tm ((id, .box cs) :: hp) nx ob
        | .val _ p => arunL T N L n (.ops all rest :: k) tm hp nx (p ∧ ob)
        | _ => ⟨.ops all (⟨dst, op, ty, pos, after, none⟩ :: rest) :: k, ⟨tm, hp, nx⟩, ob⟩
      | some d => bif Nat.blt d N then (match ev T ⟨tm, hp, nx⟩ op with
        | .val x p => forceK x fun x => arunL T N L n (.ops all rest :: k) ((d, x) :: tm) hp nx (p ∧ ob)
        | .box cs => arunL T N L n (.ops all rest :: k) ((d, .ptr nx 0) :: tm) ((nx, .box cs) :: hp) (Nat.succ nx) ob
        | .row e k' xs m => arunL T N L n (.ops all rest :: k) ((d, .own nx k' 0 m m) :: tm) ((nx, .row e false k' xs m) :: hp) (Nat.succ nx) ob
        | .set id cs => arunL T N L n (.ops all rest :: k) ((d, undefS) :: tm) ((id, .box cs) :: hp) nx ob
        | .stop => ⟨.ops all (⟨dst, op, ty, pos, after, none⟩ :: rest) :: k, ⟨tm, hp, nx⟩, ob⟩)
        else ⟨.ops all (⟨dst, op, ty, pos, after, none⟩ :: rest) :: k, ⟨tm, hp, nx⟩, ob⟩
    | .code .skip :: k => arunL T N L n k tm hp nx ob
    | .code (.label _) :: k => arunL T N L n k tm hp nx ob
    | .code (.seq a b) :: k => arunL T N L n (.code a :: .code b :: k) tm hp nx ob
    | .code (.block id c) :: k => arunL T N L n (.code c :: .blk id :: k) tm hp nx ob
    | .code (.exit id) :: k => match It.exitTo id k with | some k' => arunL T N L n k' tm hp nx ob | none => ⟨.code (.exit id) :: k, ⟨tm, hp, nx⟩, ob⟩
    | .code (.region _ ops false) :: k => keepK L [] tm fun tm => nubK [] hp fun hp => arunL T N L n (.ops ops ops.toList :: k) tm hp nx ob
    | .code (.cond (.tmp t) x y) :: k => match aget t tm with
      | some (.lit b) => bif b then arunL T N L n (.code x :: k) tm hp nx ob else arunL T N L n (.code y :: k) tm hp nx ob
      | _ => ⟨.code (.cond (.tmp t) x y) :: k, ⟨tm, hp, nx⟩, ob⟩
    | .code c :: k => ⟨.code c :: k, ⟨tm, hp, nx⟩, ob⟩


section
variable {cx : Cx} {P : Program} {fn : Func} {lo : Nat} {T : Tab} {k : List It} {s : St} {tm : List (Nat × SV)} {hp : List (Nat × Blk)} {nx : Nat}

/-- THE WALK BY ITSELF. -/
theorem arunL_ok (hT : TabOk cx.P T) (L : List Nat) : ∀ (n : Nat) (k : List It) (tm : List (Nat × SV)) (hp : List (Nat × Blk)) (nx : Nat) (ob : Prop), (arunL T cx.fn.ntmps L n k tm hp nx ob).ob →
    ob ∧ (AWP cx (arunL T cx.fn.ntmps L n k tm hp nx ob).k (arunL T cx.fn.ntmps L n k tm hp nx ob).s → AWP cx k ⟨tm, hp, nx⟩)
  | 0, k, tm, hp, nx, ob, h => ⟨h, id⟩
  | n + 1, k, tm, hp, nx, ob, h => by
    have ih := arunL_ok hT L n
    have blt : ∀ d, Nat.blt d cx.fn.ntmps = true → d < cx.fn.ntmps := fun d h => Nat.le_of_ble_eq_true h
    unfold arunL at h ⊢
    split at h
    · exact ⟨h, id⟩
    · exact ⟨h, id⟩
    · obtain ⟨h1, h2⟩ := ih _ _ _ _ _ h
      exact ⟨h1, fun g a w hi => by have := h2 g a w hi; cases ‹List It› <;> exact this⟩
    · obtain ⟨h1, h2⟩ := ih _ _ _ _ _ h
      exact ⟨h1, fun g a w hi => h2 g a w hi⟩
    · -- a guarded operation
      rename_i all dst op ty pos after j wd0 rest k
      cases hg : guardS all tm j with
      | ask d b => simp only [hg] at h ⊢; exact ⟨h, id⟩
      | told d0 b =>
        simp only [hg] at h ⊢
        cases hw : (bif b then wd0 else !wd0)
        · simp only [hw, cond_false] at h ⊢
          have hne : ∀ a wd, Inv cx ⟨tm, hp, nx⟩ a wd → yielded all a.tmps j ≠ some wd0 := fun a wd hi => by
            rw [guard_told hi hg]
            intro e
            cases e
            cases wd0 <;> cases hw
          cases hdst : dst with
          | none =>
            simp only [hdst] at h ⊢
            obtain ⟨h1, h2⟩ := ih _ _ _ _ _ h
            exact ⟨h1, fun g => AWP.guard_not hne (fun t ht => by cases ht) (h2 g)⟩
          | some d =>
            simp only [hdst] at h ⊢
            cases hb : Nat.blt d cx.fn.ntmps
            · simp only [hb, cond_false] at h ⊢
              exact ⟨h, id⟩
            · simp only [hb, cond_true] at h ⊢
              obtain ⟨h1, h2⟩ := ih _ _ _ _ _ h
              exact ⟨h1, fun g => AWP.guard_not hne (fun t ht => by cases ht; exact blt d hb) (h2 g)⟩
        · simp only [hw, cond_true] at h ⊢
          obtain ⟨h1, h2⟩ := ih _ _ _ _ _ h
          exact ⟨h1, fun g => AWP.guard_yes (fun a wd hi => by
            rw [guard_told hi hg]
            cases b <;> cases wd0 <;> first | rfl | cases hw) (h2 g)⟩
      | bad => simp only [hg] at h ⊢; exact ⟨h, id⟩
      | no d0 =>
        simp only [hg] at h ⊢
        cases hdst : dst with
        | none =>
          simp only [hdst] at h ⊢
          obtain ⟨h1, h2⟩ := ih _ _ _ _ _ h
          exact ⟨h1, fun g => AWP.guard_un hg (fun t ht => by cases ht) (h2 g)⟩
        | some d =>
          simp only [hdst] at h ⊢
          cases hb : Nat.blt d cx.fn.ntmps
          · simp only [hb, cond_false] at h ⊢
            exact ⟨h, id⟩
          · simp only [hb, cond_true] at h ⊢
            obtain ⟨h1, h2⟩ := ih _ _ _ _ _ h
            exact ⟨h1, fun g => AWP.guard_un hg (fun t ht => by cases ht; exact blt d hb) (h2 g)⟩
    · -- an operation
      rename_i all dst op ty pos after rest k
      cases dst with
      | none =>
        simp only at h ⊢
        cases he : ev T ⟨tm, hp, nx⟩ op with
        | set id cs =>
          simp only [he] at h ⊢
          obtain ⟨h1, h2⟩ := ih _ _ _ _ _ h
          exact ⟨h1, fun g => AWP.op_set hT (fun t ht => by cases ht) he (h2 g)⟩
        | val x p =>
          simp only [he] at h ⊢
          obtain ⟨⟨h1, h1'⟩, h2⟩ := ih _ _ _ _ _ h
          exact ⟨h1', fun g => AWP.op_val0 hT he h1 (h2 g)⟩
        | _ => simp only [he] at h ⊢; exact ⟨h, id⟩
      | some d =>
        simp only at h ⊢
        cases hb : Nat.blt d cx.fn.ntmps
        · simp only [hb, cond_false] at h ⊢
          exact ⟨h, id⟩
        · simp only [hb, cond_true] at h ⊢
          cases he : ev T ⟨tm, hp, nx⟩ op with
          | set id cs =>
            simp only [he] at h ⊢
            obtain ⟨h1, h2⟩ := ih _ _ _ _ _ h
            exact ⟨h1, fun g => AWP.op_set hT (fun t ht => by cases ht; exact blt d hb) he (h2 g)⟩
          | val x p =>
            simp only [he, forceK_eq] at h ⊢
            obtain ⟨⟨h1, h1'⟩, h2⟩ := ih _ _ _ _ _ h
            exact ⟨h1', fun g => AWP.op_val hT (blt d hb) he h1 (h2 g)⟩
          | box cs =>
            simp only [he] at h ⊢
            obtain ⟨h1, h2⟩ := ih _ _ _ _ _ h
            exact ⟨h1, fun g => AWP.op_box hT (blt d hb) he (h2 g)⟩
          | row t n xs m =>
            simp only [he] at h ⊢
            obtain ⟨h1, h2⟩ := ih _ _ _ _ _ h
            exact ⟨h1, fun g => AWP.op_row hT (blt d hb) he (h2 g)⟩
          | stop => simp only [he] at h ⊢; exact ⟨h, id⟩
    · obtain ⟨h1, h2⟩ := ih _ _ _ _ _ h
      exact ⟨h1, fun g a w hi => wp_skip (h2 g a w hi)⟩
    · obtain ⟨h1, h2⟩ := ih _ _ _ _ _ h
      exact ⟨h1, fun g a w hi => wp_label (h2 g a w hi)⟩
    · obtain ⟨h1, h2⟩ := ih _ _ _ _ _ h
      exact ⟨h1, fun g => AWP.seq (h2 g)⟩
    · obtain ⟨h1, h2⟩ := ih _ _ _ _ _ h
      exact ⟨h1, fun g => AWP.block (h2 g)⟩
    · cases he : It.exitTo ‹Nat› ‹List It› with
      | none => simp only [he] at h ⊢; exact ⟨h, id⟩
      | some k' =>
        simp only [he] at h ⊢
        obtain ⟨h1, h2⟩ := ih _ _ _ _ _ h
        exact ⟨h1, fun g => AWP.exit he (h2 g)⟩
    · simp only [keepK_eq, nubK_eq] at h ⊢
      obtain ⟨h1, h2⟩ := ih _ _ _ _ _ h
      exact ⟨h1, fun g => AWP.sub keepD_sub nubD_sub (AWP.region (h2 g))⟩
    · rename_i t x y k
      split at h
      · rename_i b hb
        cases b
        · simp only [cond_false] at h ⊢
          obtain ⟨h1, h2⟩ := ih _ _ _ _ _ h
          exact ⟨h1, fun g a w hi => wp_cond_false (cond_told hb hi) (h2 g a w hi)⟩
        · simp only [cond_true] at h ⊢
          obtain ⟨h1, h2⟩ := ih _ _ _ _ _ h
          exact ⟨h1, fun g a w hi => wp_cond_true (cond_told hb hi) (h2 g a w hi)⟩
      · exact ⟨h, id⟩
    · exact ⟨h, id⟩

theorem AWP.runL (e : Env cx P fn lo) (hT : TabOk P T) (L : List Nat) (n : Nat) {k' : List It} {s' : St} {ob : Prop} (h : arunL T fn.ntmps L n k tm hp nx True = ⟨k', s', ob⟩) (hob : ob) (g : AWP cx k' s') : AWP cx k ⟨tm, hp, nx⟩ := by
  obtain ⟨rfl, rfl, _⟩ := e
  have := arunL_ok (cx := cx) hT L n k tm hp nx True
  rw [h] at this
  exact (this hob).2 g

/-- Less is known: these slots alone. -/
theorem AWP.keep (L : List Nat) {tm2 : List (Nat × SV)} (h : keepK L [] tm some = some tm2) (g : AWP cx k ⟨tm2, hp, nx⟩) : AWP cx k ⟨tm, hp, nx⟩ := by
  rw [keepK_eq] at h
  cases h
  exact AWP.sub keepD_sub (fun _ _ h => h) g

/-! ### What the walk waits for -/
def askOf (tm : List (Nat × SV)) : List It → Option (Nat × Bool)
  | .ops all (⟨_, op, _, _, _, some (j, _)⟩ :: _) :: _ => match guardS all tm j with
    | .ask d b => some (d, b)
    | _ => none
  | .ops _ (⟨_, .pick (.tmp t) _ _, _, _, _, none⟩ :: _) :: _ => match aget t tm with
    | some (.d (.v (.bool b))) => some (t, b)
    | _ => none
  | .code (.cond (.tmp t) _ _) :: _ => match aget t tm with
    | some (.d (.v (.bool b))) => some (t, b)
    | _ => none
  | _ => none

theorem askOf_ok {d : Nat} {b : Bool} (h : askOf tm k = some (d, b)) : aget d tm = some (.b b) := by
  unfold askOf at h
  split at h
  · split at h
    · rename_i hg
      cases h
      obtain ⟨_, _, _, h3⟩ := guardS_ask hg
      exact h3
    · cases h
  · split at h
    · rename_i hg; cases h; exact hg
    · cases h
  · split at h
    · rename_i hg; cases h; exact hg
    · cases h
  · cases h

def Told (b : Bool) (G : Bool → Prop) : Prop := G b
theorem Told.t {b : Bool} {G : Bool → Prop} (h : b = true) (g : G true) : Told b G := by subst h; exact g
theorem Told.f {b : Bool} {G : Bool → Prop} (h : b = false) (g : G false) : Told b G := by subst h; exact g
theorem Told.both {b : Bool} {G : Bool → Prop} (h1 : b = true → G true) (h2 : b = false → G false) : Told b G := by
  cases b
  · exact h2 rfl
  · exact h1 rfl

theorem AWP.askT {d : Nat} {b : Bool} (h : askOf tm k = some (d, b)) (g : Told b fun v => AWP cx k ⟨(d, .lit v) :: tm, hp, nx⟩) : AWP cx k ⟨tm, hp, nx⟩ := AWP.told (askOf_ok h) g

/-! ### Calls, by their number first -/
def CallQ (P : Program) (f : FuncId) (xs : List SV) (G : SV → Prop) : Prop :=
  ∃ cs Post, Eff P f cs [] 0 Post ∧ (∀ hp, CvL hp [] xs cs) ∧ SV.noIds.go cs = true ∧ ∀ r h n, Post r h n → SV.noIds r = true ∧ G r

theorem CallQ.mk {P : Program} {f : FuncId} {xs : List SV} {r : SV} {G : SV → Prop} (hE : Eff P f xs [] 0 (fun r' _ _ => r' = r)) (hno : SV.noIds.go xs = true) (hr : SV.noIds r = true) (g : G r) : CallQ P f xs G :=
  ⟨xs, _, hE, fun _ => CvL.rfl' _, hno, fun _ _ _ h => by subst h; exact ⟨hr, g⟩⟩

theorem AWP.callQ (e : Env cx P fn lo) {all : Array Oper} {rest : List Oper} {dst : Option Tmp} {c : Call} {ty : TypeId} {pos : String} {after : Array Edge} {f : FuncId} {xs : List SV} (hc : acall ⟨tm, hp, nx⟩ c = some (f, xs)) (hd : dstOk fn.ntmps dst = true)
    (h : CallQ P f xs fun r => AWP cx (.ops all rest :: k) ⟨tput dst r tm, hp, nx⟩) : AWP cx (.ops all (⟨dst, .call c, ty, pos, after, none⟩ :: rest) :: k) ⟨tm, hp, nx⟩ := by
  obtain ⟨cs, Post, hE, hcv, hno, hG⟩ := h
  exact AWP.call e hE hc [] (hcv hp) hno hd fun r h n hr => ⟨(hG r h n hr).1, .inl rfl, (hG r h n hr).2⟩

variable {id M q : Nat} {rest : List Oper} {R : List Rec} {all : Array Oper} {d : Nat} {ty : TypeId} {pos : String} {after : Array Edge}

theorem acall_heap {c : Call} : acall ⟨tm, hp, nx⟩ c = acall ⟨tm, [], 0⟩ c := by
  have : ∀ (l : List Operand), opds ⟨tm, hp, nx⟩ l = opds ⟨tm, [], 0⟩ l := fun l => by
    induction l with
    | nil => rfl
    | cons o l ih => simp only [opds, ih]; rfl
  obtain ⟨cal, args, ats⟩ := c
  cases cal with
  | value fo => simp only [acall, this]; rfl
  | _ => rfl

/-- What a call yields, its answer told. -/
def CallV (P : Program) (f : FuncId) (xs : List SV) (r : SV) : Prop := ∃ cs, Eff P f cs [] 0 (fun r' _ _ => r' = r) ∧ (∀ hp, CvL hp [] xs cs) ∧ SV.noIds.go cs = true ∧ SV.noIds r = true
theorem CallV.mk {P : Program} {f : FuncId} {xs : List SV} {r : SV} (hE : Eff P f xs [] 0 (fun r' _ _ => r' = r)) (hno : SV.noIds.go xs = true) (hr : SV.noIds r = true) : CallV P f xs r :=
  ⟨xs, hE, fun _ => CvL.rfl' _, hno, hr⟩

theorem VStep.callV (e : Env cx P fn lo) {f : FuncId} {xs : List SV} {r : SV} {c : Call} (hc : acall ⟨tm, [], 0⟩ c = some (f, xs)) (hd : Nat.blt d fn.ntmps = true) (h : CallV P f xs r) : VStep cx all hp nx ⟨some d, .call c, ty, pos, after, none⟩ tm d r := by
  obtain ⟨cs, hE, hcv, hno, hr⟩ := h
  exact VStep.call e hE (acall_heap.trans hc) [] (hcv hp) hno hd hr (.inl rfl)

def CallVQ (P : Program) (f : FuncId) (xs : List SV) (G : SV → Prop) : Prop := ∃ r, CallV P f xs r ∧ G r
theorem CallVQ.mk {P : Program} {f : FuncId} {xs : List SV} {r : SV} {G : SV → Prop} (hE : Eff P f xs [] 0 (fun r' _ _ => r' = r)) (hno : SV.noIds.go xs = true) (hr : SV.noIds r = true) (g : G r) : CallVQ P f xs G := ⟨r, .mk hE hno hr, g⟩

/-- A call in a region that draws its order. -/
theorem DrG.callQ (e : Env cx P fn lo) {c : Call} {f : FuncId} {xs : List SV} (hc : acall ⟨tmS R tm, [], 0⟩ c = some (f, xs)) (hd : Nat.blt d fn.ntmps = true) (h : CallVQ P f xs fun r => DrG cx all id k tm hp nx M (Nat.succ q) rest (⟨q, some d, r, [], [], []⟩ :: R)) :
    DrG cx all id k tm hp nx M q (⟨some d, .call c, ty, pos, after, none⟩ :: rest) R := by
  obtain ⟨r, hv, h⟩ := h
  have hr : SV.noIds r = true := by obtain ⟨_, _, _, _, hr⟩ := hv; exact hr
  exact DrG.v rfl (fun _ => VStep.callV e hc hd hv) (idsLt_mono (Nat.zero_le _) (noIds_lt hr)) h
theorem DrG.callGo (e : Env cx P fn lo) {c : Call} {f : FuncId} {xs : List SV} {jg dj : Nat} {wg : Bool} (hg : guardS all (tmS R tm) jg = .told dj wg) (hc : acall ⟨tmS R tm, [], 0⟩ c = some (f, xs)) (hd : Nat.blt d fn.ntmps = true) (h : CallVQ P f xs fun r => DrG cx all id k tm hp nx M (Nat.succ q) rest (⟨q, some d, r, [], [], []⟩ :: R)) :
    DrG cx all id k tm hp nx M q (⟨some d, .call c, ty, pos, after, some (jg, wg)⟩ :: rest) R := by
  obtain ⟨r, hv, h⟩ := h
  have hr : SV.noIds r = true := by obtain ⟨_, _, _, _, hr⟩ := hv; exact hr
  exact DrG.v rfl (fun _ => VStep.go hg (VStep.callV e hc hd hv)) (idsLt_mono (Nat.zero_le _) (noIds_lt hr)) h
theorem DrG.callGoA (e : Env cx P fn lo) {c : Call} {f : FuncId} {xs : List SV} {jg dj : Nat} {bg wg : Bool} (hg : guardS all (tmS R tm) jg = .ask dj bg) (hb : bg = wg) (hc : acall ⟨tmS R tm, [], 0⟩ c = some (f, xs)) (hd : Nat.blt d fn.ntmps = true) (h : CallVQ P f xs fun r => DrG cx all id k tm hp nx M (Nat.succ q) rest (⟨q, some d, r, [], [], []⟩ :: R)) :
    DrG cx all id k tm hp nx M q (⟨some d, .call c, ty, pos, after, some (jg, wg)⟩ :: rest) R := by
  obtain ⟨r, hv, h⟩ := h
  have hr : SV.noIds r = true := by obtain ⟨_, _, _, _, hr⟩ := hv; exact hr
  exact DrG.v rfl (fun _ => VStep.goA hg hb (VStep.callV e hc hd hv)) (idsLt_mono (Nat.zero_le _) (noIds_lt hr)) h

end
end Go.Sy

/-
  SYMBOLIC STATES, over any program, part 28: a region that draws its order, walked by itself.
-/
namespace Go.Sy
open Go.RowKit

section
variable {cx : Cx} {P : Program} {fn : Func} {lo : Nat} {T : Tab} {k : List It} {tm : List (Nat × SV)} {hp : List (Nat × Blk)} {nx M : Nat} {all : Array Oper} {R : List Rec} {id : Nat}

/-! ### Operations that read no block -/
theorem opd_heap (x : Operand) : opd ⟨tm, hp, nx⟩ x = opd ⟨tm, [], 0⟩ x := by cases x <;> rfl
theorem opdR_heap (x : Operand) : opdR ⟨tm, hp, nx⟩ x = opdR ⟨tm, [], 0⟩ x := by
  cases x with
  | const v => cases v <;> first | rfl | exact opd_heap _
  | _ => rfl
theorem fillK_heap {place : Nat → Option (Nat × Nat)} : ∀ (l : List (Nat × Operand)) (cs : List SV) (k : List SV → EvR), fillK ⟨tm, hp, nx⟩ place l cs k = fillK ⟨tm, [], 0⟩ place l cs k
  | [], _, _ => rfl
  | (i, o) :: l, cs, k => by
    have ih : ∀ cs k, fillK ⟨tm, hp, nx⟩ place l cs k = fillK ⟨tm, [], 0⟩ place l cs k := fun cs k => fillK_heap l cs k
    simp only [fillK, opd_heap (hp := hp) (nx := nx), ih]
theorem opsK_heap : ∀ (l : List Operand) (k : Option (List SV) → EvR), opsK ⟨tm, hp, nx⟩ l k = opsK ⟨tm, [], 0⟩ l k
  | [], _ => rfl
  | o :: l, k => by
    have ih : ∀ k, opsK ⟨tm, hp, nx⟩ l k = opsK ⟨tm, [], 0⟩ l k := fun k => opsK_heap l k
    simp only [opsK, opd_heap (hp := hp) (nx := nx), ih]
theorem rowK_heap {size : Nat} : ∀ (l : List (Nat × Operand)) (i : Nat) (k : Option (List (List SV)) → EvR), rowK ⟨tm, hp, nx⟩ size i l k = rowK ⟨tm, [], 0⟩ size i l k
  | [], _, _ => rfl
  | (j, o) :: l, i, k => by
    have ih : ∀ i k, rowK ⟨tm, hp, nx⟩ size i l k = rowK ⟨tm, [], 0⟩ size i l k := fun i k => rowK_heap l i k
    simp only [rowK, opd_heap (hp := hp) (nx := nx), ih]
theorem optI_heap (o : Option Operand) : optI ⟨tm, hp, nx⟩ o = optI ⟨tm, [], 0⟩ o := by
  cases o with
  | none => rfl
  | some x => simp only [optI, opd_heap (hp := hp) (nx := nx)]

def isLs : Op → Bool
  | .load .. => true
  | .store .. => true
  | _ => false

theorem ev_heap {op : Op} (h : isLs op = false) : ev T ⟨tm, hp, nx⟩ op = ev T ⟨tm, [], 0⟩ op := by
  cases op <;> first | (cases h; done) | skip
  all_goals simp only [ev, opd_heap (hp := hp) (nx := nx), opdR_heap (hp := hp) (nx := nx), opsK_heap (hp := hp) (nx := nx), rowK_heap (hp := hp) (nx := nx), evBuild, fillK_heap (hp := hp) (nx := nx), evSlice, optI_heap (hp := hp) (nx := nx), evCall]
  case pick c x y => cases c <;> simp only [ev, opdR_heap (hp := hp) (nx := nx)]

/-! ### The steps -/
variable {d : Nat} {ty : TypeId} {pos : String} {after : Array Edge}

theorem looks_go {o : Oper} {dst : Option Nat} {op : Op} {g : Option (Nat × Bool)} {t : Nat} (ho : o = ⟨dst, op, ty, pos, after, g⟩) (ht : t ∈ (⟨dst, op, ty, pos, after, none⟩ : Oper).looksAt all) : t ∈ o.looksAt all := by
  subst ho
  unfold Oper.looksAt at ht ⊢
  rw [List.append_nil] at ht
  exact List.mem_append_left _ ht

theorem GStep.go {dst dx : Option Nat} {op : Op} {x : SV} {rds : List (Nat × Blk)} {eff : List (Nat × Option Blk)} {nw : List Nat} {dj j : Nat} {b w : Bool} (hg : guardS all tm j = .told dj b) (hb : b = w)
    (h : GStep cx all M ⟨dst, op, ty, pos, after, none⟩ tm rds dx x eff nw) : GStep cx all M ⟨dst, op, ty, pos, after, some (j, w)⟩ tm rds dx x eff nw := by
  subst hb
  intro tm' hp' k h1 h2 h3 h4 g
  refine AWP.guard_yes (fun a wd hi => ?_) (h tm' hp' k (fun t ht => h1 t (looks_go rfl ht)) h2 h3 h4 g)
  exact guard_told hi ((guardS_congr rfl h1).trans hg)

theorem GStep.not (e : Env cx P fn lo) {dst : Option Nat} {op : Op} {dj j : Nat} {b w : Bool} (hd : dstOk fn.ntmps dst = true) (hg : guardS all tm j = .told dj b) (hb : b ≠ w) : GStep cx all M ⟨dst, op, ty, pos, after, some (j, w)⟩ tm [] dst undefS [] [] := by
  obtain ⟨rfl, rfl, _⟩ := e
  intro tm' hp' k h1 _ _ _ g
  have hne : ∀ a wd, Inv cx ⟨tm', hp', M⟩ a wd → yielded all a.tmps j ≠ some w := fun a wd hi => by
    rw [guard_told hi ((guardS_congr rfl h1).trans hg)]
    intro e
    cases e
    exact hb rfl
  cases dst with
  | none => exact AWP.guard_not hne (fun t ht => by cases ht) g
  | some d => exact AWP.guard_not hne (fun t ht => by cases ht; exact Nat.le_of_ble_eq_true hd) g

theorem GStep.un (e : Env cx P fn lo) {dst : Option Nat} {op : Op} {dj j : Nat} {w : Bool} (hd : dstOk fn.ntmps dst = true) (hg : guardS all tm j = .no dj) : GStep cx all M ⟨dst, op, ty, pos, after, some (j, w)⟩ tm [] dst undefS [] [] := by
  obtain ⟨rfl, rfl, _⟩ := e
  intro tm' hp' k h1 _ _ _ g
  cases dst with
  | none => exact AWP.guard_un ((guardS_congr rfl h1).trans hg) (fun t ht => by cases ht) g
  | some d => exact AWP.guard_un ((guardS_congr rfl h1).trans hg) (fun t ht => by cases ht; exact Nat.le_of_ble_eq_true hd) g

theorem GStep.val (e : Env cx P fn lo) (hT : TabOk P T) {op : Op} {x : SV} {p : Prop} (hls : isLs op = false) (hd : Nat.blt d fn.ntmps = true) (he : ev T ⟨tm, [], 0⟩ op = .val x p) (hp : p) : GStep cx all M ⟨some d, op, ty, pos, after, none⟩ tm [] (some d) x [] [] :=
  fun tm' hp' k h1 _ _ _ g => VStep.ev e hT hd ((ev_heap hls).trans he) hp tm' k h1 g

theorem GStep.load (e : Env cx P fn lo) (hT : TabOk P T) {t : TypeId} {a : Operand} {i j : Nat} {cs : List SV} {y : Ty} {v : SV} {p : Prop} (hd : Nat.blt d fn.ntmps = true) (h1 : opd ⟨tm, [], 0⟩ a = some (.ptr i j)) (h2 : aget t T = some y) (h4 : part1 y.td.agg y.size j cs = .val v p) (hp' : p) :
    GStep cx all M ⟨some d, .load t a, ty, pos, after, none⟩ tm [(i, .box cs)] (some d) v [] [] := fun tm' hp' k a1 a2 _ _ g => by
  refine VStep.ev e hT (tm := tm) hd (p := p) ?_ ‹p› tm' k a1 g
  have h1' : opd ⟨tm, hp', M⟩ a = some (.ptr i j) := (opd_heap _).trans h1
  have hb := a2 (i, .box cs) (by simp)
  unfold Sy.ev
  simp only [h1', evLoad, h2, hb, h4]

theorem GStep.loadI (e : Env cx P fn lo) (hT : TabOk P T) {t : TypeId} {a : Operand} {ds : List DV} {y : Ty} {v : SV} {p : Prop} (hd : Nat.blt d fn.ntmps = true) (h1 : opd ⟨tm, [], 0⟩ a = some (.ip ds)) (h2 : aget t T = some y) (h4 : part1 y.td.agg y.size 0 (ds.map sd) = .val v p) (hp' : p) :
    GStep cx all M ⟨some d, .load t a, ty, pos, after, none⟩ tm [] (some d) v [] [] := fun tm' hp' k a1 _ _ _ g => by
  refine VStep.ev e hT (tm := tm) hd (p := p) ?_ ‹p› tm' k a1 g
  have h1' : opd ⟨tm, hp', M⟩ a = some (.ip ds) := (opd_heap _).trans h1
  unfold Sy.ev
  simp only [h1', evLoad, h2, mapK_eq, h4]

theorem GStep.store (e : Env cx P fn lo) (hT : TabOk P T) {dst : Option Nat} {t : TypeId} {a v : Operand} {i j : Nat} {x : SV} {vs cs cs' : List SV} {y : Ty} (hd : dstOk fn.ntmps dst = true) (h1 : opd ⟨tm, [], 0⟩ a = some (.ptr i j)) (hv : opd ⟨tm, [], 0⟩ v = some x) (h2 : aget t T = some y)
    (hvs : cellsOf x = some vs) (hl : Nat.beq (lenK vs) y.size = true) (ha : allCells vs = true) (h4 : laid j vs cs = some cs') :
    GStep cx all M ⟨dst, .store t a v, ty, pos, after, none⟩ tm [(i, .box cs)] dst undefS [(i, some (.box cs'))] [] := fun tm' hp' k a1 a2 _ _ g => by
  obtain ⟨rfl, rfl, _⟩ := e
  have h1' : opd ⟨tm', hp', M⟩ a = some (.ptr i j) := ((opd_eq fun u hu => a1 u (looks_ops (by simp [Op.operands]) hu)).trans (opd_heap _)).trans h1
  have hv' : opd ⟨tm', hp', M⟩ v = some x := ((opd_eq fun u hu => a1 u (looks_ops (by simp [Op.operands]) hu)).trans (opd_heap _)).trans hv
  have hb := a2 (i, .box cs) (by simp)
  refine AWP.op_set hT (fun t ht => dstOk_lt hd t ht) (id := i) (cs := cs') ?_ g
  unfold Sy.ev
  simp only [h1', hv', evStore, h2, hvs, hl, ha, cond_true, hb, putK_eq, h4]

theorem GStep.box (N : Nat) (e : Env cx P fn lo) (hT : TabOk P T) {op : Op} {cs : List SV} (hls : isLs op = false) (hd : Nat.blt d fn.ntmps = true) (hev : ev T ⟨tm, [], 0⟩ op = .box cs) (hN : Nat.blt N M = true) (hlo : Nat.ble lo N = true) (hcs : SV.idsLt.go M cs = true) (hf : SV.freeOf.go N cs = true) :
    GStep cx all M ⟨some d, op, ty, pos, after, none⟩ tm [] (some d) (.ptr N 0) [(N, some (.box cs))] [N] := fun tm' hp' k a1 _ a3 a4 g => by
  have hN' := Nat.le_of_ble_eq_true hN
  obtain ⟨rfl, rfl, e3, e4⟩ := e
  refine AWP.op_box hT (Nat.le_of_ble_eq_true hd) (cs := cs) ?_ ?_
  · rw [← hev, ← ev_heap (hp := hp') (nx := M) hls]
    exact ev_congr fun y hy t ht => a1 t (looks_ops hy ht)
  · refine AWP.newName ⟨rfl, rfl, e3, e4⟩ (N := N) (d := some d) (x := .ptr N 0) (x1 := .ptr M 0) (eff := [(N, some (.box cs))]) (eff1 := [(M, some (.box cs))]) hN' (Nat.le_of_ble_eq_true hlo) ?_ hN a3 (a4 N (by simp)) (fun i hi => newEff hN' hi ?_) ⟨⟨hN, hcs⟩, trivial⟩ g
    · simp [renS, renI, aget, Nat.beq_refl]
    · simp only [renB]; rw [renS_go_free hf]

theorem GStep.row (N : Nat) (e : Env cx P fn lo) (hT : TabOk P T) {op : Op} {te : TypeId} {m n : Nat} {xs : List (List SV)} (hls : isLs op = false) (hd : Nat.blt d fn.ntmps = true) (hev : ev T ⟨tm, [], 0⟩ op = .row te m xs n) (hN : Nat.blt N M = true) (hlo : Nat.ble lo N = true) (hxs : ∀ e ∈ xs, SV.idsLt.go 0 e = true) :
    GStep cx all M ⟨some d, op, ty, pos, after, none⟩ tm [] (some d) (.own N m 0 n n) [(N, some (.row te false m xs n))] [N] := fun tm' hp' k a1 _ a3 a4 g => by
  have hN' := Nat.le_of_ble_eq_true hN
  obtain ⟨rfl, rfl, e3, e4⟩ := e
  refine AWP.op_row hT (Nat.le_of_ble_eq_true hd) (n := m) (m := n) (t := te) (xs := xs) ?_ ?_
  · rw [← hev, ← ev_heap (hp := hp') (nx := M) hls]
    exact ev_congr fun y hy t ht => a1 t (looks_ops hy ht)
  · refine AWP.newName ⟨rfl, rfl, e3, e4⟩ (N := N) (d := some d) (x := .own N m 0 n n) (x1 := .own M m 0 n n) (eff := [(N, some (.row te false m xs n))]) (eff1 := [(M, some (.row te false m xs n))]) hN' (Nat.le_of_ble_eq_true hlo) ?_ hN a3 (a4 N (by simp)) (fun i hi => newEff hN' hi rfl) ⟨⟨hN, hxs⟩, trivial⟩ g
    simp [renS, renI, aget, Nat.beq_refl]

/-! ### The walk -/
structure OutG where
  q : Nat
  rest : List Oper
  R : List Rec
  nm : Nat
  ob : Prop

def rowsOk : List (List SV) → Bool
  | [] => true
  | e :: l => SV.idsLt.go 0 e && rowsOk l
theorem rowsOk_get : ∀ {l : List (List SV)}, rowsOk l = true → ∀ e ∈ l, SV.idsLt.go 0 e = true
  | e :: l, h, x, hx => by
    simp only [rowsOk, Bool.and_eq_true] at h
    rcases List.mem_cons.1 hx with rfl | hx
    · exact h.1
    · exact rowsOk_get h.2 x hx

/-- One step: what is recorded. -/
inductive GR : Type where
  | rcd (d : Option Nat) (x : SV) (rd : List Nat) (eff : List (Nat × Option Blk)) (nw : List Nat) (nm : Nat) (ob : Prop)
  | stop

def gstep (T : Tab) (N M lo nm : Nat) (tm : List (Nat × SV)) (hp : List (Nat × Blk)) (dst : Option Nat) (op : Op) : GR :=
  match op with
  | .load t a => match dst with
    | some d => bif Nat.blt d N then (match opd ⟨tm, [], 0⟩ a with
      | some (.ptr i j) => match aget t T, aget i hp with
        | some y, some (.box cs) => match part1 y.td.agg y.size j cs with
          | .val x p => forceK x fun x => bif SV.idsLt M x then .rcd (some d) x [i] [] [] nm p else .stop
          | _ => .stop
        | _, _ => .stop
      | some (.ip ds) => match aget t T with
        | some y => mapK sd ds fun cs => match part1 y.td.agg y.size 0 cs with
          | .val x p => forceK x fun x => bif SV.idsLt M x then .rcd (some d) x [] [] [] nm p else .stop
          | _ => .stop
        | none => .stop
      | _ => .stop) else .stop
    | none => .stop
  | .store t a v => bif dstOk N dst then (match opd ⟨tm, [], 0⟩ a, opd ⟨tm, [], 0⟩ v with
      | some (.ptr i j), some x => match aget t T, cellsOf x, aget i hp with
        | some y, some vs, some (.box cs) => bif Nat.beq (lenK vs) y.size && allCells vs && Nat.blt i M then putK j vs cs (fun o => match o with
          | some cs' => bif SV.idsLt.go M cs' then .rcd dst undefS [i] [(i, some (.box cs'))] [] nm True else .stop
          | none => .stop) else .stop
        | _, _, _ => .stop
      | _, _ => .stop) else .stop
  | op => match dst with
    | some d => bif Nat.blt d N then (match ev T ⟨tm, [], 0⟩ op with
      | .val x p => forceK x fun x => bif SV.idsLt M x then .rcd (some d) x [] [] [] nm p else .stop
      | .box cs => bif Nat.blt nm M && Nat.ble lo nm && SV.idsLt.go M cs && SV.freeOf.go nm cs then .rcd (some d) (.ptr nm 0) [] [(nm, some (.box cs))] [nm] (Nat.succ nm) True else .stop
      | .row te m xs n => bif Nat.blt nm M && Nat.ble lo nm && rowsOk xs then .rcd (some d) (.own nm m 0 n n) [] [(nm, some (.row te false m xs n))] [nm] (Nat.succ nm) True else .stop
      | _ => .stop) else .stop
    | none => .stop

theorem gval_ok (e : Env cx P fn lo) (hT : TabOk P T) {nm : Nat} {dst : Option Nat} {op : Op} {d : Option Nat} {x : SV} {rd : List Nat} {eff : List (Nat × Option Blk)} {nw : List Nat} {nm' : Nat} {ob : Prop} (hls : isLs op = false) (h : (match dst with
    | some d => bif Nat.blt d fn.ntmps then (match ev T ⟨tm, [], 0⟩ op with
      | .val x p => forceK x fun x => bif SV.idsLt M x then GR.rcd (some d) x [] [] [] nm p else .stop
      | .box cs => bif Nat.blt nm M && Nat.ble lo nm && SV.idsLt.go M cs && SV.freeOf.go nm cs then .rcd (some d) (.ptr nm 0) [] [(nm, some (.box cs))] [nm] (Nat.succ nm) True else .stop
      | .row te m xs n => bif Nat.blt nm M && Nat.ble lo nm && rowsOk xs then .rcd (some d) (.own nm m 0 n n) [] [(nm, some (.row te false m xs n))] [nm] (Nat.succ nm) True else .stop
      | _ => .stop) else .stop
    | none => .stop ) = GR.rcd d x rd eff nw nm' ob) (hob : ob) :
    (∀ t, d = some t → dst = some t) ∧ SV.idsLt M x = true ∧ effOk M eff ∧ ∃ rds, rds.map Prod.fst = rd ∧ (∀ p ∈ rds, aget p.1 hp = some p.2) ∧ GStep cx all M ⟨dst, op, ty, pos, after, none⟩ tm rds d x eff nw := by
  split at h
  · rename_i d0
    cases hb : Nat.blt d0 fn.ntmps
    · rw [hb] at h; cases h
    · rw [hb] at h
      simp only [cond_true] at h
      split at h
      · rename_i x0 p0 he
        rw [forceK_eq] at h
        cases hx : SV.idsLt M x0
        · rw [hx] at h; cases h
        · rw [hx] at h
          cases h
          exact ⟨fun t ht => ht, hx, trivial, [], rfl, (fun p hp => by cases hp), GStep.val e hT hls hb he hob⟩
      · rename_i cs he
        cases hx : (Nat.blt nm M && Nat.ble lo nm && SV.idsLt.go M cs && SV.freeOf.go nm cs)
        · rw [hx] at h; cases h
        · rw [hx] at h
          cases h
          simp only [Bool.and_eq_true] at hx
          obtain ⟨⟨⟨h1, h2⟩, h3⟩, h4⟩ := hx
          exact ⟨fun t ht => ht, h1, ⟨⟨h1, h3⟩, trivial⟩, [], rfl, (fun p hp => by cases hp), GStep.box nm e hT hls hb he h1 h2 h3 h4⟩
      · rename_i te m xs n he
        cases hx : (Nat.blt nm M && Nat.ble lo nm && rowsOk xs)
        · rw [hx] at h; cases h
        · rw [hx] at h
          cases h
          simp only [Bool.and_eq_true] at hx
          obtain ⟨⟨h1, h2⟩, h3⟩ := hx
          exact ⟨fun t ht => ht, h1, ⟨⟨h1, rowsOk_get h3⟩, trivial⟩, [], rfl, (fun p hp => by cases hp), GStep.row nm e hT hls hb he h1 h2 (rowsOk_get h3)⟩
      · cases h
  · cases h

theorem gstep_ok (e : Env cx P fn lo) (hT : TabOk P T) {nm : Nat} {dst : Option Nat} {op : Op} {d : Option Nat} {x : SV} {rd : List Nat} {eff : List (Nat × Option Blk)} {nw : List Nat} {nm' : Nat} {ob : Prop} (h : gstep T fn.ntmps M lo nm tm hp dst op = .rcd d x rd eff nw nm' ob) (hob : ob) :
    (∀ t, d = some t → dst = some t) ∧ SV.idsLt M x = true ∧ effOk M eff ∧ ∃ rds, rds.map Prod.fst = rd ∧ (∀ p ∈ rds, aget p.1 hp = some p.2) ∧ GStep cx all M ⟨dst, op, ty, pos, after, none⟩ tm rds d x eff nw := by
  unfold gstep at h
  split at h
  · -- load
    rename_i t a
    split at h
    · rename_i d0
      cases hb : Nat.blt d0 fn.ntmps
      · rw [hb] at h; cases h
      · rw [hb] at h
        simp only [cond_true] at h
        split at h
        · rename_i i j ha
          split at h
          · rename_i y cs hy hcs
            split at h
            · rename_i x0 p0 hpt
              rw [forceK_eq] at h
              cases hx : SV.idsLt M x0
              · rw [hx] at h; cases h
              · rw [hx] at h
                cases h
                exact ⟨fun t ht => ht, hx, trivial, [(i, .box cs)], rfl, (fun p hp => by simp only [List.mem_singleton] at hp; subst hp; exact hcs), GStep.load e hT hb ha hy hpt hob⟩
            · cases h
          · cases h
        · rename_i ds ha
          split at h
          · rename_i y hy
            rw [mapK_eq] at h
            split at h
            · rename_i x0 p0 hpt
              rw [forceK_eq] at h
              cases hx : SV.idsLt M x0
              · rw [hx] at h; cases h
              · rw [hx] at h
                cases h
                exact ⟨fun t ht => ht, hx, trivial, [], rfl, (fun p hp => by cases hp), GStep.loadI e hT hb ha hy hpt hob⟩
            · cases h
          · cases h
        · cases h
    · cases h
  · -- store
    rename_i t a v
    cases hb : dstOk fn.ntmps dst
    · rw [hb] at h; cases h
    · rw [hb] at h
      simp only [cond_true] at h
      split at h
      · rename_i i j x0 ha hv
        split at h
        · rename_i y vs cs hy hvs hcs
          cases hx : (Nat.beq (lenK vs) y.size && allCells vs && Nat.blt i M)
          · rw [hx] at h; cases h
          · rw [hx] at h
            simp only [cond_true, putK_eq] at h
            simp only [Bool.and_eq_true] at hx
            obtain ⟨⟨h1, h2⟩, h3⟩ := hx
            split at h
            · rename_i cs' hl
              cases hc : SV.idsLt.go M cs'
              · rw [hc] at h; cases h
              · rw [hc] at h
                cases h
                exact ⟨fun t ht => ht, rfl, ⟨⟨h3, hc⟩, trivial⟩, [(i, .box cs)], rfl, (fun p hp => by simp only [List.mem_singleton] at hp; subst hp; exact hcs), GStep.store e hT hb ha hv hy hvs h1 h2 hl⟩
            · cases h
        · cases h
      · cases h
  · rename_i h1 h2
    refine gval_ok e hT ?_ h hob
    cases op <;> first | rfl | (exact absurd rfl (h1 _ _)) | (exact absurd rfl (h2 _ _ _))

def gwalk (T : Tab) (N M lo : Nat) (all : Array Oper) : Nat → Nat → List Oper → List (Nat × SV) → List (Nat × Blk) → List Rec → Nat → Prop → OutG
  | 0, q, rest, _, _, R, nm, ob => ⟨q, rest, R, nm, ob⟩
  | _ + 1, q, [], _, _, R, nm, ob => ⟨q, [], R, nm, ob⟩
  | n + 1, q, ⟨dst, op, ty, pos, after, none⟩ :: rest, tm, hp, R, nm, ob =>
    match gstep T N M lo nm tm hp dst op with
    | .rcd d x rd eff nw nm' p => gwalk T N M lo all n (Nat.succ q) rest (tput d x tm) (effH eff hp) (⟨q, d, x, rd, eff, nw⟩ :: R) nm' (p ∧ ob)
    | .stop => ⟨q, ⟨dst, op, ty, pos, after, none⟩ :: rest, R, nm, ob⟩
  | n + 1, q, ⟨dst, op, ty, pos, after, some (j, w)⟩ :: rest, tm, hp, R, nm, ob =>
    match guardS all tm j with
    | .told _ b => bif (bif b then w else !w) then (match gstep T N M lo nm tm hp dst op with
        | .rcd d x rd eff nw nm' p => gwalk T N M lo all n (Nat.succ q) rest (tput d x tm) (effH eff hp) (⟨q, d, x, rd, eff, nw⟩ :: R) nm' (p ∧ ob)
        | .stop => ⟨q, ⟨dst, op, ty, pos, after, some (j, w)⟩ :: rest, R, nm, ob⟩)
      else (bif dstOk N dst then gwalk T N M lo all n (Nat.succ q) rest (tput dst undefS tm) hp (⟨q, dst, undefS, [], [], []⟩ :: R) nm ob else ⟨q, ⟨dst, op, ty, pos, after, some (j, w)⟩ :: rest, R, nm, ob⟩)
    | .no _ => bif dstOk N dst then gwalk T N M lo all n (Nat.succ q) rest (tput dst undefS tm) hp (⟨q, dst, undefS, [], [], []⟩ :: R) nm ob else ⟨q, ⟨dst, op, ty, pos, after, some (j, w)⟩ :: rest, R, nm, ob⟩
    | _ => ⟨q, ⟨dst, op, ty, pos, after, some (j, w)⟩ :: rest, R, nm, ob⟩

theorem gwalk_ok (e : Env cx P fn lo) (hT : TabOk P T) : ∀ (n q : Nat) (rest : List Oper) (R : List Rec) (nm : Nat) (ob : Prop), (gwalk T fn.ntmps M lo all n q rest (tmS R tm) (hpS R hp) R nm ob).ob →
    ob ∧ (DrG cx all id k tm hp nx M (gwalk T fn.ntmps M lo all n q rest (tmS R tm) (hpS R hp) R nm ob).q (gwalk T fn.ntmps M lo all n q rest (tmS R tm) (hpS R hp) R nm ob).rest (gwalk T fn.ntmps M lo all n q rest (tmS R tm) (hpS R hp) R nm ob).R → DrG cx all id k tm hp nx M q rest R)
  | 0, q, rest, R, nm, ob, h => ⟨h, fun g => g⟩
  | n + 1, q, [], R, nm, ob, h => ⟨h, fun g => g⟩
  | n + 1, q, ⟨dst, op, ty, pos, after, none⟩ :: rest, R, nm, ob, h => by
    unfold gwalk at h ⊢
    split at h
    · rename_i d x rd eff nw nm' p hs
      obtain ⟨⟨h1, h1'⟩, h2⟩ := gwalk_ok e hT n (Nat.succ q) rest (⟨q, d, x, rd, eff, nw⟩ :: R) nm' (p ∧ ob) h
      obtain ⟨g1, g2, g3, rds, rfl, g5, g6⟩ := gstep_ok (cx := cx) (all := all) (ty := ty) (pos := pos) (after := after) e hT hs h1
      exact ⟨h1', fun g => DrG.step g1 g5 g2 g3 g6 (h2 g)⟩
    · exact ⟨h, fun g => g⟩
  | n + 1, q, ⟨dst, op, ty, pos, after, some (j, w)⟩ :: rest, R, nm, ob, h => by
    unfold gwalk at h ⊢
    have skip : dstOk fn.ntmps dst = true → GStep cx all M ⟨dst, op, ty, pos, after, some (j, w)⟩ (tmS R tm) [] dst undefS [] [] → (gwalk T fn.ntmps M lo all n (Nat.succ q) rest (tput dst undefS (tmS R tm)) (hpS R hp) (⟨q, dst, undefS, [], [], []⟩ :: R) nm ob).ob →
        ob ∧ (DrG cx all id k tm hp nx M (gwalk T fn.ntmps M lo all n (Nat.succ q) rest (tput dst undefS (tmS R tm)) (hpS R hp) (⟨q, dst, undefS, [], [], []⟩ :: R) nm ob).q (gwalk T fn.ntmps M lo all n (Nat.succ q) rest (tput dst undefS (tmS R tm)) (hpS R hp) (⟨q, dst, undefS, [], [], []⟩ :: R) nm ob).rest (gwalk T fn.ntmps M lo all n (Nat.succ q) rest (tput dst undefS (tmS R tm)) (hpS R hp) (⟨q, dst, undefS, [], [], []⟩ :: R) nm ob).R →
          DrG cx all id k tm hp nx M q (⟨dst, op, ty, pos, after, some (j, w)⟩ :: rest) R) := fun hd hs h => by
      obtain ⟨h1, h2⟩ := gwalk_ok e hT n (Nat.succ q) rest (⟨q, dst, undefS, [], [], []⟩ :: R) nm ob h
      exact ⟨h1, fun g => DrG.step (rds := []) (d := dst) (x := undefS) (eff := []) (nw := []) (fun t ht => ht) (fun p hp => by cases hp) rfl trivial hs (h2 g)⟩
    cases hg : guardS all (tmS R tm) j with
    | ask d b => simp only [hg] at h ⊢; exact ⟨h, fun g => g⟩
    | bad => simp only [hg] at h ⊢; exact ⟨h, fun g => g⟩
    | no dj =>
      simp only [hg] at h ⊢
      cases hd : dstOk fn.ntmps dst
      · simp only [hd, cond_false] at h ⊢; exact ⟨h, fun g => g⟩
      · simp only [hd, cond_true] at h ⊢
        exact skip hd (GStep.un e hd hg) h
    | told dj b =>
      simp only [hg] at h ⊢
      cases hw : (bif b then w else !w)
      · simp only [hw, cond_false] at h ⊢
        cases hd : dstOk fn.ntmps dst
        · simp only [hd, cond_false] at h ⊢; exact ⟨h, fun g => g⟩
        · simp only [hd, cond_true] at h ⊢
          exact skip hd (GStep.not e hd hg (fun e => by subst e; cases b <;> cases hw)) h
      · simp only [hw, cond_true] at h ⊢
        cases hs : gstep T fn.ntmps M lo nm (tmS R tm) (hpS R hp) dst op with
        | stop => simp only [hs] at h ⊢; exact ⟨h, fun g => g⟩
        | rcd d x rd eff nw nm' p =>
          simp only [hs] at h ⊢
          obtain ⟨⟨h1, h1'⟩, h2⟩ := gwalk_ok e hT n (Nat.succ q) rest (⟨q, d, x, rd, eff, nw⟩ :: R) nm' (p ∧ ob) h
          obtain ⟨g1, g2, g3, rds, rfl, g5, g6⟩ := gstep_ok (cx := cx) (all := all) (ty := ty) (pos := pos) (after := after) e hT hs h1
          exact ⟨h1', fun g => DrG.step g1 g5 g2 g3 (GStep.go hg (by cases b <;> cases w <;> first | rfl | cases hw) g6) (h2 g)⟩

theorem DrG.run (e : Env cx P fn lo) (hT : TabOk P T) (n nm : Nat) {q q' nm' : Nat} {rest rest' : List Oper} {R' : List Rec} {ob : Prop} (h : gwalk T fn.ntmps M lo all n q rest (tmS R tm) (hpS R hp) R nm True = ⟨q', rest', R', nm', ob⟩) (hob : ob) (g : DrG cx all id k tm hp nx M q' rest' R') : DrG cx all id k tm hp nx M q rest R := by
  have := gwalk_ok (cx := cx) (P := P) (fn := fn) (lo := lo) (T := T) (k := k) (tm := tm) (hp := hp) (nx := nx) (M := M) (all := all) (id := id) e hT n q rest R nm True
  rw [h] at this
  exact (this hob).2 g

def nxOf (nx : Nat) : List Rec → Nat
  | [] => nx
  | r :: R => up r.nw (nxOf nx R)
where up : List Nat → Nat → Nat
  | [], n => n
  | _ :: l, n => up l (Nat.succ n)

theorem DrG.runN (e : Env cx P fn lo) (hT : TabOk P T) (n : Nat) {q q' nm' : Nat} {rest rest' : List Oper} {R' : List Rec} {ob : Prop} (h : gwalk T fn.ntmps M lo all n q rest (tmS R tm) (hpS R hp) R (nxOf nx R) True = ⟨q', rest', R', nm', ob⟩) (hob : ob) (g : DrG cx all id k tm hp nx M q' rest' R') : DrG cx all id k tm hp nx M q rest R :=
  DrG.run e hT n _ h hob g

end
end Go.Sy

/-
  SYMBOLIC STATES, over any program, part 29: regions that draw their order, in which rows are made whose room nobody knows beforehand (append).
-/
namespace Go.Sy
open Go.RowKit

section
variable {cx : Cx} {P : Program} {fn : Func} {lo : Nat} {T : Tab} {k : List It} {tm : List (Nat × SV)} {hp : List (Nat × Blk)} {nx M : Nat} {all : Array Oper} {id : Nat}

def fl (l : List Nat) (R : List Rec) : List Rec := R.filter fun r => memN r.q l

structure RelS (tm : List (Nat × SV)) (hp : List (Nat × Blk)) (M : Nat) (R : List Rec) (l : List Nat) (s : St) : Prop where
  t : ∀ t, aget t s.tmps = look (uT t) (aget t tm) (fl l R)
  h : ∀ i, aget i s.heap = look (uH i) (aget i hp) (fl l R)
  n : s.next = M

theorem fl_split {l : List Nat} {A B : List Rec} {r : Rec} (hni : r.q ∉ l) : fl l (A ++ r :: B) = fl l A ++ fl l B := by
  have hmn : memN r.q l = false := by
    cases hb : memN r.q l
    · rfl
    · exact absurd (memN_iff.1 hb) hni
  simp only [fl, List.filter_append]
  rw [List.filter_cons_of_neg (by simp [hmn])]

theorem later_apart {l : List Nat} {A B : List Rec} {r : Rec} (hops : ∀ a ∈ A ++ r :: B, ∃ o, all[a.q]? = some o) (hchk : chkG all.toList nx M (A ++ r :: B) = true) (hc : Closed all l) (hni : r.q ∉ l) : ∀ a ∈ fl l A, ∃ oa, all[a.q]? = some oa ∧ clash all.toList a r = false := fun a ha => by
  obtain ⟨ha1, ha2⟩ := List.mem_filter.1 ha
  obtain ⟨oa, hoa⟩ := hops a (by simp [ha1])
  refine ⟨oa, hoa, ?_⟩
  rcases ((chkG_get hchk).2.1 a ha1).2.1 with h | h
  · exact absurd (clo_mem hc (fun q hq => by simp only [List.mem_singleton] at hq; rw [hq]; exact memN_iff.1 ha2) _ h) hni
  · exact h

theorem early_apart {l : List Nat} {A B : List Rec} {r : Rec} (hops : ∀ a ∈ A ++ r :: B, ∃ o, all[a.q]? = some o) (hchk : chkG all.toList nx M (A ++ r :: B) = true) (hc : Closed all l) (hr : ∀ o, all[r.q]? = some o → ∀ e ∈ o.after.toList, Region.binds .any e = true → e.on ∈ l) : ∀ b ∈ B, memN b.q l = false → ∃ ob, all[b.q]? = some ob ∧ clash all.toList r b = false := fun b hb hbl => by
  obtain ⟨ob, hob⟩ := hops b (by simp [hb])
  refine ⟨ob, hob, ?_⟩
  obtain ⟨⟨h, _⟩, hne⟩ := (chkG_get hchk).1 b hb
  rcases h with h | h
  · rcases clo_ready hc hr _ h with h | h
    · exact absurd h hne
    · rw [memN_iff.2 h] at hbl; cases hbl
  · exact h

theorem stepPre {l : List Nat} {A B : List Rec} {r : Rec} {s : St} {o : Oper} {rds : List (Nat × Blk)} (hT' : ∀ t x, aget t tm = some x → SV.idsLt nx x = true) (hH' : ∀ i B, aget i hp = some B → i < nx ∧ B.okR nx) (hM : nx ≤ M)
    (hops : ∀ a ∈ A ++ r :: B, ∃ o, all[a.q]? = some o) (hxs : ∀ a ∈ A ++ r :: B, SV.idsLt M a.x = true ∧ effOk M a.eff) (hchk : chkG all.toList nx M (A ++ r :: B) = true) (hc : Closed all l) (hni : r.q ∉ l) (ho : all[r.q]? = some o) (hri : ∀ e ∈ o.after.toList, Region.binds .any e = true → e.on ∈ l)
    (hrel : RelS tm hp M (A ++ r :: B) l s) (hrd : rds.map Prod.fst = r.rd) (hrds : ∀ p ∈ rds, aget p.1 (hpS B hp) = some p.2) :
    (∀ t ∈ o.looksAt all, aget t s.tmps = aget t (tmS B tm)) ∧ (∀ p ∈ rds, aget p.1 s.heap = some p.2) ∧ Low M s.tmps s.heap ∧ ∀ N ∈ r.nw, FreeS N s.tmps s.heap := by
  have hr : ∀ o', all[r.q]? = some o' → ∀ e ∈ o'.after.toList, Region.binds .any e = true → e.on ∈ l := fun o' ho' => by rw [ho] at ho'; cases ho'; exact hri
  have hA := later_apart hops hchk hc hni
  have hB := early_apart hops hchk hc hr
  obtain ⟨k1, k2, k3, k4⟩ := chkG_get hchk
  have hfl := fl_split (l := l) (A := A) (B := B) hni
  refine ⟨fun t ht => ?_, fun p hp' => ?_, ⟨fun t x hx => ?_, fun i B' hB' => ?_⟩, fun N hN => ?_⟩
  · rw [hrel.t t, hfl, tmS_look, look_skip, fl, look_filter]
    · intro b hb hbl
      obtain ⟨ob, hob, hcl⟩ := hB b hb hbl
      simp only [uT]
      rw [if_neg fun hd => ((clash_get hcl ho hob).1 t hd).1 ht]
    · intro a ha
      obtain ⟨oa, hoa, hcl⟩ := hA a ha
      simp only [uT]
      rw [if_neg fun hd => (clash_get hcl hoa ho).2.1 t hd ht]
  · have hpr : p.1 ∈ r.rd := by rw [← hrd]; exact List.mem_map.2 ⟨p, hp', rfl⟩
    rw [← hrds p hp', hrel.h p.1, hfl, hpS_look, look_skip, fl, look_filter]
    · intro b hb hbl
      obtain ⟨ob, hob, hcl⟩ := hB b hb hbl
      simp only [uH]
      cases hu : aget p.1 b.eff with
      | none => rfl
      | some z => exact absurd hpr ((clash_get hcl ho hob).2.2.1 p.1 (aget_mem hu)).1
    · intro a ha
      obtain ⟨oa, hoa, hcl⟩ := hA a ha
      simp only [uH]
      cases hu : aget p.1 a.eff with
      | none => rfl
      | some z => exact absurd hpr ((clash_get hcl hoa ho).2.2.2.1 p.1 (aget_mem hu))
  · rw [hrel.t t] at hx
    rcases look_from (u := uT t) (base := aget t tm) (R := fl l (A ++ r :: B)) with ⟨a, ha, hua⟩ | hb
    · rw [hx] at hua
      have hxa := (hxs a (List.mem_filter.1 ha).1).1
      simp only [uT] at hua
      split at hua
      · cases hua; exact hxa
      · cases hua
    · rw [hb] at hx
      exact idsLt_mono hM (hT' t x hx)
  · rw [hrel.h i] at hB'
    rcases look_from (u := uH i) (base := aget i hp) (R := fl l (A ++ r :: B)) with ⟨a, ha, hua⟩ | hb
    · rw [hB'] at hua
      exact effOk_get (hxs a (List.mem_filter.1 ha).1).2 i B' hua
    · rw [hb] at hB'
      obtain ⟨q1, q2⟩ := hH' i B' hB'
      exact ⟨Nat.lt_of_lt_of_le q1 hM, okR_mono hM q2⟩
  · have hrec : ∀ a ∈ fl l (A ++ r :: B), SV.freeOf N a.x = true ∧ effFree N a.eff = true := by
      intro a ha
      rw [hfl] at ha
      rcases List.mem_append.1 ha with ha | ha
      · obtain ⟨oa, hoa, hcl⟩ := hA a ha
        exact recFree_get (clash_get hcl hoa ho).2.2.2.2 N hN
      · exact recFree_get (k1 a (List.mem_filter.1 ha).1).1.2 N hN
    refine ⟨fun t x hx => ?_, fun i B' hB' => ?_⟩
    · rw [hrel.t t] at hx
      rcases look_from (u := uT t) (base := aget t tm) (R := fl l (A ++ r :: B)) with ⟨a, ha, hua⟩ | hb
      · rw [hx] at hua
        simp only [uT] at hua
        split at hua
        · cases hua; exact (hrec a ha).1
        · cases hua
      · rw [hb] at hx
        exact freeOf_lt (k4 N hN) (hT' t x hx)
    · rw [hrel.h i] at hB'
      rcases look_from (u := uH i) (base := aget i hp) (R := fl l (A ++ r :: B)) with ⟨a, ha, hua⟩ | hb
      · rw [hB'] at hua
        exact effFree_get (hrec a ha).2 i B' hua
      · rw [hb] at hB'
        obtain ⟨q1, q2⟩ := hH' i B' hB'
        have := k4 N hN
        exact ⟨by omega, freeB_lt this q2⟩

theorem stepPost {l : List Nat} {A B : List Rec} {r : Rec} {s : St} {o : Oper} (hops : ∀ a ∈ A ++ r :: B, ∃ o, all[a.q]? = some o) (hchk : chkG all.toList nx M (A ++ r :: B) = true) (hc : Closed all l) (hni : r.q ∉ l) (ho : all[r.q]? = some o) (hrel : RelS tm hp M (A ++ r :: B) l s) :
    RelS tm hp M (A ++ r :: B) (r.q :: l) ⟨tput r.d r.x s.tmps, effH r.eff s.heap, M⟩ := by
  have hA := later_apart hops hchk hc hni
  obtain ⟨k1, k2, k3, k4⟩ := chkG_get hchk
  have hfl := fl_split (l := l) (A := A) (B := B) hni
  have hfl' : fl (r.q :: l) (A ++ r :: B) = fl l A ++ r :: fl l B := by
    have hne : ∀ a : Rec, a.q ≠ r.q → memN a.q (r.q :: l) = memN a.q l := fun a ha => memN_cons ha
    simp only [fl, List.filter_append]
    rw [List.filter_cons_of_pos (by simp [memN])]
    congr 1
    · exact List.filter_congr fun a ha => hne a (k2 a ha).1
    · congr 1
      exact List.filter_congr fun b hb => hne b (k1 b hb).2
  refine ⟨fun t => ?_, fun i => ?_, rfl⟩
  · rw [hfl']
    show aget t (tput r.d r.x s.tmps) = _
    rw [aget_tput]
    by_cases hdt : r.d = some t
    · rw [if_pos hdt, look_skip]
      · simp only [look, uT, if_pos hdt]
      · intro a ha
        obtain ⟨oa, hoa, hcl⟩ := hA a ha
        simp only [uT]
        rw [if_neg fun hd => (((clash_get hcl hoa ho).1 t hdt).2) hd]
    · rw [if_neg hdt, look_mid (by simp only [uT, if_neg hdt]), hrel.t t, hfl]
  · rw [hfl']
    show aget i (effH r.eff s.heap) = _
    rw [aget_effH]
    cases hu : aget i r.eff with
    | some z =>
      rw [look_skip]
      · simp only [look, uH, hu]
      · intro a ha
        obtain ⟨oa, hoa, hcl⟩ := hA a ha
        simp only [uH]
        cases hua : aget i a.eff with
        | none => rfl
        | some y => exact absurd (aget_mem hua) ((clash_get hcl hoa ho).2.2.1 i (aget_mem hu)).2
    | none => rw [look_mid (by simp only [uH, hu])]; exact (hrel.h i).trans (by rw [hfl])

/-! ### Rooms that nobody knows -/
abbrev Caps := Nat → Nat
def setC (q C : Nat) (c : Caps) : Caps := fun i => bif Nat.beq i q then C else c i

def GStepA (cx : Cx) (all : Array Oper) (M : Nat) (o : Oper) (tm : List (Nat × SV)) (rds : List (Nat × Blk)) (d : Option Nat) (x : Nat → SV) (eff : Nat → List (Nat × Option Blk)) (nw : List Nat) : Prop :=
  ∀ tm' hp' k, (∀ t ∈ o.looksAt all, aget t tm' = aget t tm) → (∀ p ∈ rds, aget p.1 hp' = some p.2) → Low M tm' hp' → (∀ N ∈ nw, FreeS N tm' hp') →
    (∀ C, AWP cx (.ops all [] :: k) ⟨tput d (x C) tm', effH (eff C) hp', M⟩) → AWP cx (.ops all [o] :: k) ⟨tm', hp', M⟩

inductive GoodC (cx : Cx) (all : Array Oper) (M : Nat) (tm : List (Nat × SV)) (hp : List (Nat × Blk)) : (Caps → List Rec) → Prop where
  | nil : GoodC cx all M tm hp fun _ => []
  | step {R : Caps → List Rec} {q : Nat} {o : Oper} {d : Option Nat} {x : Caps → SV} {rds : Caps → List (Nat × Blk)} {eff : Caps → List (Nat × Option Blk)} {nw : List Nat} {rd : List Nat} (h : GoodC cx all M tm hp R) (ho : all[q]? = some o) (hd : ∀ t, d = some t → o.dst = some t)
      (hr : ∀ c, ∀ p ∈ rds c, aget p.1 (hpS (R c) hp) = some p.2) (hrd : ∀ c, (rds c).map Prod.fst = rd) (hx : ∀ c, SV.idsLt M (x c) = true) (he : ∀ c, effOk M (eff c)) (hs : ∀ c, GStep cx all M o (tmS (R c) tm) (rds c) d (x c) (eff c) nw) : GoodC cx all M tm hp fun c => ⟨q, d, x c, rd, eff c, nw⟩ :: R c
  | app {R : Caps → List Rec} {q : Nat} {o : Oper} {d : Option Nat} {x : Caps → Nat → SV} {rds : Caps → List (Nat × Blk)} {eff : Caps → Nat → List (Nat × Option Blk)} {nw : List Nat} {rd : List Nat} (h : GoodC cx all M tm hp R) (ho : all[q]? = some o) (hd : ∀ t, d = some t → o.dst = some t)
      (hr : ∀ c, ∀ p ∈ rds c, aget p.1 (hpS (R c) hp) = some p.2) (hrd : ∀ c, (rds c).map Prod.fst = rd) (hx : ∀ c C, SV.idsLt M (x c C) = true) (he : ∀ c C, effOk M (eff c C)) (hs : ∀ c, GStepA cx all M o (tmS (R c) tm) (rds c) d (x c) (eff c) nw)
      (hi : ∀ c C, x (setC q C c) = x c ∧ eff (setC q C c) = eff c) : GoodC cx all M tm hp fun c => ⟨q, d, x c (c q), rd, eff c (c q), nw⟩ :: R c

inductive All2 (p : Rec → Rec → Prop) : List Rec → List Rec → Prop where
  | nil : All2 p [] []
  | cons {x y : Rec} {l m : List Rec} (h : p x y) (t : All2 p l m) : All2 p (x :: l) (y :: m)

/-- Those that do not wait for an operation do not hang on the room that it makes. -/
def IndepC (all : Array Oper) (R : Caps → List Rec) (a : Nat) : Prop := ∀ c C, All2 (fun r r' => r'.q = r.q ∧ (memN a (clo all.toList (lenK all.toList) [r.q]) = true ∨ r' = r)) (R c) (R (setC a C c))

theorem GoodC.get {M : Nat} {R : Caps → List Rec} (h : GoodC cx all M tm hp R) : ∀ c A r B, R c = A ++ r :: B → ∃ o rds, all[r.q]? = some o ∧ (∀ t, r.d = some t → o.dst = some t) ∧ rds.map Prod.fst = r.rd ∧ (∀ p ∈ rds, aget p.1 (hpS B hp) = some p.2) ∧ SV.idsLt M r.x = true ∧ effOk M r.eff ∧
    (GStep cx all M o (tmS B tm) rds r.d r.x r.eff r.nw ∨ ∃ (x : Nat → SV) (eff : Nat → List (Nat × Option Blk)), GStepA cx all M o (tmS B tm) rds r.d x eff r.nw ∧ ∀ C, ∃ A' B', R (setC r.q C c) = A' ++ ⟨r.q, r.d, x C, r.rd, eff C, r.nw⟩ :: B' ∧ A'.length = A.length) := by
  induction h with
  | nil => intro c A r B h; simp at h
  | step h ho hd hr hrd hx he hs ih =>
    intro c A r B hR
    cases A with
    | nil =>
      rw [List.nil_append] at hR
      injection hR with h1 h2
      subst h1 h2
      exact ⟨_, _, ho, hd, hrd c, hr c, hx c, he c, .inl (hs c)⟩
    | cons a A =>
      rw [List.cons_append] at hR
      injection hR with h1 h2
      obtain ⟨o, rds, g1, g2, g3, g4, g5, g6, g7⟩ := ih c A r B h2
      refine ⟨o, rds, g1, g2, g3, g4, g5, g6, g7.imp (fun h => h) fun ⟨x, eff, q1, q2⟩ => ⟨x, eff, q1, fun C => ?_⟩⟩
      obtain ⟨A', B', e1, e2⟩ := q2 C
      exact ⟨_ :: A', B', congrArg (List.cons _) e1, by simp [e2]⟩
  | app h ho hd hr hrd hx he hs hi ih =>
    rename_i R q o d x rds eff nw rd
    intro c A r B hR
    cases A with
    | nil =>
      rw [List.nil_append] at hR
      injection hR with h1 h2
      subst h1 h2
      refine ⟨_, _, ho, hd, hrd c, hr c, hx c _, he c _, .inr ⟨x c, eff c, hs c, fun C => ⟨[], R (setC q C c), ?_, rfl⟩⟩⟩
      obtain ⟨e1, e2⟩ := hi c C
      simp only [List.nil_append, e1, e2]
      have : setC q C c q = C := by simp [setC, Nat.beq_refl]
      rw [this]
    | cons a A =>
      rw [List.cons_append] at hR
      injection hR with h1 h2
      obtain ⟨o, rds, g1, g2, g3, g4, g5, g6, g7⟩ := ih c A r B h2
      refine ⟨o, rds, g1, g2, g3, g4, g5, g6, g7.imp (fun h => h) fun ⟨x, eff, q1, q2⟩ => ⟨x, eff, q1, fun C => ?_⟩⟩
      obtain ⟨A', B', e1, e2⟩ := q2 C
      exact ⟨_ :: A', B', congrArg (List.cons _) e1, by simp [e2]⟩

theorem indep_fl {R : Caps → List Rec} {a C : Nat} {c : Caps} {l : List Nat} (hi : IndepC all R a) (hc : Closed all l) (hni : a ∉ l) : fl l (R (setC a C c)) = fl l (R c) := by
  have h := hi c C
  generalize R c = X at h
  generalize R (setC a C c) = Y at h
  induction h with
  | nil => rfl
  | cons h _ ih =>
    rename_i r r' X Y _
    obtain ⟨hq, hr⟩ := h
    simp only [fl] at ih ⊢
    cases hm : memN r.q l
    · rw [List.filter_cons_of_neg (by simp [hq, hm]), List.filter_cons_of_neg (by simp [hm]), ih]
    · rw [List.filter_cons_of_pos (by simp [hq, hm]), List.filter_cons_of_pos (by simp [hm]), ih]
      rcases hr with hr | hr
      · exact absurd (clo_mem hc (fun q hq => by simp only [List.mem_singleton] at hq; rw [hq]; exact memN_iff.1 hm) _ (memN_iff.1 hr)) hni
      · rw [hr]

theorem AWPAny.drawC {M : Nat} {R : Caps → List Rec} (hg : GoodC cx all M tm hp R) (hchk : ∀ c, chkG all.toList nx M (R c) = true) (hlen : ∀ c, (R c).length = all.size) (hM : nx ≤ M) (hT : okT nx tm = true) (hH : okHR nx hp)
    (hind : ∀ a, a < all.size → IndepC all R a) (g : ∀ c, AWP cx k ⟨tmS (R c) tm, hpS (R c) hp, M⟩) : AWPAny cx all [] all.size k ⟨tm, hp, nx⟩ := by
  refine AWPAny.grow hM ?_
  have hT' : ∀ t x, aget t tm = some x → SV.idsLt nx x = true := by
    clear g hg hlen hind hchk
    intro t x
    induction tm with
    | nil => intro h; simp [aget] at h
    | cons p tm ih =>
      obtain ⟨u, y⟩ := p
      simp only [okT, Bool.and_eq_true] at hT
      intro h
      rw [aget_cons] at h
      by_cases hu : t = u
      · rw [if_pos hu] at h; cases h; exact hT.1
      · rw [if_neg hu] at h; exact ih hT.2 h
  have hH' : ∀ i B, aget i hp = some B → i < nx ∧ B.okR nx := by
    clear g hg hlen hind hchk
    intro t x
    induction hp with
    | nil => intro h; simp [aget] at h
    | cons p hp ih =>
      obtain ⟨u, y⟩ := p
      intro h
      rw [aget_cons] at h
      by_cases hu : t = u
      · rw [if_pos hu] at h; cases h; subst hu; exact ⟨Nat.le_of_ble_eq_true hH.1, hH.2.1⟩
      · rw [if_neg hu] at h; exact ih hH.2.2 h
  have hops : ∀ c, ∀ r ∈ R c, ∃ o, all[r.q]? = some o := fun c r hr => by
    obtain ⟨A, B, hAB⟩ := List.append_of_mem hr
    obtain ⟨o, _, ho, _⟩ := hg.get c A r B hAB
    exact ⟨o, ho⟩
  have hxs : ∀ c, ∀ r ∈ R c, SV.idsLt M r.x = true ∧ effOk M r.eff := fun c r hr => by
    obtain ⟨A, B, hAB⟩ := List.append_of_mem hr
    obtain ⟨o, _, _, _, _, _, h1, h2, _⟩ := hg.get c A r B hAB
    exact ⟨h1, h2⟩
  have hlt : ∀ c, ∀ r ∈ R c, r.q < all.size := fun c r hr => by
    obtain ⟨o, ho⟩ := hops c r hr
    exact (Array.getElem?_eq_some_iff.1 ho).1
  have hfull : ∀ c, ∀ i, i < all.size → i ∈ (R c).map Rec.q := fun c => full_of (chkG_nodup (hchk c)) (fun i hi => by
    obtain ⟨r, hr, rfl⟩ := List.mem_map.1 hi
    exact hlt c r hr) (by simpa using hlen c)
  have claim : ∀ (n : Nat) (l : List Nat) (s : St) (c : Caps), l.Nodup → (∀ i ∈ l, i < all.size) → Closed all l → l.length + n = all.size → RelS tm hp M (R c) l s → AWPAny cx all l n k s := by
    intro n
    induction n with
    | zero =>
      intro l s c hl hlt' hc hn hrel
      have hin : ∀ i, i < all.size → i ∈ l := full_of hl hlt' (by omega)
      refine AWPAny.done ?_ ?_
      · refine List.eq_nil_iff_forall_not_mem.2 fun i hi => ?_
        obtain ⟨o, _, ho, hni, _⟩ := (rdy_iff _ _ _).1 hi
        rw [Nat.sub_zero, Array.getElem?_toList] at ho
        exact hni (hin i (Array.getElem?_eq_some_iff.1 ho).1)
      · have hf : fl l (R c) = R c := List.filter_eq_self.2 fun r hr => memN_iff.2 (hin _ (hlt c r hr))
        obtain ⟨tm0, hp0, nx0⟩ := s
        obtain ⟨h1, h2, h3⟩ := hrel
        simp only at h1 h2 h3
        subst h3
        refine AWP.ext (fun t => ?_) (fun i => ?_) (g c)
        · rw [tmS_look, h1 t, hf]
        · rw [hpS_look, h2 i, hf]
    | succ n ih =>
      intro l s c hl hlt' hc hn hrel
      have hsome : rdy l 0 all.toList ≠ [] := by
        intro hnil
        have hno : ∀ (B : List Rec), (∀ r ∈ B, r ∈ R c) → (∀ A r C, B = A ++ r :: C → ∀ o, all[r.q]? = some o → ∀ e ∈ o.after.toList, Region.binds .any e = true → e.on ∈ C.map Rec.q) → ∀ r ∈ B, r.q ∈ l := by
          intro B
          induction B with
          | nil => intro _ _ r hr; cases hr
          | cons b B ihB =>
            intro hs ha r hr
            have hB := ihB (fun r hr => hs r (by simp [hr])) fun A r C hC => ha (b :: A) r C (by rw [hC]; rfl)
            rcases List.mem_cons.1 hr with rfl | hr
            · by_cases hq : r.q ∈ l
              · exact hq
              · exfalso
                obtain ⟨o, ho⟩ := hops c r (hs r (by simp))
                have : r.q ∈ rdy l 0 all.toList := (rdy_iff _ _ _).2 ⟨o, Nat.zero_le _, by rw [Nat.sub_zero, Array.getElem?_toList]; exact ho, hq, fun e he hb => by
                  obtain ⟨c', hc1, hc2⟩ := List.mem_map.1 (ha [] r B rfl o ho e he hb)
                  rw [← hc2]
                  exact hB c' hc1⟩
                rw [hnil] at this
                cases this
            · exact hB r hr
        have hin := hno (R c) (fun _ h => h) fun A r C hC o ho e he hb => by
          have := hchk c
          rw [hC] at this
          exact (chkG_get this).2.2.1 o ho e he hb
        have : all.size ≤ l.length := by
          have := nodup_len ((R c).map Rec.q) l (chkG_nodup (hchk c)) fun i hi => by
            obtain ⟨r, hr, rfl⟩ := List.mem_map.1 hi
            exact hin r hr
          simpa [hlen c] using this
        omega
      refine AWPAny.step rfl hsome (StepAll.of fun i hi => ?_)
      obtain ⟨o, _, ho, hni, hri⟩ := (rdy_iff _ _ _).1 hi
      rw [Nat.sub_zero, Array.getElem?_toList] at ho
      have hilt := (Array.getElem?_eq_some_iff.1 ho).1
      refine ⟨o, ho, fun Φ next => ?_⟩
      obtain ⟨A, r, B, hR, rfl⟩ := split_at (hfull c i hilt)
      obtain ⟨o', rds, ho', hd, hrd, hrds, hx, heff, hstep⟩ := hg.get c A r B hR
      rw [ho] at ho'
      cases ho'
      have hchk' := hchk c
      have hops' := hops c
      have hxs' := hxs c
      rw [hR] at hchk' hops' hxs'
      have hrel' := hrel
      rw [hR] at hrel'
      obtain ⟨p1, p2, p3, p4⟩ := stepPre hT' hH' hM hops' hxs' hchk' hc hni ho hri hrel' hrd hrds
      have hs3 : s = ⟨s.tmps, s.heap, M⟩ := by rw [← hrel.n]
      have go : ∀ (c' : Caps) (s' : St), RelS tm hp M (R c') (r.q :: l) s' → AWP cx (.ops all [] :: .inv Φ :: k) s' := fun c' s' h => by
        have hnext := next s' (ih (r.q :: l) s' c' (List.nodup_cons.2 ⟨hni, hl⟩) (fun i hi => by
          rcases List.mem_cons.1 hi with rfl | hi
          · exact hilt
          · exact hlt' i hi) (fun i hi oi hoi e he hb => by
          rcases List.mem_cons.1 hi with rfl | hi
          · rw [ho] at hoi; cases hoi; exact List.mem_cons_of_mem _ (hri e he hb)
          · exact List.mem_cons_of_mem _ (hc i hi oi hoi e he hb)) (by simp; omega) h)
        exact fun a w hi => hnext a w hi
      rw [hs3]
      rcases hstep with hstep | ⟨x, eff, hstep, hx2⟩
      · refine hstep s.tmps s.heap (.inv Φ :: k) p1 p2 p3 p4 (go c _ ?_)
        have := stepPost hops' hchk' hc hni ho hrel'
        rw [← hR] at this
        exact this
      · refine hstep s.tmps s.heap (.inv Φ :: k) p1 p2 p3 p4 fun C => go (setC r.q C c) _ ?_
        obtain ⟨A', B', e1, _⟩ := hx2 C
        have hrel2 : RelS tm hp M (R (setC r.q C c)) l s := by
          have hf := indep_fl (C := C) (c := c) (hind r.q hilt) hc hni
          exact ⟨fun t => by rw [hf]; exact hrel.t t, fun i => by rw [hf]; exact hrel.h i, hrel.n⟩
        have hchk2 := hchk (setC r.q C c)
        have hops2 := hops (setC r.q C c)
        rw [e1] at hrel2 hchk2 hops2 ⊢
        exact stepPost (r := ⟨r.q, r.d, x C, r.rd, eff C, r.nw⟩) hops2 hchk2 hc hni ho hrel2
  refine claim all.size [] ⟨tm, hp, M⟩ (fun _ => 0) List.nodup_nil (by simp) (fun i hi => by cases hi) (by simp) ⟨fun t => ?_, fun i => ?_, rfl⟩
  · have : fl [] (R fun _ => 0) = [] := by simp [fl, memN]
    rw [this]; rfl
  · have : fl [] (R fun _ => 0) = [] := by simp [fl, memN]
    rw [this]; rfl

end
end Go.Sy

/-
  SYMBOLIC STATES, over any program, part 30: the steps of such a region (drawC).
-/
namespace Go.Sy
open Go.RowKit

section
variable {cx : Cx} {P : Program} {fn : Func} {lo : Nat} {T : Tab} {k : List It} {tm : List (Nat × SV)} {hp : List (Nat × Blk)} {nx M : Nat} {all : Array Oper} {id : Nat} {R : Caps → List Rec}
variable {d q : Nat} {rest : List Oper} {ty : TypeId} {pos : String} {after : Array Edge}

def DrC (cx : Cx) (all : Array Oper) (id : Nat) (k : List It) (tm : List (Nat × SV)) (hp : List (Nat × Blk)) (nx M : Nat) (i : Nat) (rest : List Oper) (R : Caps → List Rec) : Prop :=
  (GoodC cx all M tm hp R ∧ all.toList.drop i = rest) → cx.P.follows .mixedOrders = true ∧ AWPAny cx all [] all.size k ⟨tm, hp, nx⟩

theorem AWP.drc (M : Nat) (h : DrC cx all id k tm hp nx M 0 all.toList fun _ => []) : AWP cx (.code (.region id all true) :: k) ⟨tm, hp, nx⟩ := fun a w hi => by
  obtain ⟨hm, h⟩ := h ⟨.nil, rfl⟩
  refine wp_region_any hm (h (Array.replicate all.size false) a _ (by simp) (fun i hi => by simp [hi]) (by simp) ?_)
  obtain ⟨μ, ok, hi⟩ := hi.one
  exact hi.drew.inv

theorem DrC.at {o : Oper} (h : all.toList.drop q = o :: rest) : all[q]? = some o ∧ all.toList.drop (Nat.succ q) = rest := by
  constructor
  · have := congrArg List.head? h
    rw [List.head?_drop, Array.getElem?_toList] at this
    exact this
  · show all.toList.drop (q + 1) = rest
    rw [← List.tail_drop, h]; rfl

theorem DrC.step {o : Oper} {d : Option Nat} {x : Caps → SV} {rds : Caps → List (Nat × Blk)} {eff : Caps → List (Nat × Option Blk)} {nw rd : List Nat} (hd : ∀ t, d = some t → o.dst = some t)
    (hr : ∀ c, ∀ p ∈ rds c, aget p.1 (hpS (R c) hp) = some p.2) (hrd : ∀ c, (rds c).map Prod.fst = rd) (hx : ∀ c, SV.idsLt M (x c) = true) (he : ∀ c, effOk M (eff c)) (hs : ∀ c, GStep cx all M o (tmS (R c) tm) (rds c) d (x c) (eff c) nw)
    (h : DrC cx all id k tm hp nx M (Nat.succ q) rest fun c => ⟨q, d, x c, rd, eff c, nw⟩ :: R c) : DrC cx all id k tm hp nx M q (o :: rest) R := by
  rintro ⟨h1, h2⟩
  obtain ⟨ho, h3⟩ := DrC.at h2
  exact h ⟨.step h1 ho hd hr hrd hx he hs, h3⟩

theorem DrC.app {o : Oper} {d : Option Nat} {x : Caps → Nat → SV} {rds : Caps → List (Nat × Blk)} {eff : Caps → Nat → List (Nat × Option Blk)} {nw rd : List Nat} (hd : ∀ t, d = some t → o.dst = some t)
    (hr : ∀ c, ∀ p ∈ rds c, aget p.1 (hpS (R c) hp) = some p.2) (hrd : ∀ c, (rds c).map Prod.fst = rd) (hx : ∀ c C, SV.idsLt M (x c C) = true) (he : ∀ c C, effOk M (eff c C)) (hs : ∀ c, GStepA cx all M o (tmS (R c) tm) (rds c) d (x c) (eff c) nw)
    (hi : ∀ c C, x (setC q C c) = x c ∧ eff (setC q C c) = eff c)
    (h : DrC cx all id k tm hp nx M (Nat.succ q) rest fun c => ⟨q, d, x c (c q), rd, eff c (c q), nw⟩ :: R c) : DrC cx all id k tm hp nx M q (o :: rest) R := by
  rintro ⟨h1, h2⟩
  obtain ⟨ho, h3⟩ := DrC.at h2
  exact h ⟨.app h1 ho hd hr hrd hx he hs hi, h3⟩

/-- A step that touches no owned block. -/
theorem DrC.v {o : Oper} {x : Caps → SV} (hd : o.dst = some d) (hv : ∀ c hp', VStep cx all hp' M o (tmS (R c) tm) d (x c)) (hx : ∀ c, SV.idsLt M (x c) = true) (h : DrC cx all id k tm hp nx M (Nat.succ q) rest fun c => ⟨q, some d, x c, [], [], []⟩ :: R c) : DrC cx all id k tm hp nx M q (o :: rest) R :=
  DrC.step (d := some d) (x := x) (rds := fun _ => []) (eff := fun _ => []) (nw := []) (rd := []) (fun t ht => by cases ht; exact hd) (fun c p hp => by cases hp) (fun _ => rfl) hx (fun _ => trivial) (fun c tm' hp' k h1 _ _ _ g => hv c hp' tm' k h1 g) h

theorem DrC.load (e : Env cx P fn lo) (hT : TabOk P T) {t : TypeId} {a : Operand} {i j : Nat} {cs : Caps → List SV} {y : Ty} {v : Caps → SV} (hd : Nat.blt d fn.ntmps = true) (h1 : ∀ c, opd ⟨tmS (R c) tm, [], 0⟩ a = some (.ptr i j)) (h2 : aget t T = some y)
    (h3 : ∀ c, aget i (hpS (R c) hp) = some (.box (cs c))) (h4 : ∀ c, part1 y.td.agg y.size j (cs c) = .val (v c) True) (hx : ∀ c, SV.idsLt M (v c) = true) (h : DrC cx all id k tm hp nx M (Nat.succ q) rest fun c => ⟨q, some d, v c, [i], [], []⟩ :: R c) : DrC cx all id k tm hp nx M q (⟨some d, .load t a, ty, pos, after, none⟩ :: rest) R :=
  DrC.step (d := some d) (x := v) (rds := fun c => [(i, .box (cs c))]) (eff := fun _ => []) (nw := []) (rd := [i]) (fun t ht => ht) (fun c p hp => by simp only [List.mem_singleton] at hp; subst hp; exact h3 c) (fun _ => rfl) hx (fun _ => trivial) (fun c => GStep.load e hT hd (h1 c) h2 (h4 c) trivial) h

theorem DrC.store (e : Env cx P fn lo) (hT : TabOk P T) {dst : Option Nat} {t : TypeId} {a v : Operand} {i j : Nat} {x : Caps → SV} {vs cs cs' : Caps → List SV} {y : Ty} (hd : dstOk fn.ntmps dst = true) (h1 : ∀ c, opd ⟨tmS (R c) tm, [], 0⟩ a = some (.ptr i j)) (hv : ∀ c, opd ⟨tmS (R c) tm, [], 0⟩ v = some (x c)) (h2 : aget t T = some y)
    (h3 : ∀ c, aget i (hpS (R c) hp) = some (.box (cs c))) (hvs : ∀ c, cellsOf (x c) = some (vs c)) (hl : ∀ c, Nat.beq (lenK (vs c)) y.size = true) (ha : ∀ c, allCells (vs c) = true) (h4 : ∀ c, laid j (vs c) (cs c) = some (cs' c)) (hx : ∀ c, SV.idsLt.go M (cs' c) = true) (hi : Nat.blt i M = true)
    (h : DrC cx all id k tm hp nx M (Nat.succ q) rest fun c => ⟨q, dst, undefS, [i], [(i, some (.box (cs' c)))], []⟩ :: R c) : DrC cx all id k tm hp nx M q (⟨dst, .store t a v, ty, pos, after, none⟩ :: rest) R :=
  DrC.step (d := dst) (x := fun _ => undefS) (rds := fun c => [(i, .box (cs c))]) (eff := fun c => [(i, some (.box (cs' c)))]) (nw := []) (rd := [i]) (fun t ht => ht) (fun c p hp => by simp only [List.mem_singleton] at hp; subst hp; exact h3 c) (fun _ => rfl) (fun _ => rfl) (fun c => ⟨⟨hi, hx c⟩, trivial⟩)
    (fun c => GStep.store e hT hd (h1 c) (hv c) h2 (hvs c) (hl c) (ha c) (h4 c)) h

theorem DrC.box (N : Nat) (e : Env cx P fn lo) (hT : TabOk P T) {op : Op} {cs : Caps → List SV} (hls : isLs op = false) (hd : Nat.blt d fn.ntmps = true) (hev : ∀ c, ev T ⟨tmS (R c) tm, [], 0⟩ op = .box (cs c)) (hN : Nat.blt N M = true) (hlo : Nat.ble lo N = true) (hcs : ∀ c, SV.idsLt.go M (cs c) = true) (hf : ∀ c, SV.freeOf.go N (cs c) = true)
    (h : DrC cx all id k tm hp nx M (Nat.succ q) rest fun c => ⟨q, some d, .ptr N 0, [], [(N, some (.box (cs c)))], [N]⟩ :: R c) : DrC cx all id k tm hp nx M q (⟨some d, op, ty, pos, after, none⟩ :: rest) R :=
  DrC.step (d := some d) (x := fun _ => .ptr N 0) (rds := fun _ => []) (eff := fun c => [(N, some (.box (cs c)))]) (nw := [N]) (rd := []) (fun t ht => ht) (fun c p hp => by cases hp) (fun _ => rfl) (fun _ => hN) (fun c => ⟨⟨hN, hcs c⟩, trivial⟩)
    (fun c => GStep.box N e hT hls hd (hev c) hN hlo (hcs c) (hf c)) h

theorem DrC.row (N : Nat) (e : Env cx P fn lo) (hT : TabOk P T) {op : Op} {te : TypeId} {m n : Nat} {xs : List (List SV)} (hls : isLs op = false) (hd : Nat.blt d fn.ntmps = true) (hev : ∀ c, ev T ⟨tmS (R c) tm, [], 0⟩ op = .row te m xs n) (hN : Nat.blt N M = true) (hlo : Nat.ble lo N = true) (hxs : rowsOk xs = true)
    (h : DrC cx all id k tm hp nx M (Nat.succ q) rest fun c => ⟨q, some d, .own N m 0 n n, [], [(N, some (.row te false m xs n))], [N]⟩ :: R c) : DrC cx all id k tm hp nx M q (⟨some d, op, ty, pos, after, none⟩ :: rest) R :=
  DrC.step (d := some d) (x := fun _ => .own N m 0 n n) (rds := fun _ => []) (eff := fun _ => [(N, some (.row te false m xs n))]) (nw := [N]) (rd := []) (fun t ht => ht) (fun c p hp => by cases hp) (fun _ => rfl) (fun _ => hN) (fun c => ⟨⟨hN, rowsOk_get hxs⟩, trivial⟩)
    (fun c => GStep.row N e hT hls hd (hev c) hN hlo (rowsOk_get hxs)) h

theorem adelO_all {α : Type} (t : Nat) : ∀ (l : List (Nat × α)), ∃ l', adelO t l = some l'
  | [] => ⟨_, rfl⟩
  | (k, y) :: l => by
    obtain ⟨l', h⟩ := adelO_all t l
    simp only [adelO, h]
    cases Nat.beq t k <;> exact ⟨_, rfl⟩

/-- APPEND to a row of its own, which lies in block i; the new one has the name N. -/
theorem DrC.append (N : Nat) (e : Env cx P fn lo) (hT : TabOk P T) {s0 sx : Operand} {t te : TypeId} {y : Ty} {i m n : Nat} {Cf : Caps → Nat} {xs ys : List (List SV)} {vx : SV} (hd : Nat.blt d fn.ntmps = true) (h1 : ∀ c, opd ⟨tmS (R c) tm, [], 0⟩ s0 = some (.own i m 0 n (Cf c))) (h2 : ∀ c, opd ⟨tmS (R c) tm, [], 0⟩ sx = some vx)
    (hrow : ∀ c, aget i (hpS (R c) hp) = some (.row te false m xs (Cf c))) (ht : tySl T t = some (te, m)) (hy : aget te T = some y) (hm : Nat.blt 0 m = true) (hsrc : ∀ hp, Src hp vx m ys) (hn : xs.length = n) (hcell : ∀ e ∈ ys, allCells e = true) (hb : (n + ys.length) * y.bytes ≤ 140737488355328) (hsz : n + ys.length ≤ 9223372036854775807)
    (hN : Nat.blt N M = true) (hlo : Nat.ble lo N = true) (hok : ∀ e ∈ xs ++ ys, SV.idsLt.go 0 e = true) (hne : Nat.beq i N = false)
    (h : DrC cx all id k tm hp nx M (Nat.succ q) rest fun c => ⟨q, some d, .own N m 0 (n + ys.length) (c q), [i], [(i, none), (N, some (.row te false m (xs ++ ys) (c q)))], [N]⟩ :: R c) :
    DrC cx all id k tm hp nx M q (⟨some d, .call ⟨.builtin .append, #[s0, sx], #[t, t]⟩, ty, pos, after, none⟩ :: rest) R := by
  have hN' := Nat.le_of_ble_eq_true hN
  have hiN : i ≠ N := fun e => by subst e; rw [Nat.beq_refl] at hne; cases hne
  refine DrC.app (d := some d) (x := fun _ C => .own N m 0 (n + ys.length) C) (rds := fun c => [(i, .row te false m xs (Cf c))]) (eff := fun _ C => [(i, none), (N, some (.row te false m (xs ++ ys) C))]) (nw := [N]) (rd := [i]) (fun t ht => ht) (fun c p hp => by simp only [List.mem_singleton] at hp; subst hp; exact hrow c) (fun _ => rfl)
    (fun _ _ => hN) (fun _ _ => ⟨⟨hN, hok⟩, trivial⟩) (fun c tm' hp' k a1 a2 a3 a4 g => ?_) (fun _ _ => ⟨rfl, rfl⟩) h
  obtain ⟨rfl, rfl, e3, e4⟩ := e
  have hb' := a2 (i, .row te false m xs (Cf c)) (by simp)
  have h1' : opd ⟨tm', hp', M⟩ s0 = some (.own i m 0 n (Cf c)) := ((opd_eq fun u hu => a1 u (looks_ops (by simp [Op.operands, Call.operands]) hu)).trans (opd_heap _)).trans (h1 c)
  have h2' : opd ⟨tm', hp', M⟩ sx = some vx := ((opd_eq fun u hu => a1 u (looks_ops (by simp [Op.operands, Call.operands]) hu)).trans (opd_heap _)).trans (h2 c)
  obtain ⟨hp2, hdel⟩ := adelO_all i hp'
  have hget := adelO_get i hp' hp2 hdel
  refine AWP.append ⟨rfl, rfl, e3, e4⟩ hT hd h1' h2' hb' ht hy hm hdel (hsrc hp') hn hcell hb hsz fun C2 _ => ?_
  refine AWP.ext (tm2 := tput (some d) (.own M m 0 (n + ys.length) C2) tm') (hp2 := effH [(i, none), (M, some (.row te false m (xs ++ ys) C2))] hp') (fun t => rfl) (fun j => ?_) ?_
  · rw [aget_effH]
    have hiM : ∀ j, j = M → ¬ j = i := fun j h e => by have := (a3.2 i _ hb').1; omega
    have hl : aget j ((M, Blk.row te false m (xs ++ ys) C2) :: hp2) = if j = M then some (Blk.row te false m (xs ++ ys) C2) else aget j hp2 := aget_cons ..
    have hr : aget j [(i, (none : Option Blk)), (M, some (.row te false m (xs ++ ys) C2))] = if j = i then some none else if j = M then some (some (.row te false m (xs ++ ys) C2)) else none := by
      rw [aget_cons, aget_cons]; rfl
    rw [hl, hr]
    by_cases hj : j = M
    · simp only [if_neg (hiM j hj), if_pos hj]
    · by_cases hji : j = i
      · simp only [if_neg hj, if_pos hji, hget]
      · simp only [if_neg hji, if_neg hj, hget]
  · refine AWP.newName ⟨rfl, rfl, e3, e4⟩ (N := N) (d := some d) (x := .own N m 0 (n + ys.length) C2) (x1 := .own M m 0 (n + ys.length) C2) (eff := [(i, none), (N, some (.row te false m (xs ++ ys) C2))]) (eff1 := [(i, none), (M, some (.row te false m (xs ++ ys) C2))]) hN' (Nat.le_of_ble_eq_true hlo) ?_ hN a3 (a4 N (by simp)) (fun j hj => ?_) ⟨⟨hN, hok⟩, trivial⟩ (g C2)
    · simp [renS, renI, aget, Nat.beq_refl]
    · unfold renI
      simp only [aget]
      by_cases h : j = N
      · subst h
        have : ¬ M = i := fun e => by have := (a3.2 i _ hb').1; omega
        simp [Nat.beq_refl, beq_ne this, beq_ne (fun e => hiN e.symm), renB]
      · simp only [beq_ne h, cond_false]
        by_cases hji : j = i
        · subst hji; simp [Nat.beq_refl]
        · simp only [beq_ne hji, cond_false]
          rw [beq_ne (by omega)]
          rfl

/-- The same, what is appended being a row of its own, too. -/
theorem DrC.appendO (N : Nat) (e : Env cx P fn lo) (hT : TabOk P T) {s0 sx : Operand} {t te : TypeId} {y : Ty} {i m n : Nat} {Cf : Caps → Nat} {xs ys : List (List SV)} {i2 n2 : Nat} {C2f C2r : Caps → Nat} {fz2 : Bool} {te2 : TypeId} (hd : Nat.blt d fn.ntmps = true) (h1 : ∀ c, opd ⟨tmS (R c) tm, [], 0⟩ s0 = some (.own i m 0 n (Cf c))) (h2 : ∀ c, opd ⟨tmS (R c) tm, [], 0⟩ sx = some (.own i2 m 0 n2 (C2f c)))
    (hrow : ∀ c, aget i (hpS (R c) hp) = some (.row te false m xs (Cf c))) (ht : tySl T t = some (te, m)) (hy : aget te T = some y) (hm : Nat.blt 0 m = true) (hrow2 : ∀ c, aget i2 (hpS (R c) hp) = some (.row te2 fz2 m ys (C2r c))) (hn2 : n2 = ys.length) (hn : xs.length = n) (hcell : ∀ e ∈ ys, allCells e = true) (hb : (n + ys.length) * y.bytes ≤ 140737488355328) (hsz : n + ys.length ≤ 9223372036854775807)
    (hN : Nat.blt N M = true) (hlo : Nat.ble lo N = true) (hok : ∀ e ∈ xs ++ ys, SV.idsLt.go 0 e = true) (hne : Nat.beq i N = false)
    (h : DrC cx all id k tm hp nx M (Nat.succ q) rest fun c => ⟨q, some d, .own N m 0 (n + ys.length) (c q), [i, i2], [(i, none), (N, some (.row te false m (xs ++ ys) (c q)))], [N]⟩ :: R c) :
    DrC cx all id k tm hp nx M q (⟨some d, .call ⟨.builtin .append, #[s0, sx], #[t, t]⟩, ty, pos, after, none⟩ :: rest) R := by
  have hN' := Nat.le_of_ble_eq_true hN
  have hiN : i ≠ N := fun e => by subst e; rw [Nat.beq_refl] at hne; cases hne
  refine DrC.app (d := some d) (x := fun _ C => .own N m 0 (n + ys.length) C) (rds := fun c => [(i, .row te false m xs (Cf c)), (i2, .row te2 fz2 m ys (C2r c))]) (eff := fun _ C => [(i, none), (N, some (.row te false m (xs ++ ys) C))]) (nw := [N]) (rd := [i, i2]) (fun t ht => ht) (fun c p hp => by simp only [List.mem_cons, List.not_mem_nil, or_false] at hp; rcases hp with rfl | rfl <;> first | exact hrow c | exact hrow2 c) (fun _ => rfl)
    (fun _ _ => hN) (fun _ _ => ⟨⟨hN, hok⟩, trivial⟩) (fun c tm' hp' k a1 a2 a3 a4 g => ?_) (fun _ _ => ⟨rfl, rfl⟩) h
  obtain ⟨rfl, rfl, e3, e4⟩ := e
  have hb' := a2 (i, .row te false m xs (Cf c)) (by simp)
  have h1' : opd ⟨tm', hp', M⟩ s0 = some (.own i m 0 n (Cf c)) := ((opd_eq fun u hu => a1 u (looks_ops (by simp [Op.operands, Call.operands]) hu)).trans (opd_heap _)).trans (h1 c)
  have hb2 := a2 (i2, .row te2 fz2 m ys (C2r c)) (by simp)
  have h2' : opd ⟨tm', hp', M⟩ sx = some (.own i2 m 0 n2 (C2f c)) := ((opd_eq fun u hu => a1 u (looks_ops (by simp [Op.operands, Call.operands]) hu)).trans (opd_heap _)).trans (h2 c)
  obtain ⟨hp2, hdel⟩ := adelO_all i hp'
  have hget := adelO_get i hp' hp2 hdel
  refine AWP.append ⟨rfl, rfl, e3, e4⟩ hT hd h1' h2' hb' ht hy hm hdel (.own hb2 hn2) hn hcell hb hsz fun C2 _ => ?_
  refine AWP.ext (tm2 := tput (some d) (.own M m 0 (n + ys.length) C2) tm') (hp2 := effH [(i, none), (M, some (.row te false m (xs ++ ys) C2))] hp') (fun t => rfl) (fun j => ?_) ?_
  · rw [aget_effH]
    have hiM : ∀ j, j = M → ¬ j = i := fun j h e => by have := (a3.2 i _ hb').1; omega
    have hl : aget j ((M, Blk.row te false m (xs ++ ys) C2) :: hp2) = if j = M then some (Blk.row te false m (xs ++ ys) C2) else aget j hp2 := aget_cons ..
    have hr : aget j [(i, (none : Option Blk)), (M, some (.row te false m (xs ++ ys) C2))] = if j = i then some none else if j = M then some (some (.row te false m (xs ++ ys) C2)) else none := by
      rw [aget_cons, aget_cons]; rfl
    rw [hl, hr]
    by_cases hj : j = M
    · simp only [if_neg (hiM j hj), if_pos hj]
    · by_cases hji : j = i
      · simp only [if_neg hj, if_pos hji, hget]
      · simp only [if_neg hji, if_neg hj, hget]
  · refine AWP.newName ⟨rfl, rfl, e3, e4⟩ (N := N) (d := some d) (x := .own N m 0 (n + ys.length) C2) (x1 := .own M m 0 (n + ys.length) C2) (eff := [(i, none), (N, some (.row te false m (xs ++ ys) C2))]) (eff1 := [(i, none), (M, some (.row te false m (xs ++ ys) C2))]) hN' (Nat.le_of_ble_eq_true hlo) ?_ hN a3 (a4 N (by simp)) (fun j hj => ?_) ⟨⟨hN, hok⟩, trivial⟩ (g C2)
    · simp [renS, renI, aget, Nat.beq_refl]
    · unfold renI
      simp only [aget]
      by_cases h : j = N
      · subst h
        have : ¬ M = i := fun e => by have := (a3.2 i _ hb').1; omega
        simp [Nat.beq_refl, beq_ne this, beq_ne (fun e => hiN e.symm), renB]
      · simp only [beq_ne h, cond_false]
        by_cases hji : j = i
        · subst hji; simp [Nat.beq_refl]
        · simp only [beq_ne hji, cond_false]
          rw [beq_ne (by omega)]
          rfl

def forallLt : Nat → (Nat → Prop) → Prop
  | 0, _ => True
  | n + 1, p => p n ∧ forallLt n p
theorem forallLt_get {p : Nat → Prop} : ∀ {n : Nat}, forallLt n p → ∀ a, a < n → p a
  | n + 1, h, a, ha => by
    by_cases e : a = n
    · subst e; exact h.1
    · exact forallLt_get h.2 a (by omega)

theorem DrC.fin (e : Env cx P fn lo) (hm : P.follows .mixedOrders = true) (hchk : ∀ c, chkG all.toList nx M (R c) = true) (hlen : ∀ c, Nat.beq (lenK (R c)) (lenK all.toList) = true) (hM : Nat.ble nx M = true) (hT : okT nx tm = true) (hH : okHR nx hp)
    (hind : forallLt (lenK all.toList) (IndepC all R)) (g : ∀ c, AWP cx k ⟨tmS (R c) tm, hpS (R c) hp, M⟩) {q : Nat} : DrC cx all id k tm hp nx M q [] R := fun h1 => by
  refine ⟨e.P ▸ hm, AWPAny.drawC h1.1 hchk (fun c => ?_) (Nat.le_of_ble_eq_true hM) hT hH (fun a ha => forallLt_get hind a ?_) g⟩
  · have := Nat.eq_of_beq_eq_true (hlen c)
    rw [lenK_eq, lenK_eq] at this
    simpa using this
  · rw [lenK_eq, Array.length_toList]; exact ha

end
end Go.Sy

/-
  SYMBOLIC STATES, over any program, part 31: a nil slice as an empty one, where nobody need know which; what is compared with nil and may be either.
-/
namespace Go.Sy
open Go.RowKit

section
variable {cx : Cx} {P : Program} {fn : Func} {lo : Nat} {T : Tab} {k : List It} {tm : List (Nat × SV)} {hp : List (Nat × Blk)} {nx M : Nat} {all : Array Oper} {id : Nat}
variable {d q : Nat} {rest : List Oper} {ty : TypeId} {pos : String} {after : Array Edge}
variable {μ : Nat → Option Nat} {ok : Nat → Prop} {w : World}

inductive Wk : SV → SV → Prop where
  | refl (x : SV) : Wk x x
  | nil (k : Nat) : Wk (.d .nil) (.d (.sl k []))
  | agg {cs ds : List SV} (h : cs.length = ds.length) (h1 : ∀ (j : Nat) c d, cs[j]? = some c → ds[j]? = some d → Wk c d) : Wk (.agg cs) (.agg ds)
  | tup {cs ds : List SV} (h : cs.length = ds.length) (h1 : ∀ (j : Nat) c d, cs[j]? = some c → ds[j]? = some d → Wk c d) : Wk (.tup cs) (.tup ds)

inductive WkL : List SV → List SV → Prop where
  | nil : WkL [] []
  | cons {x y : SV} {l m : List SV} (h : Wk x y) (t : WkL l m) : WkL (x :: l) (y :: m)

theorem WkL.get {l m : List SV} (h : WkL l m) : l.length = m.length ∧ ∀ (j : Nat) c d, l[j]? = some c → m[j]? = some d → Wk c d := by
  induction h with
  | nil => exact ⟨rfl, by simp⟩
  | cons h t ih =>
    refine ⟨by simp [ih.1], fun j c d hc hd => ?_⟩
    cases j with
    | zero => cases hc; cases hd; exact h
    | succ j => exact ih.2 j c d (by simpa using hc) (by simpa using hd)
theorem Wk.aggL {cs ds : List SV} (h : WkL cs ds) : Wk (.agg cs) (.agg ds) := .agg h.get.1 h.get.2
theorem Wk.tupL {cs ds : List SV} (h : WkL cs ds) : Wk (.tup cs) (.tup ds) := .tup h.get.1 h.get.2
theorem Cv.aggL {hp : List (Nat × Blk)} {lend : List Nat} {cs ds : List SV} (h : CvL hp lend cs ds) : Cv hp lend (.agg cs) (.agg ds) := .agg h.get.1 h.get.2

theorem Wk.den {x y : SV} (h : Wk x y) : ∀ {u : Value}, Den μ ok w x u → Den μ ok w y u := by
  induction h with
  | refl x => exact fun h => h
  | nil k => intro u hu; rw [hu.nil']; exact .d (.slNil k)
  | agg h h1 ih =>
    intro u hu
    cases hu with | agg vs g1 g2 =>
    refine .agg vs (by omega) fun j c v hc hv => ?_
    rename_i cs ds
    have hj : j < cs.length := by rw [h]; exact (List.getElem?_eq_some_iff.1 hc).1
    exact ih j cs[j] c (by simp [hj]) hc (g2 j _ v (by simp [hj]) hv)
  | tup h h1 ih =>
    intro u hu
    cases hu with | tup vs g1 g2 =>
    refine .tup vs (by omega) fun j c v hc hv => ?_
    rename_i cs ds
    have hj : j < cs.length := by rw [h]; exact (List.getElem?_eq_some_iff.1 hc).1
    exact ih j cs[j] c (by simp [hj]) hc (g2 j _ v (by simp [hj]) hv)

theorem AWP.retW (e : Env cx P fn lo) (hT : TabOk P T) {r r' : SV} (h : aret T ⟨tm, hp, nx⟩ fn.results.toList = some r) (hw : Wk r r') (hp' : cx.Post r' hp nx) : AWP cx (.code .ret :: k) ⟨tm, hp, nx⟩ := fun a w hi => by
  obtain ⟨rfl, rfl, _, hR⟩ := e
  obtain ⟨μ, ok, hi⟩ := hi.one
  obtain ⟨y, h1, h2⟩ := aret_ok hT hi h
  exact wp_ret (K_ret _ _ _ _ _ (hR _ _ _ ⟨.inr rfl, hi.defers, μ, ok, r', hp, nx, y, hi.heap, h1, hw.den h2, hp'⟩))

theorem AWP.weakT (t : Nat) {x x' : SV} (h : aget t tm = some x) (hw : Wk x x') (g : AWP cx k ⟨(t, x') :: tm, hp, nx⟩) : AWP cx k ⟨tm, hp, nx⟩ := fun a w hi => by
  obtain ⟨μ, ok, hi⟩ := hi.one
  refine g a w (Inv1.inv (μ := μ) (ok := ok) ⟨hi.defers, hi.size, hi.heap, fun u y hy => ?_⟩)
  simp only [aget_cons] at hy
  by_cases e : u = t
  · rw [if_pos e] at hy
    cases hy
    subst e
    exact hw.den (hi.tmps _ _ h)
  · rw [if_neg e] at hy
    exact hi.tmps u y hy

theorem AWP.weakH (i : Nat) {cs cs' : List SV} (h : aget i hp = some (.box cs)) (hw : WkL cs cs') (g : AWP cx k ⟨tm, (i, .box cs') :: hp, nx⟩) : AWP cx k ⟨tm, hp, nx⟩ := fun a w hi => by
  obtain ⟨μ, ok, hi⟩ := hi.one
  obtain ⟨h1, h2⟩ := hw.get
  have key : ∀ j B, aget j ((i, Blk.box cs') :: hp) = some B → ∃ B0, aget j hp = some B0 ∧ (B = B0 ∨ (B0 = .box cs ∧ B = .box cs')) := fun j B hB => by
    rw [aget_cons] at hB
    by_cases e : j = i
    · rw [if_pos e] at hB; cases hB; subst e; exact ⟨_, h, .inr ⟨rfl, rfl⟩⟩
    · rw [if_neg e] at hB; exact ⟨B, hB, .inl rfl⟩
  refine g a w (Inv1.inv (μ := μ) (ok := ok) ⟨hi.defers, hi.size, ⟨hi.heap.mu, hi.heap.fresh, hi.heap.sub, hi.heap.lt, hi.heap.okNew, fun j B hB => ?_, fun j l B C b hB hC h3 h4 => ?_, hi.heap.frame, hi.heap.size, hi.heap.os, hi.heap.tape, hi.heap.output⟩, hi.tmps⟩)
  · obtain ⟨B0, e1, e2⟩ := key j B hB
    obtain hg | ⟨b, g1, g2, g3, g4, g5⟩ := hi.heap.own j B0 e1
    · rcases e2 with rfl | ⟨rfl, rfl⟩
      · exact .inl hg
      · exact hg.1.elim
    · refine .inr ⟨b, g1, g2, g3, g4, ?_⟩
      rcases e2 with rfl | ⟨rfl, rfl⟩
      · exact g5
      · obtain ⟨C, T, z, r1, r2, r3, r4⟩ := g5
        refine ⟨C, T, z, r1, r2, by omega, fun q x u hx hu => ?_⟩
        have hq : q < cs.length := by rw [h1]; exact (List.getElem?_eq_some_iff.1 hx).1
        exact (h2 q cs[q] x (by simp [hq]) hx).den (r4 q _ u (by simp [hq]) hu)
  · obtain ⟨B0, e1, _⟩ := key j B hB
    obtain ⟨C0, e2, _⟩ := key l C hC
    exact hi.heap.inj j l B0 C0 b e1 e2 h3 h4

/-- A cell of a variable that holds nil: a row of its own, as yet empty. -/
theorem AWP.nilB (i j : Nat) {cs : List SV} (te : TypeId) (m : Nat) (h : aget i hp = some (.box cs)) (hj : cs[j]? = some (.d .nil)) (g : AWP cx k ⟨tm, (i, .box (cs.set j (.own nx m 0 0 0))) :: (nx, .row te false m [] 0) :: hp, Nat.succ nx⟩) : AWP cx k ⟨tm, hp, nx⟩ := fun a w hi => by
  obtain ⟨μ, ok, hi⟩ := hi.one
  have h3 := hi.ghost te false m
  have hin : i ≠ nx := fun e => by
    obtain ⟨hg, _⟩ | ⟨b, hb, _⟩ := hi.heap.own i _ h
    · exact hg.elim
    · rw [e, hi.heap.fresh nx (Nat.le_refl _)] at hb; cases hb
  have h4 : aget i ((nx, Blk.row te false m [] 0) :: hp) = some (.box cs) := by rw [aget_cons, if_neg hin]; exact h
  have key : ∀ q B, aget q ((i, Blk.box (cs.set j (.own nx m 0 0 0))) :: (nx, .row te false m [] 0) :: hp) = some B → ∃ B0, aget q ((nx, Blk.row te false m [] 0) :: hp) = some B0 ∧ (B = B0 ∨ (B0 = .box cs ∧ B = .box (cs.set j (.own nx m 0 0 0)))) := fun q B hB => by
    rw [aget_cons] at hB
    by_cases e : q = i
    · rw [if_pos e] at hB; cases hB; subst e; exact ⟨_, h4, .inr ⟨rfl, rfl⟩⟩
    · rw [if_neg e] at hB; exact ⟨B, hB, .inl rfl⟩
  refine g a w (Inv1.inv (μ := μ) (ok := ok) ⟨h3.defers, h3.size, ⟨h3.heap.mu, h3.heap.fresh, h3.heap.sub, h3.heap.lt, h3.heap.okNew, fun q B hB => ?_, fun q l B C b hB hC e3 e4 => ?_, h3.heap.frame, h3.heap.size, h3.heap.os, h3.heap.tape, h3.heap.output⟩, h3.tmps⟩)
  · obtain ⟨B0, e1, e2⟩ := key q B hB
    obtain hg | ⟨b, g1, g2, g3, g4, g5⟩ := h3.heap.own q B0 e1
    · rcases e2 with rfl | ⟨rfl, rfl⟩
      · exact .inl hg
      · exact hg.1.elim
    · refine .inr ⟨b, g1, g2, g3, g4, ?_⟩
      rcases e2 with rfl | ⟨rfl, rfl⟩
      · exact g5
      · obtain ⟨C, T, z, r1, r2, r3, r4⟩ := g5
        refine ⟨C, T, z, r1, r2, by simpa using r3, fun p x u hx hu => ?_⟩
        rw [List.getElem?_set] at hx
        split at hx
        · rename_i hjp
          split at hx
          · cases hx
            subst hjp
            rw [(r4 j _ u hj hu).nil']
            exact .ownNil _ _ _ _
          · cases hx
        · exact r4 p x u hx hu
  · obtain ⟨B0, e1, _⟩ := key q B hB
    obtain ⟨C0, e2, _⟩ := key l C hC
    exact h3.heap.inj q l B0 C0 b e1 e2 e3 e4

def slLen : SV → Nat
  | .d (.sl _ xs) => xs.length
  | .own _ _ _ n _ => n
  | _ => 0

theorem isSl_nil {x : SV} {u : Value} (h : Den μ ok w x u) (hs : isSl x = true) : ∃ a n c, u = .slice a n c ∧ (a = none → slLen x = 0) := by
  unfold isSl at hs
  split at hs <;> first | (cases hs; done) | skip
  · exact ⟨_, _, _, h.nil', fun _ => rfl⟩
  · cases h with | d h =>
    rcases slOf h with ⟨rfl, rfl⟩ | ⟨a, c, rfl, _⟩
    · exact ⟨_, _, _, rfl, fun _ => rfl⟩
    · exact ⟨_, _, _, rfl, fun h => by cases h⟩
  · cases h with
    | own h h1 h2 => exact ⟨_, _, _, rfl, fun h => by cases h⟩
    | ownNil a _ _ _ => exact ⟨_, _, _, rfl, fun _ => rfl⟩

/-- A slice that is compared with nil, and may be either. -/
theorem AWP.nilq (e : Env cx P fn lo) (hT : TabOk P T) {op : BinOp} {t t' : TypeId} {x y : Operand} {sx : SV} {y0 : Ty} (v : Bool) (hd : Nat.blt d fn.ntmps = true) (h1 : opd ⟨tm, hp, nx⟩ x = some sx) (hs : isSl sx = true) (h2 : opd ⟨tm, hp, nx⟩ y = some (.d .nil)) (ht : aget t T = some y0) (hsl : (match y0.td with | .slice _ => true | _ => false) = true) (hop : (op = .eql ∧ v = true) ∨ (op = .neq ∧ v = false))
    (g : ∀ b, (b = v → slLen sx = 0) → AWP cx (.ops all rest :: k) ⟨(d, .b b) :: tm, hp, nx⟩) : AWP cx (.ops all (⟨some d, .binOp op t x y t', ty, pos, after, none⟩ :: rest) :: k) ⟨tm, hp, nx⟩ := by
  obtain ⟨rfl, rfl, _⟩ := e
  refine AWP.op rfl fun a w hi => ?_
  obtain ⟨μ, ok, hi⟩ := hi.one
  obtain ⟨a0, n, c, hu, hnil⟩ := isSl_nil (opd_den hi.tmps h1) hs
  have hy := (opd_den hi.tmps h2).nil'
  have hb : ∃ te, cx.P.underlying t = some (.slice te) := by
    have := (hT _ _ ht).td
    cases htd : y0.td <;> rw [htd] at hsl this <;> first | (cases hsl; done) | exact ⟨_, this⟩
  obtain ⟨te, hb⟩ := hb
  have hgd : (eqGuard op t x y (.slice a0 n c) (.slice none 0 0)).run cx.P w = .ok () w := run_eqGuard_none op t x y _ _ (by intro cs; simp) (by simp)
  have hrun : ∃ b, (b = v → slLen sx = 0) ∧ (execOp a.eval ⟨some d, .binOp op t x y t', ty, pos, after, none⟩).run cx.P w = .ok (.value (.bool b)) w := by
    rcases hop with ⟨rfl, rfl⟩ | ⟨rfl, rfl⟩
    · refine ⟨a0.isNone, fun h => hnil (by simpa using h), by simp only [execOp, hu, hy, Sem.run_bind, hgd, Result.andThen_ok, Lib.run_eql_slice_nil w t te a0 n c 0 0 hb, Sem.run_pure]⟩
    · refine ⟨!a0.isNone, fun h => hnil (by simpa using h), by simp only [execOp, hu, hy, Sem.run_bind, hgd, Result.andThen_ok, run_neq_slice_nil_any w t te a0 n c 0 0 hb, Sem.run_pure]⟩
  obtain ⟨b, hbv, hrun⟩ := hrun
  rw [hrun, Oper.upon_value]
  exact g b hbv _ _ (hi.put (Nat.le_of_ble_eq_true hd) (.d (.v _))).inv

theorem CallQ.mkV {P : Program} {f : FuncId} {xs cs : List SV} {r : SV} {G : SV → Prop} (hE : Eff P f cs [] 0 (fun r' _ _ => r' = r)) (hcv : ∀ hp, CvL hp [] xs cs) (hno : SV.noIds.go cs = true) (hr : SV.noIds r = true) (g : G r) : CallQ P f xs G :=
  ⟨cs, _, hE, hcv, hno, fun _ _ _ h => by subst h; exact ⟨hr, g⟩⟩
theorem CallVQ.mkV {P : Program} {f : FuncId} {xs cs : List SV} {r : SV} {G : SV → Prop} (hE : Eff P f cs [] 0 (fun r' _ _ => r' = r)) (hcv : ∀ hp, CvL hp [] xs cs) (hno : SV.noIds.go cs = true) (hr : SV.noIds r = true) (g : G r) : CallVQ P f xs G := ⟨r, ⟨cs, hE, hcv, hno, hr⟩, g⟩

end
end Go.Sy

/-
  SYMBOLIC STATES, over any program, part 32: a row that is written no more, all of it, wherever it is held.
-/
namespace Go.Sy
open Go.RowKit

section
variable {cx : Cx} {P : Program} {fn : Func} {lo : Nat} {T : Tab} {k : List It} {s : St} {tm : List (Nat × SV)} {hp : List (Nat × Blk)} {nx : Nat}
variable {all : Array Oper} {rest : List Oper} {d : Nat} {ty : TypeId} {pos : String} {after : Array Edge}
variable {μ : Nat → Option Nat} {ok : Nat → Prop} {w : World}

def frzF (id : Nat) (ys : List (List DV)) : SV → SV
  | .own i k lo n C => bif Nat.beq i id then .d (.sl k ys) else .own i k lo n C
  | .agg cs => go id ys cs fun l => .agg l
  | .tup cs => go id ys cs fun l => .tup l
  | .fn f a b => go id ys a fun l => go id ys b fun m => .fn f l m
  | x => x
where go (id : Nat) (ys : List (List DV)) : List SV → (List SV → SV) → SV
  | [], k => k []
  | x :: l, k => go id ys l fun m => k (frzF id ys x :: m)

theorem frzF_go (id : Nat) (ys : List (List DV)) (l : List SV) (k : List SV → SV) : frzF.go id ys l k = k (l.map (frzF id ys)) := by
  induction l generalizing k with
  | nil => rfl
  | cons x l ih => simp only [frzF.go, ih, List.map_cons]

def lenF (id m n : Nat) : SV → Prop
  | .own i k lo q _ => i = id → k = m ∧ lo = 0 ∧ q = n
  | .agg cs => go id m n cs
  | .tup cs => go id m n cs
  | .fn _ a b => go id m n a ∧ go id m n b
  | _ => True
where go (id m n : Nat) : List SV → Prop
  | [] => True
  | x :: l => lenF id m n x ∧ go id m n l

theorem lenF_go {id m n : Nat} : ∀ {l : List SV}, lenF.go id m n l → ∀ (j : Nat) c, l[j]? = some c → lenF id m n c
  | [], _, j, c, h => by simp at h
  | x :: l, hl, j, c, h => by
    cases j with
    | zero => cases h; exact hl.1
    | succ j => exact lenF_go hl.2 j c (by simpa using h)

theorem frzF_den {ok' : Nat → Prop} {id m C0 : Nat} {te : TypeId} {fz : Bool} {ys : List (List DV)} (hh : ∀ i B, aget i hp = some B → (B.ghost ∧ μ i = none) ∨ ∃ b, μ i = some b ∧ ¬ ok b ∧ DenB μ ok w b B) (hok : ∀ b, ok b → ok' b)
    (hrow : aget id hp = some (.row te fz m (ys.map (·.map SV.d)) C0)) (hid : ∀ b, μ id = some b → ok' b) {x : SV} {y : Value} (h : Den μ ok w x y) : lenF id m ys.length x → Den μ ok' w (frzF id ys x) y := by
  have keep : ∀ {z : SV} {v : Value}, Den μ ok w z v → Den μ ok' w z v := fun h => h.mono (fun _ _ h => h) hok (fun _ _ => rfl)
  have many : ∀ {cs : List SV} {vs : Array Value}, (∀ (j : Nat) c u, cs[j]? = some c → vs[j]? = some u → lenF id m ys.length c → Den μ ok' w (frzF id ys c) u) → lenF.go id m ys.length cs → ∀ (j : Nat) c u, (cs.map (frzF id ys))[j]? = some c → vs[j]? = some u → Den μ ok' w c u := by
    intro cs vs h hl j c u hc hu
    rw [List.getElem?_map] at hc
    cases e : cs[j]? with
    | none => rw [e] at hc; cases hc
    | some c0 => rw [e] at hc; cases hc; exact h j c0 u e hu (lenF_go hl j c0 e)
  have own : ∀ {i k lo n C : Nat} {v : Value}, Den μ ok w (.own i k lo n C) v → lenF id m ys.length (.own i k lo n C) → Den μ ok' w (frzF id ys (.own i k lo n C)) v := by
    intro i k lo n C v hd hl
    simp only [frzF]
    by_cases e : i = id
    · subst e
      simp only [Nat.beq_refl, cond_true]
      obtain ⟨rfl, rfl, rfl⟩ := hl rfl
      have := Cv.den (lend := [i]) (ok' := ok') hh hok (fun j hj B hB b hb => by simp at hj; subst hj; exact hid b hb) (.own (lo := 0) (n := ys.length) (C := C) hrow (by simp) (by omega)) hd
      rwa [List.drop_zero, List.take_length] at this
    · rw [beq_ne e]
      exact keep hd
  induction h with
  | own h h1 h2 => exact own (.own h h1 h2)
  | ownNil a id k lo => exact own (.ownNil a id k lo)
  | agg vs h h1 ih => intro hl; simp only [frzF, frzF_go]; exact .agg vs (by simpa using h) (many ih hl)
  | tup vs h h1 ih => intro hl; simp only [frzF, frzF_go]; exact .tup vs (by simpa using h) (many ih hl)
  | fn vs us h h1 h2 h3 ih1 ih2 => intro hl; simp only [frzF, frzF_go]; exact .fn vs us (by simpa using h) (many ih1 hl.1) (by simpa using h2) (many ih2 hl.2)
  | d h => exact fun _ => .d (h.mono hok (fun _ _ => rfl))
  | ptr h => exact fun _ => .ptr h
  | pel h => exact fun _ => .pel h
  | ip a h4 => exact fun _ => keep (.ip a h4)
  | lit b => exact fun _ => .lit b

def frzFT (id : Nat) (ys : List (List DV)) : List (Nat × SV) → Option (List (Nat × SV))
  | [] => some []
  | (t, x) :: l => match frzFT id ys l with
    | some r => forceK (frzF id ys x) fun x => some ((t, x) :: r)
    | none => none

theorem frzFT_get (id : Nat) (ys : List (List DV)) : ∀ (l r : List (Nat × SV)), frzFT id ys l = some r → ∀ t x, aget t r = some x → ∃ y, aget t l = some y ∧ x = frzF id ys y := by
  intro l
  induction l with
  | nil => intro r h t x hx; simp [frzFT] at h; subst h; simp [aget] at hx
  | cons p l ih =>
    obtain ⟨u, y⟩ := p
    intro r h t x hx
    simp only [frzFT, forceK_eq] at h
    cases e : frzFT id ys l with
    | none => rw [e] at h; cases h
    | some r1 =>
      rw [e] at h
      cases h
      rw [aget_cons] at hx ⊢
      by_cases ht : t = u
      · rw [if_pos ht] at hx ⊢
        cases hx
        exact ⟨y, rfl, rfl⟩
      · rw [if_neg ht] at hx ⊢
        exact ih r1 e t x hx

def frzFH (id : Nat) (ys : List (List DV)) : List (Nat × Blk) → Option (List (Nat × Blk))
  | [] => some []
  | (i, B) :: l => match frzFH id ys l with
    | some r => bif Nat.beq i id then some r else (match B with
      | .box cs => mapK (frzF id ys) cs fun cs => some ((i, .box cs) :: r)
      | .row e fz k xs C => some ((i, .row e fz k xs C) :: r))
    | none => none

theorem frzFH_get (id : Nat) (ys : List (List DV)) : ∀ (l r : List (Nat × Blk)), frzFH id ys l = some r → ∀ i B, aget i r = some B → i ≠ id ∧ ∃ B0, aget i l = some B0 ∧ ((∃ cs, B0 = .box cs ∧ B = .box (cs.map (frzF id ys))) ∨ B = B0) := by
  intro l
  induction l with
  | nil => intro r h t x hx; simp [frzFH] at h; subst h; simp [aget] at hx
  | cons p l ih =>
    obtain ⟨u, C⟩ := p
    intro r h i B hB
    simp only [frzFH] at h
    cases e : frzFH id ys l with
    | none => rw [e] at h; cases h
    | some r1 =>
      rw [e] at h
      simp only at h
      by_cases hu : u = id
      · subst hu
        simp only [Nat.beq_refl, cond_true, Option.some.injEq] at h
        subst h
        obtain ⟨h1, B0, h2, h3⟩ := ih r1 e i B hB
        exact ⟨h1, B0, by rw [aget_cons, if_neg h1]; exact h2, h3⟩
      · rw [beq_ne hu] at h
        simp only [cond_false] at h
        have key : ∃ C', r = (u, C') :: r1 ∧ ((∃ cs, C = .box cs ∧ C' = .box (cs.map (frzF id ys))) ∨ C' = C) := by
          cases C with
          | box cs => simp only [mapK_eq, Option.some.injEq] at h; exact ⟨_, h.symm, .inl ⟨cs, rfl, rfl⟩⟩
          | row e fz k xs C => simp only [Option.some.injEq] at h; exact ⟨_, h.symm, .inr rfl⟩
        obtain ⟨C', rfl, hC⟩ := key
        rw [aget_cons] at hB
        by_cases hi : i = u
        · rw [if_pos hi] at hB
          cases hB
          subst hi
          exact ⟨hu, C, by rw [aget_cons, if_pos rfl], hC⟩
        · rw [if_neg hi] at hB
          obtain ⟨h1, B0, h2, h3⟩ := ih r1 e i B hB
          exact ⟨h1, B0, by rw [aget_cons, if_neg hi]; exact h2, h3⟩

def lenFT (id m n : Nat) : List (Nat × SV) → Prop
  | [] => True
  | (_, x) :: l => lenF id m n x ∧ lenFT id m n l
def lenFH (id m n : Nat) : List (Nat × Blk) → Prop
  | [] => True
  | (_, .box cs) :: l => lenF.go id m n cs ∧ lenFH id m n l
  | _ :: l => lenFH id m n l

theorem lenFT_get {id m n : Nat} : ∀ {l : List (Nat × SV)}, lenFT id m n l → ∀ t x, aget t l = some x → lenF id m n x
  | [], _, t, x, h => by simp [aget] at h
  | (u, y) :: l, hl, t, x, h => by
    rw [aget_cons] at h
    by_cases e : t = u
    · rw [if_pos e] at h; cases h; exact hl.1
    · rw [if_neg e] at h; exact lenFT_get hl.2 t x h
theorem lenFH_get {id m n : Nat} : ∀ {l : List (Nat × Blk)}, lenFH id m n l → ∀ t cs, aget t l = some (.box cs) → lenF.go id m n cs
  | [], _, t, x, h => by simp [aget] at h
  | (u, y) :: l, hl, t, x, h => by
    rw [aget_cons] at h
    by_cases e : t = u
    · rw [if_pos e] at h; cases h; exact hl.1
    · rw [if_neg e] at h
      refine lenFH_get (l := l) ?_ t x h
      cases y with
      | box cs => exact hl.2
      | row _ _ _ _ _ => exact hl

/-- The row is from here on only read, wherever it is held. -/
theorem AWP.freezeF {id m C : Nat} {te : TypeId} {fz : Bool} {xs : List (List SV)} (ys : List (List DV)) (hrow : aget id hp = some (.row te fz m xs C)) (hxs : xs = ys.map (·.map SV.d)) {tm' : List (Nat × SV)} {hp' : List (Nat × Blk)} (hT : frzFT id ys tm = some tm') (hH : frzFH id ys hp = some hp')
    (hl1 : lenFT id m ys.length tm) (hl2 : lenFH id m ys.length hp) (g : AWP cx k ⟨tm', hp', nx⟩) : AWP cx k ⟨tm, hp, nx⟩ := fun a w hi => by
  subst hxs
  obtain ⟨μ, ok, hi⟩ := hi.one
  let ok' : Nat → Prop := fun b => ok b ∨ μ id = some b
  have hsub : ∀ b, ok b → ok' b := fun b h => .inl h
  have hid := hi.heap.own id _ hrow
  have hH' := frzFH_get id ys hp hp' hH
  have hden : ∀ {x : SV} {y : Value}, Den μ ok w x y → lenF id m ys.length x → Den μ ok' w (frzF id ys x) y := fun h hl => frzF_den hi.hh hsub hrow (fun b hb => .inr hb) h hl
  refine g a w (Inv1.inv (μ := μ) (ok := ok') ⟨hi.defers, hi.size, ⟨hi.heap.mu, hi.heap.fresh, fun b h => .inl (hi.heap.sub b h), fun b hb => ?_, fun b hb => ?_, fun i B hB => ?_, fun i j C D q hC hD hi' hj' => ?_, hi.heap.frame, hi.heap.size, hi.heap.os, hi.heap.tape, hi.heap.output⟩, fun t x hx => ?_⟩)
  · rcases hb with hb | hb
    · exact hi.heap.lt b hb
    · obtain ⟨_, hn⟩ | ⟨b', h1, h2, _⟩ := hid
      · rw [hn] at hb; cases hb
      · rw [hb] at h1; cases h1; exact h2
  · rcases hb with hb | hb
    · exact hi.heap.okNew b hb
    · obtain ⟨_, hn⟩ | ⟨b', h1, _, _, h4, _⟩ := hid
      · rw [hn] at hb; cases hb
      · rw [hb] at h1; cases h1; exact .inr h4
  · obtain ⟨e1, B0, e2, e3⟩ := hH' i B hB
    obtain ⟨q1, q2⟩ | ⟨c, q1, q2, q3, q4, q5⟩ := hi.heap.own i B0 e2
    · refine .inl ⟨?_, q2⟩
      rcases e3 with ⟨cs, rfl, rfl⟩ | rfl
      · exact q1.elim
      · exact q1
    · refine .inr ⟨c, q1, q2, ?_, q4, ?_⟩
      · rintro (hc | hc)
        · exact q3 hc
        · exact e1 (hi.heap.inj i id B0 _ c e2 hrow q1 hc)
      · rcases e3 with ⟨cs', rfl, rfl⟩ | rfl
        · obtain ⟨C, T, z, r1, r2, r3, r4⟩ := q5
          refine ⟨C, T, z, r1, r2, by simpa using r3, fun j x u hx hu => ?_⟩
          rw [List.getElem?_map] at hx
          cases e : cs'[j]? with
          | none => rw [e] at hx; cases hx
          | some x0 => rw [e] at hx; cases hx; exact hden (r4 j x0 u e hu) (lenF_go (lenFH_get hl2 i cs' e2) j x0 e)
        · exact q5.mono (fun _ _ h => h) hsub (fun _ _ => rfl) rfl
  · obtain ⟨_, C0, c1, _⟩ := hH' i C hC
    obtain ⟨_, D0, c2, _⟩ := hH' j D hD
    exact hi.heap.inj i j C0 D0 q c1 c2 hi' hj'
  · obtain ⟨y, q1, rfl⟩ := frzFT_get id ys tm tm' hT t x hx
    exact hden (hi.tmps t y q1) (lenFT_get hl1 t y q1)

end
end Go.Sy

/-
  SYMBOLIC STATES, over any program, part 33: slices by three numbers and an append without room, in a region that draws its order.
-/
namespace Go.Sy
open Go.RowKit

section
variable {cx : Cx} {P : Program} {fn : Func} {lo : Nat} {T : Tab} {k : List It} {tm : List (Nat × SV)} {hp : List (Nat × Blk)} {nx M : Nat} {all : Array Oper} {id : Nat} {R : Caps → List Rec}
variable {d q : Nat} {rest : List Oper} {ty : TypeId} {pos : String} {after : Array Edge}

/-- A slice of a row of one's own, told by three numbers. -/
theorem VStep.slice3 (e : Env cx P fn lo) (hT : TabOk P T) {t te : TypeId} {m0 : Nat} {x ol oh om : Operand} {id q n C : Nat} {kl kh km : IntKind} {l h m : Int} (hd : Nat.blt d fn.ntmps = true) (h1 : opd ⟨tm, hp, nx⟩ x = some (.own id m0 q n C)) (h3 : tySl T t = some (te, m0))
    (hl : opd ⟨tm, hp, nx⟩ ol = some (.d (.v (.int kl l)))) (hh : opd ⟨tm, hp, nx⟩ oh = some (.d (.v (.int kh h)))) (hm : opd ⟨tm, hp, nx⟩ om = some (.d (.v (.int km m)))) (l' h' m' : Nat) (el : l = l') (eh : h = h') (em : m = m')
    (p1 : l' ≤ h') (p2 : h' ≤ m') (p3 : m' ≤ n) : VStep cx all hp nx ⟨some d, .slice t x (some ol) (some oh) (some om), ty, pos, after, none⟩ tm d (.own id m0 (q + l') (h' - l') (q + m')) := by
  intro tm' k ha g
  exact AWP.slice3 e hT hd ((opd_eq fun u hu => ha u (looks_ops (by simp [Op.operands]) hu)).trans h1) h3 ((opd_eq fun u hu => ha u (looks_ops (by simp [Op.operands]) hu)).trans hl) ((opd_eq fun u hu => ha u (looks_ops (by simp [Op.operands]) hu)).trans hh) ((opd_eq fun u hu => ha u (looks_ops (by simp [Op.operands]) hu)).trans hm) l' h' m' el eh em p1 p2 p3 g

/-- APPEND to a row that has no room more, in a region that draws its order. -/
theorem DrC.appendN (N : Nat) (e : Env cx P fn lo) (hT : TabOk P T) {s0 sx : Operand} {t te : TypeId} {y : Ty} {i m o n C C0 : Nat} {xs ys : List (List SV)} {i2 n2 : Nat} {C2f C2r : Caps → Nat} {fz fz2 : Bool} {te2 : TypeId} (hd : Nat.blt d fn.ntmps = true) (h1 : ∀ c, opd ⟨tmS (R c) tm, [], 0⟩ s0 = some (.own i m o n C)) (h2 : ∀ c, opd ⟨tmS (R c) tm, [], 0⟩ sx = some (.own i2 m 0 n2 (C2f c)))
    (hrow : ∀ c, aget i (hpS (R c) hp) = some (.row te fz m xs C0)) (ht : tySl T t = some (te, m)) (hy : aget te T = some y) (hrow2 : ∀ c, aget i2 (hpS (R c) hp) = some (.row te2 fz2 m ys (C2r c))) (hn2 : n2 = ys.length) (hC : C = o + n) (hn : o + n ≤ xs.length) (hne : 0 < ys.length) (hb : (n + ys.length) * y.bytes ≤ 140737488355328) (hsz : n + ys.length ≤ 9223372036854775807)
    (hN : Nat.blt N M = true) (hlo : Nat.ble lo N = true) (hok : ∀ e ∈ (xs.drop o).take n ++ ys, SV.idsLt.go 0 e = true)
    (h : DrC cx all id k tm hp nx M (Nat.succ q) rest fun c => ⟨q, some d, .own N m 0 (n + ys.length) (c q), [i, i2], [(N, some (.row te false m ((xs.drop o).take n ++ ys) (c q)))], [N]⟩ :: R c) :
    DrC cx all id k tm hp nx M q (⟨some d, .call ⟨.builtin .append, #[s0, sx], #[t, t]⟩, ty, pos, after, none⟩ :: rest) R := by
  have hN' := Nat.le_of_ble_eq_true hN
  refine DrC.app (d := some d) (x := fun _ C => .own N m 0 (n + ys.length) C) (rds := fun c => [(i, .row te fz m xs C0), (i2, .row te2 fz2 m ys (C2r c))]) (eff := fun _ C => [(N, some (.row te false m ((xs.drop o).take n ++ ys) C))]) (nw := [N]) (rd := [i, i2]) (fun t ht => ht) (fun c p hp => by simp only [List.mem_cons, List.not_mem_nil, or_false] at hp; rcases hp with rfl | rfl <;> first | exact hrow c | exact hrow2 c) (fun _ => rfl)
    (fun _ _ => hN) (fun _ _ => ⟨⟨hN, hok⟩, trivial⟩) (fun c tm' hp' k a1 a2 a3 a4 g => ?_) (fun _ _ => ⟨rfl, rfl⟩) h
  obtain ⟨rfl, rfl, e3, e4⟩ := e
  have hb' := a2 (i, .row te fz m xs C0) (by simp)
  have h1' : opd ⟨tm', hp', M⟩ s0 = some (.own i m o n C) := ((opd_eq fun u hu => a1 u (looks_ops (by simp [Op.operands, Call.operands]) hu)).trans (opd_heap _)).trans (h1 c)
  have hb2 := a2 (i2, .row te2 fz2 m ys (C2r c)) (by simp)
  have h2' : opd ⟨tm', hp', M⟩ sx = some (.own i2 m 0 n2 (C2f c)) := ((opd_eq fun u hu => a1 u (looks_ops (by simp [Op.operands, Call.operands]) hu)).trans (opd_heap _)).trans (h2 c)
  refine AWP.append_new ⟨rfl, rfl, e3, e4⟩ hT hd h1' h2' hb' ht hy (.own hb2 hn2) hC hn hne hb hsz fun C2 _ => ?_
  refine AWP.ext (tm2 := tput (some d) (.own M m 0 (n + ys.length) C2) tm') (hp2 := effH [(M, some (.row te false m ((xs.drop o).take n ++ ys) C2))] hp') (fun t => rfl) (fun j => ?_) ?_
  · rw [aget_effH, aget_cons, aget_cons]
    by_cases hj : j = M <;> simp [hj, aget]
  · refine AWP.newName ⟨rfl, rfl, e3, e4⟩ (N := N) (d := some d) (x := .own N m 0 (n + ys.length) C2) (x1 := .own M m 0 (n + ys.length) C2) (eff := [(N, some (.row te false m ((xs.drop o).take n ++ ys) C2))]) (eff1 := [(M, some (.row te false m ((xs.drop o).take n ++ ys) C2))]) hN' (Nat.le_of_ble_eq_true hlo) ?_ hN a3 (a4 N (by simp)) (fun j hj => ?_) ⟨⟨hN, hok⟩, trivial⟩ (g C2)
    · simp [renS, renI, aget, Nat.beq_refl]
    · unfold renI
      simp only [aget]
      by_cases h : j = N
      · subst h
        simp [Nat.beq_refl, renB]
      · simp only [beq_ne h, cond_false]
        rw [beq_ne (by omega)]
        rfl

end
end Go.Sy

/-
  SYMBOLIC STATES, over any program, part 34: loads and stores at a place that is told by a fact; a slot's value put in another form.
-/
namespace Go.Sy
open Go.RowKit
section
variable {cx : Cx} {P : Program} {fn : Func} {lo : Nat} {T : Tab} {k : List It} {tm : List (Nat × SV)} {hp : List (Nat × Blk)} {nx M : Nat} {all : Array Oper} {id : Nat} {R : Caps → List Rec}
variable {d q : Nat} {rest : List Oper} {ty : TypeId} {pos : String} {after : Array Edge}

/-- A slot's value, told in another form. -/
theorem AWP.eqT (t : Nat) {x : SV} (x' : SV) (h : aget t tm = some x) (hx : x = x') (g : AWP cx k ⟨(t, x') :: tm, hp, nx⟩) : AWP cx k ⟨tm, hp, nx⟩ :=
  AWP.weakT t h (hx ▸ Wk.refl _) g

/-- A variable's cells, told in another form. -/
theorem AWP.eqH (i : Nat) {cs : List SV} (cs' : List SV) (h : aget i hp = some (.box cs)) (hx : cs = cs') (g : AWP cx k ⟨tm, (i, .box cs') :: hp, nx⟩) : AWP cx k ⟨tm, hp, nx⟩ := by
  subst hx
  refine AWP.ext (tm2 := tm) (hp2 := (i, .box cs) :: hp) (fun _ => rfl) (fun j => ?_) g
  rw [aget_cons]
  by_cases e : j = i
  · rw [if_pos e, e, h]
  · rw [if_neg e]

theorem part1_one {cs : List SV} {j : Nat} {v : SV} (h : cs[j]? = some v) : part1 false 1 j cs = .val v True := by
  unfold part1
  rw [nth_eq, h]

/-- An element of an array in a variable, at a place that no number tells. -/
theorem AWP.idx_pel (e : Env cx P fn lo) (hT : TabOk P T) {t te : TypeId} {x ix : Operand} {len : Nat} {kk : IntKind} {i : Int} {id j : Nat} {y : Ty} (hd : Nat.blt d fn.ntmps = true) (h1 : opd ⟨tm, hp, nx⟩ x = some (.ptr id j)) (h2 : opd ⟨tm, hp, nx⟩ ix = some (.d (.v (.int kk i))))
    (h3 : tyArr T t = some (len, te)) (hy : aget te T = some y) (n : Nat) (hi : i = n) (hn : n < len) (g : AWP cx (.ops all rest :: k) ⟨(d, .pel id y.size n j) :: tm, hp, nx⟩) :
    AWP cx (.ops all (⟨some d, .indexAddr t x ix, ty, pos, after, none⟩ :: rest) :: k) ⟨tm, hp, nx⟩ := by
  refine AWP.op_run e (Nat.le_of_ble_eq_true hd) (fun μ ok a w hI => ?_) g
  have hx := opd_den hI.tmps h1
  have hix := (opd_den hI.tmps h2).int
  subst hi
  generalize hvx : a.eval x = u at hx
  cases hx with | ptr hb =>
  refine ⟨_, ?_, .pel hb⟩
  simp only [execOp, hvx, hix, Sem.run_bind, run_indexAt_arr hT h3 hy _ kk n hn, Result.andThen_ok, Sem.run_pure, add_add', Nat.add_comm]

theorem VStep.idx_pel (e : Env cx P fn lo) (hT : TabOk P T) {t te : TypeId} {x ix : Operand} {len : Nat} {kk : IntKind} {i : Int} {id j : Nat} {y : Ty} (hd : Nat.blt d fn.ntmps = true) (h1 : opd ⟨tm, hp, nx⟩ x = some (.ptr id j)) (h2 : opd ⟨tm, hp, nx⟩ ix = some (.d (.v (.int kk i))))
    (h3 : tyArr T t = some (len, te)) (hy : aget te T = some y) (n : Nat) (hi : i = n) (hn : n < len) : VStep cx all hp nx ⟨some d, .indexAddr t x ix, ty, pos, after, none⟩ tm d (.pel id y.size n j) := by
  intro tm' k ha g
  exact AWP.idx_pel e hT hd ((opd_eq fun u hu => ha u (looks_ops (by simp [Op.operands]) hu)).trans h1) ((opd_eq fun u hu => ha u (looks_ops (by simp [Op.operands]) hu)).trans h2) h3 hy n hi hn g

theorem Den.pelPtr {μ : Nat → Option Nat} {ok : Nat → Prop} {w : World} {id m i j : Nat} {v : Value} (h : Den μ ok w (.pel id m i j) v) : Den μ ok w (.ptr id (i * m + j)) v := by
  cases h with | pel hb => exact .ptr hb

/-- A load of one cell of a variable. -/
theorem AWP.load_pel (e : Env cx P fn lo) (hT : TabOk P T) {t : TypeId} {a : Operand} {id m i j : Nat} {cs : List SV} {y : Ty} (v : SV) (hd : Nat.blt d fn.ntmps = true) (h1 : opd ⟨tm, hp, nx⟩ a = some (.pel id m i j)) (h2 : aget t T = some y) (h5 : y.td.agg = false)
    (h3 : aget id hp = some (.box cs)) (h4 : cs[i * m + j]? = some v) (g : AWP cx (.ops all rest :: k) ⟨(d, v) :: tm, hp, nx⟩) :
    AWP cx (.ops all (⟨some d, .load t a, ty, pos, after, none⟩ :: rest) :: k) ⟨tm, hp, nx⟩ := by
  refine AWP.op_run e (Nat.le_of_ble_eq_true hd) (fun μ ok ac w hI => ?_) g
  have hx := (opd_den hI.tmps h1).pelPtr
  have hL := evLoad_ok hT hI.hh t _ _ hx
  have he : evLoad T ⟨tm, hp, nx⟩ t (.ptr id (i * m + j)) = .val v True := by
    simp only [evLoad, h2, h3, h5, (hT _ _ h2).one h5]
    exact part1_one h4
  rw [he] at hL
  obtain ⟨u, r1, r2⟩ := hL trivial
  refine ⟨u, ?_, r2⟩
  simp only [execOp, Sem.run_bind, r1, Result.andThen_ok, Sem.run_pure]

theorem VStep.load_pel (e : Env cx P fn lo) (hT : TabOk P T) {t : TypeId} {a : Operand} {id m i j : Nat} {cs : List SV} {y : Ty} (v : SV) (hd : Nat.blt d fn.ntmps = true) (h1 : opd ⟨tm, hp, nx⟩ a = some (.pel id m i j)) (h2 : aget t T = some y) (h5 : y.td.agg = false)
    (h3 : aget id hp = some (.box cs)) (h4 : cs[i * m + j]? = some v) : VStep cx all hp nx ⟨some d, .load t a, ty, pos, after, none⟩ tm d v := by
  intro tm' k ha g
  exact AWP.load_pel e hT v hd ((opd_eq fun u hu => ha u (looks_ops (by simp [Op.operands]) hu)).trans h1) h2 h5 h3 h4 g

theorem laid_set {x y : SV} : ∀ {cs : List SV} {j : Nat}, cs[j]? = some y → laid j [x] cs = some (cs.set j x)
  | c :: cs, 0, _ => by cases cs <;> rfl
  | c :: cs, j + 1, h => by
    simp only [laid, laid_set (cs := cs) (j := j) (by simpa using h), Option.map_some, List.set_cons_succ]

/-- A store into one cell of a variable. -/
theorem AWP.store_pel (e : Env cx P fn lo) (hT : TabOk P T) {dst : Option Nat} {t : TypeId} {a b : Operand} {id m i j : Nat} {cs cs' : List SV} {y : Ty} {x y0 : SV} (hd : dstOk fn.ntmps dst = true) (h1 : opd ⟨tm, hp, nx⟩ a = some (.pel id m i j)) (hv : opd ⟨tm, hp, nx⟩ b = some x) (h2 : aget t T = some y) (h5 : y.td.agg = false)
    (hc : cellsOf x = some [x]) (hcell : isCell x = true) (h3 : aget id hp = some (.box cs)) (h4 : cs[i * m + j]? = some y0) (hs : cs.set (i * m + j) x = cs') (g : AWP cx (.ops all rest :: k) ⟨tput dst undefS tm, (id, .box cs') :: hp, nx⟩) :
    AWP cx (.ops all (⟨dst, .store t a b, ty, pos, after, none⟩ :: rest) :: k) ⟨tm, hp, nx⟩ := by
  obtain ⟨rfl, rfl, _⟩ := e
  subst hs
  refine AWP.op rfl fun ac w hi => ?_
  obtain ⟨μ, ok, hI⟩ := hi.one
  have hx := (opd_den hI.tmps h1).pelPtr
  have hy := opd_den hI.tmps hv
  have h6 := (hT _ _ h2).one h5
  have he : evStore T ⟨tm, hp, nx⟩ t (.ptr id (i * m + j)) x = .set id (cs.set (i * m + j) x) := by
    simp only [evStore, h2, h3, hc, h6, lenK, allCells, hcell, cond_true, putK_eq, laid_set h4]
    rfl
  obtain ⟨b', w', r1, r2, _, r4, r5, _⟩ := evStore_ok hT hI.hh t _ x _ _ hx hy he
  have hrun : (execOp ac.eval ⟨dst, .store t a b, ty, pos, after, none⟩).run cx.P w = .ok .skip w' := by
    simp only [execOp, Sem.run_bind, r1, Result.andThen_ok, Sem.run_pure]
  rw [hrun, Oper.upon_skip]
  exact g _ _ ((hI.set h3 r2 r4 r5).dput (dstOk_lt hd) (.d (.v _))).inv

theorem idsLt_set {n : Nat} {x : SV} (hx : SV.idsLt n x = true) : ∀ {cs : List SV} {j : Nat}, SV.idsLt.go n cs = true → SV.idsLt.go n (cs.set j x) = true
  | [], _, h => h
  | c :: cs, 0, h => by
    simp only [SV.idsLt.go, Bool.and_eq_true, List.set_cons_zero] at h ⊢
    exact ⟨hx, h.2⟩
  | c :: cs, j + 1, h => by
    simp only [SV.idsLt.go, Bool.and_eq_true, List.set_cons_succ] at h ⊢
    exact ⟨h.1, idsLt_set hx h.2⟩

/-- The same, in a region that draws its order. -/
theorem DrG.store_pel (e : Env cx P fn lo) (hT : TabOk P T) {R : List Rec} {dst : Option Nat} {t : TypeId} {a b : Operand} {i m n j : Nat} {cs cs' : List SV} {y : Ty} {x y0 : SV} (hd : dstOk fn.ntmps dst = true) (h1 : opd ⟨tmS R tm, [], 0⟩ a = some (.pel i m n j)) (hv : opd ⟨tmS R tm, [], 0⟩ b = some x) (h2 : aget t T = some y) (h5 : y.td.agg = false)
    (hc : cellsOf x = some [x]) (hcell : isCell x = true) (h3 : aget i (hpS R hp) = some (.box cs)) (h4 : cs[n * m + j]? = some y0) (hs : cs.set (n * m + j) x = cs') (hx : SV.idsLt.go M cs' = true) (hi : Nat.blt i M = true)
    (h : DrG cx all id k tm hp nx M (Nat.succ q) rest (⟨q, dst, undefS, [i], [(i, some (.box cs'))], []⟩ :: R)) : DrG cx all id k tm hp nx M q (⟨dst, .store t a b, ty, pos, after, none⟩ :: rest) R := by
  subst hs
  refine DrG.step (d := dst) (x := undefS) (eff := [(i, some (.box (cs.set (n * m + j) x)))]) (nw := []) (rds := [(i, .box cs)]) (fun t ht => ht) (fun p hp => by simp only [List.mem_singleton] at hp; subst hp; exact h3) rfl ⟨⟨hi, hx⟩, trivial⟩ (fun tm' hp' k a1 a2 _ _ g => ?_) h
  have h1' : opd ⟨tm', hp', M⟩ a = some (.pel i m n j) := (opd_eq fun u hu => a1 u (looks_ops (by simp [Op.operands]) hu)).trans h1
  have hv' : opd ⟨tm', hp', M⟩ b = some x := (opd_eq fun u hu => a1 u (looks_ops (by simp [Op.operands]) hu)).trans hv
  exact AWP.store_pel e hT hd h1' hv' h2 h5 hc hcell (a2 (i, .box cs) (by simp)) h4 rfl g

/-- An element of an array by value, of one cell each. -/
theorem AWP.idx_at (e : Env cx P fn lo) (hT : TabOk P T) {t te : TypeId} {x ix : Operand} {len : Nat} {kk : IntKind} {i : Int} {cs : List SV} {y : Ty} (v : SV) (hd : Nat.blt d fn.ntmps = true) (h1 : opd ⟨tm, hp, nx⟩ x = some (.agg cs)) (h2 : opd ⟨tm, hp, nx⟩ ix = some (.d (.v (.int kk i))))
    (h3 : tyArr T t = some (len, te)) (hy : aget te T = some y) (h5 : y.td.agg = false) (n : Nat) (hi : i = n) (hn : n < len) (hv : cs[n]? = some v) (g : AWP cx (.ops all rest :: k) ⟨(d, v) :: tm, hp, nx⟩) :
    AWP cx (.ops all (⟨some d, .index t x ix, ty, pos, after, none⟩ :: rest) :: k) ⟨tm, hp, nx⟩ := by
  refine AWP.idx_agg e hT hd h1 h2 h3 hy n hi hn ?_ g
  rw [(hT _ _ hy).one h5, h5, Nat.mul_one]
  exact part1_one hv

theorem VStep.idx_at (e : Env cx P fn lo) (hT : TabOk P T) {t te : TypeId} {x ix : Operand} {len : Nat} {kk : IntKind} {i : Int} {cs : List SV} {y : Ty} (v : SV) (hd : Nat.blt d fn.ntmps = true) (h1 : opd ⟨tm, hp, nx⟩ x = some (.agg cs)) (h2 : opd ⟨tm, hp, nx⟩ ix = some (.d (.v (.int kk i))))
    (h3 : tyArr T t = some (len, te)) (hy : aget te T = some y) (h5 : y.td.agg = false) (n : Nat) (hi : i = n) (hn : n < len) (hv : cs[n]? = some v) : VStep cx all hp nx ⟨some d, .index t x ix, ty, pos, after, none⟩ tm d v := by
  refine VStep.idx_agg e hT hd h1 h2 h3 hy n hi hn ?_
  rw [(hT _ _ hy).one h5, h5, Nat.mul_one]
  exact part1_one hv

/-! ### Numbers of a kind without a sign -/
theorem ofInt_toNat {n : Nat} (x : BitVec n) : BitVec.ofInt n (x.toNat : Int) = x := by
  rw [BitVec.ofInt_natCast]; exact BitVec.ofNat_toNat _ x |>.trans (by simp)
end
end Go.Sy

/-
  SYMBOLIC STATES, over any program, part 35: numbers of a kind without a sign, as rows of bits.
-/
namespace Go.Sy
open Go.RowKit

theorem wrapN (k : IntKind) (hk : k.signed = false) (n : Nat) : k.wrap (n : Int) = ((n % 2 ^ k.bits : Nat) : Int) := by
  unfold IntKind.wrap
  simp only [hk, Bool.false_and, Bool.false_eq_true, if_false]
  norm_cast

theorem wrapBV (k : IntKind) (hk : k.signed = false) (x : BitVec k.bits) : k.wrap (x.toNat : Int) = (x.toNat : Int) := by
  rw [wrapN k hk, Nat.mod_eq_of_lt x.isLt]

theorem fdivN (a b : Nat) : ((a : Int)).fdiv (b : Int) = ((a / b : Nat) : Int) := by
  rw [Int.fdiv_eq_ediv_of_nonneg _ (by omega)]; rfl

theorem shrBV {n : Nat} (x : BitVec n) (i m : Nat) (hm : m = n) : ((x.toNat : Int)).fdiv (2 ^ (min ((i : Nat) : Int).toNat m)) = ((x >>> i).toNat : Int) := by
  subst hm
  have : ((2 : Int) ^ (min ((i : Nat) : Int).toNat m)) = ((2 ^ (min i m) : Nat) : Int) := by
    rw [Int.toNat_natCast]; push_cast; rfl
  rw [this, fdivN, BitVec.toNat_ushiftRight, Nat.shiftRight_eq_div_pow]
  by_cases h : i ≤ m
  · rw [Nat.min_eq_left h]
  · rw [Nat.min_eq_right (by omega)]
    have h1 := x.isLt
    rw [Nat.div_eq_of_lt h1, Nat.div_eq_of_lt (Nat.lt_of_lt_of_le h1 (Nat.pow_le_pow_right (by omega) (by omega)))]

theorem shlBV (k : IntKind) (hk : k.signed = false) (x : BitVec k.bits) (i m : Nat) (hm : m = k.bits) : k.wrap ((x.toNat : Int) * 2 ^ (min ((i : Nat) : Int).toNat m)) = ((x <<< i).toNat : Int) := by
  subst hm
  have : (x.toNat : Int) * ((2 : Int) ^ (min ((i : Nat) : Int).toNat k.bits)) = ((x.toNat * 2 ^ (min i k.bits) : Nat) : Int) := by
    rw [Int.toNat_natCast]; push_cast; rfl
  rw [this, wrapN k hk, BitVec.toNat_shiftLeft, Nat.shiftLeft_eq]
  by_cases h : i ≤ k.bits
  · rw [Nat.min_eq_left h]
  · rw [Nat.min_eq_right (by omega)]
    have e1 : (x.toNat * 2 ^ k.bits) % 2 ^ k.bits = 0 := Nat.mul_mod_left _ _
    have e2 : (x.toNat * 2 ^ i) % 2 ^ k.bits = 0 := by
      rw [show i = k.bits + (i - k.bits) by omega, Nat.pow_add, Nat.mul_left_comm]
      exact Nat.mul_mod_right _ _
    rw [e1, e2]

abbrev U8 (x : BitVec 8) : SV := .d (.v (.int .u8 (x.toNat : Int)))
abbrev U16 (x : BitVec 16) : SV := .d (.v (.int .u16 (x.toNat : Int)))
abbrev U32 (x : BitVec 32) : SV := .d (.v (.int .u32 (x.toNat : Int)))
abbrev U64 (x : BitVec 64) : SV := .d (.v (.int .u64 (x.toNat : Int)))

theorem u8w (x : BitVec 8) : IntKind.wrap .u8 (x.toNat : Int) = x.toNat := wrapBV .u8 rfl x
theorem u16w (x : BitVec 16) : IntKind.wrap .u16 (x.toNat : Int) = x.toNat := wrapBV .u16 rfl x
theorem u32w (x : BitVec 32) : IntKind.wrap .u32 (x.toNat : Int) = x.toNat := wrapBV .u32 rfl x
theorem u64w (x : BitVec 64) : IntKind.wrap .u64 (x.toNat : Int) = x.toNat := wrapBV .u64 rfl x

theorem u16shl (x : BitVec 16) (i : Nat) : IntKind.wrap .u16 ((x.toNat : Int) * 2 ^ (min ((i : Nat) : Int).toNat 16)) = ((x <<< i).toNat : Int) := shlBV .u16 rfl x i 16 rfl
theorem u32shl (x : BitVec 32) (i : Nat) : IntKind.wrap .u32 ((x.toNat : Int) * 2 ^ (min ((i : Nat) : Int).toNat 32)) = ((x <<< i).toNat : Int) := shlBV .u32 rfl x i 32 rfl
theorem u64shl (x : BitVec 64) (i : Nat) : IntKind.wrap .u64 ((x.toNat : Int) * 2 ^ (min ((i : Nat) : Int).toNat 64)) = ((x <<< i).toNat : Int) := shlBV .u64 rfl x i 64 rfl
theorem u16shr (x : BitVec 16) (i : Nat) : ((x.toNat : Int)).fdiv (2 ^ (min ((i : Nat) : Int).toNat 16)) = ((x >>> i).toNat : Int) := shrBV x i 16 rfl
theorem u32shr (x : BitVec 32) (i : Nat) : ((x.toNat : Int)).fdiv (2 ^ (min ((i : Nat) : Int).toNat 32)) = ((x >>> i).toNat : Int) := shrBV x i 32 rfl
theorem u64shr (x : BitVec 64) (i : Nat) : ((x.toNat : Int)).fdiv (2 ^ (min ((i : Nat) : Int).toNat 64)) = ((x >>> i).toNat : Int) := shrBV x i 64 rfl

/-- A number that is handed in, as a row of bits. -/
theorem bv_of {n : Nat} {z : Int} (h0 : 0 ≤ z) (h1 : z < 2 ^ n) : ∃ x : BitVec n, z = (x.toNat : Int) := by
  refine ⟨BitVec.ofNat n z.toNat, ?_⟩
  rw [BitVec.toNat_ofNat, Nat.mod_eq_of_lt]
  · omega
  · have : ((z.toNat : Nat) : Int) = z := Int.toNat_of_nonneg h0
    have h2 : ((z.toNat : Nat) : Int) < ((2 ^ n : Nat) : Int) := by rw [this]; push_cast; exact h1
    exact_mod_cast h2

theorem bv_eq0 {n : Nat} (x : BitVec n) : ((x.toNat : Int) = 0) ↔ x = 0#n := by
  constructor
  · intro h
    apply BitVec.eq_of_toNat_eq
    simp
    omega
  · rintro rfl; simp
theorem bv_inj {n : Nat} (x y : BitVec n) : ((x.toNat : Int) = (y.toNat : Int)) ↔ x = y := by
  constructor
  · intro h
    exact BitVec.eq_of_toNat_eq (by omega)
  · rintro rfl; rfl
end Go.Sy

/-
  SYMBOLIC STATES, over any program, part 36: a region that draws its order, walked by itself as far as a truth value that others hang on; that one told; the steps by their operations' forms.
-/
namespace Go.Sy
open Go.RowKit
section
variable {cx : Cx} {P : Program} {fn : Func} {lo : Nat} {T : Tab} {k : List It} {tm : List (Nat × SV)} {hp : List (Nat × Blk)} {nx M : Nat} {all : Array Oper} {R : List Rec} {id : Nat}
variable {d : Nat} {ty : TypeId} {pos : String} {after : Array Edge}

/-- Do others hang on what operation q lays into slot d? -/
def askedBy (d q : Nat) : List Oper → Bool
  | [] => false
  | ⟨_, .pick (.tmp t) _ _, _, _, _, some (j, _)⟩ :: l => Nat.beq j q || Nat.beq t d || askedBy d q l
  | ⟨_, .pick (.tmp t) _ _, _, _, _, none⟩ :: l => Nat.beq t d || askedBy d q l
  | ⟨_, _, _, _, _, some (j, _)⟩ :: l => Nat.beq j q || askedBy d q l
  | _ :: l => askedBy d q l
def stopQ (x : SV) (d : Option Nat) (q : Nat) (rest : List Oper) : Bool :=
  match x with
  | .d (.v (.bool _)) => match d with
    | some d => askedBy d q rest
    | none => false
  | _ => false

def gwalkS (T : Tab) (N M lo : Nat) (all : Array Oper) : Nat → Nat → List Oper → List (Nat × SV) → List (Nat × Blk) → List Rec → Nat → Prop → OutG
  | 0, q, rest, _, _, R, nm, ob => ⟨q, rest, R, nm, ob⟩
  | _ + 1, q, [], _, _, R, nm, ob => ⟨q, [], R, nm, ob⟩
  | n + 1, q, ⟨dst, op, ty, pos, after, none⟩ :: rest, tm, hp, R, nm, ob =>
    match gstep T N M lo nm tm hp dst op with
    | .rcd d x rd eff nw nm' p => bif stopQ x d q rest then ⟨Nat.succ q, rest, ⟨q, d, x, rd, eff, nw⟩ :: R, nm', p ∧ ob⟩ else gwalkS T N M lo all n (Nat.succ q) rest (tput d x tm) (effH eff hp) (⟨q, d, x, rd, eff, nw⟩ :: R) nm' (p ∧ ob)
    | .stop => ⟨q, ⟨dst, op, ty, pos, after, none⟩ :: rest, R, nm, ob⟩
  | n + 1, q, ⟨dst, op, ty, pos, after, some (j, w)⟩ :: rest, tm, hp, R, nm, ob =>
    match guardS all tm j with
    | .told _ b => bif (bif b then w else !w) then (match gstep T N M lo nm tm hp dst op with
        | .rcd d x rd eff nw nm' p => bif stopQ x d q rest then ⟨Nat.succ q, rest, ⟨q, d, x, rd, eff, nw⟩ :: R, nm', p ∧ ob⟩ else gwalkS T N M lo all n (Nat.succ q) rest (tput d x tm) (effH eff hp) (⟨q, d, x, rd, eff, nw⟩ :: R) nm' (p ∧ ob)
        | .stop => ⟨q, ⟨dst, op, ty, pos, after, some (j, w)⟩ :: rest, R, nm, ob⟩)
      else (bif dstOk N dst then gwalkS T N M lo all n (Nat.succ q) rest (tput dst undefS tm) hp (⟨q, dst, undefS, [], [], []⟩ :: R) nm ob else ⟨q, ⟨dst, op, ty, pos, after, some (j, w)⟩ :: rest, R, nm, ob⟩)
    | .no _ => bif dstOk N dst then gwalkS T N M lo all n (Nat.succ q) rest (tput dst undefS tm) hp (⟨q, dst, undefS, [], [], []⟩ :: R) nm ob else ⟨q, ⟨dst, op, ty, pos, after, some (j, w)⟩ :: rest, R, nm, ob⟩
    | _ => ⟨q, ⟨dst, op, ty, pos, after, some (j, w)⟩ :: rest, R, nm, ob⟩

theorem gwalkS_ok (e : Env cx P fn lo) (hT : TabOk P T) : ∀ (n q : Nat) (rest : List Oper) (R : List Rec) (nm : Nat) (ob : Prop), (gwalkS T fn.ntmps M lo all n q rest (tmS R tm) (hpS R hp) R nm ob).ob →
    ob ∧ (DrG cx all id k tm hp nx M (gwalkS T fn.ntmps M lo all n q rest (tmS R tm) (hpS R hp) R nm ob).q (gwalkS T fn.ntmps M lo all n q rest (tmS R tm) (hpS R hp) R nm ob).rest (gwalkS T fn.ntmps M lo all n q rest (tmS R tm) (hpS R hp) R nm ob).R → DrG cx all id k tm hp nx M q rest R)
  | 0, q, rest, R, nm, ob, h => ⟨h, fun g => g⟩
  | n + 1, q, [], R, nm, ob, h => ⟨h, fun g => g⟩
  | n + 1, q, ⟨dst, op, ty, pos, after, none⟩ :: rest, R, nm, ob, h => by
    unfold gwalkS at h ⊢
    split at h
    · rename_i d x rd eff nw nm' p hs
      cases hq : stopQ x d q rest
      · simp only [hq, cond_false] at h ⊢
        obtain ⟨⟨h1, h1'⟩, h2⟩ := gwalkS_ok e hT n (Nat.succ q) rest (⟨q, d, x, rd, eff, nw⟩ :: R) nm' (p ∧ ob) h
        obtain ⟨g1, g2, g3, rds, rfl, g5, g6⟩ := gstep_ok (cx := cx) (all := all) (ty := ty) (pos := pos) (after := after) e hT hs h1
        exact ⟨h1', fun g => DrG.step g1 g5 g2 g3 g6 (h2 g)⟩
      · simp only [hq, cond_true] at h ⊢
        obtain ⟨g1, g2, g3, rds, rfl, g5, g6⟩ := gstep_ok (cx := cx) (all := all) (ty := ty) (pos := pos) (after := after) e hT hs h.1
        exact ⟨h.2, fun g => DrG.step g1 g5 g2 g3 g6 g⟩
    · exact ⟨h, fun g => g⟩
  | n + 1, q, ⟨dst, op, ty, pos, after, some (j, w)⟩ :: rest, R, nm, ob, h => by
    unfold gwalkS at h ⊢
    have skip : dstOk fn.ntmps dst = true → GStep cx all M ⟨dst, op, ty, pos, after, some (j, w)⟩ (tmS R tm) [] dst undefS [] [] → (gwalkS T fn.ntmps M lo all n (Nat.succ q) rest (tput dst undefS (tmS R tm)) (hpS R hp) (⟨q, dst, undefS, [], [], []⟩ :: R) nm ob).ob →
        ob ∧ (DrG cx all id k tm hp nx M (gwalkS T fn.ntmps M lo all n (Nat.succ q) rest (tput dst undefS (tmS R tm)) (hpS R hp) (⟨q, dst, undefS, [], [], []⟩ :: R) nm ob).q (gwalkS T fn.ntmps M lo all n (Nat.succ q) rest (tput dst undefS (tmS R tm)) (hpS R hp) (⟨q, dst, undefS, [], [], []⟩ :: R) nm ob).rest (gwalkS T fn.ntmps M lo all n (Nat.succ q) rest (tput dst undefS (tmS R tm)) (hpS R hp) (⟨q, dst, undefS, [], [], []⟩ :: R) nm ob).R →
          DrG cx all id k tm hp nx M q (⟨dst, op, ty, pos, after, some (j, w)⟩ :: rest) R) := fun hd hs h => by
      obtain ⟨h1, h2⟩ := gwalkS_ok e hT n (Nat.succ q) rest (⟨q, dst, undefS, [], [], []⟩ :: R) nm ob h
      exact ⟨h1, fun g => DrG.step (rds := []) (d := dst) (x := undefS) (eff := []) (nw := []) (fun t ht => ht) (fun p hp => by cases hp) rfl trivial hs (h2 g)⟩
    cases hg : guardS all (tmS R tm) j with
    | ask d b => simp only [hg] at h ⊢; exact ⟨h, fun g => g⟩
    | bad => simp only [hg] at h ⊢; exact ⟨h, fun g => g⟩
    | no dj =>
      simp only [hg] at h ⊢
      cases hd : dstOk fn.ntmps dst
      · simp only [hd, cond_false] at h ⊢; exact ⟨h, fun g => g⟩
      · simp only [hd, cond_true] at h ⊢
        exact skip hd (GStep.un e hd hg) h
    | told dj b =>
      simp only [hg] at h ⊢
      cases hw : (bif b then w else !w)
      · simp only [hw, cond_false] at h ⊢
        cases hd : dstOk fn.ntmps dst
        · simp only [hd, cond_false] at h ⊢; exact ⟨h, fun g => g⟩
        · simp only [hd, cond_true] at h ⊢
          exact skip hd (GStep.not e hd hg (fun e => by subst e; cases b <;> cases hw)) h
      · simp only [hw, cond_true] at h ⊢
        cases hs : gstep T fn.ntmps M lo nm (tmS R tm) (hpS R hp) dst op with
        | stop => simp only [hs] at h ⊢; exact ⟨h, fun g => g⟩
        | rcd d x rd eff nw nm' p =>
          simp only [hs] at h ⊢
          cases hq : stopQ x d q rest
          · simp only [hq, cond_false] at h ⊢
            obtain ⟨⟨h1, h1'⟩, h2⟩ := gwalkS_ok e hT n (Nat.succ q) rest (⟨q, d, x, rd, eff, nw⟩ :: R) nm' (p ∧ ob) h
            obtain ⟨g1, g2, g3, rds, rfl, g5, g6⟩ := gstep_ok (cx := cx) (all := all) (ty := ty) (pos := pos) (after := after) e hT hs h1
            exact ⟨h1', fun g => DrG.step g1 g5 g2 g3 (GStep.go hg (by cases b <;> cases w <;> first | rfl | cases hw) g6) (h2 g)⟩
          · simp only [hq, cond_true] at h ⊢
            obtain ⟨g1, g2, g3, rds, rfl, g5, g6⟩ := gstep_ok (cx := cx) (all := all) (ty := ty) (pos := pos) (after := after) e hT hs h.1
            exact ⟨h.2, fun g => DrG.step g1 g5 g2 g3 (GStep.go hg (by cases b <;> cases w <;> first | rfl | cases hw) g6) g⟩

theorem DrG.runS0 (e : Env cx P fn lo) (hT : TabOk P T) (n nm : Nat) {q q' nm' : Nat} {rest rest' : List Oper} {R' : List Rec} {ob : Prop} (h : gwalkS T fn.ntmps M lo all n q rest (tmS R tm) (hpS R hp) R nm True = ⟨q', rest', R', nm', ob⟩) (hob : ob) (g : DrG cx all id k tm hp nx M q' rest' R') : DrG cx all id k tm hp nx M q rest R := by
  have := gwalkS_ok (cx := cx) (P := P) (fn := fn) (lo := lo) (T := T) (k := k) (tm := tm) (hp := hp) (nx := nx) (M := M) (all := all) (id := id) e hT n q rest R nm True
  rw [h] at this
  exact (this hob).2 g


theorem DrG.runS (e : Env cx P fn lo) (hT : TabOk P T) (n : Nat) {q q' nm' : Nat} {rest rest' : List Oper} {R' : List Rec} {ob : Prop} (h : gwalkS T fn.ntmps M lo all n q rest (tmS R tm) (hpS R hp) R (nxOf nx R) True = ⟨q', rest', R', nm', ob⟩) (hob : ob) (g : DrG cx all id k tm hp nx M q' rest' R') : DrG cx all id k tm hp nx M q rest R :=
  DrG.runS0 e hT n (nxOf nx R) h hob g

theorem aget_tput_lit {d t : Nat} {β : Bool} {tm' : List (Nat × SV)} : aget t ((d, SV.lit β) :: (d, SV.b β) :: tm') = aget t ((d, SV.lit β) :: tm') := by
  rw [aget_cons, aget_cons, aget_cons]
  by_cases h : t = d
  · rw [if_pos h, if_pos h]
  · rw [if_neg h, if_neg h, if_neg h]

/-- The last truth value told. -/
theorem DrG.askT {q q0 : Nat} {rest : List Oper} {β : Bool} {rd : List Nat} {eff : List (Nat × Option Blk)} {nw : List Nat} (hs : stopQ (.b β) (some d) q0 rest = true)
    (h : Told β fun v => DrG cx all id k tm hp nx M q rest (⟨q0, some d, .lit v, rd, eff, nw⟩ :: R)) : DrG cx all id k tm hp nx M q rest (⟨q0, some d, .b β, rd, eff, nw⟩ :: R) := by
  rintro ⟨hg, hr⟩
  refine h ⟨?_, hr⟩
  cases hg with
  | step h ho hd hr hx he hs =>
    refine GoodG.step h ho hd hr rfl he ?_
    intro tm' hp' k a1 a2 a3 a4 g
    refine hs tm' hp' k a1 a2 a3 a4 ?_
    refine AWP.told (d := d) (b := β) (by show aget d ((d, SV.b β) :: tm') = _; rw [aget_cons, if_pos rfl]) ?_
    exact AWP.ext (fun t => aget_tput_lit.symm) (fun _ => rfl) g

theorem DrG.idx_pel (e : Env cx P fn lo) (hT : TabOk P T) {q : Nat} {rest : List Oper} {t te : TypeId} {x ix : Operand} {len : Nat} {kk : IntKind} {i : Int} {b j : Nat} {y : Ty} (hd : Nat.blt d fn.ntmps = true) (h1 : opd ⟨tmS R tm, [], 0⟩ x = some (.ptr b j)) (h2 : opd ⟨tmS R tm, [], 0⟩ ix = some (.d (.v (.int kk i))))
    (h3 : tyArr T t = some (len, te)) (hy : aget te T = some y) (n : Nat) (hi : i = n) (hn : n < len) (hb : Nat.blt b M = true) (h : DrG cx all id k tm hp nx M (Nat.succ q) rest (⟨q, some d, .pel b y.size n j, [], [], []⟩ :: R)) : DrG cx all id k tm hp nx M q (⟨some d, .indexAddr t x ix, ty, pos, after, none⟩ :: rest) R :=
  DrG.v (x := .pel b y.size n j) rfl (fun hp0 => VStep.idx_pel (hp := hp0) (nx := M) e hT hd h1 h2 h3 hy n hi hn) hb h
theorem DrG.idx_pelGo (e : Env cx P fn lo) (hT : TabOk P T) {q : Nat} {rest : List Oper} {t te : TypeId} {x ix : Operand} {len : Nat} {kk : IntKind} {i : Int} {b j jg dj : Nat} {wg : Bool} {y : Ty} (hg : guardS all (tmS R tm) jg = .told dj wg) (hd : Nat.blt d fn.ntmps = true) (h1 : opd ⟨tmS R tm, [], 0⟩ x = some (.ptr b j)) (h2 : opd ⟨tmS R tm, [], 0⟩ ix = some (.d (.v (.int kk i))))
    (h3 : tyArr T t = some (len, te)) (hy : aget te T = some y) (n : Nat) (hi : i = n) (hn : n < len) (hb : Nat.blt b M = true) (h : DrG cx all id k tm hp nx M (Nat.succ q) rest (⟨q, some d, .pel b y.size n j, [], [], []⟩ :: R)) : DrG cx all id k tm hp nx M q (⟨some d, .indexAddr t x ix, ty, pos, after, some (jg, wg)⟩ :: rest) R :=
  DrG.v (x := .pel b y.size n j) rfl (fun hp0 => VStep.go hg (VStep.idx_pel (hp := hp0) (nx := M) e hT hd h1 h2 h3 hy n hi hn)) hb h
theorem DrG.load_pel (e : Env cx P fn lo) (hT : TabOk P T) {q : Nat} {rest : List Oper} {t : TypeId} {a : Operand} {b m i j : Nat} {cs : List SV} {y : Ty} (v : SV) (hd : Nat.blt d fn.ntmps = true) (h1 : opd ⟨tmS R tm, [], 0⟩ a = some (.pel b m i j)) (h2 : aget t T = some y) (h5 : y.td.agg = false)
    (h3 : aget b (hpS R hp) = some (.box cs)) (h4 : cs[i * m + j]? = some v) (hx : SV.idsLt M v = true) (h : DrG cx all id k tm hp nx M (Nat.succ q) rest (⟨q, some d, v, [b], [], []⟩ :: R)) : DrG cx all id k tm hp nx M q (⟨some d, .load t a, ty, pos, after, none⟩ :: rest) R :=
  DrG.v1 rfl h3 (fun _ hb => VStep.load_pel e hT v hd h1 h2 h5 hb h4) hx h
theorem DrG.load_pelGo (e : Env cx P fn lo) (hT : TabOk P T) {q : Nat} {rest : List Oper} {t : TypeId} {a : Operand} {b m i j jg dj : Nat} {wg : Bool} {cs : List SV} {y : Ty} (v : SV) (hg : guardS all (tmS R tm) jg = .told dj wg) (hd : Nat.blt d fn.ntmps = true) (h1 : opd ⟨tmS R tm, [], 0⟩ a = some (.pel b m i j)) (h2 : aget t T = some y) (h5 : y.td.agg = false)
    (h3 : aget b (hpS R hp) = some (.box cs)) (h4 : cs[i * m + j]? = some v) (hx : SV.idsLt M v = true) (h : DrG cx all id k tm hp nx M (Nat.succ q) rest (⟨q, some d, v, [b], [], []⟩ :: R)) : DrG cx all id k tm hp nx M q (⟨some d, .load t a, ty, pos, after, some (jg, wg)⟩ :: rest) R :=
  DrG.v1 rfl h3 (fun _ hb => VStep.go hg (VStep.load_pel e hT v hd h1 h2 h5 hb h4)) hx h
end
end Go.Sy

/-
  SYMBOLIC STATES, over any program, part 37: bytes of a text, and the text of bytes.
-/
namespace Go.Sy
open Go.RowKit
section
variable {cx : Cx} {P : Program} {fn : Func} {lo : Nat} {T : Tab} {k : List It} {tm : List (Nat × SV)} {hp : List (Nat × Blk)} {nx M : Nat} {all : Array Oper} {R : List Rec} {id : Nat}
variable {d : Nat} {rest : List Oper} {ty : TypeId} {pos : String} {after : Array Edge}

/-- A byte's element in a row. -/
abbrev u8D (b : UInt8) : List DV := [.v (.int .u8 (b.toNat : Int))]
abbrev u8S (b : UInt8) : List SV := [.d (.v (.int .u8 (b.toNat : Int)))]
/-- The text of these bytes. -/
def strL (l : List UInt8) : ByteArray := ⟨l.toArray⟩
theorem strL_size (l : List UInt8) : (strL l).size = l.length := by simp [strL, ByteArray.size]
theorem strL_data (l : List UInt8) : (strL l).data.toList = l := by simp [strL]
theorem strL_of (s : ByteArray) : strL s.data.toList = s := by cases s; simp [strL]
theorem strL_toList (l : List UInt8) : (strL l).toList = l := by
  rw [ByteArray.toList_eq]; exact strL_data l

theorem upd_freeze (w : World) (a : Addr) (n : Nat) : Upd w (w.freeze a n) a.block := by
  unfold World.freeze
  by_cases h : n = 0
  · rw [if_pos h]; exact Upd.refl w _
  · rw [if_neg h]
    refine ⟨fun b' hb => ?_, by simp, rfl, rfl, rfl⟩
    simp only [Array.getElem?_modify]
    rw [if_neg (fun e => hb e.symm)]

/-- The bytes of a text, as a row of one's own. -/
theorem AWP.strBytes (e : Env cx P fn lo) (hT : TabOk P T) {src dst te : TypeId} {x : Operand} {s : ByteArray} {ys yt ye : Ty} (hd : Nat.blt d fn.ntmps = true) (h1 : opd ⟨tm, hp, nx⟩ x = some (.s s)) (h2 : aget src T = some ys) (h3 : ys.td = .str) (h4 : aget dst T = some yt) (h5 : yt.td = .slice te) (h6 : aget te T = some ye) (h7 : ye.td = .int .u8)
    (hs : s.size ≤ 9223372036854775807) (g : ∀ C, s.size ≤ C → AWP cx (.ops all rest :: k) ⟨(d, .own nx 1 0 s.size C) :: tm, (nx, .row te true 1 (s.data.toList.map u8S) C) :: hp, Nat.succ nx⟩) :
    AWP cx (.ops all (⟨some d, .convert src dst x, ty, pos, after, none⟩ :: rest) :: k) ⟨tm, hp, nx⟩ := by
  obtain ⟨rfl, rfl, _⟩ := e
  refine AWP.op rfl fun a w hi => ?_
  obtain ⟨μ, ok, hI⟩ := hi.one
  have hx := (opd_den hI.tmps h1).vv
  have u1 : cx.P.underlying src = some .string := by have := (hT _ _ h2).td; rw [h3] at this; exact this
  have u2 : cx.P.underlying dst = some (.slice te) := by have := (hT _ _ h4).td; rw [h5] at this; exact this
  have u3 : cx.P.underlying te = some (.int .u8) := by have := (hT _ _ h6).td; rw [h7] at this; exact this
  have hrun := Go.Lib.run_convert_string_bytes w src dst te s u1 u2 u3
  have hge := grownCap_ge w s.size 0 te
  have hle := grownCap_le_maxLen w s.size 0 te (by have : maxLen = 9223372036854775807 := rfl; omega)
  generalize hC : grownCap w s.size 0 te = C at hrun hge hle
  have hex : (execOp a.eval ⟨some d, .convert src dst x, ty, pos, after, none⟩).run cx.P w = .ok (.value (.slice (some ⟨w.heap.size, 0, none⟩) s.size C)) (Go.Lib.bytesWorld w te s) := by
    simp only [execOp, hx, Sem.run_bind, hrun, Result.andThen_ok, Sem.run_pure]
  rw [hex, Oper.upon_value]
  have hcs : (Go.Lib.bytesCells w te s).size = C * 1 := by
    simp only [Go.Lib.bytesCells, hC, Array.size_append, Array.size_map, Array.size_replicate, Nat.mul_one]
    have : s.data.size = s.size := rfl
    omega
  have hcell : ∀ (z : Nat) (fz : Bool) (w' : World) (q : Nat × Nat), w'.heap[z]? = some (.cells (Go.Lib.bytesCells w te s) te q) → (fz = false → q = (0, 0)) → (∀ j, j < (Go.Lib.bytesCells w te s).size → ¬ (q.1 ≤ j ∧ j < q.2)) → DenB μ ok w' z (.row te fz 1 (s.data.toList.map u8S) C) := by
    intro z fz w' q hz hq hj
    refine ⟨_, q, hz, hq, hj, hcs, by simpa using hge, fun i e he => ?_, fun i e j x u he hx hu => ?_⟩
    · rw [List.getElem?_map] at he
      cases hb : s.data.toList[i]? with
      | none => rw [hb] at he; cases he
      | some b => rw [hb] at he; cases he; rfl
    · rw [List.getElem?_map] at he
      cases hb : s.data.toList[i]? with
      | none => rw [hb] at he; cases he
      | some b =>
        rw [hb] at he; cases he
        have hb' : s.data[i]? = some b := by rw [← Array.getElem?_toList]; exact hb
        have hi : i < s.data.size := (Array.getElem?_eq_some_iff.1 hb').1
        cases j with
        | zero =>
          cases hx
          simp only [Nat.mul_one, Nat.add_zero, Go.Lib.bytesCells] at hu
          rw [Array.getElem?_append_left (by simpa using hi), Array.getElem?_map, hb'] at hu
          cases hu
          exact .d (.v _)
        | succ j => simp at hx
  let w1 := w.drew.alloc (.cells (Go.Lib.bytesCells w te s) te)
  have hw1 : w1.heap[w.heap.size]? = some (.cells (Go.Lib.bytesCells w te s) te (0, 0)) := (MapKept.heap_alloc w.drew _).1
  have a1 := (hI.drew).alloc (.cells (Go.Lib.bytesCells w te s) te) (.row te false 1 (s.data.toList.map u8S) C) (hcell _ false w1 (0, 0) hw1 (fun _ => rfl) (fun j _ hj => by omega))
  have hu : Upd w1 (Go.Lib.bytesWorld w te s) w.heap.size := upd_freeze w1 ⟨w.heap.size, (Go.Lib.bytesCells w te s).size, none⟩ 1
  have hget : aget nx ((nx, Blk.row te false 1 (s.data.toList.map u8S) C) :: hp) = some (.row te false 1 (s.data.toList.map u8S) C) := by rw [aget_cons, if_pos rfl]
  have hμ : upd μ nx w.heap.size nx = some w.heap.size := by simp [upd]
  have hB2 : DenB (upd μ nx w.heap.size) ok (Go.Lib.bytesWorld w te s) w.heap.size (.row te true 1 (s.data.toList.map u8S) C) := by
    have h0 := hcell w.heap.size true (Go.Lib.bytesWorld w te s) _ (Go.Lib.bytesWorld_at_new w te s) (fun h => by cases h) (fun j hj h => by omega)
    exact h0.mono (w := Go.Lib.bytesWorld w te s) (fun i b hb => upd_mono (hI.heap.fresh nx (Nat.le_refl _)) i b hb) (fun _ h => h) (fun _ _ => rfl) rfl
  have a2 := a1.set hget hμ hu hB2
  have a3 := a2.put (Nat.le_of_ble_eq_true hd) (x := .own nx 1 0 s.size C) (v := .slice (some ⟨w.heap.size, 0, none⟩) s.size C) (by
    have := Den.own (μ := upd μ nx w.heap.size) (ok := ok) (w := Go.Lib.bytesWorld w te s) (id := nx) (k := 1) (lo := 0) (n := s.size) (C := C) (b := w.heap.size) hμ (by omega) hle
    simpa using this)
  refine g C hge _ _ (Inv1.inv (μ := upd μ nx w.heap.size) (ok := ok) ⟨a3.defers, a3.size, a3.heap.drop fun i B hB => ?_, a3.tmps⟩)
  rw [aget_cons] at hB ⊢
  by_cases h : i = nx
  · rw [if_pos h] at hB ⊢; exact hB
  · rw [if_neg h] at hB ⊢; rw [aget_cons, if_neg h]; exact hB

/-- The text of a row of bytes. -/
theorem bytes_run (hT : TabOk P T) {w : World} {src dst te : TypeId} {ys yt ye : Ty} (h2 : aget src T = some ys) (h3 : ys.td = .slice te) (h4 : aget dst T = some yt) (h5 : yt.td = .str) (h6 : aget te T = some ye) (h7 : ye.td = .int .u8) (a : Addr) (cap : Nat) (l : List UInt8)
    (hc : ∀ j (hj : j < l.length), w.cell? (a.add j) = some (.int .u8 (l[j].toNat : Int))) : (convert src dst (.slice (some a) l.length cap)).run P w = .ok (.string (strL l)) w := by
  have u1 : P.underlying src = some (.slice te) := by have := (hT _ _ h2).td; rw [h3] at this; exact this
  have u2 : P.underlying dst = some .string := by have := (hT _ _ h4).td; rw [h5] at this; exact this
  have u3 : P.underlying te = some (.int .u8) := by have := (hT _ _ h6).td; rw [h7] at this; exact this
  exact run_convert_bytes_back w src dst te a cap l u1 u3 u2 hc
theorem bytes_run0 (hT : TabOk P T) {w : World} {src dst te : TypeId} {ys yt ye : Ty} (h2 : aget src T = some ys) (h3 : ys.td = .slice te) (h4 : aget dst T = some yt) (h5 : yt.td = .str) (h6 : aget te T = some ye) (h7 : ye.td = .int .u8) (a : Option Addr) (cap : Nat) : (convert src dst (.slice a 0 cap)).run P w = .ok (.string (strL [])) w := by
  cases a with
  | some a => exact bytes_run hT h2 h3 h4 h5 h6 h7 a cap [] (fun j hj => by simp at hj)
  | none =>
    have u1 : P.underlying src = some (.slice te) := by have := (hT _ _ h2).td; rw [h3] at this; exact this
    have u2 : P.underlying dst = some .string := by have := (hT _ _ h4).td; rw [h5] at this; exact this
    have u3 : P.underlying te = some (.int .u8) := by have := (hT _ _ h6).td; rw [h7] at this; exact this
    exact run_convert_bytes_nil w src te u1 u3 0 cap dst u2

theorem AWP.bytesStr (e : Env cx P fn lo) (hT : TabOk P T) {src dst te : TypeId} {x : Operand} {ys yt ye : Ty} {id q n C C0 : Nat} {xs : List (List SV)} {te' : TypeId} {fz : Bool} (l : List UInt8) (hd : Nat.blt d fn.ntmps = true) (h1 : opd ⟨tm, hp, nx⟩ x = some (.own id 1 q n C)) (h2 : aget src T = some ys) (h3 : ys.td = .slice te) (h4 : aget dst T = some yt) (h5 : yt.td = .str) (h6 : aget te T = some ye) (h7 : ye.td = .int .u8)
    (hrow : aget id hp = some (.row te' fz 1 xs C0)) (hn : n = l.length) (hl : ∀ j b, l[j]? = some b → xs[q + j]? = some (u8S b)) (g : AWP cx (.ops all rest :: k) ⟨(d, .s (strL l)) :: tm, hp, nx⟩) :
    AWP cx (.ops all (⟨some d, .convert src dst x, ty, pos, after, none⟩ :: rest) :: k) ⟨tm, hp, nx⟩ := by
  refine AWP.op_run e (Nat.le_of_ble_eq_true hd) (fun μ ok ac w hI => ?_) g
  have hx := opd_den hI.tmps h1
  generalize hv : ac.eval x = u at hx
  subst hn
  refine ⟨.string (strL l), ?_, .d (.v _)⟩
  have key : (convert src dst u).run P w = .ok (.string (strL l)) w := by
    generalize hnn : l.length = nn at hx
    cases hx with
    | ownNil a0 _ _ _ =>
      obtain rfl : l = [] := List.eq_nil_of_length_eq_zero hnn
      exact bytes_run0 hT h2 h3 h4 h5 h6 h7 a0 0
    | own hb p1 p2 =>
      rename_i b
      subst hnn
      refine bytes_run hT h2 h3 h4 h5 h6 h7 _ _ l fun j hj => ?_
      obtain ⟨_, hn⟩ | ⟨b', q1, q2, hB⟩ := hI.hh id _ hrow
      · rw [hn] at hb; cases hb
      rw [hb] at q1
      cases q1
      obtain ⟨u, r1, r2⟩ := row_cell hB (hl j l[j] (by simp [hj])) (j := 0) rfl
      rw [add_add', show q * 1 + j = (q + j) * 1 + 0 by omega, r1]
      exact congrArg some r2.vv
  simp only [execOp, hv, Sem.run_bind, key, Result.andThen_ok, Sem.run_pure]

theorem AWP.bytesStrD (e : Env cx P fn lo) (hT : TabOk P T) {src dst te : TypeId} {x : Operand} {ys yt ye : Ty} {xs : List (List DV)} (l : List UInt8) (hd : Nat.blt d fn.ntmps = true) (h1 : opd ⟨tm, hp, nx⟩ x = some (.d (.sl 1 xs))) (h2 : aget src T = some ys) (h3 : ys.td = .slice te) (h4 : aget dst T = some yt) (h5 : yt.td = .str) (h6 : aget te T = some ye) (h7 : ye.td = .int .u8)
    (hl : xs = l.map u8D) (g : AWP cx (.ops all rest :: k) ⟨(d, .s (strL l)) :: tm, hp, nx⟩) :
    AWP cx (.ops all (⟨some d, .convert src dst x, ty, pos, after, none⟩ :: rest) :: k) ⟨tm, hp, nx⟩ := by
  refine AWP.op_run e (Nat.le_of_ble_eq_true hd) (fun μ ok ac w hI => ?_) g
  have hx := opd_den hI.tmps h1
  generalize hv : ac.eval x = u at hx
  subst hl
  refine ⟨.string (strL l), ?_, .d (.v _)⟩
  have key : (convert src dst u).run P w = .ok (.string (strL l)) w := by
    cases hx with | d hx =>
    rcases slOf hx with ⟨h, rfl⟩ | ⟨a, cap, rfl, c1, c2, c3, c4⟩
    · obtain rfl : l = [] := List.map_eq_nil_iff.1 h
      exact bytes_run0 hT h2 h3 h4 h5 h6 h7 none 0
    · rw [List.length_map]
      refine bytes_run hT h2 h3 h4 h5 h6 h7 _ _ l fun j hj => ?_
      obtain ⟨_, u, r1, r2⟩ := c4 j (u8D l[j]) 0 (.v (.int .u8 (l[j].toNat : Int))) (by simp [hj]) rfl
      rw [Nat.mul_one, Nat.add_zero] at r1
      cases r2
      exact r1
  simp only [execOp, hv, Sem.run_bind, key, Result.andThen_ok, Sem.run_pure]

end
end Go.Sy

/-
  SYMBOLIC STATES, over any program, part 38: where paths meet again; loops with one way on.
-/
namespace Go.Sy
open Go.RowKit
section
variable {cx : Cx} {P : Program} {fn : Func} {lo : Nat} {T : Tab} {k : List It} {s : St}

theorem K_inv (P : Program) (R : Exit → Act → World → Prop) (k : List It) : K P R (.inv (K P R k .normal) :: k) = K P R k := by
  funext e a w
  cases e <;> rfl

theorem K_congr {P : Program} {R : Exit → Act → World → Prop} {k k' : List It} (h : K P R k = K P R k') (i : It) : K P R (i :: k) = K P R (i :: k') := by
  funext e a w
  cases i <;> cases e <;> simp only [K, h]

/-- Where paths meet again: what is known there. -/
theorem AWP.join {ε : Type} (E : ε → St) (J : ε → Prop) {i : It} (fin : ∀ x, J x → AWP cx k (E x))
    (body : ∀ Ψ, (∀ x, J x → AWP cx (.inv Ψ :: k) (E x)) → AWP cx (i :: .inv Ψ :: k) s) : AWP cx (i :: k) s := by
  have h := body (K cx.P cx.R k .normal) (fun x hx a w hi => by rw [K_inv]; exact fin x hx a w hi)
  intro a w hi
  have := h a w hi
  rw [K_congr (K_inv cx.P cx.R k) i] at this
  exact this

def dropI : Nat → List It → List It
  | 0, l => l
  | _ + 1, [] => []
  | n + 1, _ :: l => dropI n l
def putI : Nat → It → List It → List It
  | 0, x, l => x :: l
  | _ + 1, x, [] => [x]
  | n + 1, x, y :: l => y :: putI n x l
theorem K_put (P : Program) (R : Exit → Act → World → Prop) : ∀ (n : Nat) (l : List It), K P R (putI n (.inv (K P R (dropI n l) .normal)) l) = K P R l
  | 0, l => K_inv P R l
  | n + 1, [] => K_inv P R []
  | n + 1, y :: l => K_congr (K_put P R n l) y
theorem K_put0 (P : Program) (R : Exit → Act → World → Prop) (k : List It) : K P R (.inv (K P R k .normal) :: k) = K P R k := K_inv P R k
/-- Where paths meet again, behind the next n items. -/
theorem AWP.joinN (n : Nat) {ε : Type} (E : ε → St) (J : ε → Prop) (fin : ∀ x, J x → AWP cx (dropI n k) (E x))
    (body : ∀ Ψ, (∀ x, J x → AWP cx (.inv Ψ :: dropI n k) (E x)) → AWP cx (putI n (.inv Ψ) k) s) : AWP cx k s := by
  have h := body (K cx.P cx.R (dropI n k) .normal) (fun x hx a w hi => by rw [K_inv]; exact fin x hx a w hi)
  intro a w hi
  have := h a w hi
  rw [K_put cx.P cx.R n k] at this
  exact this

/-- A LOOP, and what is known behind it. -/
theorem AWP.loopX {ι ε : Type} (S : ι → St) (I : ι → Prop) (m : ι → Nat) (i0 : ι) (hI : I i0) (E : ε → St) (J : ε → Prop) {c : Code} {b : Nat} (fin : ∀ x, J x → AWP cx k (E x))
    (start : ∀ kk, AWP cx kk (S i0) → AWP cx kk s)
    (round : ∀ i Φ Ψ, I i → (∀ j, I j → m j < m i → AWP cx (.inv Φ :: .blk b :: .inv Ψ :: k) (S j)) → (∀ x, J x → AWP cx (.inv Ψ :: k) (E x)) → AWP cx (.code c :: .inv Φ :: .blk b :: .inv Ψ :: k) (S i)) : AWP cx (.code (.loop c) :: .blk b :: k) s := by
  let Ψ := K cx.P cx.R k .normal
  have e1 : K cx.P cx.R (.blk b :: .inv Ψ :: k) = K cx.P cx.R (.blk b :: k) := K_congr (K_inv cx.P cx.R k) _
  have hfin : ∀ x, J x → AWP cx (.inv Ψ :: k) (E x) := fun x hx a w hi => by
    show K cx.P cx.R (.inv Ψ :: k) .normal a w
    rw [K_inv]; exact fin x hx a w hi
  refine AWP.loop S I m i0 hI (start _) fun i Φ hi next => ?_
  have h := round i Φ Ψ hi (fun j hj hm => by
    intro a w hi
    have h2 := next j hj hm a w hi
    rw [K_congr e1 (.inv Φ)]
    exact h2) hfin
  intro a w hi
  have h2 := h a w hi
  rw [K_congr (K_congr e1 (.inv Φ)) (.code c)] at h2
  exact h2

variable {tm : List (Nat × SV)} {hp : List (Nat × Blk)} {nx M : Nat} {all : Array Oper} {R : List Rec} {id : Nat}
variable {d q : Nat} {rest : List Oper} {ty : TypeId} {pos : String} {after : Array Edge}
/-- Structs compared, in a region that draws its order. -/
theorem DrG.eq_agg (e : Env cx P fn lo) (hT : TabOk P T) {op : BinOp} {t t' : TypeId} {x z : Operand} {cs es : List SV} {β r : Bool} {y : Ty} (hd : Nat.blt d fn.ntmps = true) (h1 : opd ⟨tmS R tm, [], 0⟩ x = some (.agg cs)) (h2 : opd ⟨tmS R tm, [], 0⟩ z = some (.agg es))
    (hop : op = .eql ∧ r = β ∨ op = .neq ∧ r = !β) (hg : P.eqGuardType P.depth t = false) (n : Nat) (hn : n ≤ 10000) (ha : argTy T n t = true) (hq : eqChk P n t = true) (hy : aget t T = some y) (hag : y.td.agg = true) (z1 : cs.length = y.size) (z2 : es.length = y.size)
    (l1 : lvOk (lv T n t) cs = true) (l2 : lvOk (lv T n t) es = true) (hβ : eqCells cs es = some β) (h : DrG cx all id k tm hp nx M (Nat.succ q) rest (⟨q, some d, .b r, [], [], []⟩ :: R)) :
    DrG cx all id k tm hp nx M q (⟨some d, .binOp op t x z t', ty, pos, after, none⟩ :: rest) R :=
  DrG.v (x := .b r) rfl (fun hp0 => VStep.eq_agg (hp := hp0) (nx := M) e hT hd h1 h2 hop hg n hn ha hq hy hag z1 z2 l1 l2 hβ) rfl h
theorem DrG.eq_aggGo (e : Env cx P fn lo) (hT : TabOk P T) {op : BinOp} {t t' : TypeId} {x z : Operand} {cs es : List SV} {β r : Bool} {y : Ty} {jg dj : Nat} {wg : Bool} (hgd : guardS all (tmS R tm) jg = .told dj wg) (hd : Nat.blt d fn.ntmps = true) (h1 : opd ⟨tmS R tm, [], 0⟩ x = some (.agg cs)) (h2 : opd ⟨tmS R tm, [], 0⟩ z = some (.agg es))
    (hop : op = .eql ∧ r = β ∨ op = .neq ∧ r = !β) (hg : P.eqGuardType P.depth t = false) (n : Nat) (hn : n ≤ 10000) (ha : argTy T n t = true) (hq : eqChk P n t = true) (hy : aget t T = some y) (hag : y.td.agg = true) (z1 : cs.length = y.size) (z2 : es.length = y.size)
    (l1 : lvOk (lv T n t) cs = true) (l2 : lvOk (lv T n t) es = true) (hβ : eqCells cs es = some β) (h : DrG cx all id k tm hp nx M (Nat.succ q) rest (⟨q, some d, .b r, [], [], []⟩ :: R)) :
    DrG cx all id k tm hp nx M q (⟨some d, .binOp op t x z t', ty, pos, after, some (jg, wg)⟩ :: rest) R :=
  DrG.v (x := .b r) rfl (fun hp0 => VStep.go hgd (VStep.eq_agg (hp := hp0) (nx := M) e hT hd h1 h2 hop hg n hn ha hq hy hag z1 z2 l1 l2 hβ)) rfl h

/-- The text of a row of bytes, in a region that draws its order. -/
theorem VStep.bytesStr (e : Env cx P fn lo) (hT : TabOk P T) {src dst te : TypeId} {x : Operand} {ys yt ye : Ty} {b o n C C0 : Nat} {xs : List (List SV)} {te' : TypeId} {fz : Bool} (l : List UInt8) (hd : Nat.blt d fn.ntmps = true) (h1 : opd ⟨tm, hp, nx⟩ x = some (.own b 1 o n C)) (h2 : aget src T = some ys) (h3 : ys.td = .slice te) (h4 : aget dst T = some yt) (h5 : yt.td = .str) (h6 : aget te T = some ye) (h7 : ye.td = .int .u8)
    (hrow : aget b hp = some (.row te' fz 1 xs C0)) (hn : n = l.length) (hl : ∀ j b, l[j]? = some b → xs[o + j]? = some (u8S b)) : VStep cx all hp nx ⟨some d, .convert src dst x, ty, pos, after, none⟩ tm d (.s (strL l)) := by
  intro tm' k ha g
  exact AWP.bytesStr e hT l hd ((opd_eq fun u hu => ha u (looks_ops (by simp [Op.operands]) hu)).trans h1) h2 h3 h4 h5 h6 h7 hrow hn hl g
theorem DrG.bytesStr (e : Env cx P fn lo) (hT : TabOk P T) {src dst te : TypeId} {x : Operand} {ys yt ye : Ty} {b o n C C0 : Nat} {xs : List (List SV)} {te' : TypeId} {fz : Bool} (l : List UInt8) (hd : Nat.blt d fn.ntmps = true) (h1 : opd ⟨tmS R tm, [], 0⟩ x = some (.own b 1 o n C)) (h2 : aget src T = some ys) (h3 : ys.td = .slice te) (h4 : aget dst T = some yt) (h5 : yt.td = .str) (h6 : aget te T = some ye) (h7 : ye.td = .int .u8)
    (hrow : aget b (hpS R hp) = some (.row te' fz 1 xs C0)) (hn : n = l.length) (hl : ∀ j b, l[j]? = some b → xs[o + j]? = some (u8S b)) (h : DrG cx all id k tm hp nx M (Nat.succ q) rest (⟨q, some d, .s (strL l), [b], [], []⟩ :: R)) :
    DrG cx all id k tm hp nx M q (⟨some d, .convert src dst x, ty, pos, after, none⟩ :: rest) R :=
  DrG.v1 rfl hrow (fun hp0 hb => VStep.bytesStr (hp := hp0) (nx := M) e hT l hd h1 h2 h3 h4 h5 h6 h7 hb hn hl) rfl h
theorem DrG.bytesStrGo (e : Env cx P fn lo) (hT : TabOk P T) {src dst te : TypeId} {x : Operand} {ys yt ye : Ty} {b o n C C0 : Nat} {xs : List (List SV)} {te' : TypeId} {fz : Bool} {jg dj : Nat} {wg : Bool} (l : List UInt8) (hgd : guardS all (tmS R tm) jg = .told dj wg) (hd : Nat.blt d fn.ntmps = true) (h1 : opd ⟨tmS R tm, [], 0⟩ x = some (.own b 1 o n C)) (h2 : aget src T = some ys) (h3 : ys.td = .slice te) (h4 : aget dst T = some yt) (h5 : yt.td = .str) (h6 : aget te T = some ye) (h7 : ye.td = .int .u8)
    (hrow : aget b (hpS R hp) = some (.row te' fz 1 xs C0)) (hn : n = l.length) (hl : ∀ j b, l[j]? = some b → xs[o + j]? = some (u8S b)) (h : DrG cx all id k tm hp nx M (Nat.succ q) rest (⟨q, some d, .s (strL l), [b], [], []⟩ :: R)) :
    DrG cx all id k tm hp nx M q (⟨some d, .convert src dst x, ty, pos, after, some (jg, wg)⟩ :: rest) R :=
  DrG.v1 rfl hrow (fun hp0 hb => VStep.go hgd (VStep.bytesStr (hp := hp0) (nx := M) e hT l hd h1 h2 h3 h4 h5 h6 h7 hb hn hl)) rfl h

end
end Go.Sy

/-
  SYMBOLIC STATES, over any program, part 39: the check of a region that draws its order, made in few steps (what must be done ahead of what, and what each looks at, is worked out once).
-/
namespace Go.Sy
open Go.RowKit

def forceL {R : Type} : List Nat → (List Nat → R) → R
  | [], k => k []
  | x :: l, k => forceL l fun l' => k (x :: l')
theorem forceL_eq {R : Type} : ∀ (l : List Nat) (k : List Nat → R), forceL l k = k l
  | [], _ => rfl
  | x :: l, k => by simp only [forceL, forceL_eq l]

def insN (x : Nat) (l : List Nat) : List Nat := bif memN x l then l else x :: l
def unN : List Nat → List Nat → List Nat
  | [], m => m
  | x :: l, m => unN l (insN x m)
theorem insN_mem {x y : Nat} {l : List Nat} (h : y ∈ insN x l) : y = x ∨ y ∈ l := by
  unfold insN at h
  cases hm : memN x l
  · rw [hm] at h; simpa using h
  · rw [hm] at h; exact .inr h
theorem unN_mem {y : Nat} : ∀ {l m : List Nat}, y ∈ unN l m → y ∈ l ∨ y ∈ m
  | [], _, h => .inr h
  | x :: l, m, h => by
    rcases unN_mem (l := l) h with h | h
    · exact .inl (List.mem_cons_of_mem _ h)
    · rcases insN_mem h with rfl | h
      · exact .inl List.mem_cons_self
      · exact .inr h

def rowAt (n : Nat) (T : List (List Nat)) (j : Nat) : List Nat := bif Nat.blt j n then (match nth T (n - 1 - j) with | some r => r | none => []) else []
def ancE (n : Nat) (T : List (List Nat)) : List Nat → List Nat
  | [] => []
  | j :: js => insN j (unN (rowAt n T j) (ancE n T js))
theorem ancE_mem {n x : Nat} {T : List (List Nat)} : ∀ {js : List Nat}, x ∈ ancE n T js → ∃ j ∈ js, x = j ∨ x ∈ rowAt n T j
  | [], h => by simp [ancE] at h
  | j :: js, h => by
    rcases insN_mem h with rfl | h
    · exact ⟨_, List.mem_cons_self, .inl rfl⟩
    · rcases unN_mem h with h | h
      · exact ⟨j, List.mem_cons_self, .inr h⟩
      · obtain ⟨j', h1, h2⟩ := ancE_mem h
        exact ⟨j', List.mem_cons_of_mem _ h1, h2⟩

theorem pre_iff {all : List Oper} {x : Nat} : ∀ {l : List Nat}, x ∈ clo.pre all l ↔ ∃ q ∈ l, ∃ o, nth all q = some o ∧ x ∈ edgesOf o.after.toList
  | [] => by simp [clo.pre]
  | q :: l => by
    simp only [clo.pre, List.mem_append, pre_iff (l := l)]
    constructor
    · rintro (h | ⟨q', h1, h2⟩)
      · cases ho : nth all q with
        | none => rw [ho] at h; simp at h
        | some o => rw [ho] at h; exact ⟨q, List.mem_cons_self, o, ho, h⟩
      · exact ⟨q', List.mem_cons_of_mem _ h1, h2⟩
    · rintro ⟨q', h1, o, ho, hx⟩
      rcases List.mem_cons.1 h1 with rfl | h1
      · left; rw [ho]; exact hx
      · exact .inr ⟨q', h1, o, ho, hx⟩
theorem clo_sub {all : List Oper} {x : Nat} : ∀ {m : Nat} {l l' : List Nat}, (∀ y ∈ l, y ∈ l') → x ∈ clo all m l → x ∈ clo all m l'
  | 0, l, l', h, hx => h x hx
  | m + 1, l, l', h, hx => by
    simp only [clo, List.mem_append] at hx ⊢
    rcases hx with hx | hx
    · exact .inl (h x hx)
    · refine .inr (clo_sub (fun y hy => ?_) hx)
      obtain ⟨q, h1, h2⟩ := pre_iff.1 hy
      exact pre_iff.2 ⟨q, h q h1, h2⟩
theorem clo_up {all : List Oper} {x : Nat} : ∀ {m : Nat} {l : List Nat}, x ∈ clo all m l → x ∈ clo all (m + 1) l
  | 0, l, h => by simp only [clo, List.mem_append]; exact .inl h
  | m + 1, l, h => by
    simp only [clo, List.mem_append] at h
    rcases h with h | h
    · simp only [clo, List.mem_append]; exact .inl h
    · have := clo_up h
      rw [clo, List.mem_append]
      exact .inr this
theorem clo_le {all : List Oper} {x m m' : Nat} {l : List Nat} (hm : m ≤ m') (h : x ∈ clo all m l) : x ∈ clo all m' l := by
  induction hm with
  | refl => exact h
  | step _ ih => exact clo_up ih
theorem clo_self {all : List Oper} {x m : Nat} {l : List Nat} (h : x ∈ l) : x ∈ clo all m l := by
  cases m with
  | zero => exact h
  | succ m => simp only [clo, List.mem_append]; exact .inl h
theorem clo_edge {all : List Oper} {x m i j : Nat} {o : Oper} (ho : nth all i = some o) (hj : j ∈ edgesOf o.after.toList) (h : x ∈ clo all m [j]) : x ∈ clo all (m + 1) [i] := by
  simp only [clo, List.mem_append]
  refine .inr (clo_sub (fun y hy => ?_) h)
  simp only [List.mem_singleton] at hy
  subst hy
  exact pre_iff.2 ⟨i, by simp, o, ho, hj⟩

def AncOk (all : List Oper) (n : Nat) (T : List (List Nat)) : Prop := ∀ i x, i < n → x ∈ rowAt n T i → x ∈ clo all (i + 1) [i]
def ancK {R : Type} : List Oper → Nat → List (List Nat) → (List (List Nat) → R) → R
  | [], _, T, k => k T
  | o :: os, n, T, k => forceL (ancE n T (edgesOf o.after.toList)) fun row => ancK os (Nat.succ n) (row :: T) k
theorem rowAt_cons {n i : Nat} {row : List Nat} {T : List (List Nat)} (h : i < n) : rowAt (n + 1) (row :: T) i = rowAt n T i := by
  unfold rowAt
  have h1 : Nat.blt i (n + 1) = true := Nat.ble_eq_true_of_le (by omega)
  have h2 : Nat.blt i n = true := Nat.ble_eq_true_of_le (by omega)
  rw [h1, h2, show n + 1 - 1 - i = (n - 1 - i) + 1 by omega]
  rfl
theorem rowAt_head {n : Nat} {row : List Nat} {T : List (List Nat)} : rowAt (n + 1) (row :: T) n = row := by
  unfold rowAt
  have h1 : Nat.blt n (n + 1) = true := Nat.ble_eq_true_of_le (by omega)
  rw [h1, show n + 1 - 1 - n = 0 by omega]
  rfl
theorem ancK_ok {R : Type} (all : List Oper) (k : List (List Nat) → R) (p : R → Prop) : ∀ (os : List Oper) (n : Nat) (T : List (List Nat)), all.drop n = os → n ≤ all.length → AncOk all n T → p (ancK os n T k) → ∃ T', AncOk all all.length T' ∧ p (k T')
  | [], n, T, hd, hn, hT, hp => by
    have : n = all.length := by
      have := congrArg List.length hd
      simp at this
      omega
    subst this
    exact ⟨T, hT, hp⟩
  | o :: os, n, T, hd, hn, hT, hp => by
    have hlt : n < all.length := by
      have := congrArg List.length hd
      simp at this
      omega
    have ho : nth all n = some o := by
      have := congrArg (·[0]?) hd
      rw [nth_eq]
      simpa using this
    simp only [ancK, forceL_eq] at hp
    refine ancK_ok all k p os (n + 1) _ ?_ hlt (fun i x hi hx => ?_) hp
    · rw [← List.drop_drop, hd]; rfl
    · by_cases e : i = n
      · subst e
        rw [rowAt_head] at hx
        obtain ⟨j, hj, hx⟩ := ancE_mem hx
        rcases hx with rfl | hx
        · exact clo_edge ho hj (clo_self (by simp))
        · have hjn : j < i := by
            rcases Nat.lt_or_ge j i with h | h
            · exact h
            · exfalso
              unfold rowAt at hx
              have : Nat.blt j i = false := by
                cases hb : Nat.blt j i
                · rfl
                · have := Nat.le_of_ble_eq_true hb; omega
              rw [this] at hx
              simp at hx
          exact clo_le (by omega) (clo_edge ho hj (hT j x hjn hx))
      · rw [rowAt_cons (by omega)] at hx
        exact hT i x (by omega) hx

/-! ### The check -/
def lkK {R : Type} (all : Array Oper) : List Oper → (List (List Nat) → R) → R
  | [], k => k []
  | o :: os, k => forceL (o.looksAt all) fun row => lkK all os fun l => k (row :: l)
theorem lkK_eq {R : Type} (all : Array Oper) : ∀ (os : List Oper) (k : List (List Nat) → R), lkK all os k = k (os.map fun o => o.looksAt all)
  | [], _ => rfl
  | o :: os, k => by simp only [lkK, forceL_eq, lkK_eq all os, List.map_cons]
def lkOf (lk : List (List Nat)) (q : Nat) : List Nat := match nth lk q with | some l => l | none => []
theorem lkOf_eq (all : List Oper) (a : Array Oper) (q : Nat) : lkOf (all.map fun o => o.looksAt a) q = (match nth all q with | some o => o.looksAt a | none => []) := by
  unfold lkOf
  rw [nth_eq, nth_eq, List.getElem?_map]
  cases all[q]? <;> rfl
def clash2 (lk : List (List Nat)) (r s : Rec) : Bool :=
  interN (optL s.d) (lkOf lk r.q ++ optL r.d) || interN (optL r.d) (lkOf lk s.q) ||
  interN (s.eff.map Prod.fst) (r.rd ++ r.eff.map Prod.fst) || interN (r.eff.map Prod.fst) s.rd || !recFree r s.nw
theorem clash2_eq (all : List Oper) (r s : Rec) : clash2 (all.map fun o => o.looksAt all.toArray) r s = clash all r s := by
  unfold clash2 clash
  first | (rw [lkOf_eq, lkOf_eq]; done) | (rw [lkOf_eq, lkOf_eq]; rfl)
def chkOne2 (lk : List (List Nat)) (r : Rec) (before : List Nat) : List Rec → Bool
  | [] => true
  | s :: R => (memN s.q before || !clash2 lk r s) && recFree s r.nw && chkOne2 lk r before R
theorem chkOne2_ok {all : List Oper} {r : Rec} {before before' : List Nat} (hb : ∀ x ∈ before, x ∈ before') : ∀ {R : List Rec}, chkOne2 (all.map fun o => o.looksAt all.toArray) r before R = true → chkOne all r before' R = true
  | [], _ => rfl
  | s :: R, h => by
    simp only [chkOne2, chkOne, Bool.and_eq_true, Bool.or_eq_true, clash2_eq] at h ⊢
    exact ⟨⟨h.1.1.imp (fun h => memN_iff.2 (hb _ (memN_iff.1 h))) id, h.1.2⟩, chkOne2_ok hb h.2⟩
def chkG2 (all : List Oper) (lk : List (List Nat)) (n : Nat) (T : List (List Nat)) (nx : Nat) : List Rec → Bool
  | [] => true
  | r :: R => !memN r.q (R.map Rec.q) && chkOne2 lk r (rowAt n T r.q) R && (match nth all r.q with | some o => allE (R.map Rec.q) o.after.toList | none => false) && (r.nw.all fun N => Nat.ble nx N) && chkG2 all lk n T nx R
theorem chkG2_ok {all : List Oper} {T : List (List Nat)} (hT : AncOk all all.length T) {nx M : Nat} : ∀ {R : List Rec}, chkG2 all (all.map fun o => o.looksAt all.toArray) all.length T nx R = true → chkG all nx M R = true
  | [], _ => rfl
  | r :: R, h => by
    simp only [chkG2, chkG, Bool.and_eq_true] at h ⊢
    refine ⟨⟨⟨⟨h.1.1.1.1, chkOne2_ok (fun x hx => ?_) h.1.1.1.2⟩, h.1.1.2⟩, h.1.2⟩, chkG2_ok hT h.2⟩
    have hlt : r.q < all.length := by
      rcases Nat.lt_or_ge r.q all.length with h | h
      · exact h
      · exfalso
        unfold rowAt at hx
        have : Nat.blt r.q all.length = false := by
          cases hb : Nat.blt r.q all.length
          · rfl
          · have := Nat.le_of_ble_eq_true hb; omega
        rw [this] at hx
        simp at hx
    rw [lenK_eq]
    exact clo_le hlt (hT r.q x hlt hx)
def chkGK (all : Array Oper) (nx : Nat) (R : List Rec) : Bool :=
  lkK all all.toList fun lk => ancK all.toList 0 [] fun T => chkG2 all.toList lk (lenK all.toList) T nx R
theorem chkGK_ok {all : Array Oper} {nx M : Nat} {R : List Rec} (h : chkGK all nx R = true) : chkG all.toList nx M R = true := by
  unfold chkGK at h
  rw [lkK_eq] at h
  obtain ⟨T, h1, h2⟩ := ancK_ok all.toList _ (fun b => b = true) all.toList 0 [] rfl (Nat.zero_le _) (fun i x hi _ => by omega) h
  rw [lenK_eq] at h2
  exact chkG2_ok h1 h2
section
variable {cx : Cx} {P : Program} {fn : Func} {lo : Nat} {T : Tab} {k : List It} {tm : List (Nat × SV)} {hp : List (Nat × Blk)} {nx M : Nat} {all : Array Oper} {R : List Rec} {id : Nat}
theorem DrG.finK (e : Env cx P fn lo) (hm : P.follows .mixedOrders = true) (hchk : chkGK all nx R = true) (hlen : Nat.beq (lenK R) (lenK all.toList) = true) (hM : Nat.ble nx M = true) (hT : okT nx tm = true) (hH : okHR nx hp)
    (g : AWP cx k ⟨tmS R tm, hpS R hp, M⟩) {q : Nat} : DrG cx all id k tm hp nx M q [] R :=
  DrG.fin e hm (chkGK_ok hchk) hlen hM hT hH g
end
end Go.Sy
