/-
  SYMBOLIC STATES, over any program, part 7: a walk's rules.
-/
import Derived.Test.YtmmpblbdjnlciaaSy6
namespace Go.Sy
open Go.RowKit

def K (P : Program) (R : Exit → Act → World → Prop) : List It → Exit → Act → World → Prop
  | [], e, a, w => R e a w
  | .code c :: k, .normal, a, w => c.wp P (K P R k) a w
  | .blk id :: k, .exit i, a, w => if i = id then K P R k .normal a w else K P R k (.exit i) a w
  | .ops all rest :: k, .normal, a, w => wpList P all (K P R k) rest a w
  | .inv Φ :: _, .normal, a, w => Φ a w
  | _ :: k, e, a, w => K P R k e a w

/-- What is asked where the text ends. -/
def Cx.R (cx : Cx) : Exit → Act → World → Prop := fun e a w =>
  (e = .normal ∨ e = .ret) ∧ a.defers = [] ∧ ∃ μ ok r h n y, HInv cx μ ok h n w ∧ (results cx.fn a.tmps).run cx.P w = .ok y w ∧ Den μ ok w r y ∧ cx.Post r h n

structure Inv1 (cx : Cx) (μ : Nat → Option Nat) (ok : Nat → Prop) (s : St) (a : Act) (w : World) : Prop where
  defers : a.defers = []
  size : a.tmps.size = cx.fn.ntmps
  heap : HInv cx μ ok s.heap s.next w
  tmps : ∀ t x, aget t s.tmps = some x → Den μ ok w x (a.tmps.getD t undef)

theorem Inv1.inv {cx : Cx} {μ : Nat → Option Nat} {ok : Nat → Prop} {s : St} {a : Act} {w : World} (h : Inv1 cx μ ok s a w) : Inv cx s a w := ⟨h.defers, h.size, μ, ok, h.heap, h.tmps⟩
theorem Inv.one {cx : Cx} {s : St} {a : Act} {w : World} (h : Inv cx s a w) : ∃ μ ok, Inv1 cx μ ok s a w := let ⟨h1, h2, μ, ok, h3, h4⟩ := h; ⟨μ, ok, h1, h2, h3, h4⟩

def AWP (cx : Cx) (k : List It) (s : St) : Prop := ∀ a w, Inv cx s a w → K cx.P cx.R k .normal a w

section
variable {cx : Cx} {T : Tab} {k : List It} {s : St} {tm : List (Nat × SV)} {hp : List (Nat × Blk)} {nx : Nat}

theorem Inv1.hh {μ : Nat → Option Nat} {ok : Nat → Prop} {a : Act} {w : World} (h : Inv1 cx μ ok s a w) : ∀ i B, aget i s.heap = some B → (B.ghost ∧ μ i = none) ∨ ∃ b, μ i = some b ∧ ¬ ok b ∧ DenB μ ok w b B := fun i B hi =>
  (h.heap.own i B hi).imp id fun ⟨b, h1, _, h3, _, h5⟩ => ⟨b, h1, h3, h5⟩

theorem put_get (a : Act) (d t : Nat) (v : Value) (hd : d < a.tmps.size) : (a.put (some d) v).tmps.getD t undef = if t = d then v else a.tmps.getD t undef := by
  simp only [Act.put]
  by_cases h : t = d
  · subst h
    simp [hd]
  · rw [if_neg h]
    simp [Array.getElem?_setIfInBounds_ne (Ne.symm h)]

theorem aget_cons {α : Type} (t d : Nat) (x : α) (l : List (Nat × α)) : aget t ((d, x) :: l) = if t = d then some x else aget t l := by
  by_cases h : t = d
  · subst h; simp [aget]
  · simp [aget, beq_ne h, h]

theorem Inv1.put {μ : Nat → Option Nat} {ok : Nat → Prop} {a : Act} {w : World} (h : Inv1 cx μ ok ⟨tm, hp, nx⟩ a w) {d : Nat} (hd : d < cx.fn.ntmps) {x : SV} {v : Value} (hx : Den μ ok w x v) :
    Inv1 cx μ ok ⟨(d, x) :: tm, hp, nx⟩ (a.put (some d) v) w := by
  refine ⟨h.defers, by simp only [Act.put, Array.size_setIfInBounds]; exact h.size, h.heap, fun t y hy => ?_⟩
  simp only [aget_cons] at hy
  rw [put_get _ _ _ _ (by rw [h.size]; exact hd)]
  by_cases ht : t = d
  · rw [if_pos ht] at hy ⊢
    cases hy
    exact hx
  · rw [if_neg ht] at hy ⊢
    exact h.tmps t y hy

def upd (μ : Nat → Option Nat) (i b : Nat) : Nat → Option Nat := fun j => if j = i then some b else μ j

theorem upd_mono {μ : Nat → Option Nat} {i b : Nat} (h : μ i = none) : ∀ j c, μ j = some c → upd μ i b j = some c := by
  intro j c hj
  unfold upd
  split
  · subst_vars; rw [h] at hj; cases hj
  · exact hj

theorem HInv.alloc {μ : Nat → Option Nat} {ok : Nat → Prop} {w : World} (h : HInv cx μ ok hp nx w) (o : Obj) (B : Blk) (hB : DenB μ ok (w.alloc o) w.heap.size B) :
    HInv cx (upd μ nx w.heap.size) ok ((nx, B) :: hp) (Nat.succ nx) (w.alloc o) := by
  have hn : μ nx = none := h.fresh nx (Nat.le_refl _)
  have hm := upd_mono (b := w.heap.size) hn
  have hw : ∀ b, ok b → (w.alloc o).heap[b]? = w.heap[b]? := fun b hb => Below.heap_alloc w o b (h.lt b hb)
  refine ⟨fun i b hi => hm _ _ (h.mu i b hi), fun i hi => ?_, h.sub, fun b hb => by have := h.lt b hb; simp; omega, h.okNew, fun i C hi => ?_, fun i j C D b hi hj hbi hbj => ?_, fun b hb hF => ?_, by have := h.size; simp; omega, h.os, h.tape, h.output⟩
  · unfold upd
    rw [if_neg (by omega)]
    exact h.fresh i (by omega)
  · rw [aget_cons] at hi
    by_cases e : i = nx
    · rw [if_pos e] at hi
      cases hi
      subst e
      refine .inr ⟨w.heap.size, by simp [upd], by simp, fun hb => by have := h.lt _ hb; omega, .inl h.size, ?_⟩
      exact hB.mono hm (fun _ h => h) (fun _ _ => rfl) rfl
    · rw [if_neg e] at hi
      obtain ⟨hg, hn⟩ | ⟨b, h1, h2, h3, h4, h5⟩ := h.own i C hi
      · exact .inl ⟨hg, by unfold upd; rw [if_neg e]; exact hn⟩
      exact .inr ⟨b, hm _ _ h1, by simp; omega, h3, h4, h5.mono hm (fun _ h => h) hw (Below.heap_alloc w o b h2)⟩
  · rw [aget_cons] at hi hj
    have key : ∀ i C, i ≠ nx → aget i hp = some C → ∀ b, upd μ nx w.heap.size i = some b → μ i = some b ∧ b < w.heap.size := by
      intro i C e hi b hb
      unfold upd at hb
      rw [if_neg e] at hb
      obtain ⟨_, hn⟩ | ⟨b', h1, h2, _⟩ := h.own i C hi
      · rw [hn] at hb; cases hb
      rw [h1] at hb
      cases hb
      exact ⟨h1, h2⟩
    by_cases e1 : i = nx <;> by_cases e2 : j = nx
    · rw [e1, e2]
    · rw [if_neg e2] at hj
      have := key j D e2 hj b hbj
      subst e1
      simp [upd] at hbi
      omega
    · rw [if_neg e1] at hi
      have := key i C e1 hi b hbi
      subst e2
      simp [upd] at hbj
      omega
    · rw [if_neg e1] at hi
      rw [if_neg e2] at hj
      exact h.inj i j C D b hi hj (key i C e1 hi b hbi).1 (key j D e2 hj b hbj).1
  · rw [Below.heap_alloc w o b (by have := h.size; omega)]
    exact h.frame b hb hF

theorem Inv1.alloc {μ : Nat → Option Nat} {ok : Nat → Prop} {a : Act} {w : World} (h : Inv1 cx μ ok ⟨tm, hp, nx⟩ a w) (o : Obj) (B : Blk) (hB : DenB μ ok (w.alloc o) w.heap.size B) :
    Inv1 cx (upd μ nx w.heap.size) ok ⟨tm, (nx, B) :: hp, Nat.succ nx⟩ a (w.alloc o) := by
  have hm := upd_mono (b := w.heap.size) (h.heap.fresh nx (Nat.le_refl _))
  refine ⟨h.defers, h.size, h.heap.alloc o B hB, fun t x hx => (h.tmps t x hx).mono hm (fun _ h => h) fun b hb => Below.heap_alloc w o b (h.heap.lt b hb)⟩

theorem HInv.set {μ : Nat → Option Nat} {ok : Nat → Prop} {w w' : World} (h : HInv cx μ ok hp nx w) {id b : Nat} {B0 B : Blk} (hid : aget id hp = some B0) (hb : μ id = some b) (hu : Upd w w' b) (hB : DenB μ ok w' b B) :
    HInv cx μ ok ((id, B) :: hp) nx w' := by
  obtain ⟨_, hn⟩ | ⟨b', h1, h2, h3, h4, h5⟩ := h.own id B0 hid
  · rw [hn] at hb; cases hb
  rw [hb] at h1
  cases h1
  have hw : ∀ c, ok c → w'.heap[c]? = w.heap[c]? := fun c hc => hu.other c fun e => h3 (e ▸ hc)
  refine ⟨h.mu, h.fresh, h.sub, fun c hc => by rw [hu.size]; exact h.lt c hc, h.okNew, fun i C hi => ?_, fun i j C D c hi hj hci hcj => ?_, fun c hc hF => ?_, by rw [hu.size]; exact h.size, hu.os.trans h.os, hu.tape.trans h.tape, hu.output.trans h.output⟩
  · rw [aget_cons] at hi
    by_cases e : i = id
    · rw [if_pos e] at hi
      cases hi
      subst e
      exact .inr ⟨b, hb, by rw [hu.size]; exact h2, h3, h4, hB⟩
    · rw [if_neg e] at hi
      obtain ⟨hg, hn⟩ | ⟨c, g1, g2, g3, g4, g5⟩ := h.own i C hi
      · exact .inl ⟨hg, hn⟩
      have hne : c ≠ b := fun ec => e (h.inj i id C B0 c hi hid g1 (ec ▸ hb))
      exact .inr ⟨c, g1, by rw [hu.size]; exact g2, g3, g4, g5.mono (fun _ _ h => h) (fun _ h => h) hw (hu.other c hne)⟩
  · have hi' : ∃ C', aget i hp = some C' := by
      rw [aget_cons] at hi
      by_cases e : i = id
      · subst e; exact ⟨_, hid⟩
      · rw [if_neg e] at hi; exact ⟨_, hi⟩
    have hj' : ∃ C', aget j hp = some C' := by
      rw [aget_cons] at hj
      by_cases e : j = id
      · subst e; exact ⟨_, hid⟩
      · rw [if_neg e] at hj; exact ⟨_, hj⟩
    obtain ⟨C', hi'⟩ := hi'
    obtain ⟨D', hj'⟩ := hj'
    exact h.inj i j C' D' c hi' hj' hci hcj
  · have hne : c ≠ b := by
      rintro rfl
      rcases h4 with h4 | h4
      · omega
      · exact hF h4
    rw [hu.other c hne]
    exact h.frame c hc hF

theorem Inv1.set {μ : Nat → Option Nat} {ok : Nat → Prop} {a : Act} {w w' : World} (h : Inv1 cx μ ok ⟨tm, hp, nx⟩ a w) {id b : Nat} {B0 B : Blk} (hid : aget id hp = some B0) (hb : μ id = some b) (hu : Upd w w' b) (hB : DenB μ ok w' b B) :
    Inv1 cx μ ok ⟨tm, (id, B) :: hp, nx⟩ a w' := by
  obtain ⟨_, hn⟩ | ⟨b', h1, h2, h3, h4, h5⟩ := h.heap.own id B0 hid
  · rw [hn] at hb; cases hb
  rw [hb] at h1
  cases h1
  exact ⟨h.defers, h.size, h.heap.set hid hb hu hB, fun t x hx => (h.tmps t x hx).mono (fun _ _ h => h) (fun _ h => h) fun c hc => hu.other c fun e => h3 (e ▸ hc)⟩

/-! ### One step of code -/
theorem K_seq (P : Program) (R : Exit → Act → World → Prop) (c : Code) (k : List It) : K P R (.code c :: k) = Exit.then (c.wp P (K P R k)) (K P R k) := by
  funext e a w
  cases e <;> rfl

theorem K_blk (P : Program) (R : Exit → Act → World → Prop) (id : Nat) (k : List It) : K P R (.blk id :: k) = Exit.inBlock id (K P R k) := by
  funext e a w
  cases e <;> rfl

theorem K_exitTo (P : Program) (R : Exit → Act → World → Prop) (id : Nat) : ∀ (k k' : List It), It.exitTo id k = some k' → ∀ a w, K P R k' .normal a w → K P R k (.exit id) a w
  | [], _, h, _, _, _ => by cases h
  | .blk i :: k, k', h, a, w, hk => by
    simp only [It.exitTo] at h
    by_cases e : i = id
    · subst e
      simp only [Nat.beq_refl, cond_true, Option.some.injEq] at h
      subst h
      simp only [K, if_true]
      exact hk
    · rw [beq_ne e] at h
      simp only [cond_false] at h
      have : ¬ id = i := fun h => e h.symm
      simp only [K, if_neg this]
      exact K_exitTo P R id k k' h a w hk
  | .code _ :: k, k', h, a, w, hk => K_exitTo P R id k k' h a w hk
  | .ops _ _ :: k, k', h, a, w, hk => K_exitTo P R id k k' h a w hk
  | .inv _ :: k, k', h, a, w, hk => K_exitTo P R id k k' h a w hk

theorem K_ret (P : Program) (R : Exit → Act → World → Prop) : ∀ (k : List It) (a : Act) (w : World), R .ret a w → K P R k .ret a w
  | [], _, _, h => h
  | .blk _ :: k, a, w, h => K_ret P R k a w h
  | .code _ :: k, a, w, h => K_ret P R k a w h
  | .ops _ _ :: k, a, w, h => K_ret P R k a w h
  | .inv _ :: k, a, w, h => K_ret P R k a w h

theorem AWP.seq {a b : Code} (h : AWP cx (.code a :: .code b :: k) s) : AWP cx (.code (.seq a b) :: k) s := fun ac w hi => by
  have := h ac w hi
  exact wp_seq (by rw [← K_seq]; exact this)
theorem AWP.block {id : Nat} {c : Code} (h : AWP cx (.code c :: .blk id :: k) s) : AWP cx (.code (.block id c) :: k) s := fun ac w hi => by
  have := h ac w hi
  exact wp_block (by rw [← K_blk]; exact this)
theorem AWP.exit {id : Nat} {k' : List It} (he : It.exitTo id k = some k') (h : AWP cx k' s) : AWP cx (.code (.exit id) :: k) s := fun ac w hi => wp_exit (K_exitTo _ _ _ _ _ he _ _ (h ac w hi))
theorem AWP.region {id : Nat} {ops : Array Oper} (h : AWP cx (.ops ops ops.toList :: k) s) : AWP cx (.code (.region id ops false) :: k) s := fun ac w hi => wp_region_list (h ac w hi)

theorem AWP.op {all : Array Oper} {o : Oper} {rest : List Oper} (hg : o.guard = none) (h : ∀ a w, Inv cx s a w → o.upon cx.P a (wpList cx.P all (K cx.P cx.R k) rest) (K cx.P cx.R k) ((execOp a.eval o).run cx.P w)) : AWP cx (.ops all (o :: rest) :: k) s := fun a w hi => by
  show wpList cx.P all (K cx.P cx.R k) (o :: rest) a w
  unfold wpList
  rw [if_pos (by simp [Region.wanted, hg])]
  exact .inl (h a w hi)

end
end Go.Sy
