/-
  SYMBOLIC STATES, over any program, part 9: tests, loops, ends, contracts, calls.
-/
import Derived.Test.YtmmpblbdjnlciaaSy8
namespace Go.Sy
open Go.RowKit

/-- What text the walk is in. -/
structure Env (cx : Cx) (P : Program) (fn : Func) (lo : Nat) : Prop where
  P : cx.P = P
  fn : cx.fn = fn
  lo : ∀ i b, cx.μ0 i = some b → i < lo

section
variable {cx : Cx} {P : Program} {fn : Func} {lo : Nat} {T : Tab} {k : List It} {s : St} {tm : List (Nat × SV)} {hp : List (Nat × Blk)} {nx : Nat}

theorem AWP.run (e : Env cx P fn lo) (hT : TabOk P T) (n : Nat) {k' : List It} {s' : St} {ob : Prop} (h : arun T fn.ntmps n k tm hp nx True = ⟨k', s', ob⟩) (hob : ob) (g : AWP cx k' s') : AWP cx k ⟨tm, hp, nx⟩ := by
  obtain ⟨rfl, rfl, _⟩ := e
  have := arun_ok (cx := cx) hT n k tm hp nx True
  rw [h] at this
  exact (this hob).2 g

theorem AWP.cond_t {c : Operand} {x y : Code} {β : Bool} (h1 : opd s c = some (.b β)) (h : β = true) (g : AWP cx (.code x :: k) s) : AWP cx (.code (.cond c x y) :: k) s := fun a w hi => by
  obtain ⟨μ, ok, hi'⟩ := hi.one
  exact wp_cond_true (by rw [(opd_den hi'.tmps h1).vv, h]) (g a w hi)
theorem AWP.cond_f {c : Operand} {x y : Code} {β : Bool} (h1 : opd s c = some (.b β)) (h : β = false) (g : AWP cx (.code y :: k) s) : AWP cx (.code (.cond c x y) :: k) s := fun a w hi => by
  obtain ⟨μ, ok, hi'⟩ := hi.one
  exact wp_cond_false (by rw [(opd_den hi'.tmps h1).vv, h]) (g a w hi)

theorem AWP.op_run {all : Array Oper} {rest : List Oper} {d : Nat} {op : Op} {ty : TypeId} {pos : String} {after : Array Edge} (e : Env cx P fn lo) (hd : d < fn.ntmps) {x : SV}
    (hr : ∀ μ ok a w, Inv1 cx μ ok ⟨tm, hp, nx⟩ a w → ∃ y, (execOp a.eval ⟨some d, op, ty, pos, after, none⟩).run P w = .ok (.value y) w ∧ Den μ ok w x y)
    (h : AWP cx (.ops all rest :: k) ⟨(d, x) :: tm, hp, nx⟩) : AWP cx (.ops all (⟨some d, op, ty, pos, after, none⟩ :: rest) :: k) ⟨tm, hp, nx⟩ := by
  obtain ⟨rfl, rfl, _⟩ := e
  refine AWP.op rfl fun a w hi => ?_
  obtain ⟨μ, ok, hi⟩ := hi.one
  obtain ⟨y, h1, h2⟩ := hr μ ok a w hi
  rw [h1, Oper.upon_value]
  exact h _ _ (hi.put hd h2).inv

theorem AWP.pick_t {all : Array Oper} {rest : List Oper} {d : Nat} {c x y : Operand} {ty : TypeId} {pos : String} {after : Array Edge} (e : Env cx P fn lo) (hd : Nat.blt d fn.ntmps = true) {β : Bool} {v : SV} (h1 : opd ⟨tm, hp, nx⟩ c = some (.b β)) (h2 : opd ⟨tm, hp, nx⟩ x = some v) (hb : β = true)
    (h : AWP cx (.ops all rest :: k) ⟨(d, v) :: tm, hp, nx⟩) : AWP cx (.ops all (⟨some d, .pick c x y, ty, pos, after, none⟩ :: rest) :: k) ⟨tm, hp, nx⟩ :=
  AWP.op_run e (Nat.le_of_ble_eq_true hd) (fun μ ok a w hi => ⟨a.eval x, by simp [execOp, (opd_den hi.tmps h1).vv, hb, asBool], opd_den hi.tmps h2⟩) h
theorem AWP.pick_f {all : Array Oper} {rest : List Oper} {d : Nat} {c x y : Operand} {ty : TypeId} {pos : String} {after : Array Edge} (e : Env cx P fn lo) (hd : Nat.blt d fn.ntmps = true) {β : Bool} {v : SV} (h1 : opd ⟨tm, hp, nx⟩ c = some (.b β)) (h2 : opd ⟨tm, hp, nx⟩ y = some v) (hb : β = false)
    (h : AWP cx (.ops all rest :: k) ⟨(d, v) :: tm, hp, nx⟩) : AWP cx (.ops all (⟨some d, .pick c x y, ty, pos, after, none⟩ :: rest) :: k) ⟨tm, hp, nx⟩ :=
  AWP.op_run e (Nat.le_of_ble_eq_true hd) (fun μ ok a w hi => ⟨a.eval y, by simp [execOp, (opd_den hi.tmps h1).vv, hb, asBool], opd_den hi.tmps h2⟩) h

theorem Inv1.told {μ : Nat → Option Nat} {ok : Nat → Prop} {a : Act} {w : World} (h : Inv1 cx μ ok ⟨tm, hp, nx⟩ a w) {d : Nat} {b : Bool} (hb : aget d tm = some (.b b)) : Inv1 cx μ ok ⟨(d, .lit b) :: tm, hp, nx⟩ a w := by
  refine ⟨h.defers, h.size, h.heap, fun t y hy => ?_⟩
  simp only [aget_cons] at hy
  by_cases ht : t = d
  · rw [if_pos ht] at hy
    cases hy
    subst ht
    rw [(h.tmps t _ hb).vv]
    exact .lit b
  · rw [if_neg ht] at hy
    exact h.tmps t y hy

theorem AWP.told {d : Nat} {b : Bool} (hb : aget d tm = some (.b b)) (h : AWP cx k ⟨(d, .lit b) :: tm, hp, nx⟩) : AWP cx k ⟨tm, hp, nx⟩ := fun a w hi => by
  obtain ⟨μ, ok, hi⟩ := hi.one
  exact h a w (hi.told hb).inv

/-- A guard that is told: its truth value stands in slot d. -/
theorem AWP.guard {all : Array Oper} {rest : List Oper} {dst : Option Tmp} {op : Op} {ty : TypeId} {pos : String} {after : Array Edge} {j d : Nat} {b w : Bool} (hg : guardS all tm j = .ask d b) (v : Bool) (hb : b = v)
    (h : AWP cx (.ops all (⟨dst, op, ty, pos, after, some (j, w)⟩ :: rest) :: k) ⟨(d, .lit v) :: tm, hp, nx⟩) : AWP cx (.ops all (⟨dst, op, ty, pos, after, some (j, w)⟩ :: rest) :: k) ⟨tm, hp, nx⟩ := by
  obtain ⟨o, _, _, h3⟩ := guardS_ask hg
  subst hb
  exact AWP.told h3 h

/-- A test that is told. -/
theorem AWP.cond {t : Nat} {x y : Code} {b : Bool} (hg : aget t tm = some (.b b)) (v : Bool) (hb : b = v)
    (h : AWP cx (.code (.cond (.tmp t) x y) :: k) ⟨(t, .lit v) :: tm, hp, nx⟩) : AWP cx (.code (.cond (.tmp t) x y) :: k) ⟨tm, hp, nx⟩ := by
  subst hb
  exact AWP.told hg h

/-- One of two that is told. -/
theorem AWP.pick {all : Array Oper} {rest : List Oper} {dst : Option Tmp} {x y : Operand} {t : Nat} {ty : TypeId} {pos : String} {after : Array Edge} {b : Bool} (hg : aget t tm = some (.b b)) (v : Bool) (hb : b = v)
    (h : AWP cx (.ops all (⟨dst, .pick (.tmp t) x y, ty, pos, after, none⟩ :: rest) :: k) ⟨(t, .lit v) :: tm, hp, nx⟩) : AWP cx (.ops all (⟨dst, .pick (.tmp t) x y, ty, pos, after, none⟩ :: rest) :: k) ⟨tm, hp, nx⟩ := by
  subst hb
  exact AWP.told hg h

def dstOk (N : Nat) : Option Nat → Bool
  | none => true
  | some d => Nat.blt d N

theorem dstOk_lt {N : Nat} {dst : Option Nat} (h : dstOk N dst = true) : ∀ t, dst = some t → t < N := fun t ht => by subst ht; exact Nat.le_of_ble_eq_true h

theorem AWP.guard2 {all : Array Oper} {rest : List Oper} {dst : Option Tmp} {op : Op} {ty : TypeId} {pos : String} {after : Array Edge} {j d : Nat} {b w : Bool} (hg : guardS all tm j = .ask d b)
    (h1 : b = true → AWP cx (.ops all (⟨dst, op, ty, pos, after, some (j, w)⟩ :: rest) :: k) ⟨(d, .lit true) :: tm, hp, nx⟩)
    (h2 : b = false → AWP cx (.ops all (⟨dst, op, ty, pos, after, some (j, w)⟩ :: rest) :: k) ⟨(d, .lit false) :: tm, hp, nx⟩) : AWP cx (.ops all (⟨dst, op, ty, pos, after, some (j, w)⟩ :: rest) :: k) ⟨tm, hp, nx⟩ := by
  cases b
  · exact AWP.guard hg false rfl (h2 rfl)
  · exact AWP.guard hg true rfl (h1 rfl)
theorem AWP.cond2 {t : Nat} {x y : Code} {b : Bool} (hg : aget t tm = some (.b b))
    (h1 : b = true → AWP cx (.code (.cond (.tmp t) x y) :: k) ⟨(t, .lit true) :: tm, hp, nx⟩) (h2 : b = false → AWP cx (.code (.cond (.tmp t) x y) :: k) ⟨(t, .lit false) :: tm, hp, nx⟩) : AWP cx (.code (.cond (.tmp t) x y) :: k) ⟨tm, hp, nx⟩ := by
  cases b
  · exact AWP.cond hg false rfl (h2 rfl)
  · exact AWP.cond hg true rfl (h1 rfl)
theorem AWP.pick2 {all : Array Oper} {rest : List Oper} {dst : Option Tmp} {x y : Operand} {t : Nat} {ty : TypeId} {pos : String} {after : Array Edge} {b : Bool} (hg : aget t tm = some (.b b))
    (h1 : b = true → AWP cx (.ops all (⟨dst, .pick (.tmp t) x y, ty, pos, after, none⟩ :: rest) :: k) ⟨(t, .lit true) :: tm, hp, nx⟩)
    (h2 : b = false → AWP cx (.ops all (⟨dst, .pick (.tmp t) x y, ty, pos, after, none⟩ :: rest) :: k) ⟨(t, .lit false) :: tm, hp, nx⟩) : AWP cx (.ops all (⟨dst, .pick (.tmp t) x y, ty, pos, after, none⟩ :: rest) :: k) ⟨tm, hp, nx⟩ := by
  cases b
  · exact AWP.pick hg false rfl (h2 rfl)
  · exact AWP.pick hg true rfl (h1 rfl)

/-! ### Less known -/
def leT (s' : St) : List (Nat × SV) → Prop
  | [] => True
  | (t, x) :: l => (aget t s'.tmps).map strip = some x ∧ leT s' l
def leH (s' : St) : List (Nat × Blk) → Prop
  | [] => True
  | (i, B) :: l => aget i s'.heap = some B ∧ leH s' l

def SV.idsLt (n : Nat) : SV → Bool
  | .d _ | .ip _ | .lit _ => true
  | .ptr id _ | .pel id _ _ _ | .own id _ _ _ _ => Nat.blt id n
  | .agg cs | .tup cs => go n cs
  | .fn _ a b => go n a && go n b
where go (n : Nat) : List SV → Bool
  | [] => true
  | x :: l => SV.idsLt n x && go n l

theorem idsLt_go {n : Nat} {l : List SV} (h : SV.idsLt.go n l = true) : ∀ (j : Nat) c, l[j]? = some c → SV.idsLt n c = true := by
  induction l with
  | nil => intro j c hc; simp at hc
  | cons x l ih =>
    intro j c hc
    simp only [SV.idsLt.go, Bool.and_eq_true] at h
    cases j with
    | zero => simp at hc; subst hc; exact h.1
    | succ j => exact ih h.2 j c (by simpa using hc)

theorem Den.cut {μ : Nat → Option Nat} {ok : Nat → Prop} {w : World} {n : Nat} {μ' : Nat → Option Nat} (hμ : ∀ i, i < n → μ' i = μ i) {x : SV} {y : Value} (h : Den μ ok w x y) : SV.idsLt n x = true → Den μ' ok w x y := by
  induction h with
  | d h => exact fun _ => .d h
  | ptr h => exact fun hl => .ptr (by rw [hμ _ (Nat.le_of_ble_eq_true hl)]; exact h)
  | pel h => exact fun hl => .pel (by rw [hμ _ (Nat.le_of_ble_eq_true hl)]; exact h)
  | own h h1 h2 => exact fun hl => .own (by rw [hμ _ (Nat.le_of_ble_eq_true hl)]; exact h) h1 h2
  | ip a h4 => exact fun _ => .ip a h4
  | lit b => exact fun _ => .lit b
  | ownNil a id k lo => exact fun _ => .ownNil a id k lo
  | agg vs h h1 ih => exact fun hl => .agg vs h fun j c u hc hu => ih j c u hc hu (idsLt_go hl j c hc)
  | tup vs h h1 ih => exact fun hl => .tup vs h fun j c u hc hu => ih j c u hc hu (idsLt_go hl j c hc)
  | fn vs us h h1 h2 h3 ih1 ih2 =>
    intro hl
    simp only [SV.idsLt, Bool.and_eq_true] at hl
    exact .fn vs us h (fun j c u hc hu => ih1 j c u hc hu (idsLt_go hl.1 j c hc)) h2 (fun j c u hc hu => ih2 j c u hc hu (idsLt_go hl.2 j c hc))

def Blk.idsLt (n : Nat) : Blk → Prop
  | .box cs => SV.idsLt.go n cs = true
  | .row _ _ _ xs _ => ∀ e ∈ xs, SV.idsLt.go n e = true

theorem DenB.cut {μ : Nat → Option Nat} {ok : Nat → Prop} {w : World} {n : Nat} {μ' : Nat → Option Nat} (hμ : ∀ i, i < n → μ' i = μ i) {b : Nat} {B : Blk} (h : DenB μ ok w b B) (hl : B.idsLt n) : DenB μ' ok w b B := by
  cases B with
  | box cs =>
    obtain ⟨c, T, z, h1, hz, h2, h3⟩ := h
    exact ⟨c, T, z, h1, hz, h2, fun j x u hx hu => (h3 j x u hx hu).cut hμ (idsLt_go hl j x hx)⟩
  | row T fz k xs C =>
    obtain ⟨c, z, h1, hf, hz, h2, h3, h4, h5⟩ := h
    exact ⟨c, z, h1, hf, hz, h2, h3, h4, fun i e j x u he hx hu => (h5 i e j x u he hx hu).cut hμ (idsLt_go (hl e (List.mem_of_getElem? he)) j x hx)⟩

def okT (n : Nat) : List (Nat × SV) → Bool
  | [] => true
  | (_, x) :: l => SV.idsLt n x && okT n l
def okH (n : Nat) : List (Nat × Blk) → Prop
  | [] => True
  | (i, B) :: l => Nat.blt i n = true ∧ B.idsLt n ∧ okH n l

theorem leT_get {s' : St} {l : List (Nat × SV)} (h : leT s' l) {n : Nat} (ho : okT n l = true) : ∀ t x, aget t l = some x → (∃ y, aget t s'.tmps = some y ∧ strip y = x) ∧ SV.idsLt n x = true := by
  induction l with
  | nil => intro t x hx; simp [aget] at hx
  | cons p l ih =>
    obtain ⟨u, y⟩ := p
    simp only [okT, Bool.and_eq_true] at ho
    intro t x hx
    rw [aget_cons] at hx
    by_cases e : t = u
    · rw [if_pos e] at hx
      cases hx
      subst e
      exact ⟨by simpa using h.1, ho.1⟩
    · rw [if_neg e] at hx
      exact ih h.2 ho.2 t x hx

theorem leH_get {s' : St} {l : List (Nat × Blk)} (h : leH s' l) {n : Nat} (ho : okH n l) : ∀ t x, aget t l = some x → aget t s'.heap = some x ∧ t < n ∧ x.idsLt n := by
  induction l with
  | nil => intro t x hx; simp [aget] at hx
  | cons p l ih =>
    obtain ⟨u, y⟩ := p
    intro t x hx
    rw [aget_cons] at hx
    by_cases e : t = u
    · rw [if_pos e] at hx
      cases hx
      subst e
      exact ⟨h.1, Nat.le_of_ble_eq_true ho.1, ho.2.1⟩
    · rw [if_neg e] at hx
      exact ih h.2 ho.2.2 t x hx

/-- A state of which less is known, with fewer names. -/
theorem AWP.less (e : Env cx P fn lo) {tm' : List (Nat × SV)} {hp' : List (Nat × Blk)} {nx' : Nat} (h1 : leT ⟨tm', hp', nx'⟩ tm) (h2 : leH ⟨tm', hp', nx'⟩ hp) (h3 : okT nx tm = true) (h4 : okH nx hp) (h6 : Nat.ble lo nx = true) (g : AWP cx k ⟨tm, hp, nx⟩) : AWP cx k ⟨tm', hp', nx'⟩ := fun a w hi => by
  obtain ⟨μ, ok, hi⟩ := hi.one
  refine g a w ?_
  let μ' : Nat → Option Nat := fun i => if i < nx then μ i else none
  have hμ : ∀ i, i < nx → μ' i = μ i := fun i h => by simp [μ', h]
  refine ⟨hi.defers, hi.size, μ', ok, ⟨fun i b hb => ?_, fun i h => by have h : nx ≤ i := h; simp [μ']; omega, hi.heap.sub, hi.heap.lt, hi.heap.okNew, fun i B hB => ?_, fun i j C D b hC hD hb hb' => ?_, hi.heap.frame, hi.heap.size, hi.heap.os, hi.heap.tape, hi.heap.output⟩, fun t x hx => ?_⟩
  · rw [hμ _ (by have := e.lo i b hb; have := Nat.le_of_ble_eq_true h6; omega)]
    exact hi.heap.mu i b hb
  · obtain ⟨e1, e2, e3⟩ := leH_get h2 h4 i B hB
    obtain ⟨hg, hn⟩ | ⟨b, g1, g2, g3, g4, g5⟩ := hi.heap.own i B e1
    · exact .inl ⟨hg, by rw [hμ _ e2]; exact hn⟩
    exact .inr ⟨b, by rw [hμ _ e2]; exact g1, g2, g3, g4, g5.cut hμ e3⟩
  · obtain ⟨e1, e2, _⟩ := leH_get h2 h4 i C hC
    obtain ⟨e3, e4, _⟩ := leH_get h2 h4 j D hD
    rw [hμ _ e2] at hb
    rw [hμ _ e4] at hb'
    exact hi.heap.inj i j C D b e1 e3 hb hb'
  · obtain ⟨⟨y, e1, rfl⟩, e2⟩ := leT_get h1 h3 t x hx
    exact (strip_den (hi.tmps t y e1)).cut hμ e2

end
end Go.Sy
