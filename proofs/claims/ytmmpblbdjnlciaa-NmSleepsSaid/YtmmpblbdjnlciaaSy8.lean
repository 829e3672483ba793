/-
  SYMBOLIC STATES, over any program, part 8: the walk by itself; tests, loops, ends.
-/
import Derived.Test.YtmmpblbdjnlciaaSy7
namespace Go.Sy
open Go.RowKit

section
variable {cx : Cx} {T : Tab} {k : List It} {s : St} {tm : List (Nat × SV)} {hp : List (Nat × Blk)} {nx : Nat}

theorem AWP.op_val (hT : TabOk cx.P T) {all : Array Oper} {rest : List Oper} {d : Nat} {op : Op} {ty : TypeId} {pos : String} {after : Array Edge} (hd : d < cx.fn.ntmps) {x : SV} {p : Prop} (he : ev T ⟨tm, hp, nx⟩ op = .val x p) (hp' : p)
    (h : AWP cx (.ops all rest :: k) ⟨(d, x) :: tm, hp, nx⟩) : AWP cx (.ops all (⟨some d, op, ty, pos, after, none⟩ :: rest) :: k) ⟨tm, hp, nx⟩ := by
  refine AWP.op rfl fun a w hi => ?_
  obtain ⟨μ, ok, hi⟩ := hi.one
  have := ev_ok hT hi.tmps hi.hh (⟨some d, op, ty, pos, after, none⟩ : Oper)
  rw [he] at this
  obtain ⟨y, h1, h2⟩ := this hp'
  rw [h1, Oper.upon_value]
  exact h _ _ (hi.put hd h2).inv

theorem AWP.op_val0 (hT : TabOk cx.P T) {all : Array Oper} {rest : List Oper} {op : Op} {ty : TypeId} {pos : String} {after : Array Edge} {x : SV} {p : Prop} (he : ev T ⟨tm, hp, nx⟩ op = .val x p) (hp' : p)
    (h : AWP cx (.ops all rest :: k) ⟨tm, hp, nx⟩) : AWP cx (.ops all (⟨none, op, ty, pos, after, none⟩ :: rest) :: k) ⟨tm, hp, nx⟩ := by
  refine AWP.op rfl fun a w hi => ?_
  obtain ⟨μ, ok, hi⟩ := hi.one
  have := ev_ok hT hi.tmps hi.hh (⟨none, op, ty, pos, after, none⟩ : Oper)
  rw [he] at this
  obtain ⟨y, h1, h2⟩ := this hp'
  rw [h1, Oper.upon_value]
  exact h _ _ hi.inv

theorem box_new {μ : Nat → Option Nat} {ok : Nat → Prop} {w : World} {cs : List SV} {c : Array Value} {t : TypeId} (h : Cells μ ok w cs c) (hlt : ∀ b, ok b → b < w.heap.size) : DenB μ ok (w.alloc (.cells c t)) w.heap.size (.box cs) :=
  ⟨c, t, (0, 0), (MapKept.heap_alloc w _).1, fun j _ hj => by omega, h.1, fun j x u hx hu => (h.2 j x u hx hu).mono (fun _ _ h => h) (fun _ h => h) fun b hb => Below.heap_alloc w _ b (hlt b hb)⟩

theorem AWP.op_box (hT : TabOk cx.P T) {all : Array Oper} {rest : List Oper} {d : Nat} {op : Op} {ty : TypeId} {pos : String} {after : Array Edge} (hd : d < cx.fn.ntmps) {cs : List SV} (he : ev T ⟨tm, hp, nx⟩ op = .box cs)
    (h : AWP cx (.ops all rest :: k) ⟨(d, .ptr nx 0) :: tm, (nx, .box cs) :: hp, Nat.succ nx⟩) : AWP cx (.ops all (⟨some d, op, ty, pos, after, none⟩ :: rest) :: k) ⟨tm, hp, nx⟩ := by
  refine AWP.op rfl fun a w hi => ?_
  obtain ⟨μ, ok, hi⟩ := hi.one
  have := ev_ok hT hi.tmps hi.hh (⟨some d, op, ty, pos, after, none⟩ : Oper)
  rw [he] at this
  obtain ⟨c, t, h1, h2⟩ := this
  rw [h1, Oper.upon_value]
  exact h _ _ ((hi.alloc _ (.box cs) (box_new h2 hi.heap.lt)).put hd (.ptr (by simp [upd]))).inv

theorem AWP.op_row (hT : TabOk cx.P T) {all : Array Oper} {rest : List Oper} {d : Nat} {op : Op} {ty : TypeId} {pos : String} {after : Array Edge} (hd : d < cx.fn.ntmps) {n m : Nat} {t : TypeId} {xs : List (List SV)} (he : ev T ⟨tm, hp, nx⟩ op = .row t n xs m)
    (h : AWP cx (.ops all rest :: k) ⟨(d, .own nx n 0 m m) :: tm, (nx, .row t false n xs m) :: hp, Nat.succ nx⟩) : AWP cx (.ops all (⟨some d, op, ty, pos, after, none⟩ :: rest) :: k) ⟨tm, hp, nx⟩ := by
  refine AWP.op rfl fun a w hi => ?_
  obtain ⟨μ, ok, hi⟩ := hi.one
  have := ev_ok hT hi.tmps hi.hh (⟨some d, op, ty, pos, after, none⟩ : Oper)
  rw [he] at this
  obtain ⟨c, h1, h2, h3, h4, h5, h6⟩ := this
  rw [h1, Oper.upon_value]
  have hB : DenB μ ok (w.alloc (.cells c t)) w.heap.size (.row t false n xs m) :=
    ⟨c, (0, 0), (MapKept.heap_alloc w _).1, fun _ => rfl, fun j _ hj => by omega, h3, by omega, h5, fun i e j x u he hx hu => (h6 i e j x u he hx hu).mono (fun _ _ h => h) (fun _ h => h) fun b hb => Below.heap_alloc w _ b (hi.heap.lt b hb)⟩
  refine h _ _ ((hi.alloc _ (.row t false n xs m) hB).put hd ?_).inv
  have := Den.own (μ := upd μ nx w.heap.size) (ok := ok) (w := w.alloc (.cells c t)) (id := nx) (k := n) (lo := 0) (n := m) (C := m) (b := w.heap.size) (by simp [upd]) (by omega) h2
  simpa using this

def tput (dst : Option Tmp) (x : SV) (tm : List (Nat × SV)) : List (Nat × SV) :=
  match dst with
  | some d => (d, x) :: tm
  | none => tm

theorem AWP.op_set (hT : TabOk cx.P T) {all : Array Oper} {rest : List Oper} {d : Option Nat} {op : Op} {ty : TypeId} {pos : String} {after : Array Edge} (hd : ∀ t, d = some t → t < cx.fn.ntmps) {id : Nat} {cs : List SV} (he : ev T ⟨tm, hp, nx⟩ op = .set id cs)
    (h : AWP cx (.ops all rest :: k) ⟨tput d undefS tm, (id, .box cs) :: hp, nx⟩) : AWP cx (.ops all (⟨d, op, ty, pos, after, none⟩ :: rest) :: k) ⟨tm, hp, nx⟩ := by
  refine AWP.op rfl fun a w hi => ?_
  obtain ⟨μ, ok, hi⟩ := hi.one
  have := ev_ok hT hi.tmps hi.hh (⟨d, op, ty, pos, after, none⟩ : Oper)
  rw [he] at this
  obtain ⟨b, w', h1, h2, h3, h4, h5, B0, hB0⟩ := this
  rw [h1, Oper.upon_skip]
  have h6 := hi.set hB0 h2 h4 h5
  cases d with
  | none => exact h _ _ h6.inv
  | some t => exact h _ _ (h6.put (hd t rfl) (.d (.v _))).inv

theorem guardS_ask {all : Array Oper} {j d : Nat} {b : Bool} (h : guardS all tm j = .ask d b) : ∃ o, all[j]? = some o ∧ o.dst = some d ∧ aget d tm = some (.d (.v (.bool b))) := by
  unfold guardS at h
  rw [nth_eq, Array.getElem?_toList] at h
  split at h
  · rename_i d' op ty pos af gd hj
    split at h
    · rename_i b' hb
      simp only [Gd.ask.injEq] at h
      obtain ⟨rfl, rfl⟩ := h
      exact ⟨_, hj, rfl, hb⟩
    · cases h
    · cases h
    · cases h
  · cases h

theorem guardS_told {all : Array Oper} {j d : Nat} {b : Bool} (h : guardS all tm j = .told d b) : ∃ o, all[j]? = some o ∧ o.dst = some d ∧ aget d tm = some (.lit b) := by
  unfold guardS at h
  rw [nth_eq, Array.getElem?_toList] at h
  split at h
  · rename_i d' op ty pos af gd hj
    split at h
    · cases h
    · rename_i b' hb
      simp only [Gd.told.injEq] at h
      obtain ⟨rfl, rfl⟩ := h
      exact ⟨_, hj, rfl, hb⟩
    · cases h
    · cases h
  · cases h

theorem guardS_no {all : Array Oper} {j d : Nat} (h : guardS all tm j = .no d) : ∃ o vs, all[j]? = some o ∧ o.dst = some d ∧ aget d tm = some (.d (.v (.tuple vs))) := by
  unfold guardS at h
  rw [nth_eq, Array.getElem?_toList] at h
  split at h
  · rename_i d' op ty pos af gd hj
    split at h
    · cases h
    · cases h
    · rename_i vs hb
      simp only [Gd.no.injEq] at h
      subst h
      exact ⟨_, vs, hj, rfl, hb⟩
    · cases h
  · cases h

theorem guard_ask {all : Array Oper} {j d : Nat} {b : Bool} {a : Act} {w : World} (hi : Inv cx ⟨tm, hp, nx⟩ a w) (h : guardS all tm j = .ask d b) : yielded all a.tmps j = some b := by
  obtain ⟨μ, ok, hi⟩ := hi.one
  obtain ⟨o, h1, h2, h3⟩ := guardS_ask h
  have := (hi.tmps d _ h3).vv
  simp only [Array.getD_eq_getD_getElem?] at this
  cases e : a.tmps[d]? with
  | none => rw [e] at this; cases this
  | some v =>
    rw [e] at this
    simp at this
    subst this
    simp [yielded, h1, h2, e]

theorem guard_told {all : Array Oper} {j d : Nat} {b : Bool} {a : Act} {w : World} (hi : Inv cx ⟨tm, hp, nx⟩ a w) (h : guardS all tm j = .told d b) : yielded all a.tmps j = some b := by
  obtain ⟨μ, ok, hi⟩ := hi.one
  obtain ⟨o, h1, h2, h3⟩ := guardS_told h
  have h4 := hi.tmps d _ h3
  simp only [Array.getD_eq_getD_getElem?] at h4
  cases e : a.tmps[d]? with
  | none => rw [e] at h4; cases h4
  | some v =>
    rw [e] at h4
    simp at h4
    cases h4
    simp [yielded, h1, h2, e]

theorem guard_none {all : Array Oper} {j d : Nat} {a : Act} {w : World} (hi : Inv cx ⟨tm, hp, nx⟩ a w) (h : guardS all tm j = .no d) : yielded all a.tmps j = none := by
  obtain ⟨μ, ok, hi⟩ := hi.one
  obtain ⟨o, vs, h1, h2, h3⟩ := guardS_no h
  have := (hi.tmps d _ h3).vv
  simp only [Array.getD_eq_getD_getElem?] at this
  cases e : a.tmps[d]? with
  | none => simp [yielded, h1, h2, e]
  | some v =>
    rw [e] at this
    simp at this
    subst this
    simp [yielded, h1, h2, e]

theorem AWP.guard_yes {all : Array Oper} {rest : List Oper} {dst : Option Tmp} {op : Op} {ty : TypeId} {pos : String} {after : Array Edge} {j : Nat} {w : Bool} (hy : ∀ a wd, Inv cx ⟨tm, hp, nx⟩ a wd → yielded all a.tmps j = some w)
    (h : AWP cx (.ops all (⟨dst, op, ty, pos, after, none⟩ :: rest) :: k) ⟨tm, hp, nx⟩) : AWP cx (.ops all (⟨dst, op, ty, pos, after, some (j, w)⟩ :: rest) :: k) ⟨tm, hp, nx⟩ := fun a wd hi => by
  have h1 := hy a wd hi
  have h2 : wpList cx.P all (K cx.P cx.R k) (⟨dst, op, ty, pos, after, none⟩ :: rest) a wd := h a wd hi
  show wpList cx.P all (K cx.P cx.R k) (⟨dst, op, ty, pos, after, some (j, w)⟩ :: rest) a wd
  unfold wpList at h2 ⊢
  rw [if_pos (by simp [Region.wanted])] at h2
  rw [if_pos (by simp [Region.wanted, h1])]
  exact h2

theorem AWP.guard_not {all : Array Oper} {rest : List Oper} {dst : Option Tmp} {op : Op} {ty : TypeId} {pos : String} {after : Array Edge} {j : Nat} {w : Bool} (hy : ∀ a wd, Inv cx ⟨tm, hp, nx⟩ a wd → yielded all a.tmps j ≠ some w) (hd : ∀ t, dst = some t → t < cx.fn.ntmps)
    (h : AWP cx (.ops all rest :: k) ⟨tput dst undefS tm, hp, nx⟩) : AWP cx (.ops all (⟨dst, op, ty, pos, after, some (j, w)⟩ :: rest) :: k) ⟨tm, hp, nx⟩ := fun a wd hi => by
  have h1 := hy a wd hi
  show wpList cx.P all (K cx.P cx.R k) (⟨dst, op, ty, pos, after, some (j, w)⟩ :: rest) a wd
  unfold wpList
  rw [if_neg (by simpa [Region.wanted] using h1)]
  obtain ⟨μ, ok, hi⟩ := hi.one
  cases dst with
  | none => exact h _ _ hi.inv
  | some t => exact h _ _ (hi.put (hd t rfl) (.d (.v _))).inv

theorem AWP.guard_un {all : Array Oper} {rest : List Oper} {dst : Option Tmp} {op : Op} {ty : TypeId} {pos : String} {after : Array Edge} {j d : Nat} {w : Bool} (hg : guardS all tm j = .no d) (hd : ∀ t, dst = some t → t < cx.fn.ntmps)
    (h : AWP cx (.ops all rest :: k) ⟨tput dst undefS tm, hp, nx⟩) : AWP cx (.ops all (⟨dst, op, ty, pos, after, some (j, w)⟩ :: rest) :: k) ⟨tm, hp, nx⟩ :=
  AWP.guard_not (fun a wd hi => by rw [guard_none hi hg]; simp) hd h

theorem cond_told {t : Nat} {b : Bool} (hb : aget t tm = some (.lit b)) {a : Act} {w : World} (hi : Inv cx ⟨tm, hp, nx⟩ a w) : a.eval (.tmp t) = .bool b := by
  obtain ⟨μ, ok, hi⟩ := hi.one
  have h1 := hi.tmps t _ hb
  show a.tmps.getD t undef = _
  generalize a.tmps.getD t undef = z at h1 ⊢
  cases h1; rfl

/-- THE WALK BY ITSELF. -/
theorem arun_ok (hT : TabOk cx.P T) : ∀ (n : Nat) (k : List It) (tm : List (Nat × SV)) (hp : List (Nat × Blk)) (nx : Nat) (ob : Prop), (arun T cx.fn.ntmps n k tm hp nx ob).ob →
    ob ∧ (AWP cx (arun T cx.fn.ntmps n k tm hp nx ob).k (arun T cx.fn.ntmps n k tm hp nx ob).s → AWP cx k ⟨tm, hp, nx⟩)
  | 0, k, tm, hp, nx, ob, h => ⟨h, id⟩
  | n + 1, k, tm, hp, nx, ob, h => by
    have ih := arun_ok hT n
    have blt : ∀ d, Nat.blt d cx.fn.ntmps = true → d < cx.fn.ntmps := fun d h => Nat.le_of_ble_eq_true h
    unfold arun at h ⊢
    split at h
    · exact ⟨h, id⟩
    · exact ⟨h, id⟩
    · obtain ⟨h1, h2⟩ := ih _ _ _ _ _ h
      exact ⟨h1, fun g a w hi => by have := h2 g a w hi; cases ‹List It› <;> exact this⟩
    · obtain ⟨h1, h2⟩ := ih _ _ _ _ _ h
      exact ⟨h1, fun g a w hi => h2 g a w hi⟩
    · -- a guarded operation
      rename_i all dst op ty pos after j wd0 rest k
      cases hg : guardS all tm j with
      | ask d b => simp only [hg] at h ⊢; exact ⟨h, id⟩
      | told d0 b =>
        simp only [hg] at h ⊢
        cases hw : (bif b then wd0 else !wd0)
        · simp only [hw, cond_false] at h ⊢
          have hne : ∀ a wd, Inv cx ⟨tm, hp, nx⟩ a wd → yielded all a.tmps j ≠ some wd0 := fun a wd hi => by
            rw [guard_told hi hg]
            intro e
            cases e
            cases wd0 <;> cases hw
          cases hdst : dst with
          | none =>
            simp only [hdst] at h ⊢
            obtain ⟨h1, h2⟩ := ih _ _ _ _ _ h
            exact ⟨h1, fun g => AWP.guard_not hne (fun t ht => by cases ht) (h2 g)⟩
          | some d =>
            simp only [hdst] at h ⊢
            cases hb : Nat.blt d cx.fn.ntmps
            · simp only [hb, cond_false] at h ⊢
              exact ⟨h, id⟩
            · simp only [hb, cond_true] at h ⊢
              obtain ⟨h1, h2⟩ := ih _ _ _ _ _ h
              exact ⟨h1, fun g => AWP.guard_not hne (fun t ht => by cases ht; exact blt d hb) (h2 g)⟩
        · simp only [hw, cond_true] at h ⊢
          obtain ⟨h1, h2⟩ := ih _ _ _ _ _ h
          exact ⟨h1, fun g => AWP.guard_yes (fun a wd hi => by
            rw [guard_told hi hg]
            cases b <;> cases wd0 <;> first | rfl | cases hw) (h2 g)⟩
      | bad => simp only [hg] at h ⊢; exact ⟨h, id⟩
      | no d0 =>
        simp only [hg] at h ⊢
        cases hdst : dst with
        | none =>
          simp only [hdst] at h ⊢
          obtain ⟨h1, h2⟩ := ih _ _ _ _ _ h
          exact ⟨h1, fun g => AWP.guard_un hg (fun t ht => by cases ht) (h2 g)⟩
        | some d =>
          simp only [hdst] at h ⊢
          cases hb : Nat.blt d cx.fn.ntmps
          · simp only [hb, cond_false] at h ⊢
            exact ⟨h, id⟩
          · simp only [hb, cond_true] at h ⊢
            obtain ⟨h1, h2⟩ := ih _ _ _ _ _ h
            exact ⟨h1, fun g => AWP.guard_un hg (fun t ht => by cases ht; exact blt d hb) (h2 g)⟩
    · -- an operation
      rename_i all dst op ty pos after rest k
      cases dst with
      | none =>
        simp only at h ⊢
        cases he : ev T ⟨tm, hp, nx⟩ op with
        | set id cs =>
          simp only [he] at h ⊢
          obtain ⟨h1, h2⟩ := ih _ _ _ _ _ h
          exact ⟨h1, fun g => AWP.op_set hT (fun t ht => by cases ht) he (h2 g)⟩
        | val x p =>
          simp only [he] at h ⊢
          obtain ⟨⟨h1, h1'⟩, h2⟩ := ih _ _ _ _ _ h
          exact ⟨h1', fun g => AWP.op_val0 hT he h1 (h2 g)⟩
        | _ => simp only [he] at h ⊢; exact ⟨h, id⟩
      | some d =>
        simp only at h ⊢
        cases hb : Nat.blt d cx.fn.ntmps
        · simp only [hb, cond_false] at h ⊢
          exact ⟨h, id⟩
        · simp only [hb, cond_true] at h ⊢
          cases he : ev T ⟨tm, hp, nx⟩ op with
          | set id cs =>
            simp only [he] at h ⊢
            obtain ⟨h1, h2⟩ := ih _ _ _ _ _ h
            exact ⟨h1, fun g => AWP.op_set hT (fun t ht => by cases ht; exact blt d hb) he (h2 g)⟩
          | val x p =>
            simp only [he, forceK_eq] at h ⊢
            obtain ⟨⟨h1, h1'⟩, h2⟩ := ih _ _ _ _ _ h
            exact ⟨h1', fun g => AWP.op_val hT (blt d hb) he h1 (h2 g)⟩
          | box cs =>
            simp only [he] at h ⊢
            obtain ⟨h1, h2⟩ := ih _ _ _ _ _ h
            exact ⟨h1, fun g => AWP.op_box hT (blt d hb) he (h2 g)⟩
          | row t n xs m =>
            simp only [he] at h ⊢
            obtain ⟨h1, h2⟩ := ih _ _ _ _ _ h
            exact ⟨h1, fun g => AWP.op_row hT (blt d hb) he (h2 g)⟩
          | stop => simp only [he] at h ⊢; exact ⟨h, id⟩
    · obtain ⟨h1, h2⟩ := ih _ _ _ _ _ h
      exact ⟨h1, fun g a w hi => wp_skip (h2 g a w hi)⟩
    · obtain ⟨h1, h2⟩ := ih _ _ _ _ _ h
      exact ⟨h1, fun g a w hi => wp_label (h2 g a w hi)⟩
    · obtain ⟨h1, h2⟩ := ih _ _ _ _ _ h
      exact ⟨h1, fun g => AWP.seq (h2 g)⟩
    · obtain ⟨h1, h2⟩ := ih _ _ _ _ _ h
      exact ⟨h1, fun g => AWP.block (h2 g)⟩
    · cases he : It.exitTo ‹Nat› ‹List It› with
      | none => simp only [he] at h ⊢; exact ⟨h, id⟩
      | some k' =>
        simp only [he] at h ⊢
        obtain ⟨h1, h2⟩ := ih _ _ _ _ _ h
        exact ⟨h1, fun g => AWP.exit he (h2 g)⟩
    · obtain ⟨h1, h2⟩ := ih _ _ _ _ _ h
      exact ⟨h1, fun g => AWP.region (h2 g)⟩
    · rename_i t x y k
      split at h
      · rename_i b hb
        cases b
        · simp only [cond_false] at h ⊢
          obtain ⟨h1, h2⟩ := ih _ _ _ _ _ h
          exact ⟨h1, fun g a w hi => wp_cond_false (cond_told hb hi) (h2 g a w hi)⟩
        · simp only [cond_true] at h ⊢
          obtain ⟨h1, h2⟩ := ih _ _ _ _ _ h
          exact ⟨h1, fun g a w hi => wp_cond_true (cond_told hb hi) (h2 g a w hi)⟩
      · exact ⟨h, id⟩
    · exact ⟨h, id⟩

end
end Go.Sy
