/-
  SYMBOLIC STATES, over any program, part 27: the walk by itself, which forgets slots that are used no more; calls, by their number first.
-/
import Derived.Test.YtmmpblbdjnlciaaSyq
namespace Go.Sy
open Go.RowKit

def keepK {R : Type} (L : List Nat) : List Nat → List (Nat × SV) → (List (Nat × SV) → R) → R
  | _, [], k => k []
  | seen, (t, x) :: l, k => bif memN t seen then keepK L seen l k else bif memN t L then keepK L (t :: seen) l (fun r => k ((t, x) :: r)) else keepK L seen l k
def nubK {R : Type} : List Nat → List (Nat × Blk) → (List (Nat × Blk) → R) → R
  | _, [], k => k []
  | seen, (t, x) :: l, k => bif memN t seen then nubK seen l k else nubK (t :: seen) l (fun r => k ((t, x) :: r))

def keepD (L : List Nat) : List Nat → List (Nat × SV) → List (Nat × SV)
  | _, [] => []
  | seen, (t, x) :: l => bif memN t seen then keepD L seen l else bif memN t L then (t, x) :: keepD L (t :: seen) l else keepD L seen l
def nubD : List Nat → List (Nat × Blk) → List (Nat × Blk)
  | _, [] => []
  | seen, (t, x) :: l => bif memN t seen then nubD seen l else (t, x) :: nubD (t :: seen) l

theorem keepK_eq {R : Type} (L : List Nat) : ∀ (seen : List Nat) (l : List (Nat × SV)) (k : List (Nat × SV) → R), keepK L seen l k = k (keepD L seen l)
  | _, [], k => rfl
  | seen, (t, x) :: l, k => by
    simp only [keepK, keepD, keepK_eq L]
    cases memN t seen <;> cases memN t L <;> rfl
theorem nubK_eq {R : Type} : ∀ (seen : List Nat) (l : List (Nat × Blk)) (k : List (Nat × Blk) → R), nubK seen l k = k (nubD seen l)
  | _, [], k => rfl
  | seen, (t, x) :: l, k => by
    simp only [nubK, nubD, nubK_eq]
    cases memN t seen <;> rfl

section
variable {cx : Cx} {P : Program} {fn : Func} {lo : Nat} {T : Tab} {k : List It} {s : St} {tm : List (Nat × SV)} {hp : List (Nat × Blk)} {nx : Nat}

theorem memN_cons {t u : Nat} {l : List Nat} (h : t ≠ u) : memN t (u :: l) = memN t l := by simp only [memN, beq_ne h, Bool.false_or]

theorem keepD_get {L : List Nat} : ∀ {seen : List Nat} {l : List (Nat × SV)} {t : Nat} {x : SV}, aget t (keepD L seen l) = some x → memN t seen = false ∧ aget t l = some x
  | _, [], t, x, h => by simp [keepD, aget] at h
  | seen, (u, y) :: l, t, x, h => by
    simp only [keepD] at h
    rw [aget_cons]
    cases h1 : memN u seen
    · rw [h1] at h
      simp only [cond_false] at h
      cases h2 : memN u L
      · rw [h2] at h
        simp only [cond_false] at h
        obtain ⟨g1, g2⟩ := keepD_get h
        refine ⟨g1, ?_⟩
        by_cases e : t = u
        · exfalso
          subst e
          have : ∀ {seen : List Nat} {l : List (Nat × SV)}, aget t (keepD L seen l) = none := by
            intro seen l
            induction l generalizing seen with
            | nil => rfl
            | cons p l ih =>
              obtain ⟨v, z⟩ := p
              simp only [keepD]
              cases memN v seen
              · simp only [cond_false]
                cases h3 : memN v L
                · exact ih
                · simp only [cond_true]
                  rw [aget_cons, if_neg (fun e => by rw [e, h3] at h2; cases h2)]
                  exact ih
              · exact ih
          rw [this] at h
          cases h
        · rw [if_neg e]; exact g2
      · rw [h2] at h
        simp only [cond_true] at h
        rw [aget_cons] at h
        by_cases e : t = u
        · rw [if_pos e] at h ⊢
          subst e
          exact ⟨h1, h⟩
        · rw [if_neg e] at h ⊢
          obtain ⟨g1, g2⟩ := keepD_get h
          rw [memN_cons e] at g1
          exact ⟨g1, g2⟩
    · rw [h1] at h
      simp only [cond_true] at h
      obtain ⟨g1, g2⟩ := keepD_get h
      refine ⟨g1, ?_⟩
      rw [if_neg (fun e => by rw [e, h1] at g1; cases g1)]
      exact g2

theorem nubD_get : ∀ {seen : List Nat} {l : List (Nat × Blk)} {t : Nat} {x : Blk}, aget t (nubD seen l) = some x → memN t seen = false ∧ aget t l = some x
  | _, [], t, x, h => by simp [nubD, aget] at h
  | seen, (u, y) :: l, t, x, h => by
    simp only [nubD] at h
    rw [aget_cons]
    cases h1 : memN u seen
    · rw [h1] at h
      simp only [cond_false] at h
      rw [aget_cons] at h
      by_cases e : t = u
      · rw [if_pos e] at h ⊢
        subst e
        exact ⟨h1, h⟩
      · rw [if_neg e] at h ⊢
        obtain ⟨g1, g2⟩ := nubD_get h
        rw [memN_cons e] at g1
        exact ⟨g1, g2⟩
    · rw [h1] at h
      simp only [cond_true] at h
      obtain ⟨g1, g2⟩ := nubD_get h
      refine ⟨g1, ?_⟩
      rw [if_neg (fun e => by rw [e, h1] at g1; cases g1)]
      exact g2

theorem AWP.sub {tm2 : List (Nat × SV)} {hp2 : List (Nat × Blk)} (h1 : ∀ t x, aget t tm2 = some x → aget t tm = some x) (h2 : ∀ i B, aget i hp2 = some B → aget i hp = some B) (g : AWP cx k ⟨tm2, hp2, nx⟩) : AWP cx k ⟨tm, hp, nx⟩ := fun a w hi => by
  obtain ⟨μ, ok, hi⟩ := hi.one
  exact g a w (Inv1.inv (μ := μ) (ok := ok) ⟨hi.defers, hi.size, hi.heap.drop h2, fun t x hx => hi.tmps t x (h1 t x hx)⟩)

theorem keepD_sub {L : List Nat} : ∀ t x, aget t (keepD L [] tm) = some x → aget t tm = some x := fun _ _ h => (keepD_get h).2
theorem nubD_sub : ∀ i B, aget i (nubD [] hp) = some B → aget i hp = some B := fun _ _ h => (nubD_get h).2

end

def arunL (T : Tab) (N : Nat) (L : List Nat) : Nat → List It → List (Nat × SV) → List (Nat × Blk) → Nat → Prop → Out
  | 0, k, tm, hp, nx, ob => ⟨k, ⟨tm, hp, nx⟩, ob⟩
  | n + 1, k, tm, hp, nx, ob =>
    match k with
    | [] => ⟨[], ⟨tm, hp, nx⟩, ob⟩
    | .inv Φ :: k => ⟨.inv Φ :: k, ⟨tm, hp, nx⟩, ob⟩
    | .blk _ :: k => arunL T N L n k tm hp nx ob
    | .ops _ [] :: k => arunL T N L n k tm hp nx ob
    | .ops all (⟨dst, op, ty, pos, after, some (j, w)⟩ :: rest) :: k =>
      match guardS all tm j with
      | .no _ => match dst with
        | some d => bif Nat.blt d N then arunL T N L n (.ops all rest :: k) ((d, undefS) :: tm) hp nx ob else ⟨.ops all (⟨dst, op, ty, pos, after, some (j, w)⟩ :: rest) :: k, ⟨tm, hp, nx⟩, ob⟩
        | none => arunL T N L n (.ops all rest :: k) tm hp nx ob
      | .told _ b => bif (bif b then w else !w) then arunL T N L n (.ops all (⟨dst, op, ty, pos, after, none⟩ :: rest) :: k) tm hp nx ob else (match dst with
        | some d => bif Nat.blt d N then arunL T N L n (.ops all rest :: k) ((d, undefS) :: tm) hp nx ob else ⟨.ops all (⟨dst, op, ty, pos, after, some (j, w)⟩ :: rest) :: k, ⟨tm, hp, nx⟩, ob⟩
        | none => arunL T N L n (.ops all rest :: k) tm hp nx ob)
      | _ => ⟨.ops all (⟨dst, op, ty, pos, after, some (j, w)⟩ :: rest) :: k, ⟨tm, hp, nx⟩, ob⟩
    | .ops all (⟨dst, op, ty, pos, after, none⟩ :: rest) :: k =>
      match dst with
      | none => match ev T ⟨tm, hp, nx⟩ op with
        | .set id cs => arunL T N L n (.ops all rest :: k) tm ((id, .box cs) :: hp) nx ob
        | .val _ p => arunL T N L n (.ops all rest :: k) tm hp nx (p ∧ ob)
        | _ => ⟨.ops all (⟨dst, op, ty, pos, after, none⟩ :: rest) :: k, ⟨tm, hp, nx⟩, ob⟩
      | some d => bif Nat.blt d N then (match ev T ⟨tm, hp, nx⟩ op with
        | .val x p => forceK x fun x => arunL T N L n (.ops all rest :: k) ((d, x) :: tm) hp nx (p ∧ ob)
        | .box cs => arunL T N L n (.ops all rest :: k) ((d, .ptr nx 0) :: tm) ((nx, .box cs) :: hp) (Nat.succ nx) ob
        | .row e k' xs m => arunL T N L n (.ops all rest :: k) ((d, .own nx k' 0 m m) :: tm) ((nx, .row e false k' xs m) :: hp) (Nat.succ nx) ob
        | .set id cs => arunL T N L n (.ops all rest :: k) ((d, undefS) :: tm) ((id, .box cs) :: hp) nx ob
        | .stop => ⟨.ops all (⟨dst, op, ty, pos, after, none⟩ :: rest) :: k, ⟨tm, hp, nx⟩, ob⟩)
        else ⟨.ops all (⟨dst, op, ty, pos, after, none⟩ :: rest) :: k, ⟨tm, hp, nx⟩, ob⟩
    | .code .skip :: k => arunL T N L n k tm hp nx ob
    | .code (.label _) :: k => arunL T N L n k tm hp nx ob
    | .code (.seq a b) :: k => arunL T N L n (.code a :: .code b :: k) tm hp nx ob
    | .code (.block id c) :: k => arunL T N L n (.code c :: .blk id :: k) tm hp nx ob
    | .code (.exit id) :: k => match It.exitTo id k with | some k' => arunL T N L n k' tm hp nx ob | none => ⟨.code (.exit id) :: k, ⟨tm, hp, nx⟩, ob⟩
    | .code (.region _ ops false) :: k => keepK L [] tm fun tm => nubK [] hp fun hp => arunL T N L n (.ops ops ops.toList :: k) tm hp nx ob
    | .code (.cond (.tmp t) x y) :: k => match aget t tm with
      | some (.lit b) => bif b then arunL T N L n (.code x :: k) tm hp nx ob else arunL T N L n (.code y :: k) tm hp nx ob
      | _ => ⟨.code (.cond (.tmp t) x y) :: k, ⟨tm, hp, nx⟩, ob⟩
    | .code c :: k => ⟨.code c :: k, ⟨tm, hp, nx⟩, ob⟩


section
variable {cx : Cx} {P : Program} {fn : Func} {lo : Nat} {T : Tab} {k : List It} {s : St} {tm : List (Nat × SV)} {hp : List (Nat × Blk)} {nx : Nat}

/-- THE WALK BY ITSELF. -/
theorem arunL_ok (hT : TabOk cx.P T) (L : List Nat) : ∀ (n : Nat) (k : List It) (tm : List (Nat × SV)) (hp : List (Nat × Blk)) (nx : Nat) (ob : Prop), (arunL T cx.fn.ntmps L n k tm hp nx ob).ob →
    ob ∧ (AWP cx (arunL T cx.fn.ntmps L n k tm hp nx ob).k (arunL T cx.fn.ntmps L n k tm hp nx ob).s → AWP cx k ⟨tm, hp, nx⟩)
  | 0, k, tm, hp, nx, ob, h => ⟨h, id⟩
  | n + 1, k, tm, hp, nx, ob, h => by
    have ih := arunL_ok hT L n
    have blt : ∀ d, Nat.blt d cx.fn.ntmps = true → d < cx.fn.ntmps := fun d h => Nat.le_of_ble_eq_true h
    unfold arunL at h ⊢
    split at h
    · exact ⟨h, id⟩
    · exact ⟨h, id⟩
    · obtain ⟨h1, h2⟩ := ih _ _ _ _ _ h
      exact ⟨h1, fun g a w hi => by have := h2 g a w hi; cases ‹List It› <;> exact this⟩
    · obtain ⟨h1, h2⟩ := ih _ _ _ _ _ h
      exact ⟨h1, fun g a w hi => h2 g a w hi⟩
    · -- a guarded operation
      rename_i all dst op ty pos after j wd0 rest k
      cases hg : guardS all tm j with
      | ask d b => simp only [hg] at h ⊢; exact ⟨h, id⟩
      | told d0 b =>
        simp only [hg] at h ⊢
        cases hw : (bif b then wd0 else !wd0)
        · simp only [hw, cond_false] at h ⊢
          have hne : ∀ a wd, Inv cx ⟨tm, hp, nx⟩ a wd → yielded all a.tmps j ≠ some wd0 := fun a wd hi => by
            rw [guard_told hi hg]
            intro e
            cases e
            cases wd0 <;> cases hw
          cases hdst : dst with
          | none =>
            simp only [hdst] at h ⊢
            obtain ⟨h1, h2⟩ := ih _ _ _ _ _ h
            exact ⟨h1, fun g => AWP.guard_not hne (fun t ht => by cases ht) (h2 g)⟩
          | some d =>
            simp only [hdst] at h ⊢
            cases hb : Nat.blt d cx.fn.ntmps
            · simp only [hb, cond_false] at h ⊢
              exact ⟨h, id⟩
            · simp only [hb, cond_true] at h ⊢
              obtain ⟨h1, h2⟩ := ih _ _ _ _ _ h
              exact ⟨h1, fun g => AWP.guard_not hne (fun t ht => by cases ht; exact blt d hb) (h2 g)⟩
        · simp only [hw, cond_true] at h ⊢
          obtain ⟨h1, h2⟩ := ih _ _ _ _ _ h
          exact ⟨h1, fun g => AWP.guard_yes (fun a wd hi => by
            rw [guard_told hi hg]
            cases b <;> cases wd0 <;> first | rfl | cases hw) (h2 g)⟩
      | bad => simp only [hg] at h ⊢; exact ⟨h, id⟩
      | no d0 =>
        simp only [hg] at h ⊢
        cases hdst : dst with
        | none =>
          simp only [hdst] at h ⊢
          obtain ⟨h1, h2⟩ := ih _ _ _ _ _ h
          exact ⟨h1, fun g => AWP.guard_un hg (fun t ht => by cases ht) (h2 g)⟩
        | some d =>
          simp only [hdst] at h ⊢
          cases hb : Nat.blt d cx.fn.ntmps
          · simp only [hb, cond_false] at h ⊢
            exact ⟨h, id⟩
          · simp only [hb, cond_true] at h ⊢
            obtain ⟨h1, h2⟩ := ih _ _ _ _ _ h
            exact ⟨h1, fun g => AWP.guard_un hg (fun t ht => by cases ht; exact blt d hb) (h2 g)⟩
    · -- an operation
      rename_i all dst op ty pos after rest k
      cases dst with
      | none =>
        simp only at h ⊢
        cases he : ev T ⟨tm, hp, nx⟩ op with
        | set id cs =>
          simp only [he] at h ⊢
          obtain ⟨h1, h2⟩ := ih _ _ _ _ _ h
          exact ⟨h1, fun g => AWP.op_set hT (fun t ht => by cases ht) he (h2 g)⟩
        | val x p =>
          simp only [he] at h ⊢
          obtain ⟨⟨h1, h1'⟩, h2⟩ := ih _ _ _ _ _ h
          exact ⟨h1', fun g => AWP.op_val0 hT he h1 (h2 g)⟩
        | _ => simp only [he] at h ⊢; exact ⟨h, id⟩
      | some d =>
        simp only at h ⊢
        cases hb : Nat.blt d cx.fn.ntmps
        · simp only [hb, cond_false] at h ⊢
          exact ⟨h, id⟩
        · simp only [hb, cond_true] at h ⊢
          cases he : ev T ⟨tm, hp, nx⟩ op with
          | set id cs =>
            simp only [he] at h ⊢
            obtain ⟨h1, h2⟩ := ih _ _ _ _ _ h
            exact ⟨h1, fun g => AWP.op_set hT (fun t ht => by cases ht; exact blt d hb) he (h2 g)⟩
          | val x p =>
            simp only [he, forceK_eq] at h ⊢
            obtain ⟨⟨h1, h1'⟩, h2⟩ := ih _ _ _ _ _ h
            exact ⟨h1', fun g => AWP.op_val hT (blt d hb) he h1 (h2 g)⟩
          | box cs =>
            simp only [he] at h ⊢
            obtain ⟨h1, h2⟩ := ih _ _ _ _ _ h
            exact ⟨h1, fun g => AWP.op_box hT (blt d hb) he (h2 g)⟩
          | row t n xs m =>
            simp only [he] at h ⊢
            obtain ⟨h1, h2⟩ := ih _ _ _ _ _ h
            exact ⟨h1, fun g => AWP.op_row hT (blt d hb) he (h2 g)⟩
          | stop => simp only [he] at h ⊢; exact ⟨h, id⟩
    · obtain ⟨h1, h2⟩ := ih _ _ _ _ _ h
      exact ⟨h1, fun g a w hi => wp_skip (h2 g a w hi)⟩
    · obtain ⟨h1, h2⟩ := ih _ _ _ _ _ h
      exact ⟨h1, fun g a w hi => wp_label (h2 g a w hi)⟩
    · obtain ⟨h1, h2⟩ := ih _ _ _ _ _ h
      exact ⟨h1, fun g => AWP.seq (h2 g)⟩
    · obtain ⟨h1, h2⟩ := ih _ _ _ _ _ h
      exact ⟨h1, fun g => AWP.block (h2 g)⟩
    · cases he : It.exitTo ‹Nat› ‹List It› with
      | none => simp only [he] at h ⊢; exact ⟨h, id⟩
      | some k' =>
        simp only [he] at h ⊢
        obtain ⟨h1, h2⟩ := ih _ _ _ _ _ h
        exact ⟨h1, fun g => AWP.exit he (h2 g)⟩
    · simp only [keepK_eq, nubK_eq] at h ⊢
      obtain ⟨h1, h2⟩ := ih _ _ _ _ _ h
      exact ⟨h1, fun g => AWP.sub keepD_sub nubD_sub (AWP.region (h2 g))⟩
    · rename_i t x y k
      split at h
      · rename_i b hb
        cases b
        · simp only [cond_false] at h ⊢
          obtain ⟨h1, h2⟩ := ih _ _ _ _ _ h
          exact ⟨h1, fun g a w hi => wp_cond_false (cond_told hb hi) (h2 g a w hi)⟩
        · simp only [cond_true] at h ⊢
          obtain ⟨h1, h2⟩ := ih _ _ _ _ _ h
          exact ⟨h1, fun g a w hi => wp_cond_true (cond_told hb hi) (h2 g a w hi)⟩
      · exact ⟨h, id⟩
    · exact ⟨h, id⟩

theorem AWP.runL (e : Env cx P fn lo) (hT : TabOk P T) (L : List Nat) (n : Nat) {k' : List It} {s' : St} {ob : Prop} (h : arunL T fn.ntmps L n k tm hp nx True = ⟨k', s', ob⟩) (hob : ob) (g : AWP cx k' s') : AWP cx k ⟨tm, hp, nx⟩ := by
  obtain ⟨rfl, rfl, _⟩ := e
  have := arunL_ok (cx := cx) hT L n k tm hp nx True
  rw [h] at this
  exact (this hob).2 g

/-- Less is known: these slots alone. -/
theorem AWP.keep (L : List Nat) {tm2 : List (Nat × SV)} (h : keepK L [] tm some = some tm2) (g : AWP cx k ⟨tm2, hp, nx⟩) : AWP cx k ⟨tm, hp, nx⟩ := by
  rw [keepK_eq] at h
  cases h
  exact AWP.sub keepD_sub (fun _ _ h => h) g

/-! ### What the walk waits for -/
def askOf (tm : List (Nat × SV)) : List It → Option (Nat × Bool)
  | .ops all (⟨_, op, _, _, _, some (j, _)⟩ :: _) :: _ => match guardS all tm j with
    | .ask d b => some (d, b)
    | _ => none
  | .ops _ (⟨_, .pick (.tmp t) _ _, _, _, _, none⟩ :: _) :: _ => match aget t tm with
    | some (.d (.v (.bool b))) => some (t, b)
    | _ => none
  | .code (.cond (.tmp t) _ _) :: _ => match aget t tm with
    | some (.d (.v (.bool b))) => some (t, b)
    | _ => none
  | _ => none

theorem askOf_ok {d : Nat} {b : Bool} (h : askOf tm k = some (d, b)) : aget d tm = some (.b b) := by
  unfold askOf at h
  split at h
  · split at h
    · rename_i hg
      cases h
      obtain ⟨_, _, _, h3⟩ := guardS_ask hg
      exact h3
    · cases h
  · split at h
    · rename_i hg; cases h; exact hg
    · cases h
  · split at h
    · rename_i hg; cases h; exact hg
    · cases h
  · cases h

def Told (b : Bool) (G : Bool → Prop) : Prop := G b
theorem Told.t {b : Bool} {G : Bool → Prop} (h : b = true) (g : G true) : Told b G := by subst h; exact g
theorem Told.f {b : Bool} {G : Bool → Prop} (h : b = false) (g : G false) : Told b G := by subst h; exact g
theorem Told.both {b : Bool} {G : Bool → Prop} (h1 : b = true → G true) (h2 : b = false → G false) : Told b G := by
  cases b
  · exact h2 rfl
  · exact h1 rfl

theorem AWP.askT {d : Nat} {b : Bool} (h : askOf tm k = some (d, b)) (g : Told b fun v => AWP cx k ⟨(d, .lit v) :: tm, hp, nx⟩) : AWP cx k ⟨tm, hp, nx⟩ := AWP.told (askOf_ok h) g

/-! ### Calls, by their number first -/
def CallQ (P : Program) (f : FuncId) (xs : List SV) (G : SV → Prop) : Prop :=
  ∃ cs Post, Eff P f cs [] 0 Post ∧ (∀ hp, CvL hp [] xs cs) ∧ SV.noIds.go cs = true ∧ ∀ r h n, Post r h n → SV.noIds r = true ∧ G r

theorem CallQ.mk {P : Program} {f : FuncId} {xs : List SV} {r : SV} {G : SV → Prop} (hE : Eff P f xs [] 0 (fun r' _ _ => r' = r)) (hno : SV.noIds.go xs = true) (hr : SV.noIds r = true) (g : G r) : CallQ P f xs G :=
  ⟨xs, _, hE, fun _ => CvL.rfl' _, hno, fun _ _ _ h => by subst h; exact ⟨hr, g⟩⟩

theorem AWP.callQ (e : Env cx P fn lo) {all : Array Oper} {rest : List Oper} {dst : Option Tmp} {c : Call} {ty : TypeId} {pos : String} {after : Array Edge} {f : FuncId} {xs : List SV} (hc : acall ⟨tm, hp, nx⟩ c = some (f, xs)) (hd : dstOk fn.ntmps dst = true)
    (h : CallQ P f xs fun r => AWP cx (.ops all rest :: k) ⟨tput dst r tm, hp, nx⟩) : AWP cx (.ops all (⟨dst, .call c, ty, pos, after, none⟩ :: rest) :: k) ⟨tm, hp, nx⟩ := by
  obtain ⟨cs, Post, hE, hcv, hno, hG⟩ := h
  exact AWP.call e hE hc [] (hcv hp) hno hd fun r h n hr => ⟨(hG r h n hr).1, .inl rfl, (hG r h n hr).2⟩

variable {id M q : Nat} {rest : List Oper} {R : List Rec} {all : Array Oper} {d : Nat} {ty : TypeId} {pos : String} {after : Array Edge}

theorem acall_heap {c : Call} : acall ⟨tm, hp, nx⟩ c = acall ⟨tm, [], 0⟩ c := by
  have : ∀ (l : List Operand), opds ⟨tm, hp, nx⟩ l = opds ⟨tm, [], 0⟩ l := fun l => by
    induction l with
    | nil => rfl
    | cons o l ih => simp only [opds, ih]; rfl
  obtain ⟨cal, args, ats⟩ := c
  cases cal with
  | value fo => simp only [acall, this]; rfl
  | _ => rfl

/-- What a call yields, its answer told. -/
def CallV (P : Program) (f : FuncId) (xs : List SV) (r : SV) : Prop := ∃ cs, Eff P f cs [] 0 (fun r' _ _ => r' = r) ∧ (∀ hp, CvL hp [] xs cs) ∧ SV.noIds.go cs = true ∧ SV.noIds r = true
theorem CallV.mk {P : Program} {f : FuncId} {xs : List SV} {r : SV} (hE : Eff P f xs [] 0 (fun r' _ _ => r' = r)) (hno : SV.noIds.go xs = true) (hr : SV.noIds r = true) : CallV P f xs r :=
  ⟨xs, hE, fun _ => CvL.rfl' _, hno, hr⟩

theorem VStep.callV (e : Env cx P fn lo) {f : FuncId} {xs : List SV} {r : SV} {c : Call} (hc : acall ⟨tm, [], 0⟩ c = some (f, xs)) (hd : Nat.blt d fn.ntmps = true) (h : CallV P f xs r) : VStep cx all hp nx ⟨some d, .call c, ty, pos, after, none⟩ tm d r := by
  obtain ⟨cs, hE, hcv, hno, hr⟩ := h
  exact VStep.call e hE (acall_heap.trans hc) [] (hcv hp) hno hd hr (.inl rfl)

def CallVQ (P : Program) (f : FuncId) (xs : List SV) (G : SV → Prop) : Prop := ∃ r, CallV P f xs r ∧ G r
theorem CallVQ.mk {P : Program} {f : FuncId} {xs : List SV} {r : SV} {G : SV → Prop} (hE : Eff P f xs [] 0 (fun r' _ _ => r' = r)) (hno : SV.noIds.go xs = true) (hr : SV.noIds r = true) (g : G r) : CallVQ P f xs G := ⟨r, .mk hE hno hr, g⟩

/-- A call in a region that draws its order. -/
theorem DrG.callQ (e : Env cx P fn lo) {c : Call} {f : FuncId} {xs : List SV} (hc : acall ⟨tmS R tm, [], 0⟩ c = some (f, xs)) (hd : Nat.blt d fn.ntmps = true) (h : CallVQ P f xs fun r => DrG cx all id k tm hp nx M (Nat.succ q) rest (⟨q, some d, r, [], [], []⟩ :: R)) :
    DrG cx all id k tm hp nx M q (⟨some d, .call c, ty, pos, after, none⟩ :: rest) R := by
  obtain ⟨r, hv, h⟩ := h
  have hr : SV.noIds r = true := by obtain ⟨_, _, _, _, hr⟩ := hv; exact hr
  exact DrG.v rfl (fun _ => VStep.callV e hc hd hv) (idsLt_mono (Nat.zero_le _) (noIds_lt hr)) h
theorem DrG.callGo (e : Env cx P fn lo) {c : Call} {f : FuncId} {xs : List SV} {jg dj : Nat} {wg : Bool} (hg : guardS all (tmS R tm) jg = .told dj wg) (hc : acall ⟨tmS R tm, [], 0⟩ c = some (f, xs)) (hd : Nat.blt d fn.ntmps = true) (h : CallVQ P f xs fun r => DrG cx all id k tm hp nx M (Nat.succ q) rest (⟨q, some d, r, [], [], []⟩ :: R)) :
    DrG cx all id k tm hp nx M q (⟨some d, .call c, ty, pos, after, some (jg, wg)⟩ :: rest) R := by
  obtain ⟨r, hv, h⟩ := h
  have hr : SV.noIds r = true := by obtain ⟨_, _, _, _, hr⟩ := hv; exact hr
  exact DrG.v rfl (fun _ => VStep.go hg (VStep.callV e hc hd hv)) (idsLt_mono (Nat.zero_le _) (noIds_lt hr)) h
theorem DrG.callGoA (e : Env cx P fn lo) {c : Call} {f : FuncId} {xs : List SV} {jg dj : Nat} {bg wg : Bool} (hg : guardS all (tmS R tm) jg = .ask dj bg) (hb : bg = wg) (hc : acall ⟨tmS R tm, [], 0⟩ c = some (f, xs)) (hd : Nat.blt d fn.ntmps = true) (h : CallVQ P f xs fun r => DrG cx all id k tm hp nx M (Nat.succ q) rest (⟨q, some d, r, [], [], []⟩ :: R)) :
    DrG cx all id k tm hp nx M q (⟨some d, .call c, ty, pos, after, some (jg, wg)⟩ :: rest) R := by
  obtain ⟨r, hv, h⟩ := h
  have hr : SV.noIds r = true := by obtain ⟨_, _, _, _, hr⟩ := hv; exact hr
  exact DrG.v rfl (fun _ => VStep.goA hg hb (VStep.callV e hc hd hv)) (idsLt_mono (Nat.zero_le _) (noIds_lt hr)) h

end
end Go.Sy
