/-
  SYMBOLIC STATES, over any program, part 40: rows that are made of zeros.
-/
import Derived.Test.YthdcegeampcalaaGreatDoorEc
import Derived.Handed
import Derived.Shelf.Vars
import Derived.RangeFuncRecord
import Derived.Maps.RangeRun
namespace Go.Sy
open Go.RowKit
section
variable {cx : Cx} {P : Program} {fn : Func} {lo : Nat} {T : Tab} {k : List It} {tm : List (Nat × SV)} {hp : List (Nat × Blk)} {nx M : Nat} {all : Array Oper} {R : List Rec} {id : Nat}
variable {d : Nat} {rest : List Oper} {ty : TypeId} {pos : String} {after : Array Edge}

theorem madeCells_one {z : Array Value} {v : Value} (hz : z = #[v]) (n i : Nat) (hi : i < n) : (madeCells z n)[i]? = some v := by
  subst hz
  unfold madeCells
  rw [Array.getElem?_map, Array.getElem?_eq_getElem (by simpa using hi)]
  simp [Nat.mod_one]

/-- A row of n zeros (of one cell each). -/
theorem AWP.make1 (e : Env cx P fn lo) (hT : TabOk P T) {t te : TypeId} {a b : Operand} {kl kc : IntKind} {l c : Int} {zt y : Ty} {zc : DV} (n : Nat) (hd : Nat.blt d fn.ntmps = true) (h1 : opd ⟨tm, hp, nx⟩ a = some (.d (.v (.int kl l)))) (h2 : opd ⟨tm, hp, nx⟩ b = some (.d (.v (.int kc c))))
    (h3 : aget t T = some zt) (h4 : zt.td = .slice te) (h5 : aget te T = some y) (h6 : y.zero = [zc]) (hl : l = n) (hc : c = n) (hb : y.bytes * n ≤ 281474976710656) (hn : n ≤ 9223372036854775807)
    (g : AWP cx (.ops all rest :: k) ⟨(d, .own nx 1 0 n n) :: tm, (nx, .row te false 1 (List.replicate n [.d zc]) n) :: hp, Nat.succ nx⟩) :
    AWP cx (.ops all (⟨some d, .makeSlice t a b, ty, pos, after, none⟩ :: rest) :: k) ⟨tm, hp, nx⟩ := by
  obtain ⟨rfl, rfl, _⟩ := e
  subst hl hc
  refine AWP.op rfl fun ac w hi => ?_
  obtain ⟨μ, ok, hI⟩ := hi.one
  have ha := (opd_den hI.tmps h1).int
  have hbv := (opd_den hI.tmps h2).int
  have u1 : cx.P.underlying t = some (.slice te) := by have := (hT _ _ h3).td; rw [h4] at this; exact this
  obtain ⟨ti, z, i1, i2, i3, i4, i5⟩ := (hT _ _ h5).info
  have hsz : y.size = 1 := by rw [← (hT _ _ h5).zlen, h6]; rfl
  have hz1 : ∃ v, z.cells = #[v] ∧ some v = dvCell zc := by
    rw [h6] at i5
    simp only [List.map_cons, List.map_nil] at i5
    cases hzl : z.cells.toList with
    | nil => rw [hzl] at i5; cases i5
    | cons v l =>
      rw [hzl] at i5
      simp only [List.map_cons, List.cons.injEq, List.map_eq_nil_iff] at i5
      obtain ⟨i6, rfl⟩ := i5
      exact ⟨v, by apply Array.ext'; rw [hzl], i6⟩
  obtain ⟨v, hv, hdv⟩ := hz1
  have hden : ∀ {μ : Nat → Option Nat} {ok : Nat → Prop} {w : World}, Den μ ok w (.d zc) v := by
    intro μ ok w
    cases zc with
    | v x => simp only [dvCell, Option.some.injEq] at hdv; subst hdv; exact .d (.v _)
    | nil => simp only [dvCell, Option.some.injEq] at hdv; subst hdv; exact .d .nil
    | sl _ _ => cases hdv
  have hrun := run_make (P := cx.P) w t te ti z u1 i1 i4 kl kc n n (by omega) (Int.le_refl _) (by rw [i3]; omega) (by omega)
  rw [Int.toNat_natCast, i2, hsz, Nat.mul_one] at hrun
  have hex : (execOp ac.eval ⟨some d, .makeSlice t a b, ty, pos, after, none⟩).run cx.P w = .ok (.value (.slice (some ⟨w.heap.size, 0, none⟩) n n)) (w.alloc (.cells (madeCells z.cells n) te)) := by
    simp only [execOp, ha, hbv, Sem.run_bind, hrun, Result.andThen_ok, Sem.run_pure]
  rw [hex, Oper.upon_value]
  have hB : DenB μ ok (w.alloc (.cells (madeCells z.cells n) te)) w.heap.size (.row te false 1 (List.replicate n [.d zc]) n) := by
    refine ⟨_, (0, 0), (MapKept.heap_alloc w _).1, fun _ => rfl, fun j _ hj => by omega, by rw [size_madeCells, Nat.mul_one], by rw [List.length_replicate]; exact Nat.le_refl _, fun i e he => ?_, fun i e j x u he hx hu => ?_⟩
    · rw [List.getElem?_replicate] at he
      split at he
      · cases he; rfl
      · cases he
    · rw [List.getElem?_replicate] at he
      split at he
      · rename_i hin
        cases he
        cases j with
        | zero =>
          cases hx
          rw [Nat.mul_one, Nat.add_zero, madeCells_one hv n i hin] at hu
          cases hu
          exact hden
        | succ j => simp at hx
      · cases he
  have a1 := hI.alloc (.cells (madeCells z.cells n) te) _ hB
  have hμ : upd μ nx w.heap.size nx = some w.heap.size := by simp [upd]
  have a2 := a1.put (Nat.le_of_ble_eq_true hd) (x := .own nx 1 0 n n) (v := .slice (some ⟨w.heap.size, 0, none⟩) n n) (by
    have := Den.own (μ := upd μ nx w.heap.size) (ok := ok) (w := w.alloc (.cells (madeCells z.cells n) te)) (id := nx) (k := 1) (lo := 0) (n := n) (C := n) (b := w.heap.size) hμ (by omega) hn
    simpa using this)
  exact g _ _ a2.inv

def keepH {Q : Type} (L : List Nat) : List Nat → List (Nat × Blk) → (List (Nat × Blk) → Q) → Q
  | _, [], k => k []
  | seen, (t, x) :: l, k => bif memN t seen then keepH L seen l k else bif memN t L then keepH L (t :: seen) l (fun r => k ((t, x) :: r)) else keepH L seen l k
theorem keepH_get {L : List Nat} : ∀ {l : List (Nat × Blk)} {seen : List Nat} {k : List (Nat × Blk) → Option (List (Nat × Blk))} {r : List (Nat × Blk)}, keepH L seen l k = some r → ∃ l', k l' = some r ∧ ∀ i B, aget i l' = some B → memN i seen = false ∧ aget i l = some B
  | [], seen, k, r, h => ⟨[], h, fun i B hi => by simp [aget] at hi⟩
  | (t, x) :: l, seen, k, r, h => by
    have drop : (memN t L = false) → keepH L seen l k = some r → ∃ l', k l' = some r ∧ ∀ i B, aget i l' = some B → memN i seen = false ∧ aget i ((t, x) :: l) = some B := fun hL h => by
      obtain ⟨l', h1, h2⟩ := keepH_getL h
      refine ⟨l', h1, fun i B hi => ?_⟩
      obtain ⟨g1, g2, g3⟩ := h2 i B hi
      refine ⟨g1, ?_⟩
      rw [aget_cons, if_neg (fun e => by rw [e, hL] at g3; cases g3)]
      exact g2
    simp only [keepH] at h
    cases h1 : memN t seen
    · rw [h1] at h
      simp only [cond_false] at h
      cases h2 : memN t L
      · rw [h2] at h
        exact drop h2 h
      · rw [h2] at h
        simp only [cond_true] at h
        obtain ⟨l', g1, g2⟩ := keepH_get h
        refine ⟨_, g1, fun i B hi => ?_⟩
        rw [aget_cons] at hi ⊢
        by_cases e : i = t
        · rw [if_pos e] at hi ⊢; subst e; exact ⟨h1, hi⟩
        · rw [if_neg e] at hi ⊢
          obtain ⟨q1, q2⟩ := g2 i B hi
          rw [memN_cons e] at q1
          exact ⟨q1, q2⟩
    · rw [h1] at h
      simp only [cond_true] at h
      obtain ⟨l', g1, g2⟩ := keepH_get h
      refine ⟨l', g1, fun i B hi => ?_⟩
      obtain ⟨q1, q2⟩ := g2 i B hi
      refine ⟨q1, ?_⟩
      rw [aget_cons, if_neg (fun e => by rw [e, h1] at q1; cases q1)]
      exact q2
where keepH_getL {L : List Nat} : ∀ {l : List (Nat × Blk)} {seen : List Nat} {k : List (Nat × Blk) → Option (List (Nat × Blk))} {r : List (Nat × Blk)}, keepH L seen l k = some r → ∃ l', k l' = some r ∧ ∀ i B, aget i l' = some B → memN i seen = false ∧ aget i l = some B ∧ memN i L = true
  | [], seen, k, r, h => ⟨[], h, fun i B hi => by simp [aget] at hi⟩
  | (t, x) :: l, seen, k, r, h => by
    simp only [keepH] at h
    cases h1 : memN t seen
    · rw [h1] at h
      simp only [cond_false] at h
      cases h2 : memN t L
      · rw [h2] at h
        simp only [cond_false] at h
        obtain ⟨l', g1, g2⟩ := keepH_getL h
        refine ⟨l', g1, fun i B hi => ?_⟩
        obtain ⟨q1, q2, q3⟩ := g2 i B hi
        refine ⟨q1, ?_, q3⟩
        rw [aget_cons, if_neg (fun e => by rw [e, h2] at q3; cases q3)]
        exact q2
      · rw [h2] at h
        simp only [cond_true] at h
        obtain ⟨l', g1, g2⟩ := keepH_getL h
        refine ⟨_, g1, fun i B hi => ?_⟩
        rw [aget_cons] at hi ⊢
        by_cases e : i = t
        · rw [if_pos e] at hi ⊢; subst e; exact ⟨h1, hi, h2⟩
        · rw [if_neg e] at hi ⊢
          obtain ⟨q1, q2, q3⟩ := g2 i B hi
          rw [memN_cons e] at q1
          exact ⟨q1, q2, q3⟩
    · rw [h1] at h
      simp only [cond_true] at h
      obtain ⟨l', g1, g2⟩ := keepH_getL h
      refine ⟨l', g1, fun i B hi => ?_⟩
      obtain ⟨q1, q2, q3⟩ := g2 i B hi
      refine ⟨q1, ?_, q3⟩
      rw [aget_cons, if_neg (fun e => by rw [e, h1] at q1; cases q1)]
      exact q2
/-- Less is known: these blocks alone. -/
theorem AWP.keepB (L : List Nat) {hp2 : List (Nat × Blk)} (h : keepH L [] hp some = some hp2) (g : AWP cx k ⟨tm, hp2, nx⟩) : AWP cx k ⟨tm, hp, nx⟩ := by
  obtain ⟨l', h1, h2⟩ := keepH_get h
  cases h1
  exact AWP.sub (fun _ _ h => h) (fun i B hB => (h2 i B hB).2) g

end
end Go.Sy

/-
  SYMBOLIC STATES, over any program, part 41: max of three.
-/
namespace Go.Sy
open Go.RowKit
section
variable {cx : Cx} {P : Program} {fn : Func} {lo : Nat} {T : Tab} {k : List It} {tm : List (Nat × SV)} {hp : List (Nat × Blk)} {nx M : Nat} {all : Array Oper} {R : List Rec} {id : Nat}
variable {d : Nat} {rest : List Oper} {ty : TypeId} {pos : String} {after : Array Edge}

theorem AWP.max3 (e : Env cx P fn lo) {x y z : Operand} {k1 k2 k3 : IntKind} {a b c : Int} {ts : Array TypeId} (hd : Nat.blt d fn.ntmps = true)
    (h1 : opd ⟨tm, hp, nx⟩ x = some (.d (.v (.int k1 a)))) (h2 : opd ⟨tm, hp, nx⟩ y = some (.d (.v (.int k2 b)))) (h3 : opd ⟨tm, hp, nx⟩ z = some (.d (.v (.int k3 c))))
    (g : AWP cx (.ops all rest :: k) ⟨(d, .d (.v (.int k1 (if c > (if b > a then b else a) then c else (if b > a then b else a))))) :: tm, hp, nx⟩) :
    AWP cx (.ops all (⟨some d, .call ⟨.builtin .max, #[x, y, z], ts⟩, ty, pos, after, none⟩ :: rest) :: k) ⟨tm, hp, nx⟩ := by
  refine AWP.op_run e (Nat.le_of_ble_eq_true hd) (fun μ ok s w hI => ⟨_, ?_, .d (.v _)⟩) g
  have e1 := (opd_den hI.tmps h1).int
  have e2 := (opd_den hI.tmps h2).int
  have e3 := (opd_den hI.tmps h3).int
  have hm : (Builtin.max_ ts ty #[s.eval x, s.eval y, s.eval z]).run P w = .ok (.int k1 (if c > (if b > a then b else a) then c else (if b > a then b else a))) w := by
    rw [e1, e2, e3]
    simp [Builtin.max_, Builtin.max2]
  have hx : execOp s.eval ⟨some d, .call ⟨.builtin .max, #[x, y, z], ts⟩, ty, pos, after, none⟩ = (do pure (.value (← Builtin.max_ ts ty #[s.eval x, s.eval y, s.eval z]))) := by
    simp only [execOp, resolve, List.map_toArray, List.map_cons, List.map_nil]
    rfl
  rw [hx, Sem.run_bind, hm]
  rfl

theorem VStep.max3 (e : Env cx P fn lo) {x y z : Operand} {k1 k2 k3 : IntKind} {a b c : Int} {ts : Array TypeId} (hd : Nat.blt d fn.ntmps = true)
    (h1 : opd ⟨tm, hp, nx⟩ x = some (.d (.v (.int k1 a)))) (h2 : opd ⟨tm, hp, nx⟩ y = some (.d (.v (.int k2 b)))) (h3 : opd ⟨tm, hp, nx⟩ z = some (.d (.v (.int k3 c)))) :
    VStep cx all hp nx ⟨some d, .call ⟨.builtin .max, #[x, y, z], ts⟩, ty, pos, after, none⟩ tm d (.d (.v (.int k1 (if c > (if b > a then b else a) then c else (if b > a then b else a))))) := by
  intro tm' k ha g
  exact AWP.max3 e hd ((opd_eq fun u hu => ha u (looks_ops (by simp [Op.operands, Call.operands]) hu)).trans h1) ((opd_eq fun u hu => ha u (looks_ops (by simp [Op.operands, Call.operands]) hu)).trans h2) ((opd_eq fun u hu => ha u (looks_ops (by simp [Op.operands, Call.operands]) hu)).trans h3) g
end
end Go.Sy

/-
  SYMBOLIC STATES, over any program, part 42: a call by its contract whose result is rows of its own; its blocks get names behind the caller's.
-/
namespace Go.Sy
open Go.RowKit

def SV.up (n : Nat) : SV → SV
  | .ptr id j => .ptr (Nat.add n id) j
  | .pel id k i j => .pel (Nat.add n id) k i j
  | .own id k lo m C => .own (Nat.add n id) k lo m C
  | .agg cs => .agg (go n cs)
  | .tup cs => .tup (go n cs)
  | .fn f a b => .fn f (go n a) (go n b)
  | .d x => .d x
  | .ip x => .ip x
  | .lit b => .lit b
where go (n : Nat) : List SV → List SV
  | [] => []
  | x :: l => SV.up n x :: go n l
def Blk.up (n : Nat) : Blk → Blk
  | .box cs => .box (SV.up.go n cs)
  | .row e f k xs C => .row e f k xs C
def upH (n : Nat) : List (Nat × Blk) → List (Nat × Blk) → List (Nat × Blk)
  | [], hp => hp
  | (i, B) :: l, hp => (Nat.add n i, B.up n) :: upH n l hp
/-- What a row holds has no names. -/
def Blk.okU : Blk → Prop
  | .box _ => True
  | .row _ _ _ xs _ => ∀ e ∈ xs, SV.idsLt.go 0 e = true
def okU : List (Nat × Blk) → Prop
  | [] => True
  | (_, B) :: l => B.okU ∧ okU l
def keysLt (n : Nat) : List (Nat × Blk) → Bool
  | [] => true
  | (i, _) :: l => bif Nat.blt i n then keysLt n l else false

theorem up_get (n : Nat) (l : List SV) : (SV.up.go n l).length = l.length ∧ ∀ (j : Nat) c, (SV.up.go n l)[j]? = some c → ∃ d, l[j]? = some d ∧ c = SV.up n d := by
  induction l with
  | nil => exact ⟨rfl, by simp [SV.up.go]⟩
  | cons x l ih =>
    refine ⟨by simp only [SV.up.go, List.length_cons, ih.1], fun j c hc => ?_⟩
    cases j with
    | zero => cases hc; exact ⟨x, rfl, rfl⟩
    | succ j => exact ih.2 j c (by simpa [SV.up.go] using hc)

theorem Den.up {μ μ' : Nat → Option Nat} {ok : Nat → Prop} {w : World} {n : Nat} (hμ : ∀ i b, μ i = some b → μ' (n + i) = some b) {x : SV} {v : Value} (h : Den μ ok w x v) : Den μ' ok w (x.up n) v := by
  induction h with
  | d h => exact .d h
  | ptr h => exact .ptr (hμ _ _ h)
  | pel h => exact .pel (hμ _ _ h)
  | own h h1 h2 => exact .own (hμ _ _ h) h1 h2
  | ip a h4 => exact .ip a h4
  | lit b => exact .lit b
  | ownNil a id k lo => exact .ownNil a _ k lo
  | agg vs h h1 ih =>
    rename_i cs
    obtain ⟨g1, g2⟩ := up_get n cs
    exact .agg vs (by rw [h, g1]) fun j c u hc hu => by obtain ⟨d, hd, rfl⟩ := g2 j c hc; exact ih j d u hd hu
  | tup vs h h1 ih =>
    rename_i cs
    obtain ⟨g1, g2⟩ := up_get n cs
    exact .tup vs (by rw [h, g1]) fun j c u hc hu => by obtain ⟨d, hd, rfl⟩ := g2 j c hc; exact ih j d u hd hu
  | fn vs us h h1 h2 h3 ih1 ih2 =>
    rename_i cs ds
    obtain ⟨g1, g2⟩ := up_get n cs
    obtain ⟨g3, g4⟩ := up_get n ds
    exact .fn vs us (by rw [h, g1]) (fun j c u hc hu => by obtain ⟨d, hd, rfl⟩ := g2 j c hc; exact ih1 j d u hd hu) (by rw [h2, g3]) (fun j c u hc hu => by obtain ⟨d, hd, rfl⟩ := g4 j c hc; exact ih2 j d u hd hu)

theorem DenB.up {μ μ' : Nat → Option Nat} {ok : Nat → Prop} {w : World} {n : Nat} (hμ : ∀ i b, μ i = some b → μ' (n + i) = some b) {b : Nat} {B : Blk} (h : DenB μ ok w b B) (hl : B.okU) : DenB μ' ok w b (B.up n) := by
  cases B with
  | box cs =>
    obtain ⟨c, T, z, h1, hz, h2, h3⟩ := h
    obtain ⟨g1, g2⟩ := up_get n cs
    exact ⟨c, T, z, h1, hz, by rw [h2, g1], fun j x u hx hu => by obtain ⟨d, hd, rfl⟩ := g2 j x hx; exact (h3 j d u hd hu).up hμ⟩
  | row T fz k xs C =>
    obtain ⟨c, z, h1, hf, hz, h2, h3, h4, h5⟩ := h
    exact ⟨c, z, h1, hf, hz, h2, h3, h4, fun i e j x u he hx hu => (h5 i e j x u he hx hu).cut (n := 0) (fun i hi => by omega) (idsLt_go (hl e (List.mem_of_getElem? he)) j x hx)⟩

theorem upB_ghost {n : Nat} {B : Blk} (h : B.ghost) : (B.up n).ghost := by
  cases B with
  | box cs => exact h
  | row => exact h

theorem okU_get {h : List (Nat × Blk)} (ho : okU h) : ∀ i B, aget i h = some B → B.okU := by
  induction h with
  | nil => intro i B hB; simp [aget] at hB
  | cons p l ih =>
    obtain ⟨u, y⟩ := p
    intro i B hB
    rw [aget_cons] at hB
    by_cases e : i = u
    · rw [if_pos e] at hB; cases hB; exact ho.1
    · rw [if_neg e] at hB; exact ih ho.2 i B hB

theorem keysLt_get {n : Nat} {h : List (Nat × Blk)} (ho : keysLt n h = true) : ∀ i B, aget i h = some B → i < n := by
  induction h with
  | nil => intro i B hB; simp [aget] at hB
  | cons p l ih =>
    obtain ⟨u, y⟩ := p
    simp only [keysLt, cond_eq_ite] at ho
    split at ho
    · rename_i hu
      intro i B hB
      rw [aget_cons] at hB
      by_cases e : i = u
      · rw [e]; exact Nat.le_of_ble_eq_true hu
      · rw [if_neg e] at hB; exact ih ho i B hB
    · cases ho

theorem upH_get {n : Nat} {hp : List (Nat × Blk)} (h : List (Nat × Blk)) : ∀ i B, aget i (upH n h hp) = some B → (∃ i0 B0, i = n + i0 ∧ aget i0 h = some B0 ∧ B = B0.up n) ∨ aget i hp = some B := by
  induction h with
  | nil => exact fun i B hB => .inr hB
  | cons p l ih =>
    obtain ⟨u, y⟩ := p
    intro i B hB
    simp only [upH] at hB
    rw [aget_cons] at hB
    have hB : (if i = n + u then some (Blk.up n y) else aget i (upH n l hp)) = some B := hB
    by_cases e : i = n + u
    · rw [if_pos e] at hB
      cases hB
      exact .inl ⟨u, y, e, by rw [aget_cons, if_pos rfl], rfl⟩
    · rw [if_neg e] at hB
      rcases ih i B hB with ⟨i0, B0, h1, h2, h3⟩ | h1
      · refine .inl ⟨i0, B0, h1, ?_, h3⟩
        rw [aget_cons, if_neg (by omega)]
        exact h2
      · exact .inr h1

section
variable {cx : Cx} {P : Program} {fn : Func} {lo : Nat} {T : Tab} {k : List It} {tm : List (Nat × SV)} {hp : List (Nat × Blk)} {nx : Nat}

/-- A CALL BY ITS CONTRACT, whose result may be rows that are new: they are the caller's own, then. -/
theorem AWP.callO (e : Env cx P fn lo) {f : FuncId} {cs : List SV} {Post : SV → List (Nat × Blk) → Nat → Prop} (hE : Eff P f cs [] 0 Post) {all : Array Oper} {rest : List Oper} {dst : Option Tmp} {c : Call} {ty : TypeId} {pos : String} {after : Array Edge} {xs : List SV}
    (hc : acall ⟨tm, hp, nx⟩ c = some (f, xs)) (hcv : CvL hp [] xs cs) (hno : SV.noIds.go cs = true) (hd : dstOk fn.ntmps dst = true) (hk : keysLt nx hp = true)
    (h : ∀ r h n, Post r h n → okU h ∧ AWP cx (.ops all rest :: k) ⟨tput dst (r.up nx) tm, upH nx h hp, Nat.add nx n⟩) :
    AWP cx (.ops all (⟨dst, .call c, ty, pos, after, none⟩ :: rest) :: k) ⟨tm, hp, nx⟩ := by
  obtain ⟨hE1, hE2⟩ := hE
  obtain ⟨rfl, rfl, _⟩ := e
  refine AWP.op rfl fun a w hi => ?_
  obtain ⟨μ, ok, hi⟩ := hi.one
  obtain ⟨vs, h1, h2⟩ := acall_ok hi.tmps hc (⟨dst, .call c, ty, pos, after, none⟩ : Oper) rfl hE1
  rw [h1, Oper.upon_enter]
  let cx2 : Cx := ⟨cx.P, cx.fn, w, fun _ => none, ok, fun _ => False, fun _ _ _ => True, fun _ _ _ => False⟩
  have howned : ∀ i B b, aget i hp = some B → μ i = some b → b < w.heap.size ∧ ¬ ok b := fun i B b hB hb => by
    obtain ⟨_, hn⟩ | ⟨b', g1, g2, g3, _⟩ := hi.heap.own i B hB
    · rw [hn] at hb; cases hb
    rw [hb] at g1
    cases g1
    exact ⟨g2, g3⟩
  have hH : HInv cx2 cx2.μ0 cx2.ok0 [] 0 cx2.w0 := ⟨fun _ _ h => h, fun _ _ => rfl, fun _ h => h, hi.heap.lt, fun _ h => .inl h, fun i B h => by simp [aget] at h, fun i j C D b h => by simp [aget] at h, fun _ _ _ => rfl, Nat.le_refl _, rfl, rfl, rfl⟩
  obtain ⟨hl1, hl2⟩ := hcv.get
  have hnoj : ∀ (j : Nat) c, cs[j]? = some c → SV.noIds c = true := by
    have : ∀ (l : List SV), SV.noIds.go l = true → ∀ (j : Nat) c, l[j]? = some c → SV.noIds c = true := by
      intro l
      induction l with
      | nil => intro _ j c hc; simp at hc
      | cons x l ih =>
        intro h j c hc
        simp only [SV.noIds.go, Bool.and_eq_true] at h
        cases j with
        | zero => cases hc; exact h.1
        | succ j => exact ih h.2 j c (by simpa using hc)
    exact this cs hno
  refine (hE2 cx2 vs rfl (fun b => ⟨fun h => h.elim, fun ⟨i, B, h, _⟩ => by simp [aget] at h⟩) hH (by rw [h2.1, hl1]) (fun j c u hcj hu => by
    have hj : j < xs.length := by rw [hl1]; exact (List.getElem?_eq_some_iff.1 hcj).1
    have hx := h2.2 j xs[j] u (by simp [hj]) hu
    have := Cv.den (ok' := ok) hi.hh (fun _ h => h) (fun i hm B hB b hb => by cases hm) (hl2 j xs[j] c (by simp [hj]) hcj) hx
    exact this.any (hnoj j c hcj))).mono ?_
  rintro e w' ⟨v, μ', ok', r, h', n', rfl, g1, g2, g3⟩
  obtain ⟨k1, k2⟩ := h r h' n' g3
  let μ2 : Nat → Option Nat := fun i => if i < nx then μ i else μ' (i - nx)
  have hm2 : ∀ i b, μ i = some b → μ2 i = some b := fun i b hb => by
    have : i < nx := by
      rcases Nat.lt_or_ge i nx with h | h
      · exact h
      · rw [hi.heap.fresh i h] at hb; cases hb
    simp only [μ2, if_pos this]; exact hb
  have hu2 : ∀ i, μ2 (nx + i) = μ' i := fun i => by show (if nx + i < nx then μ (nx + i) else μ' (nx + i - nx)) = _; rw [if_neg (by omega), Nat.add_sub_cancel_left]
  have hup : ∀ i b, μ' i = some b → μ2 (nx + i) = some b := fun i b hb => by rw [hu2]; exact hb
  have hlow : ∀ i, i < nx → μ2 i = μ i := fun i h => by simp only [μ2, if_pos h]
  have hfr : ∀ b, b < w.heap.size → w'.heap[b]? = w.heap[b]? := fun b hb => g1.frame b hb (fun h => h)
  have hokf : ∀ b, ok b → w'.heap[b]? = w.heap[b]? := fun b hb => hfr b (hi.heap.lt b hb)
  have hsz : w.heap.size ≤ w'.heap.size := g1.size
  have hsub : ∀ b, ok b → ok' b := g1.sub
  have hnew : ∀ i B b, aget i h' = some B → μ' i = some b → w.heap.size ≤ b := fun i B b hB hb => by
    obtain ⟨_, q⟩ | ⟨b', q1, _, _, q4, _⟩ := g1.own i B hB
    · rw [q] at hb; cases hb
    · rw [hb] at q1; cases q1
      rcases q4 with q4 | q4
      · exact q4
      · exact q4.elim
  have hI : Inv1 cx μ2 ok' ⟨tm, upH nx h' hp, Nat.add nx n'⟩ a w' := by
    refine ⟨hi.defers, hi.size, ⟨fun i b hb => hm2 i b (hi.heap.mu i b hb), fun i h => ?_, fun b hb => hsub b (hi.heap.sub b hb), g1.lt, fun b hb => ?_, fun i B hB => ?_, fun i j B C b hB hC hb hb' => ?_, fun b hb hF => ?_, Nat.le_trans hi.heap.size hsz, g1.os.trans hi.heap.os, g1.tape.trans hi.heap.tape, g1.output.trans hi.heap.output⟩, fun t x hx => (hi.tmps t x hx).mono hm2 hsub hokf⟩
    · have h : nx + n' ≤ i := h
      show μ2 i = none
      simp only [μ2]
      rw [if_neg (by omega)]
      exact g1.fresh _ (by omega)
    · rcases g1.okNew b hb with h1 | h1 | h1
      · exact hi.heap.okNew b h1
      · exact .inr (.inl (Nat.le_trans hi.heap.size h1))
      · exact h1.elim
    · rcases upH_get h' i B hB with ⟨i0, B0, rfl, hB0, rfl⟩ | hB
      · obtain ⟨q1, q2⟩ | ⟨b, q1, q2, q3, q4, q5⟩ := g1.own i0 B0 hB0
        · exact .inl ⟨upB_ghost q1, by rw [hu2]; exact q2⟩
        · refine .inr ⟨b, hup _ _ q1, q2, q3, ?_, q5.up hup (okU_get k1 i0 B0 hB0)⟩
          exact .inl (Nat.le_trans hi.heap.size (hnew i0 B0 b hB0 q1))
      · have hlt := keysLt_get hk i B hB
        obtain ⟨q1, q2⟩ | ⟨b, q1, q2, q3, q4, q5⟩ := hi.heap.own i B hB
        · exact .inl ⟨q1, by rw [hlow i hlt]; exact q2⟩
        · refine .inr ⟨b, hm2 _ _ q1, Nat.lt_of_lt_of_le q2 hsz, fun hb => ?_, q4, q5.mono hm2 hsub hokf (hfr b q2)⟩
          rcases g1.okNew b hb with h1 | h1 | h1
          · exact q3 h1
          · exact absurd q2 (Nat.not_lt.2 h1)
          · exact h1.elim
    · rcases upH_get h' i B hB with ⟨i0, B0, rfl, hB0, rfl⟩ | hB
      · rw [hu2] at hb
        rcases upH_get h' j C hC with ⟨j0, C0, rfl, hC0, rfl⟩ | hC
        · rw [hu2] at hb'
          exact congrArg (nx + ·) (g1.inj i0 j0 B0 C0 b hB0 hC0 hb hb')
        · rw [hlow j (keysLt_get hk j C hC)] at hb'
          have q1 := hnew i0 B0 b hB0 hb
          have q2 := (howned j C b hC hb').1
          exact absurd q2 (Nat.not_lt.2 q1)
      · rw [hlow i (keysLt_get hk i B hB)] at hb
        rcases upH_get h' j C hC with ⟨j0, C0, rfl, hC0, rfl⟩ | hC
        · rw [hu2] at hb'
          have q1 := hnew j0 C0 b hC0 hb'
          have q2 := (howned i B b hB hb).1
          exact absurd q2 (Nat.not_lt.2 q1)
        · rw [hlow j (keysLt_get hk j C hC)] at hb'
          exact hi.heap.inj i j B C b hB hC hb hb'
    · exact (hfr b (Nat.lt_of_lt_of_le hb hi.heap.size)).trans (hi.heap.frame b hb hF)
  exact k2 _ _ (hI.dput (dstOk_lt hd) (g2.up hup)).inv

/-- The same, for a contract 'the result is R C, its blocks are H C, for some C'. -/
theorem AWP.callC (e : Env cx P fn lo) {f : FuncId} {all : Array Oper} {rest : List Oper} {dst : Option Tmp} {c : Call} {ty : TypeId} {pos : String} {after : Array Edge} {xs : List SV} {N m : Nat} {R : Nat → SV} {H : Nat → List (Nat × Blk)}
    (hE : Eff P f xs [] 0 (fun r h n => ∃ C, m ≤ C ∧ r = R C ∧ h = H C ∧ n = N))
    (hc : acall ⟨tm, hp, nx⟩ c = some (f, xs)) (hno : SV.noIds.go xs = true) (hd : dstOk fn.ntmps dst = true) (hk : keysLt nx hp = true)
    (h : ∀ C, m ≤ C → okU (H C) ∧ AWP cx (.ops all rest :: k) ⟨tput dst ((R C).up nx) tm, upH nx (H C) hp, Nat.add nx N⟩) :
    AWP cx (.ops all (⟨dst, .call c, ty, pos, after, none⟩ :: rest) :: k) ⟨tm, hp, nx⟩ := by
  refine AWP.callO e hE hc (CvL.rfl' _) hno hd hk ?_
  rintro r h' n ⟨C, h1, rfl, rfl, rfl⟩
  exact h C h1
end
end Go.Sy

/-
  SYMBOLIC STATES, over any program, part 43: a contract of the kit's library, whose arguments and result bear no memory, as a contract of ours.
-/
namespace Go.Sy
open Go.RowKit

/-- A call that gives a plain value and touches nothing that was there. -/
theorem eff_calls {P : Program} {f : FuncId} {fn : Func} {v : Value} (vals : List Value) (hf : P.funcs[f]? = some fn) (hn : (fn.name == "runtime.NumGoroutine") = false) (hb : fn.body.isNone = false)
    (h : ∀ w, Calls P f vals.toArray w fun e w' => e = .returned v ∧ Below w.heap.size w w') : Eff P f (vals.map fun x => .d (.v x)) [] 0 (fun r _ _ => r = .d (.v v)) := by
  refine ⟨enters hf hn hb, fun cx vs hP hF hH hs hd => ?_⟩
  have hv : vs = vals.toArray := by
    apply Array.ext
    · simpa using hs
    · intro j h1 h2
      have h3 : j < vals.length := by simpa using h2
      have := (hd j (.d (.v vals[j])) vs[j] (by simp [h3]) (by simp [h1])).vv
      simpa using this
  subst hv
  refine (h cx.w0).mono fun e w' hh => ?_
  obtain ⟨he, hw⟩ := hh
  refine ⟨v, cx.μ0, cx.ok0, .d (.v v), [], 0, he, ⟨hH.mu, hH.fresh, hH.sub, fun b hb => Nat.lt_of_lt_of_le (hH.lt b hb) hw.size, hH.okNew, fun i B hi => absurd hi (by simp [aget]), fun i j B C b hi => absurd hi (by simp [aget]), fun b hb _ => hw.block b hb, hw.size, hw.os, hw.tape, hw.output⟩, .d (.v v), rfl⟩

end Go.Sy

/-
  SYMBOLIC STATES, over any program, part 44: 'and', 'or', 'xor' of numbers of a kind without a sign, as rows of bits; conversions between such kinds.
-/
namespace Go.Sy
open Go.RowKit

theorem ofInt_bv {n : Nat} (x : BitVec n) : BitVec.ofInt n (x.toNat : Int) = x := by
  apply BitVec.eq_of_toInt_eq
  rw [BitVec.toInt_ofInt, BitVec.toInt_eq_toNat_bmod]
theorem ofInt_lit {n : Nat} (m : Nat) : BitVec.ofInt n (m : Int) = BitVec.ofNat n m := by
  apply BitVec.eq_of_toNat_eq
  rw [BitVec.toNat_ofNat, BitVec.toNat_ofInt]
  norm_cast

theorem u8and (x y : BitVec 8) : IntKind.wrap .u8 (((BitVec.ofInt IntKind.u8.bits (x.toNat : Int) &&& BitVec.ofInt IntKind.u8.bits (y.toNat : Int)).toNat : Nat) : Int) = ((x &&& y).toNat : Int) := by
  rw [show BitVec.ofInt IntKind.u8.bits (x.toNat : Int) = x from ofInt_bv x, show BitVec.ofInt IntKind.u8.bits (y.toNat : Int) = y from ofInt_bv y]
  exact u8w (x &&& y)
theorem u8or (x y : BitVec 8) : IntKind.wrap .u8 (((BitVec.ofInt IntKind.u8.bits (x.toNat : Int) ||| BitVec.ofInt IntKind.u8.bits (y.toNat : Int)).toNat : Nat) : Int) = ((x ||| y).toNat : Int) := by
  rw [show BitVec.ofInt IntKind.u8.bits (x.toNat : Int) = x from ofInt_bv x, show BitVec.ofInt IntKind.u8.bits (y.toNat : Int) = y from ofInt_bv y]
  exact u8w (x ||| y)
theorem u8xor (x y : BitVec 8) : IntKind.wrap .u8 (((BitVec.ofInt IntKind.u8.bits (x.toNat : Int) ^^^ BitVec.ofInt IntKind.u8.bits (y.toNat : Int)).toNat : Nat) : Int) = ((x ^^^ y).toNat : Int) := by
  rw [show BitVec.ofInt IntKind.u8.bits (x.toNat : Int) = x from ofInt_bv x, show BitVec.ofInt IntKind.u8.bits (y.toNat : Int) = y from ofInt_bv y]
  exact u8w (x ^^^ y)
theorem u32and (x y : BitVec 32) : IntKind.wrap .u32 (((BitVec.ofInt IntKind.u32.bits (x.toNat : Int) &&& BitVec.ofInt IntKind.u32.bits (y.toNat : Int)).toNat : Nat) : Int) = ((x &&& y).toNat : Int) := by
  rw [show BitVec.ofInt IntKind.u32.bits (x.toNat : Int) = x from ofInt_bv x, show BitVec.ofInt IntKind.u32.bits (y.toNat : Int) = y from ofInt_bv y]
  exact u32w (x &&& y)
theorem u32or (x y : BitVec 32) : IntKind.wrap .u32 (((BitVec.ofInt IntKind.u32.bits (x.toNat : Int) ||| BitVec.ofInt IntKind.u32.bits (y.toNat : Int)).toNat : Nat) : Int) = ((x ||| y).toNat : Int) := by
  rw [show BitVec.ofInt IntKind.u32.bits (x.toNat : Int) = x from ofInt_bv x, show BitVec.ofInt IntKind.u32.bits (y.toNat : Int) = y from ofInt_bv y]
  exact u32w (x ||| y)
theorem u32xor (x y : BitVec 32) : IntKind.wrap .u32 (((BitVec.ofInt IntKind.u32.bits (x.toNat : Int) ^^^ BitVec.ofInt IntKind.u32.bits (y.toNat : Int)).toNat : Nat) : Int) = ((x ^^^ y).toNat : Int) := by
  rw [show BitVec.ofInt IntKind.u32.bits (x.toNat : Int) = x from ofInt_bv x, show BitVec.ofInt IntKind.u32.bits (y.toNat : Int) = y from ofInt_bv y]
  exact u32w (x ^^^ y)
theorem u64and (x y : BitVec 64) : IntKind.wrap .u64 (((BitVec.ofInt IntKind.u64.bits (x.toNat : Int) &&& BitVec.ofInt IntKind.u64.bits (y.toNat : Int)).toNat : Nat) : Int) = ((x &&& y).toNat : Int) := by
  rw [show BitVec.ofInt IntKind.u64.bits (x.toNat : Int) = x from ofInt_bv x, show BitVec.ofInt IntKind.u64.bits (y.toNat : Int) = y from ofInt_bv y]
  exact u64w (x &&& y)
theorem u64or (x y : BitVec 64) : IntKind.wrap .u64 (((BitVec.ofInt IntKind.u64.bits (x.toNat : Int) ||| BitVec.ofInt IntKind.u64.bits (y.toNat : Int)).toNat : Nat) : Int) = ((x ||| y).toNat : Int) := by
  rw [show BitVec.ofInt IntKind.u64.bits (x.toNat : Int) = x from ofInt_bv x, show BitVec.ofInt IntKind.u64.bits (y.toNat : Int) = y from ofInt_bv y]
  exact u64w (x ||| y)

/-- A shift by a number that is not below 0, told as one. -/
theorem toNat_sub {a b c : Nat} (h : c + b ≤ a) : (((a : Int) - (b : Int)) - (c : Int)) = ((a - b - c : Nat) : Int) := by omega
theorem wrap_nat (k : IntKind) (hk : k.signed = false) {n : Nat} (h : n < 2 ^ k.bits) : k.wrap (n : Int) = (n : Int) := by
  rw [wrapN k hk, Nat.mod_eq_of_lt h]

end Go.Sy

/-
  SYMBOLIC STATES, over any program, part 45: drawn regions that look into rows of one's own, and write them, at a place that is told.
-/
namespace Go.Sy
open Go.RowKit
section
variable {cx : Cx} {P : Program} {fn : Func} {lo : Nat} {T : Tab} {k : List It} {tm : List (Nat × SV)} {hp : List (Nat × Blk)} {nx M : Nat} {all : Array Oper} {R : List Rec} {id : Nat}
variable {d : Nat} {q : Nat} {rest : List Oper} {ty : TypeId} {pos : String} {after : Array Edge}

theorem DrG.idx_own (n : Nat) (e : Env cx P fn lo) (hT : TabOk P T) {t te : TypeId} {x ix : Operand} {kk : IntKind} {i : Int} {b m l w C : Nat} (hd : Nat.blt d fn.ntmps = true) (h1 : opd ⟨tmS R tm, [], 0⟩ x = some (.own b m l w C)) (h2 : opd ⟨tmS R tm, [], 0⟩ ix = some (.d (.v (.int kk i))))
    (h3 : tySl T t = some (te, m)) (hi : i = n) (hn : n < w) (hb : Nat.blt b M = true) (h : DrG cx all id k tm hp nx M (Nat.succ q) rest (⟨q, some d, .pel b m (l + n) 0, [], [], []⟩ :: R)) : DrG cx all id k tm hp nx M q (⟨some d, .indexAddr t x ix, ty, pos, after, none⟩ :: rest) R :=
  DrG.v (x := .pel b m (l + n) 0) rfl (fun hp0 => VStep.idx_own (hp := hp0) (nx := M) e hT hd h1 h2 h3 n hi hn) hb h
theorem DrG.idx_ownGo (n : Nat) (e : Env cx P fn lo) (hT : TabOk P T) {t te : TypeId} {x ix : Operand} {kk : IntKind} {i : Int} {b m l w C jg dj : Nat} {wg : Bool} (hg : guardS all (tmS R tm) jg = .told dj wg) (hd : Nat.blt d fn.ntmps = true) (h1 : opd ⟨tmS R tm, [], 0⟩ x = some (.own b m l w C)) (h2 : opd ⟨tmS R tm, [], 0⟩ ix = some (.d (.v (.int kk i))))
    (h3 : tySl T t = some (te, m)) (hi : i = n) (hn : n < w) (hb : Nat.blt b M = true) (h : DrG cx all id k tm hp nx M (Nat.succ q) rest (⟨q, some d, .pel b m (l + n) 0, [], [], []⟩ :: R)) : DrG cx all id k tm hp nx M q (⟨some d, .indexAddr t x ix, ty, pos, after, some (jg, wg)⟩ :: rest) R :=
  DrG.v (x := .pel b m (l + n) 0) rfl (fun hp0 => VStep.go hg (VStep.idx_own (hp := hp0) (nx := M) e hT hd h1 h2 h3 n hi hn)) hb h
theorem DrG.load_el (v : SV) (e : Env cx P fn lo) (hT : TabOk P T) {t : TypeId} {a : Operand} {y : Ty} {b m i j C : Nat} {te : TypeId} {fz : Bool} {xs : List (List SV)} {el : List SV} (hd : Nat.blt d fn.ntmps = true) (h1 : opd ⟨tmS R tm, [], 0⟩ a = some (.pel b m i j)) (h2 : aget t T = some y)
    (h3 : aget b (hpS R hp) = some (.row te fz m xs C)) (he : xs[i]? = some el) (h4 : part1 y.td.agg y.size j el = .val v True) (hx : SV.idsLt M v = true) (h : DrG cx all id k tm hp nx M (Nat.succ q) rest (⟨q, some d, v, [b], [], []⟩ :: R)) : DrG cx all id k tm hp nx M q (⟨some d, .load t a, ty, pos, after, none⟩ :: rest) R :=
  DrG.v1 rfl h3 (fun hp' hb => VStep.load_el (hp := hp') (nx := M) e hT hd (show opd ⟨tmS R tm, hp', M⟩ a = _ from h1) h2 hb he h4) hx h
theorem DrG.load_elGo (v : SV) (e : Env cx P fn lo) (hT : TabOk P T) {t : TypeId} {a : Operand} {y : Ty} {b m i j C jg dj : Nat} {wg : Bool} {te : TypeId} {fz : Bool} {xs : List (List SV)} {el : List SV} (hg : guardS all (tmS R tm) jg = .told dj wg) (hd : Nat.blt d fn.ntmps = true) (h1 : opd ⟨tmS R tm, [], 0⟩ a = some (.pel b m i j)) (h2 : aget t T = some y)
    (h3 : aget b (hpS R hp) = some (.row te fz m xs C)) (he : xs[i]? = some el) (h4 : part1 y.td.agg y.size j el = .val v True) (hx : SV.idsLt M v = true) (h : DrG cx all id k tm hp nx M (Nat.succ q) rest (⟨q, some d, v, [b], [], []⟩ :: R)) : DrG cx all id k tm hp nx M q (⟨some d, .load t a, ty, pos, after, some (jg, wg)⟩ :: rest) R :=
  DrG.v1 rfl h3 (fun hp' hb => VStep.go hg (VStep.load_el (hp := hp') (nx := M) e hT hd (show opd ⟨tmS R tm, hp', M⟩ a = _ from h1) h2 hb he h4)) hx h
/-- A store into a row's element, which is one cell. -/
theorem DrG.store_el (e : Env cx P fn lo) (hT : TabOk P T) {dst : Option Nat} {t : TypeId} {a b : Operand} {i m n j C : Nat} {te : TypeId} {fz : Bool} {xs : List (List SV)} {y : Ty} {x : SV} {vs el el' : List SV} (hd : dstOk fn.ntmps dst = true) (h1 : opd ⟨tmS R tm, [], 0⟩ a = some (.pel i m n j)) (hv : opd ⟨tmS R tm, [], 0⟩ b = some x) (h2 : aget t T = some y)
    (h3 : aget i (hpS R hp) = some (.row te fz m xs C)) (he : xs[n]? = some el) (hvs : cellsOf x = some vs) (hl : Nat.beq (lenK vs) y.size = true) (ha : allCells vs = true) (h4 : laid j vs el = some el') (hx : ∀ z ∈ xs.set n el', SV.idsLt.go 0 z = true) (hi : Nat.blt i M = true)
    (h : DrG cx all id k tm hp nx M (Nat.succ q) rest (⟨q, dst, undefS, [i], [(i, some (.row te fz m (xs.set n el') C))], []⟩ :: R)) : DrG cx all id k tm hp nx M q (⟨dst, .store t a b, ty, pos, after, none⟩ :: rest) R := by
  refine DrG.step (d := dst) (x := undefS) (eff := [(i, some (.row te fz m (xs.set n el') C))]) (nw := []) (rds := [(i, .row te fz m xs C)]) (fun t ht => ht) (fun p hp => by simp only [List.mem_singleton] at hp; subst hp; exact h3) rfl ⟨⟨hi, hx⟩, trivial⟩ (fun tm' hp' k a1 a2 _ _ g => ?_) h
  have h1' : opd ⟨tm', hp', M⟩ a = some (.pel i m n j) := (opd_eq fun u hu => a1 u (looks_ops (by simp [Op.operands]) hu)).trans h1
  have hv' : opd ⟨tm', hp', M⟩ b = some x := (opd_eq fun u hu => a1 u (looks_ops (by simp [Op.operands]) hu)).trans hv
  exact AWP.store_el e hT hd h1' hv' h2 (a2 (i, .row te fz m xs C) (by simp)) he hvs hl ha h4 g
/-- Any value in another form. -/
theorem DrG.eqV {q0 : Nat} {d0 : Option Nat} {x x' : SV} {rd : List Nat} {eff : List (Nat × Option Blk)} {nw : List Nat} (hx : x = x') (h : DrG cx all id k tm hp nx M q rest (⟨q0, d0, x', rd, eff, nw⟩ :: R)) : DrG cx all id k tm hp nx M q rest (⟨q0, d0, x, rd, eff, nw⟩ :: R) := by
  subst hx; exact h
theorem AWP.idx_elt (n : Nat) (e : Env cx P fn lo) (hT : TabOk P T) {t te : TypeId} {x ix : Operand} {kk : IntKind} {i : Int} {m : Nat} {xs : List (List DV)} (hd : Nat.blt d fn.ntmps = true) (h1 : opd ⟨tm, hp, nx⟩ x = some (.d (.sl m xs))) (h2 : opd ⟨tm, hp, nx⟩ ix = some (.d (.v (.int kk i))))
    (h3 : tySl T t = some (te, m)) (hi : i = n) {el : List DV} (he : xs[n]? = some el) (g : AWP cx (.ops all rest :: k) ⟨(d, .ip el) :: tm, hp, nx⟩) :
    AWP cx (.ops all (⟨some d, .indexAddr t x ix, ty, pos, after, none⟩ :: rest) :: k) ⟨tm, hp, nx⟩ := AWP.idx e hT hd h1 h2 h3 n hi he g
end
end Go.Sy

/-
  SYMBOLIC STATES, over any program, part 46: one element more behind a row, told by a list.
-/
namespace Go.Sy
open Go.RowKit
section
variable {cx : Cx} {P : Program} {fn : Func} {lo : Nat} {T : Tab} {k : List It} {tm : List (Nat × SV)} {hp : List (Nat × Blk)} {nx M : Nat} {all : Array Oper} {R : List Rec} {id : Nat}
variable {d : Nat} {q : Nat} {rest : List Oper} {ty : TypeId} {pos : String} {after : Array Edge}

theorem AWP.append1 {α : Type} (f : α → List SV) (xs : List α) (x : α) (e : Env cx P fn lo) (hT : TabOk P T) {s0 sx : Operand} {t te te2 : TypeId} {y : Ty} {id id2 m C C0 C1 n n1 : Nat} {fz2 : Bool} {row : List (List SV)} {el : List SV} (hd : Nat.blt d fn.ntmps = true) (h1 : opd ⟨tm, hp, nx⟩ s0 = some (.own id m 0 n C)) (h2 : opd ⟨tm, hp, nx⟩ sx = some (.own id2 m 0 n1 C0))
    (hrow : aget id hp = some (.row te false m row C)) (hrow2 : aget id2 hp = some (.row te2 fz2 m [el] C1)) (ht : tySl T t = some (te, m)) (hy : aget te T = some y) (hm : Nat.blt 0 m = true) {hp' : List (Nat × Blk)} (hdel : adelO id hp = some hp')
    (hn1 : n1 = 1) (hn : n = xs.length) (hr : row = xs.map f) (hel : el = f x) (hcell : allCells (f x) = true) (hb : (xs.length + 1) * y.bytes ≤ 140737488355328) (hsz : xs.length + 1 ≤ 9223372036854775807)
    (g : ∀ C2, AWP cx (.ops all rest :: k) ⟨(d, .own nx m 0 (xs ++ [x]).length C2) :: tm, (nx, .row te false m ((xs ++ [x]).map f) C2) :: hp', Nat.succ nx⟩) :
    AWP cx (.ops all (⟨some d, .call ⟨.builtin .append, #[s0, sx], #[t, t]⟩, ty, pos, after, none⟩ :: rest) :: k) ⟨tm, hp, nx⟩ := by
  subst hr hel hn1 hn
  refine AWP.append e hT hd h1 h2 hrow ht hy hm hdel (.own hrow2 (by simp)) (by simp) (by simpa using hcell) (by simpa using hb) (by simpa using hsz) fun C2 hC2 => ?_
  have := g C2
  rw [List.map_append] at this
  simpa using this
end
end Go.Sy

/-
  SYMBOLIC STATES, over any program, part 47: a contract of the kit's library that reads a row of texts, as a contract of ours.
-/
namespace Go.Sy
open Go.RowKit

theorem addr_add (b o n : Nat) : (⟨b, o, none⟩ : Addr).add n = ⟨b, o + n, none⟩ := by
  unfold Addr.add
  split
  · rename_i h; subst h; rfl
  · rfl
/-- What a row of one-cell elements that are plain says of memory. -/
theorem row_of {ok : Nat → Prop} {w : World} {xs : List Value} {y : Value} (h : DDen ok w (.sl 1 (xs.map fun x => [.v x])) y) :
    (xs = [] ∧ ∃ a c, y = .slice a 0 c) ∨ ∃ b o c, y = .slice (some ⟨b, o, none⟩) xs.length c ∧ xs.length ≤ c ∧ ok b ∧ ∀ (j : Nat) x, xs[j]? = some x → w.cell? ⟨b, o + j, none⟩ = some x := by
  rcases slOf h with ⟨h1, h2⟩ | ⟨a, cap, h1, h2, h3, h4, h5⟩
  · exact .inl ⟨List.map_eq_nil_iff.1 h1, none, 0, h2⟩
  · rw [List.length_map] at h1 h2
    cases xs with
    | nil => exact .inl ⟨rfl, _, _, h1⟩
    | cons x0 xs =>
      have hat : ∀ (j : Nat) x, (x0 :: xs)[j]? = some x → ok a.block ∧ ∃ u, w.cell? (a.add (j * 1 + 0)) = some u ∧ DDen ok w (.v x) u := fun j x hx => h5 j [.v x] 0 (.v x) (by rw [List.getElem?_map, hx]; rfl) rfl
      have h0 := hat 0 x0 rfl
      obtain ⟨ho, u, hu, hd⟩ := h0
      have hs : a.spot = none := by
        rw [show a.add (0 * 1 + 0) = a from rfl] at hu
        unfold World.cell? at hu
        split at hu
        · split at hu
          · cases hu
          · rename_i h; cases e : a.spot with
            | none => rfl
            | some z => rw [e] at h; exact absurd rfl h
        · cases hu
      have ha : a = ⟨a.block, a.off, none⟩ := by
        obtain ⟨b, o, s⟩ := a
        have hs : s = none := hs
        rw [hs]
      refine .inr ⟨a.block, a.off, cap, by rw [← ha]; exact h1, h2, ho, fun j x hx => ?_⟩
      obtain ⟨_, u, hu, hd⟩ := hat j x hx
      have e : a.add (j * 1 + 0) = ⟨a.block, a.off + j, none⟩ := by
        conv => lhs; rw [ha]
        rw [addr_add]
        congr 1; omega
      rw [e] at hu
      rw [hu]
      cases hd
      rfl
theorem eff_rows {P : Program} {f : FuncId} {fn : Func} {v sep : Value} (xs : List Value) (hf : P.funcs[f]? = some fn) (hn : (fn.name == "runtime.NumGoroutine") = false) (hb : fn.body.isNone = false)
    (h0 : xs = [] → ∀ w a c, Calls P f #[.slice a 0 c, sep] w fun e w' => e = .returned v ∧ Below w.heap.size w w')
    (h : ∀ w b o c, (∀ (j : Nat) x, xs[j]? = some x → w.cell? ⟨b, o + j, none⟩ = some x) → b < w.heap.size → xs.length ≤ c → Calls P f #[.slice (some ⟨b, o, none⟩) xs.length c, sep] w fun e w' => e = .returned v ∧ Below w.heap.size w w') :
    Eff P f [.d (.sl 1 (xs.map fun x => [.v x])), .d (.v sep)] [] 0 (fun r _ _ => r = .d (.v v)) := by
  refine ⟨enters hf hn hb, fun cx vs hP hF hH hs hd => ?_⟩
  have h2 : vs.size = 2 := hs
  obtain ⟨y, z, rfl⟩ : ∃ y z, vs = #[y, z] := ⟨vs[0], vs[1], by
    apply Array.ext
    · exact h2
    · intro j h1 h3
      have : j = 0 ∨ j = 1 := by simp at h3; omega
      rcases this with rfl | rfl <;> rfl⟩
  have hz := (hd 1 _ z rfl rfl).vv.symm
  subst hz
  have hy := hd 0 _ y rfl rfl
  cases hy with
  | d hy =>
    have fin : (Calls P f #[y, sep] cx.w0 fun e w' => e = .returned v ∧ Below cx.w0.heap.size cx.w0 w') → Calls P f #[y, sep] cx.w0 fun e w' => ∃ v1 μ ok r h n', e = .returned v1 ∧ HInv cx μ ok h n' w' ∧ Den μ ok w' r v1 ∧ r = .d (.v v) := fun hc => by
      refine hc.mono fun e w' hh => ?_
      obtain ⟨he, hw⟩ := hh
      exact ⟨v, cx.μ0, cx.ok0, .d (.v v), [], 0, he, ⟨hH.mu, hH.fresh, hH.sub, fun b hb => Nat.lt_of_lt_of_le (hH.lt b hb) hw.size, hH.okNew, fun i B hi => absurd hi (by simp [aget]), fun i j B C b hi => absurd hi (by simp [aget]), fun b hb _ => hw.block b hb, hw.size, hw.os, hw.tape, hw.output⟩, .d (.v v), rfl⟩
    rcases row_of hy with ⟨g1, a, c, rfl⟩ | ⟨b, o, c, rfl, g1, g2, g3⟩
    · exact fin (h0 g1 _ a c)
    · exact fin (h _ b o c g3 (hH.lt b g2) g1)
end Go.Sy

/-
  SYMBOLIC STATES, over any program, part 48: contracts that ask something of the world in which they begin (a library's open variable); what is asked lives on where nothing that was there turns.
-/
namespace Go.Sy
open Go.RowKit
section
variable {cx : Cx} {P : Program} {fn : Func} {lo : Nat} {T : Tab} {k : List It} {s : St} {tm : List (Nat × SV)} {hp : List (Nat × Blk)} {nx : Nat}

/-- As Eff, of a call that may write to nothing of its caller's, from a world of which G holds. -/
def EffG (P : Program) (f : FuncId) (args : List SV) (G : World → Prop) (Post : SV → List (Nat × Blk) → Nat → Prop) : Prop :=
  (∀ (vs : Array Value) (w : World), (callFunc f vs).run P w = .ok (.enter f vs) w) ∧
  ∀ (cx : Cx) (vs : Array Value), cx.P = P → (∀ b, ¬ cx.F b) → G cx.w0 → HInv cx cx.μ0 cx.ok0 [] 0 cx.w0 → vs.size = args.length →
    (∀ (j : Nat) c u, args[j]? = some c → vs[j]? = some u → Den cx.μ0 cx.ok0 cx.w0 c u) →
    Calls P f vs cx.w0 fun e w' => ∃ v μ ok r h n', e = .returned v ∧ HInv cx μ ok h n' w' ∧ Den μ ok w' r v ∧ Post r h n'

theorem effG_of {G : World → Prop} {f : FuncId} {args : List SV} {Post : SV → List (Nat × Blk) → Nat → Prop} {c : Code} (hf : P.funcs[f]? = some fn) (hn : (fn.name == "runtime.NumGoroutine") = false) (hb : fn.body = some c)
    (hl : Nat.ble (lenK args) fn.ntmps = true) (h : ∀ cx, Env cx P fn 0 → cx.Post = Post → (∀ b, ¬ cx.F b) → G cx.w0 → AWP cx [.code c] ⟨argT 0 args, [], 0⟩) : EffG P f args G Post := by
  refine ⟨enters hf hn (by rw [hb]; rfl), fun cx vs hP hF hG hH hs hd => ?_⟩
  let cx' : Cx := cx.full fn Post
  have hH' : HInv cx' cx'.μ0 cx'.ok0 [] 0 cx'.w0 := ⟨hH.mu, hH.fresh, hH.sub, hH.lt, hH.okNew, hH.own, hH.inj, hH.frame, hH.size, hH.os, hH.tape, hH.output⟩
  have e : Env cx' P fn 0 := ⟨hP, rfl, (fun i b hi => by
    rcases Nat.lt_or_ge i 0 with h | h
    · exact h
    · have hi : cx.μ0 i = some b := hi
      rw [hH.fresh i h] at hi; cases hi), cx.full_ret fn Post⟩
  have hl := Nat.le_of_ble_eq_true hl
  rw [lenK_eq] at hl
  have hw := h cx' e rfl hF hG { tmps := vs ++ Array.replicate (fn.ntmps - vs.size) undef, defers := [] } cx.w0
    ⟨rfl, by show _ = fn.ntmps; simp; omega, cx.μ0, cx.ok0, hH', fun t x hx => by
      obtain ⟨_, h2⟩ := argT_get args 0 t x hx
      rw [Nat.sub_zero] at h2
      have hlt : t < vs.size := by have := (List.getElem?_eq_some_iff.1 h2).1; omega
      have := hd t x vs[t] h2 (by simp [hlt])
      have e2 : (vs ++ Array.replicate (fn.ntmps - vs.size) undef).getD t undef = vs[t] := by
        rw [Array.getD_eq_getD_getElem?, Array.getElem?_append_left hlt]
        simp [hlt]
      rw [e2]
      exact this⟩
  refine calls_of_wp hf hb ?_
  have hw' : c.wp P (K P cx'.R []) { tmps := vs ++ Array.replicate (fn.ntmps - vs.size) undef, defers := [] } cx.w0 := by
    have h1 : c.wp cx'.P (K cx'.P cx'.R []) { tmps := vs ++ Array.replicate (fn.ntmps - vs.size) undef, defers := [] } cx.w0 := hw
    rw [e.P] at h1
    exact h1
  refine Code.wp_mono (fun e a w q => ?_) hw'
  have q' : cx'.R e a w := q
  obtain ⟨he, hdf, μ, ok, r, hh, n', y, g1, g2, g3, g4⟩ := q'
  have g2 : (results fn a.tmps).run P w = .ok y w := by
    have : (results fn a.tmps).run cx'.P w = .ok y w := g2
    rw [show cx'.P = P from hP] at this
    exact this
  have g1' : HInv cx μ ok hh n' w := ⟨g1.mu, g1.fresh, g1.sub, g1.lt, g1.okNew, g1.own, g1.inj, g1.frame, g1.size, g1.os, g1.tape, g1.output⟩
  rcases he with rfl | rfl
  · exact ⟨hdf, y, g2, y, μ, ok, r, hh, n', rfl, g1', g3, g4⟩
  · exact ⟨hdf, y, g2, y, μ, ok, r, hh, n', rfl, g1', g3, g4⟩


/-- A CALL BY ITS CONTRACT: of a function that writes to no block of its caller's. -/
theorem AWP.callG {G : World → Prop} (hst : ∀ w w' : World, (∀ b, b < w.heap.size → w'.heap[b]? = w.heap[b]?) → G w → G w') (hcF : ∀ b, ¬ cx.F b) (hG : G cx.w0) (e : Env cx P fn lo) {f : FuncId} {cs : List SV} {Post : SV → List (Nat × Blk) → Nat → Prop} (hE : EffG P f cs G Post) {all : Array Oper} {rest : List Oper} {dst : Option Tmp} {c : Call} {ty : TypeId} {pos : String} {after : Array Edge} {xs : List SV}
    (hc : acall ⟨tm, hp, nx⟩ c = some (f, xs)) (lend : List Nat) (hcv : CvL hp lend xs cs) (hno : SV.noIds.go cs = true) (hd : dstOk fn.ntmps dst = true)
    (h : ∀ r h n, Post r h n → SV.noIds r = true ∧ (lend = [] ∨ SV.noMem r = true) ∧ AWP cx (.ops all rest :: k) ⟨tput dst r tm, hp, nx⟩) :
    AWP cx (.ops all (⟨dst, .call c, ty, pos, after, none⟩ :: rest) :: k) ⟨tm, hp, nx⟩ := by
  obtain ⟨hE1, hE2⟩ := hE
  obtain ⟨rfl, rfl, _⟩ := e
  refine AWP.op rfl fun a w hi => ?_
  obtain ⟨μ, ok, hi⟩ := hi.one
  obtain ⟨vs, h1, h2⟩ := acall_ok hi.tmps hc (⟨dst, .call c, ty, pos, after, none⟩ : Oper) rfl hE1
  rw [h1, Oper.upon_enter]
  let ok0 : Nat → Prop := fun b => ok b ∨ ∃ i ∈ lend, ∃ B, aget i hp = some B ∧ μ i = some b
  let cx2 : Cx := ⟨cx.P, cx.fn, w, fun _ => none, ok0, fun _ => False, fun _ _ _ => True, fun _ _ _ => False⟩
  have howned : ∀ i B b, aget i hp = some B → μ i = some b → b < w.heap.size ∧ ¬ ok b := fun i B b hB hb => by
    obtain ⟨_, hn⟩ | ⟨b', g1, g2, g3, _⟩ := hi.heap.own i B hB
    · rw [hn] at hb; cases hb
    rw [hb] at g1
    cases g1
    exact ⟨g2, g3⟩
  have hlt0 : ∀ b, ok0 b → b < w.heap.size := fun b hb => by
    rcases hb with hb | ⟨i, _, B, hB, hb⟩
    · exact hi.heap.lt b hb
    · exact (howned i B b hB hb).1
  have hH : HInv cx2 cx2.μ0 cx2.ok0 [] 0 cx2.w0 := ⟨fun _ _ h => h, fun _ _ => rfl, fun _ h => h, hlt0, fun _ h => .inl h, fun i B h => by simp [aget] at h, fun i j C D b h => by simp [aget] at h, fun _ _ _ => rfl, Nat.le_refl _, rfl, rfl, rfl⟩
  obtain ⟨hl1, hl2⟩ := hcv.get
  have hnoj : ∀ (j : Nat) c, cs[j]? = some c → SV.noIds c = true := by
    have : ∀ (l : List SV), SV.noIds.go l = true → ∀ (j : Nat) c, l[j]? = some c → SV.noIds c = true := by
      intro l
      induction l with
      | nil => intro _ j c hc; simp at hc
      | cons x l ih =>
        intro h j c hc
        simp only [SV.noIds.go, Bool.and_eq_true] at h
        cases j with
        | zero => cases hc; exact h.1
        | succ j => exact ih h.2 j c (by simpa using hc)
    exact this cs hno
  refine (hE2 cx2 vs rfl (fun b h => h.elim) (hst cx.w0 w (fun b hb => hi.heap.frame b hb (hcF b)) hG) hH (by rw [h2.1, hl1]) (fun j c u hcj hu => by
    have hj : j < xs.length := by rw [hl1]; exact (List.getElem?_eq_some_iff.1 hcj).1
    have hx := h2.2 j xs[j] u (by simp [hj]) hu
    have := Cv.den (ok' := ok0) hi.hh (fun _ h => .inl h) (fun i hm B hB b hb => .inr ⟨i, hm, B, hB, hb⟩) (hl2 j xs[j] c (by simp [hj]) hcj) hx
    exact this.any (hnoj j c hcj))).mono ?_
  rintro e w' ⟨v, μ', ok', r, h', n', rfl, g1, g2, g3⟩
  obtain ⟨k1, k2, k3⟩ := h r h' n' g3
  let ok2 : Nat → Prop := fun b => ok' b ∧ ¬ ∃ i B, aget i hp = some B ∧ μ i = some b
  have hsub : ∀ b, ok b → ok2 b := fun b hb => ⟨g1.sub b (.inl hb), fun ⟨i, B, hB, hm⟩ => (howned i B b hB hm).2 hb⟩
  have hfr : ∀ b, b < w.heap.size → w'.heap[b]? = w.heap[b]? := fun b hb => g1.frame b hb (fun h => h)
  have hokf : ∀ b, ok b → w'.heap[b]? = w.heap[b]? := fun b hb => hfr b (hi.heap.lt b hb)
  have hsz : w.heap.size ≤ w'.heap.size := g1.size
  have hI : Inv1 cx μ ok2 ⟨tm, hp, nx⟩ a w' := by
    refine ⟨hi.defers, hi.size, ⟨hi.heap.mu, hi.heap.fresh, fun b hb => hsub b (hi.heap.sub b hb), fun b hb => g1.lt b hb.1, fun b hb => ?_, fun i B hB => ?_, hi.heap.inj, fun b hb hF => ?_, Nat.le_trans hi.heap.size hsz, g1.os.trans hi.heap.os, g1.tape.trans hi.heap.tape, g1.output.trans hi.heap.output⟩, fun t x hx => (hi.tmps t x hx).mono (fun _ _ h => h) hsub hokf⟩
    · rcases g1.okNew b hb.1 with h1 | h1
      · rcases h1 with h1 | ⟨i, _, B, hB, hm⟩
        · exact hi.heap.okNew b h1
        · exact absurd ⟨i, B, hB, hm⟩ hb.2
      · rcases h1 with h1 | h1
        · exact .inr (.inl (Nat.le_trans hi.heap.size h1))
        · exact h1.elim
    · obtain hg | ⟨b, q1, q2, q3, q4, q5⟩ := hi.heap.own i B hB
      · exact .inl hg
      exact .inr ⟨b, q1, Nat.lt_of_lt_of_le q2 hsz, fun hb => hb.2 ⟨i, B, hB, q1⟩, q4, q5.mono (fun _ _ h => h) hsub hokf (hfr b q2)⟩
    · exact (hfr b (Nat.lt_of_lt_of_le hb hi.heap.size)).trans (hi.heap.frame b hb hF)
  refine k3 _ _ (hI.dput (dstOk_lt hd) ?_).inv
  rcases k2 with k2 | k2
  · subst k2
    refine (g2.any (μ' := μ) k1).mono (fun _ _ h => h) (fun b hb => ⟨hb, fun ⟨i, B, hB, hm⟩ => ?_⟩) (fun _ _ => rfl)
    obtain ⟨q1, q2⟩ := howned i B b hB hm
    rcases g1.okNew b hb with h1 | h1
    · rcases h1 with h1 | ⟨i, hi, _⟩
      · exact q2 h1
      · cases hi
    · rcases h1 with h1 | h1
      · exact absurd q1 (Nat.not_lt.2 h1)
      · exact h1.elim
  · exact g2.flat k2


/-- What a variable of the library's holds: some int. -/
def HasInt (g : Nat) (w : World) : Prop := ∃ m, w.cell? ⟨g, 0, none⟩ = some (.int .i64 m)
theorem HasInt.st (g : Nat) (w w' : World) (h : ∀ b, b < w.heap.size → w'.heap[b]? = w.heap[b]?) (hw : HasInt g w) : HasInt g w' := by
  obtain ⟨m, hm⟩ := hw
  refine ⟨m, ?_⟩
  have hb : g < w.heap.size := by
    unfold World.cell? at hm
    rcases Nat.lt_or_ge g w.heap.size with hlt | hge
    · exact hlt
    · simp [Array.getElem?_eq_none hge] at hm
  rw [← hm]
  unfold World.cell?
  rw [h g hb]

/-- A call that gives a plain value and touches nothing that was there. -/
theorem effG_calls {G : World → Prop} {f : FuncId} {fn : Func} {v : Value} (vals : List Value) (hf : P.funcs[f]? = some fn) (hn : (fn.name == "runtime.NumGoroutine") = false) (hb : fn.body.isNone = false)
    (h : ∀ w, G w → Calls P f vals.toArray w fun e w' => e = .returned v ∧ Below w.heap.size w w') : EffG P f (vals.map fun x => .d (.v x)) G (fun r _ _ => r = .d (.v v)) := by
  refine ⟨enters hf hn hb, fun cx vs hP hF hG hH hs hd => ?_⟩
  have hv : vs = vals.toArray := by
    apply Array.ext
    · simpa using hs
    · intro j h1 h2
      have h3 : j < vals.length := by simpa using h2
      have := (hd j (.d (.v vals[j])) vs[j] (by simp [h3]) (by simp [h1])).vv
      simpa using this
  subst hv
  refine (h cx.w0 hG).mono fun e w' hh => ?_
  obtain ⟨he, hw⟩ := hh
  refine ⟨v, cx.μ0, cx.ok0, .d (.v v), [], 0, he, ⟨hH.mu, hH.fresh, hH.sub, fun b hb => Nat.lt_of_lt_of_le (hH.lt b hb) hw.size, hH.okNew, fun i B hi => absurd hi (by simp [aget]), fun i j B C b hi => absurd hi (by simp [aget]), fun b hb _ => hw.block b hb, hw.size, hw.os, hw.tape, hw.output⟩, .d (.v v), rfl⟩

theorem calls_lawG {G : World → Prop} {W : World} (hG : G W) {f : FuncId} {l : List SV} {vs : Array Value} (hE : EffG P f l G (fun r _ _ => r = .b true)) (h1 : l.length = vs.toList.length) (h2 : ∀ (j : Nat) c u, l[j]? = some c → vs.toList[j]? = some u → Den (fun _ => none) (· < W.heap.size) W c u) :
    Calls P f vs W fun e W' => e = .returned (.bool true) ∧ Below W.heap.size W W' := by
  let cx : Cx := ⟨P, default, W, fun _ => none, (· < W.heap.size), fun _ => False, fun _ _ _ => True, fun _ _ _ => False⟩
  refine (hE.2 cx vs rfl (fun b h => h.elim) hG
    ⟨fun _ _ h => h, fun _ _ => rfl, fun _ h => h, fun _ h => h, fun _ h => .inl h, fun i B h => by simp [aget] at h, fun i j C D b h => by simp [aget] at h, fun _ _ _ => rfl, Nat.le_refl _, rfl, rfl, rfl⟩ (by simpa using h1.symm) (fun j c u hc hu => h2 j c u hc (by simpa using hu))).mono ?_
  rintro e w' ⟨v, μ, ok, r, h, n', rfl, g1, g2, rfl⟩
  refine ⟨by rw [g2.vv], g1.os, g1.tape, g1.output, g1.size, fun k hk => g1.frame k hk (fun h => h)⟩

end
section
variable {H : Type} {enc : TypeId × Value → H}
/-- As the kit's lemma of the same conclusion; the contract is told also that the world is shaped. -/
theorem handed_shaped {a : Assume} {C : Checked} {os : Os} {f : FuncId} {fn : Func} {s : ChangeSpec} {conds : List PathCond} {apart fresh handsOn again : Bool} {X : World → Array Value → Prop}
    (hX : ∀ (w w' : World) (args : Array Value), w.heap = w'.heap → X w args → X w' args)
    (own : ownKnob C.prog.godebug = none) (started : os.Started) (noInit : C.prog.inits.idxOf? f = none) (hfn : C.prog.funcs[f]? = some fn)
    (witness : ∃ (w : World) (tape : Tape) (i : Input), w.os = os ∧ (w.forCall tape i).Shaped C.prog ∧ i.vars = [] ∧ Input.okWide C.prog (w.forCall tape i) .any w.heap.size f i ∧
      ((s.pre enc C.prog fn conds apart (w.forCall tape i).memory i.args ∧ X (w.forCall tape i).memory i.args) ∧ sizedMet enc C.prog fn (OpenSpec.ofChange s) apart (w.forCall tape i).memory i.args) ∧ a.holds C.prog (lone (Frame.enter C.prog f i.args .normal) [] (w.forCall tape i)))
    (contract : ∀ (W : World) (base : Nat) (args : Array Value) (ds gs : List (DataW H)) (before : List MemPlace),
      (∀ (j : Nat) t v, fn.params[j]? = some t → args[j]? = some v → Value.okWide C.prog W .any base t v) →
      DataW.Whole enc C.prog fn.params.toList s.vars apart W args.toList ds gs before →
      conds.all (PathCond.test C.prog ⟨fn.params.toList, ds, s.plain.varTypes C.prog, gs⟩) = true →
      (DataW.weightsEach C.prog (fn.params.toList ++ s.plain.varTypes C.prog) (ds ++ gs)).all (· ≤ reachBytes) = true → X W args → W.ShapedOpen C.prog →
      a.holds C.prog (lone (Frame.enter C.prog f args .normal) [] W) →
      Calls C.prog f args W fun e W' => ∃ v, e = .returned v ∧ s.post enc C.prog fn apart fresh handsOn again W args v W') :
    ReturnsInHanded a C os f .any (fun w args => (s.pre enc C.prog fn conds apart w args ∧ X w args) ∧ sizedMet enc C.prog fn (OpenSpec.ofChange s) apart w args) (s.post enc C.prog fn apart fresh handsOn again) := by
  refine returnsInHanded_of_calls own started noInit witness ?_
  intro w tape i _ hsh _ hok hpre hholds
  obtain ⟨_, _, _, fn', hfn', _, _, _, _, hval⟩ := hok
  have e : fn' = fn := Option.some.inj (hfn'.symm.trans hfn)
  subst e
  obtain ⟨⟨⟨ds, gs, before, hw, hc⟩, hx⟩, hz⟩ := hpre
  have hw' := DataW.Whole.of_heap (w' := w.forCall tape i) (by rfl) hw
  refine (contract (w.forCall tape i) w.heap.size i.args ds gs before hval hw' hc (hz.weights hw) (hX _ _ _ (by rfl) hx) hsh hholds).mono fun e W' ⟨v, he, hp⟩ => ?_
  subst he
  exact ChangeSpec.post_blind hp
end
end Go.Sy

/-
  SYMBOLIC STATES, over any program, part 49: calls by contracts that ask something of the first world.
-/
namespace Go.Sy
open Go.RowKit
section
variable {cx : Cx} {P : Program} {fn : Func} {lo : Nat} {T : Tab} {k : List It} {tm : List (Nat × SV)} {hp : List (Nat × Blk)} {nx M : Nat} {all : Array Oper} {R : List Rec} {id : Nat}
variable {d q : Nat} {rest : List Oper} {ty : TypeId} {pos : String} {after : Array Edge}

/-- A contract that holds wherever this walk may come. -/
def GC (cx : Cx) (P : Program) (f : FuncId) (xs : List SV) (r : SV) : Prop :=
  ∃ G : World → Prop, (∀ w w' : World, (∀ b, b < w.heap.size → w'.heap[b]? = w.heap[b]?) → G w → G w') ∧ (∀ b, ¬ cx.F b) ∧ G cx.w0 ∧ EffG P f xs G (fun r' _ _ => r' = r)

theorem VStep.callG (e : Env cx P fn lo) {f : FuncId} {cs : List SV} {r : SV} (hE : GC cx P f cs r) {d : Nat} {c : Call} {ty : TypeId} {pos : String} {after : Array Edge}
    (hc : acall ⟨tm, [], 0⟩ c = some (f, cs)) (hno : SV.noIds.go cs = true) (hd : Nat.blt d fn.ntmps = true) (hr : SV.noIds r = true) : VStep cx all hp nx ⟨some d, .call c, ty, pos, after, none⟩ tm d r := by
  intro tm' k ha g
  obtain ⟨G, h1, h2, h3, h4⟩ := hE
  refine AWP.callG h1 h2 h3 e h4 ?_ [] (CvL.rfl' _) hno hd fun r' h n hr' => ?_
  · refine Eq.trans ?_ ((acall_heap (hp := hp) (nx := nx)).trans hc)
    exact acall_eq fun x hx u hu => ha u (looks_ops (by simpa [Op.operands] using hx) hu)
  · subst hr'
    exact ⟨hr, .inl rfl, g⟩
theorem DrG.callG (e : Env cx P fn lo) {c : Call} {f : FuncId} {xs : List SV} {r : SV} (hE : GC cx P f xs r) (hc : acall ⟨tmS R tm, [], 0⟩ c = some (f, xs)) (hno : SV.noIds.go xs = true) (hd : Nat.blt d fn.ntmps = true) (hr : SV.noIds r = true) (h : DrG cx all id k tm hp nx M (Nat.succ q) rest (⟨q, some d, r, [], [], []⟩ :: R)) :
    DrG cx all id k tm hp nx M q (⟨some d, .call c, ty, pos, after, none⟩ :: rest) R :=
  DrG.v rfl (fun _ => VStep.callG e hE hc hno hd hr) (idsLt_mono (Nat.zero_le _) (noIds_lt hr)) h
theorem DrG.callGG (e : Env cx P fn lo) {c : Call} {f : FuncId} {xs : List SV} {r : SV} {jg dj : Nat} {wg : Bool} (hE : GC cx P f xs r) (hg : guardS all (tmS R tm) jg = .told dj wg) (hc : acall ⟨tmS R tm, [], 0⟩ c = some (f, xs)) (hno : SV.noIds.go xs = true) (hd : Nat.blt d fn.ntmps = true) (hr : SV.noIds r = true) (h : DrG cx all id k tm hp nx M (Nat.succ q) rest (⟨q, some d, r, [], [], []⟩ :: R)) :
    DrG cx all id k tm hp nx M q (⟨some d, .call c, ty, pos, after, some (jg, wg)⟩ :: rest) R :=
  DrG.v rfl (fun _ => VStep.go hg (VStep.callG e hE hc hno hd hr)) (idsLt_mono (Nat.zero_le _) (noIds_lt hr)) h
theorem AWP.callG' (e : Env cx P fn lo) {c : Call} {f : FuncId} {xs : List SV} {r : SV} {all' : Array Oper} {rest' : List Oper} (hE : GC cx P f xs r) (hc : acall ⟨tm, hp, nx⟩ c = some (f, xs)) (hno : SV.noIds.go xs = true) {d : Option Tmp} (hd : dstOk fn.ntmps d = true) (hr : SV.noIds r = true)
    (h : AWP cx (.ops all' rest' :: k) ⟨tput d r tm, hp, nx⟩) : AWP cx (.ops all' (⟨d, .call c, ty, pos, after, none⟩ :: rest') :: k) ⟨tm, hp, nx⟩ := by
  obtain ⟨G, h1, h2, h3, h4⟩ := hE
  refine AWP.callG h1 h2 h3 e h4 hc [] (CvL.rfl' _) hno hd fun r' h' n hr' => ?_
  subst hr'
  exact ⟨hr, .inl rfl, h⟩
end
end Go.Sy

/-
  SYMBOLIC STATES, over any program, part 50: an element of a row of one's own, weakened (nil, as an empty row).
-/
namespace Go.Sy
open Go.RowKit
section
variable {cx : Cx} {P : Program} {fn : Func} {lo : Nat} {T : Tab} {k : List It} {tm : List (Nat × SV)} {hp : List (Nat × Blk)} {nx : Nat}

theorem AWP.weakR (i n : Nat) {te : TypeId} {fz : Bool} {m C : Nat} {xs : List (List SV)} {el el' : List SV} (h : aget i hp = some (.row te fz m xs C)) (he : xs[n]? = some el) (hw : WkL el el') (g : AWP cx k ⟨tm, (i, .row te fz m (xs.set n el') C) :: hp, nx⟩) : AWP cx k ⟨tm, hp, nx⟩ := fun a w hi => by
  obtain ⟨μ, ok, hi⟩ := hi.one
  obtain ⟨h1, h2⟩ := hw.get
  have hn : n < xs.length := (List.getElem?_eq_some_iff.1 he).1
  have key : ∀ j B, aget j ((i, Blk.row te fz m (xs.set n el') C) :: hp) = some B → ∃ B0, aget j hp = some B0 ∧ (B = B0 ∨ (B0 = .row te fz m xs C ∧ B = .row te fz m (xs.set n el') C)) := fun j B hB => by
    rw [aget_cons] at hB
    by_cases e : j = i
    · rw [if_pos e] at hB; cases hB; subst e; exact ⟨_, h, .inr ⟨rfl, rfl⟩⟩
    · rw [if_neg e] at hB; exact ⟨B, hB, .inl rfl⟩
  refine g a w (Inv1.inv (μ := μ) (ok := ok) ⟨hi.defers, hi.size, ⟨hi.heap.mu, hi.heap.fresh, hi.heap.sub, hi.heap.lt, hi.heap.okNew, fun j B hB => ?_, fun j l B C b hB hC h3 h4 => ?_, hi.heap.frame, hi.heap.size, hi.heap.os, hi.heap.tape, hi.heap.output⟩, hi.tmps⟩)
  · obtain ⟨B0, e1, e2⟩ := key j B hB
    obtain hg | ⟨b, g1, g2, g3, g4, g5⟩ := hi.heap.own j B0 e1
    · rcases e2 with rfl | ⟨rfl, rfl⟩
      · exact .inl hg
      · cases xs with
        | nil => exact absurd hn (Nat.not_lt_zero _)
        | cons x xs => exact hg.1.elim
    · refine .inr ⟨b, g1, g2, g3, g4, ?_⟩
      rcases e2 with rfl | ⟨rfl, rfl⟩
      · exact g5
      · obtain ⟨c, z, r1, r2, r3, r4, r5, r6, r7⟩ := g5
        refine ⟨c, z, r1, r2, r3, r4, by simpa using r5, fun q e hq => ?_, fun q e j x u hq hj hu => ?_⟩
        · rw [List.getElem?_set] at hq
          split at hq
          · simp only [Option.some.injEq] at hq
            subst hq; rw [← h1]; exact r6 n el he
          · exact r6 q e hq
        · rw [List.getElem?_set] at hq
          split at hq
          · rename_i hqn
            simp only [Option.some.injEq] at hq
            subst hq
            subst hqn
            have hjl : j < el.length := by rw [h1]; exact (List.getElem?_eq_some_iff.1 hj).1
            exact (h2 j el[j] x (by simp [hjl]) hj).den (r7 n el j _ u he (by simp [hjl]) hu)
          · exact r7 q e j x u hq hj hu
  · obtain ⟨B0, e1, _⟩ := key j B hB
    obtain ⟨C0, e2, _⟩ := key l C hC
    exact hi.heap.inj j l B0 C0 b e1 e2 h3 h4
end
end Go.Sy

/-
  SYMBOLIC STATES, over any program, part 51: products and conversions of int64 that may go round.
-/
namespace Go.Sy
open Go.RowKit
section
variable {cx : Cx} {P : Program} {fn : Func} {lo : Nat} {T : Tab} {k : List It} {tm : List (Nat × SV)} {hp : List (Nat × Blk)} {nx : Nat} {all : Array Oper} {rest : List Oper} {d : Nat} {ty : TypeId} {pos : String} {after : Array Edge}

theorem AWP.mulW (e : Env cx P fn lo) {x y : Operand} {t t' : TypeId} {k1 : IntKind} {a b : Int} (hd : Nat.blt d fn.ntmps = true)
    (h1 : opd ⟨tm, hp, nx⟩ x = some (.d (.v (.int k1 a)))) (h2 : opd ⟨tm, hp, nx⟩ y = some (.d (.v (.int k1 b))))
    (g : AWP cx (.ops all rest :: k) ⟨(d, .d (.v (.int k1 (k1.wrap (a * b))))) :: tm, hp, nx⟩) :
    AWP cx (.ops all (⟨some d, .binOp .mul t x y t', ty, pos, after, none⟩ :: rest) :: k) ⟨tm, hp, nx⟩ := by
  refine AWP.op_run e (Nat.le_of_ble_eq_true hd) (fun μ ok s w hI => ⟨_, ?_, .d (.v _)⟩) g
  have e1 := (opd_den hI.tmps h1).int
  have e2 := (opd_den hI.tmps h2).int
  have hx : execOp s.eval ⟨some d, .binOp .mul t x y t', ty, pos, after, none⟩ = (do pure (.value (← (do eqGuard .mul t x y (s.eval x) (s.eval y); binOp .mul t (s.eval x) (s.eval y))))) := rfl
  rw [hx, e1, e2]
  have hg : ∀ x y, (eqGuard .mul t x y (.int k1 a) (.int k1 b)).run P w = .ok () w := fun x y => run_eqGuard_none .mul t x y _ _ (by intro cs h; cases h) (by intro h; cases h)
  simp [binOp, Op.intArith, hg]

theorem AWP.convW (e : Env cx P fn lo) (hT : TabOk P T) {x : Operand} {src dst : TypeId} {k0 k1 : IntKind} {a : Int} {y : Ty} {n1 n2 : Nat} {z : List DV} (hd : Nat.blt d fn.ntmps = true)
    (h1 : opd ⟨tm, hp, nx⟩ x = some (.d (.v (.int k0 a)))) (h2 : aget src T = some y) (h3 : aget dst T = some ⟨.int k1, n1, n2, z⟩)
    (g : AWP cx (.ops all rest :: k) ⟨(d, .d (.v (.int k1 (k1.wrap a)))) :: tm, hp, nx⟩) :
    AWP cx (.ops all (⟨some d, .convert src dst x, ty, pos, after, none⟩ :: rest) :: k) ⟨tm, hp, nx⟩ := by
  refine AWP.op_run e (Nat.le_of_ble_eq_true hd) (fun μ ok s w hI => ⟨_, ?_, .d (.v _)⟩) g
  have e1 := (opd_den hI.tmps h1).int
  obtain ⟨D, hD⟩ := (hT _ _ h2).und
  have hb : P.underlying dst = some (.int k1) := (hT _ _ h3).td
  have hx : execOp s.eval ⟨some d, .convert src dst x, ty, pos, after, none⟩ = (do pure (.value (← convert src dst (s.eval x)))) := rfl
  rw [hx, e1]
  have : (convert src dst (.int k0 a)).run P w = .ok (.int k1 (k1.wrap a)) w := by
    simp only [convert, Sem.run_bind, run_underlying hD, run_underlying hb, Result.andThen_ok]
    cases D <;> simp [Conv.intToInt]
  simp [this]
end
/-- What goes round. -/
theorem wrap64_eq (x : Int) : IntKind.wrap .i64 x = (x + 9223372036854775808) % 18446744073709551616 - 9223372036854775808 := by
  unfold IntKind.wrap
  simp only [IntKind.signed, IntKind.bits, Bool.true_and]
  split <;> rename_i h <;> simp at h ⊢ <;> omega
theorem wrap64_in {x : Int} (h : -9223372036854775808 ≤ x ∧ x ≤ 9223372036854775807) : IntKind.wrap .i64 x = x := by
  rw [wrap64_eq]; omega
end Go.Sy

/-
  SYMBOLIC STATES, over any program, part 52: blocks that a walk keeps for itself (a map's object), whose contents turn as the walk goes on: a call that stands, begun anew at the world that is.
-/
namespace Go.Sy
open Go.RowKit

/-- The call 'cx' stands as 'c0' began it, begun anew at a later world; the blocks S are nobody's else. -/
structure MapCx (c0 cx : Cx) (S : Nat → Prop) : Prop where
  P : cx.P = c0.P
  fn : cx.fn = c0.fn
  post : cx.Post = c0.Post
  R : cx.R = c0.R
  ret : ∀ e a w, c0.std e a w → c0.R e a w
  back0 : ∀ μ ok h n w, HInv { cx with μ0 := c0.μ0 } μ ok h n w → HInv c0 μ ok h n w
  mu0 : ∀ i b, c0.μ0 i = some b → cx.μ0 i = some b
  keep : ∀ b, S b → b < cx.w0.heap.size ∧ ¬ cx.F b ∧ ¬ cx.ok0 b ∧ (c0.w0.heap.size ≤ b ∨ c0.F b)

section
variable {c0 cx : Cx} {P : Program} {fn : Func} {lo : Nat} {T : Tab} {k : List It} {tm : List (Nat × SV)} {hp : List (Nat × Blk)} {nx : Nat} {all : Array Oper} {rest : List Oper} {d : Nat} {ty : TypeId} {pos : String} {after : Array Edge} {S : Nat → Prop}

theorem MapCx.start (e : Env cx P fn lo) : MapCx cx cx (fun _ => False) := ⟨rfl, rfl, rfl, rfl, e.ret, fun _ _ _ _ _ h => h, fun _ _ h => h, fun _ h => h.elim⟩
theorem MapCx.back (m : MapCx c0 cx S) (μ : Nat → Option Nat) (ok : Nat → Prop) (h : List (Nat × Blk)) (n : Nat) (w : World) (hi : HInv cx μ ok h n w) : HInv c0 μ ok h n w :=
  m.back0 _ _ _ _ _ ⟨fun i b hb => hi.mu i b (m.mu0 i b hb), hi.fresh, hi.sub, hi.lt, hi.okNew, hi.own, hi.inj, hi.frame, hi.size, hi.os, hi.tape, hi.output⟩
/-- The names that the call knows, as it knew them in its beginning. -/
theorem AWP.lowM (m : MapCx c0 cx S) (e : Env cx P fn lo) {lo0 : Nat} (e0 : Env c0 P fn lo0) {s : St} (g : ∀ cx2, MapCx c0 cx2 S → Env cx2 P fn lo0 → cx2.Post = cx.Post → cx2.w0 = cx.w0 → AWP cx2 k s) : AWP cx k s := fun a w hi => by
  obtain ⟨μ, ok, hi⟩ := hi.one
  have H := hi.heap
  have h1 : MapCx c0 { cx with μ0 := c0.μ0 } S := ⟨m.P, m.fn, m.post, m.R, m.ret, m.back0, fun _ _ h => h, m.keep⟩
  have h2 : Env { cx with μ0 := c0.μ0 } P fn lo0 := by
    refine ⟨e.P, e.fn, fun i b hb => e0.lo i b hb, fun ex ac wd hst => ?_⟩
    have hst' : c0.std ex ac wd := by
      obtain ⟨g1, g2, μ3, ok3, r, hh, n, y, g3, g4, g5, g6⟩ := hst
      refine ⟨g1, g2, μ3, ok3, r, hh, n, y, h1.back _ _ _ _ _ g3, ?_, g5, ?_⟩
      · have g4 : (results cx.fn ac.tmps).run cx.P wd = .ok y wd := g4
        rw [m.fn, m.P] at g4
        exact g4
      · have g6 : cx.Post r hh n := g6
        rw [m.post] at g6
        exact g6
    have := m.ret _ _ _ hst'
    rw [← m.R] at this
    exact this
  exact g _ h1 h2 rfl rfl a w (Inv1.inv (μ := μ) (ok := ok) ⟨hi.defers, hi.size, ⟨fun i b hb => H.mu i b (m.mu0 i b hb), H.fresh, H.sub, H.lt, H.okNew, H.own, H.inj, H.frame, H.size, H.os, H.tape, H.output⟩, hi.tmps⟩)

theorem MapCx.free (m : MapCx c0 cx S) {μ : Nat → Option Nat} {ok : Nat → Prop} {h : List (Nat × Blk)} {n : Nat} {w : World} (hi : HInv cx μ ok h n w) {b : Nat} (hb : S b) :
    ¬ ok b ∧ (∀ i B, aget i h = some B → μ i ≠ some b) ∧ w.heap[b]? = cx.w0.heap[b]? ∧ b < w.heap.size := by
  obtain ⟨h1, h2, h3, h4⟩ := m.keep b hb
  refine ⟨fun ho => ?_, fun i B hB hm => ?_, hi.frame b h1 h2, Nat.lt_of_lt_of_le h1 hi.size⟩
  · rcases hi.okNew b ho with h | h | h
    · exact h3 h
    · omega
    · exact h2 h
  · obtain ⟨_, hn⟩ | ⟨b', g1, _, _, g4, _⟩ := hi.own i B hB
    · rw [hn] at hm; cases hm
    · rw [hm] at g1
      cases g1
      rcases g4 with h | h
      · omega
      · exact h2 h

/-- Begun anew at a world in which blocks of one's own have turned. -/
def Cx.at' (cx : Cx) (μ : Nat → Option Nat) (ok : Nat → Prop) (hp : List (Nat × Blk)) (w : World) : Cx := { cx with w0 := w, μ0 := μ, ok0 := ok, F := fun b => ∃ i B, aget i hp = some B ∧ μ i = some b }

theorem MapCx.anew (m : MapCx c0 cx S) {μ : Nat → Option Nat} {ok : Nat → Prop} {w w' : World} (hi : HInv cx μ ok hp nx w) (hs : w.heap.size ≤ w'.heap.size) (ho : w'.os = w.os) (ht : w'.tape = w.tape) (hu : w'.output = w.output)
    (hw : ∀ b, b < w.heap.size → ¬ S b → w'.heap[b]? = w.heap[b]?) {S' : Nat → Prop} (hS : ∀ b, S' b → b < w'.heap.size ∧ (S b ∨ w.heap.size ≤ b)) :
    MapCx c0 (cx.at' μ ok hp w') S' ∧ HInv (cx.at' μ ok hp w') μ ok hp nx w' := by
  have H0 := m.back _ _ _ _ _ hi
  have hok : ∀ b, ok b → w'.heap[b]? = w.heap[b]? := fun b hb => hw b (hi.lt b hb) fun hS0 => (m.free hi hS0).1 hb
  have hown : ∀ i B b, aget i hp = some B → μ i = some b → (c0.w0.heap.size ≤ b ∨ c0.F b) ∧ b < w.heap.size ∧ ¬ ok b ∧ ¬ S b := fun i B b hB hb => by
    refine ⟨?_, ?_, ?_, fun h => (m.free hi h).2.1 i B hB hb⟩
    all_goals
      obtain ⟨_, hn⟩ | ⟨b', g1, g2, g3, g4, _⟩ := H0.own i B hB
      · rw [hn] at hb; cases hb
      · rw [hb] at g1
        cases g1
        assumption
  refine ⟨⟨m.P, m.fn, m.post, m.R, m.ret, fun μ2 ok2 h2 n2 w3 H3 => ?_, fun i b hb => H0.mu i b hb, fun b hb => ?_⟩, ?_⟩
  · have hF : ∀ b, (cx.at' μ ok hp w').F b → c0.w0.heap.size ≤ b ∨ c0.F b := fun b ⟨i, B, hB, hb⟩ => (hown i B b hB hb).1
    refine ⟨fun i b hb => H3.mu i b hb, H3.fresh, fun b hb => H3.sub b (H0.sub b hb), H3.lt, fun b hb => ?_, fun i B hB => ?_, H3.inj, fun b hb hFb => ?_, ?_, ?_, ?_, ?_⟩
    · rcases H3.okNew b hb with h | h | h
      · exact H0.okNew b h
      · exact .inr (.inl (Nat.le_trans (Nat.le_trans H0.size hs) h))
      · exact .inr (hF b h)
    · rcases H3.own i B hB with h | ⟨b, g1, g2, g3, g4, g5⟩
      · exact .inl h
      · refine .inr ⟨b, g1, g2, g3, ?_, g5⟩
        rcases g4 with h | h
        · exact .inl (Nat.le_trans (Nat.le_trans H0.size hs) h)
        · exact hF b h
    · have h1 : b < w.heap.size := Nat.lt_of_lt_of_le hb H0.size
      have h2 : ¬ S b := fun h => by
        rcases (m.keep b h).2.2.2 with h | h
        · omega
        · exact hFb h
      have h3 : ¬ (cx.at' μ ok hp w').F b := fun h => by
        rcases hF b h with h | h
        · omega
        · exact hFb h
      exact (H3.frame b (Nat.lt_of_lt_of_le h1 hs) h3).trans ((hw b h1 h2).trans (H0.frame b hb hFb))
    · exact Nat.le_trans (Nat.le_trans H0.size hs) H3.size
    · exact H3.os.trans (ho.trans H0.os)
    · exact H3.tape.trans (ht.trans H0.tape)
    · exact H3.output.trans (hu.trans H0.output)
  · obtain ⟨h1, h2⟩ := hS b hb
    have h3 : c0.w0.heap.size ≤ b ∨ c0.F b := by
      rcases h2 with h | h
      · exact (m.keep b h).2.2.2
      · exact .inl (Nat.le_trans H0.size h)
    refine ⟨h1, fun ⟨i, B, hB, hm⟩ => ?_, fun ho => ?_, h3⟩
    · have := hown i B b hB hm
      rcases h2 with h | h
      · exact this.2.2.2 h
      · omega
    · rcases h2 with h | h
      · exact (m.free hi h).1 ho
      · have := hi.lt b ho; omega
  · refine ⟨fun _ _ h => h, hi.fresh, fun _ h => h, fun b hb => Nat.lt_of_lt_of_le (hi.lt b hb) hs, fun _ h => .inl h, fun i B hB => ?_, hi.inj, fun _ _ _ => rfl, Nat.le_refl _, rfl, rfl, rfl⟩
    rcases hi.own i B hB with h | ⟨b, g1, g2, g3, g4, g5⟩
    · exact .inl h
    · have hb := hw b g2 fun h => (m.free hi h).2.1 i B hB g1
      exact .inr ⟨b, g1, Nat.lt_of_lt_of_le g2 hs, g3, .inr ⟨i, B, hB, g1⟩, g5.mono (fun _ _ h => h) (fun _ h => h) hok hb⟩

/-- .. and the walk goes on. -/
theorem MapCx.go (m : MapCx c0 cx S) (e : Env cx P fn lo) {μ : Nat → Option Nat} {ok : Nat → Prop} {a : Act} {w w' : World} (hi : Inv1 cx μ ok ⟨tm, hp, nx⟩ a w) (hs : w.heap.size ≤ w'.heap.size) (ho : w'.os = w.os) (ht : w'.tape = w.tape) (hu : w'.output = w.output)
    (hw : ∀ b, b < w.heap.size → ¬ S b → w'.heap[b]? = w.heap[b]?) {S' : Nat → Prop} (hS : ∀ b, S' b → b < w'.heap.size ∧ (S b ∨ w.heap.size ≤ b)) :
    MapCx c0 (cx.at' μ ok hp w') S' ∧ Env (cx.at' μ ok hp w') P fn nx ∧ Inv1 (cx.at' μ ok hp w') μ ok ⟨tm, hp, nx⟩ a w' := by
  obtain ⟨h1, h2⟩ := m.anew hi.heap hs ho ht hu hw hS
  have hok : ∀ b, ok b → w'.heap[b]? = w.heap[b]? := fun b hb => hw b (hi.heap.lt b hb) fun hS0 => (m.free hi.heap hS0).1 hb
  refine ⟨h1, ⟨e.P, e.fn, fun i b hb => ?_, fun ex ac wd hst => ?_⟩, hi.defers, hi.size, h2, fun t x hx => (hi.tmps t x hx).mono (fun _ _ h => h) (fun _ h => h) hok⟩
  · rcases Nat.lt_or_ge i nx with h | h
    · exact h
    · have := hi.heap.fresh i h
      rw [show μ i = some b from hb] at this; cases this
  · have hst' : c0.std ex ac wd := by
      obtain ⟨g1, g2, μ3, ok3, r, hh, n, y, g3, g4, g5, g6⟩ := hst
      refine ⟨g1, g2, μ3, ok3, r, hh, n, y, h1.back _ _ _ _ _ g3, ?_, g5, ?_⟩
      · have g4 : (results cx.fn ac.tmps).run cx.P wd = .ok y wd := g4
        rw [m.fn, m.P] at g4
        exact g4
      · have g6 : cx.Post r hh n := g6
        rw [m.post] at g6
        exact g6
    have := m.ret _ _ _ hst'
    rw [← m.R] at this
    exact this

theorem K_eqR {cx cx' : Cx} (h1 : cx'.P = cx.P) (h2 : cx'.R = cx.R) {k : List It} {e : Exit} {a : Act} {w : World} (h : K cx'.P cx'.R k e a w) : K cx.P cx.R k e a w := by
  rw [h1, h2] at h; exact h

theorem run_getMap {w : World} {r : Nat} {es : Array MapEntry} {c : Nat} (h : w.heap[r]? = some (.map es c)) : (getObj r).run P w = .ok (.map es c) w := by simp [getObj, Sem.run, h]
theorem run_setMap {w : World} {r : Nat} {es : Array MapEntry} {c : Nat} (o' : Obj) (h : w.heap[r]? = some (.map es c)) : (setObj r o').run P w = .ok () (w.putObj r o') := by simp [setObj, Sem.run, h, World.putObj]

/-- A map that is made. -/
theorem AWP.makeMap (m : MapCx c0 cx S) (e : Env cx P fn lo) {t : TypeId} (hd : Nat.blt d fn.ntmps = true)
    (g : ∀ cx2 b, MapCx c0 cx2 (fun q => q = b ∨ S q) → Env cx2 P fn nx → cx2.Post = cx.Post → cx2.w0.heap[b]? = some (.map #[] 0) → (∀ q, S q → q ≠ b ∧ cx2.w0.heap[q]? = cx.w0.heap[q]?) →
      AWP cx2 (.ops all rest :: k) ⟨(d, .d (.v (.map (some b)))) :: tm, hp, nx⟩) : AWP cx (.ops all (⟨some d, .makeMap t none, ty, pos, after, none⟩ :: rest) :: k) ⟨tm, hp, nx⟩ := by
  refine AWP.op rfl fun a w hi => ?_
  obtain ⟨μ, ok, hi⟩ := hi.one
  have hr : (execOp a.eval ⟨some d, .makeMap t none, ty, pos, after, none⟩).run cx.P w = .ok (.value (.map (some w.heap.size))) (w.alloc (.map #[] 0)) := by
    have hx : execOp a.eval ⟨some d, .makeMap t none, ty, pos, after, none⟩ = (do pure (.value (← Instr.makeMap t none))) := rfl
    rw [hx]
    simp [Instr.makeMap, run_newObj_alloc]
  rw [hr, Oper.upon_value]
  have hsz : (w.alloc (.map #[] 0)).heap.size = w.heap.size + 1 := by simp
  obtain ⟨h1, h2, h3⟩ := m.go e hi (w' := w.alloc (.map #[] 0)) (S' := fun q => q = w.heap.size ∨ S q) (by omega) rfl rfl rfl (fun b hb _ => Below.heap_alloc _ _ _ hb) (fun b hb => by
    rcases hb with rfl | hb
    · exact ⟨by omega, .inr (Nat.le_refl _)⟩
    · exact ⟨by have := (m.free hi.heap hb).2.2.2; omega, .inl hb⟩)
  have hg := g _ _ h1 h2 rfl (World.alloc_heap_new w _) (fun q hq => by
    have hf := m.free hi.heap hq
    exact ⟨by have := hf.2.2.2; omega, (Below.heap_alloc _ _ _ hf.2.2.2).trans hf.2.2.1⟩)
  have hdl : d < cx.fn.ntmps := by rw [e.fn]; exact Nat.le_of_ble_eq_true hd
  exact K_eqR rfl rfl (hg _ _ (h3.put hdl (.d (.v _))).inv)

/-- What a map's object tells. -/
theorem AWP.lookupM (m : MapCx c0 cx S) (e : Env cx P fn lo) {t : TypeId} {x ix : Operand} {b : Nat} {o : Obj} {key v : Value} {cm : Bool} (hb : S b) (ho : cx.w0.heap[b]? = some o) (hd : Nat.blt d fn.ntmps = true) (h1 : opd ⟨tm, hp, nx⟩ x = some (.d (.v (.map (some b)))))
    (h2 : ∀ (μ : Nat → Option Nat) ok w a sv, opd ⟨tm, hp, nx⟩ ix = some sv → Den μ ok w sv a → a = key) (h3 : (opd ⟨tm, hp, nx⟩ ix).isSome = true) (hrun : ∀ w, w.heap[b]? = some o → (Instr.lookup t (.map (some b)) key cm).run P w = .ok v w)
    (g : AWP cx (.ops all rest :: k) ⟨(d, .d (.v v)) :: tm, hp, nx⟩) : AWP cx (.ops all (⟨some d, .lookup t x ix cm, ty, pos, after, none⟩ :: rest) :: k) ⟨tm, hp, nx⟩ := by
  refine AWP.op_run e (Nat.le_of_ble_eq_true hd) (fun μ ok s w hI => ⟨v, ?_, .d (.v _)⟩) g
  have e1 := (opd_den hI.tmps h1).vv
  obtain ⟨sv, hsv⟩ := Option.isSome_iff_exists.1 h3
  have e2 := h2 μ ok w _ sv hsv (opd_den hI.tmps hsv)
  have hx : execOp s.eval ⟨some d, .lookup t x ix cm, ty, pos, after, none⟩ = (do pure (.value (← Instr.lookup t (s.eval x) (s.eval ix) cm))) := rfl
  rw [hx, e1, e2, Sem.run_bind, hrun w ((m.free hI.heap hb).2.2.1.trans ho)]
  rfl

/-- A map's object turned. -/
theorem AWP.updateM (m : MapCx c0 cx S) (e : Env cx P fn lo) {t : TypeId} {x ix y : Operand} {b : Nat} {o o' : Obj} {key : Value} {sv : SV} (hb : S b) (ho : cx.w0.heap[b]? = some o) (h1 : opd ⟨tm, hp, nx⟩ x = some (.d (.v (.map (some b)))))
    (h2 : ∀ (μ : Nat → Option Nat) ok w a sv, opd ⟨tm, hp, nx⟩ ix = some sv → Den μ ok w sv a → a = key) (h3 : (opd ⟨tm, hp, nx⟩ ix).isSome = true) (h4 : opd ⟨tm, hp, nx⟩ y = some sv) {v : Value} (h5 : ∀ (μ : Nat → Option Nat) ok w a, Den μ ok w sv a → a = v)
    (hrun : ∀ w, w.heap[b]? = some o → (Instr.mapUpdate t (.map (some b)) key v).run P w = .ok () (w.putObj b o'))
    (g : ∀ cx2, MapCx c0 cx2 S → Env cx2 P fn nx → cx2.Post = cx.Post → cx2.w0.heap[b]? = some o' → (∀ q, S q → q ≠ b → cx2.w0.heap[q]? = cx.w0.heap[q]?) → AWP cx2 (.ops all rest :: k) ⟨tm, hp, nx⟩) :
    AWP cx (.ops all (⟨none, .mapUpdate t x ix y, ty, pos, after, none⟩ :: rest) :: k) ⟨tm, hp, nx⟩ := by
  refine AWP.op rfl fun a w hi => ?_
  obtain ⟨μ, ok, hi⟩ := hi.one
  have e1 := (opd_den hi.tmps h1).vv
  obtain ⟨si, hsi⟩ := Option.isSome_iff_exists.1 h3
  have e2 := h2 μ ok w _ si hsi (opd_den hi.tmps hsi)
  have e3 := h5 μ ok w _ (opd_den hi.tmps h4)
  have hf := m.free hi.heap hb
  have hr : (execOp a.eval ⟨none, .mapUpdate t x ix y, ty, pos, after, none⟩).run cx.P w = .ok .skip (w.putObj b o') := by
    have hx : execOp a.eval ⟨none, .mapUpdate t x ix y, ty, pos, after, none⟩ = (do Instr.mapUpdate t (a.eval x) (a.eval ix) (a.eval y); pure .skip) := rfl
    rw [hx, e1, e2, e3, Sem.run_bind, e.P, hrun w (hf.2.2.1.trans ho)]
    rfl
  rw [hr, Oper.upon_skip]
  obtain ⟨k1, k2, k3⟩ := m.go e hi (w' := w.putObj b o') (S' := S) (by simp) rfl rfl rfl (fun q _ hq => World.putObj_heap_other (fun h => hq (h ▸ hb))) (fun q hq => ⟨by have := (m.free hi.heap hq).2.2.2; simpa using this, .inl hq⟩)
  have hg := g _ k1 k2 rfl (World.putObj_heap_same hf.2.2.2) (fun q hq hne => (World.putObj_heap_other hne).trans (m.free hi.heap hq).2.2.1)
  exact K_eqR rfl rfl (hg _ _ k3.inv)

/-- A loop whose rounds turn such blocks. -/
theorem AWP.loopM {ι : Type} (S : ι → St) (I : ι → Cx → Prop) (m : ι → Nat) (i0 : ι) (hI : I i0 cx) (hE : ∀ i c, I i c → c.P = cx.P ∧ c.R = cx.R) {c : Code} {s : St}
    (start : AWP cx (.code (.loop c) :: k) (S i0) → AWP cx (.code (.loop c) :: k) s)
    (round : ∀ i cx2 Φ, I i cx2 → (∀ j cx3, I j cx3 → m j < m i → AWP cx3 (.inv Φ :: k) (S j)) → AWP cx2 (.code c :: .inv Φ :: k) (S i)) : AWP cx (.code (.loop c) :: k) s := by
  refine start fun a w hi => ?_
  let good : Act → World → Nat → Prop := fun a w n => ∃ i c2, I i c2 ∧ m i = n ∧ Inv c2 (S i) a w
  show (Code.loop c).wp cx.P (K cx.P cx.R k) a w
  have hex : ∃ n, good a w n := ⟨_, i0, cx, hI, rfl, hi⟩
  have hmin : ∀ a w, (∃ n, good a w n) → ∃ n, good a w n ∧ ∀ m, good a w m → n ≤ m := fun a w ⟨n, h⟩ => exists_min _ n h
  classical
  let μ : Act → World → Nat := fun a w => if h : ∃ n, good a w n then Classical.choose (hmin a w h) else 0
  have hspec : ∀ a w (h : ∃ n, good a w n), good a w (μ a w) ∧ ∀ m, good a w m → μ a w ≤ m := by
    intro a w h
    simp only [μ, dif_pos h]
    exact Classical.choose_spec (hmin a w h)
  refine wp_loop (fun a w => ∃ n, good a w n) μ hex fun a w hg => ?_
  obtain ⟨⟨i, c2, hi1, hi2, hi3⟩, _⟩ := hspec a w hg
  have := round i c2 (fun a' w' => (∃ n, good a' w' n) ∧ μ a' w' < μ a w) hi1 (fun j c3 hj hlt a' w' hinv => by
    have h1 : good a' w' (m j) := ⟨j, c3, hj, rfl, hinv⟩
    have h3 : μ a' w' ≤ m j := (hspec a' w' ⟨_, h1⟩).2 _ h1
    exact ⟨⟨_, h1⟩, by omega⟩)
  have h := this a w hi3
  have h : c.wp c2.P (K c2.P c2.R (.inv (fun a' w' => (∃ n, good a' w' n) ∧ μ a' w' < μ a w) :: k)) a w := h
  rw [(hE i c2 hi1).1, (hE i c2 hi1).2] at h
  refine Code.wp_mono (fun e a' w' q => ?_) h
  cases e <;> exact q
end
end Go.Sy

/-
  SYMBOLIC STATES, over any program, part 53: maps whose keys are numbers.
-/
namespace Go.Sy
open Go.RowKit

def entsI (kk : IntKind) : Nat → List (Int × Value) → List MapEntry
  | _, [] => []
  | n, (k, v) :: l => ⟨.int kk k, v, n⟩ :: entsI kk (n + 1) l
/-- A map's object: its entries, in the order in which they came; none has gone. -/
def mapI (kk : IntKind) (l : List (Int × Value)) : Obj := .map (entsI kk 0 l).toArray l.length
def idxI : List (Int × Value) → Int → Nat → Option (Nat × Value)
  | [], _, _ => none
  | (k, v) :: l, a, n => if a == k then some (n, v) else idxI l a (n + 1)
/-- What is told at a key. -/
def getI (l : List (Int × Value)) (a : Int) : Option Value := (idxI l a 0).map (·.2)

theorem findNow_I (kk : IntKind) (a : Int) : ∀ (l : List (Int × Value)) (n i : Nat), Instr.findNow (.int kk) (.int kk a) (entsI kk n l) i = some (idxI l a i)
  | [], _, _ => rfl
  | (k, v) :: l, n, i => by
    unfold entsI Instr.findNow idxI
    simp only [Instr.sameNow, if_true]
    cases h : a == k
    · simp only [Bool.false_eq_true, if_false]
      exact findNow_I kk a l (n + 1) (i + 1)
    · simp
theorem entsI_len (kk : IntKind) : ∀ (l : List (Int × Value)) (n : Nat), (entsI kk n l).length = l.length
  | [], _ => rfl
  | _ :: l, n => congrArg Nat.succ (entsI_len kk l (n + 1))
theorem entsI_snoc (kk : IntKind) (k : Int) (v : Value) : ∀ (l : List (Int × Value)) (n : Nat), entsI kk n (l ++ [(k, v)]) = entsI kk n l ++ [⟨.int kk k, v, n + l.length⟩]
  | [], n => rfl
  | (a, u) :: l, n => by
    show (⟨.int kk a, u, n⟩ : MapEntry) :: entsI kk (n + 1) (l ++ [(k, v)]) = ⟨.int kk a, u, n⟩ :: (entsI kk (n + 1) l ++ [⟨.int kk k, v, n + (l.length + 1)⟩])
    rw [entsI_snoc kk k v l (n + 1), show n + 1 + l.length = n + (l.length + 1) by omega]

section
variable {P : Program} {w : World} {t kt et : TypeId} {kk : IntKind} {b : Nat}
theorem run_checkKeyI (hk : P.underlying kt = some (.int kk)) (em : Bool) (n : Nat) (a : Int) : (Instr.checkKey em (n + 1) kt (.int kk a)).run P w = .ok () w := by
  unfold Instr.checkKey
  simp [run_underlying hk]
theorem run_findKeyI (hk : P.underlying kt = some (.int kk)) (a : Int) (l : List (Int × Value)) (n : Nat) : (Instr.findKey kt (.int kk a) (entsI kk n l)).run P w = .ok (idxI l a 0) w := by
  unfold Instr.findKey
  simp only [Sem.run_bind, run_underlying hk, Result.andThen_ok, findNow_I, Sem.run_pure]
theorem run_lookupI (ht : P.underlying t = some (.map kt et)) (hk : P.underlying kt = some (.int kk)) {z : Value} (hz : (zeroValue et).run P w = .ok z w) {l : List (Int × Value)} (h : w.heap[b]? = some (mapI kk l)) (a : Int) :
    (Instr.lookup t (.map (some b)) (.int kk a) false).run P w = .ok ((getI l a).getD z) w := by
  unfold Instr.lookup
  simp only [Sem.run_bind, run_underlying ht, Result.andThen_ok, run_getMap h, Sem.run_pure, run_checkKeyI hk _ 9999, run_findKeyI hk]
  unfold getI
  cases idxI l a 0 with
  | none => simp [hz]
  | some p => rfl
theorem run_newI (ht : P.underlying t = some (.map kt et)) (hk : P.underlying kt = some (.int kk)) {l : List (Int × Value)} (h : w.heap[b]? = some (mapI kk l)) {a : Int} {v : Value} (hn : getI l a = none) :
    (Instr.mapUpdate t (.map (some b)) (.int kk a) v).run P w = .ok () (w.putObj b (mapI kk (l ++ [(a, v)]))) := by
  have hn' : idxI l a 0 = none := Option.map_eq_none_iff.1 hn
  unfold Instr.mapUpdate
  simp only [Sem.run_bind, run_underlying ht, Result.andThen_ok, run_getMap h, Sem.run_pure, run_checkKeyI hk _ 9999, run_findKeyI hk, hn']
  rw [run_setMap _ h]
  unfold mapI
  rw [entsI_snoc, Nat.zero_add, List.length_append]
  simp
end
theorem idxI_mem (a : Int) : ∀ (l : List (Int × Value)) (n : Nat), (∀ p ∈ l, p.1 ≠ a) → idxI l a n = none
  | [], _, _ => rfl
  | (k, v) :: l, n, h => by
    unfold idxI
    rw [if_neg (by have := h (k, v) (by simp); simpa using fun e => this e.symm)]
    exact idxI_mem a l (n + 1) fun p hp => h p (by simp [hp])
theorem getI_set (v : Value) (a : Int) : ∀ (l : List Int), getI (l.map fun k => (k, v)) a = if a ∈ l then some v else none := by
  intro l
  unfold getI
  have : ∀ n, (idxI (l.map fun k => (k, v)) a n).map (·.2) = if a ∈ l then some v else none := by
    induction l with
    | nil => intro n; rfl
    | cons k l ih =>
      intro n
      show (if a == k then some (n, v) else idxI (l.map fun k => (k, v)) a (n + 1)).map (·.2) = _
      by_cases h : a = k
      · subst h; simp
      · rw [if_neg (by simpa using h), ih]
        simp [h]
  exact this 0

section
variable {c0 cx : Cx} {P : Program} {fn : Func} {lo : Nat} {T : Tab} {k : List It} {tm : List (Nat × SV)} {hp : List (Nat × Blk)} {nx : Nat} {all : Array Oper} {rest : List Oper} {d : Nat} {ty : TypeId} {pos : String} {after : Array Edge} {S : Nat → Prop}
theorem AWP.lookupI (m : MapCx c0 cx S) (e : Env cx P fn lo) {t kt et : TypeId} {x ix : Operand} {b : Nat} {kk : IntKind} {l : List (Int × Value)} {a : Int} {z : Value} (hb : S b) (ho : cx.w0.heap[b]? = some (mapI kk l)) (ht : P.underlying t = some (.map kt et)) (hk : P.underlying kt = some (.int kk)) (hz : ∀ w, (zeroValue et).run P w = .ok z w)
    (hd : Nat.blt d fn.ntmps = true) (h1 : opd ⟨tm, hp, nx⟩ x = some (.d (.v (.map (some b))))) (h2 : opd ⟨tm, hp, nx⟩ ix = some (.d (.v (.int kk a)))) (v : Value) (hv : (getI l a).getD z = v)
    (g : AWP cx (.ops all rest :: k) ⟨(d, .d (.v v)) :: tm, hp, nx⟩) : AWP cx (.ops all (⟨some d, .lookup t x ix false, ty, pos, after, none⟩ :: rest) :: k) ⟨tm, hp, nx⟩ := by
  refine AWP.lookupM m e (key := .int kk a) (v := v) hb ho hd h1 (fun μ ok w u sv hs hu => ?_) (by rw [h2]; rfl) (fun w hw => by rw [run_lookupI ht hk (hz w) hw, hv]) g
  rw [h2] at hs
  cases hs
  exact hu.vv
theorem AWP.newI (m : MapCx c0 cx S) (e : Env cx P fn lo) {t kt et : TypeId} {x ix y : Operand} {b : Nat} {kk : IntKind} {l : List (Int × Value)} {a : Int} {v : Value} (hb : S b) (ho : cx.w0.heap[b]? = some (mapI kk l)) (ht : P.underlying t = some (.map kt et)) (hk : P.underlying kt = some (.int kk))
    (h1 : opd ⟨tm, hp, nx⟩ x = some (.d (.v (.map (some b))))) (h2 : opd ⟨tm, hp, nx⟩ ix = some (.d (.v (.int kk a)))) (h3 : opd ⟨tm, hp, nx⟩ y = some (.d (.v v))) (hn : getI l a = none)
    (g : ∀ cx2, MapCx c0 cx2 S → Env cx2 P fn nx → cx2.Post = cx.Post → cx2.w0.heap[b]? = some (mapI kk (l ++ [(a, v)])) → (∀ q, S q → q ≠ b → cx2.w0.heap[q]? = cx.w0.heap[q]?) → AWP cx2 (.ops all rest :: k) ⟨tm, hp, nx⟩) :
    AWP cx (.ops all (⟨none, .mapUpdate t x ix y, ty, pos, after, none⟩ :: rest) :: k) ⟨tm, hp, nx⟩ := by
  refine AWP.updateM m e (key := .int kk a) (v := v) hb ho h1 (fun μ ok w u sv hs hu => ?_) (by rw [h2]; rfl) h3 (fun μ ok w u hu => hu.vv) (fun w hw => run_newI ht hk hw hn) g
  rw [h2] at hs
  cases hs
  exact hu.vv
end
end Go.Sy

/-
  SYMBOLIC STATES, over any program, part 54: maps whose keys are pairs of numbers (a struct of two), with any values.
-/
namespace Go.Sy
open Go.RowKit

abbrev Key := Int × Int
def keyV (k : Key) : Value := .agg #[.int .i64 k.1, .int .i64 k.2]
/-- What is asked of a key's type. -/
structure KeyOk (P : Program) (kt : TypeId) : Prop where
  und : ∃ D, P.underlying kt = some D ∧ ∀ a b : Key, Instr.sameNow D (keyV a) (keyV b) = none
  eq : ∀ (a b : Key) (w : World), (Op.equal kt (keyV a) (keyV b)).run P w = .ok (a == b) w
  chk : ∀ (em : Bool) (a : Key) (w : World), (Instr.checkKey em 10000 kt (keyV a)).run P w = .ok () w
theorem bits_key (a : Key) : Instr.sameBits 10000 (keyV a) (keyV a) = true := by
  show Instr.sameBits (9999 + 1) (keyV a) (keyV a) = true
  unfold keyV Instr.sameBits
  simp [Instr.sameBits]

def entsK : Nat → List (Key × Value) → List MapEntry
  | _, [] => []
  | n, (k, v) :: l => ⟨keyV k, v, n⟩ :: entsK (n + 1) l
def mpK (l : List (Key × Value)) : Obj := .map (entsK 0 l).toArray l.length
def idxK : List (Key × Value) → Key → Nat → Option (Nat × Value)
  | [], _, _ => none
  | (k, v) :: l, a, n => if a == k then some (n, v) else idxK l a (n + 1)
def getK (l : List (Key × Value)) (a : Key) : Option Value := (idxK l a 0).map (·.2)
/-- The map with a value at a key. -/
def setK : List (Key × Value) → Key → Value → List (Key × Value)
  | [], a, v => [(a, v)]
  | (k, u) :: l, a, v => if a == k then (k, v) :: l else (k, u) :: setK l a v

theorem entsK_len : ∀ (l : List (Key × Value)) (n : Nat), (entsK n l).length = l.length
  | [], _ => rfl
  | _ :: l, n => congrArg Nat.succ (entsK_len l (n + 1))
theorem entsK_snoc (k : Key) (v : Value) : ∀ (l : List (Key × Value)) (n : Nat), entsK n (l ++ [(k, v)]) = entsK n l ++ [⟨keyV k, v, n + l.length⟩]
  | [], n => rfl
  | (a, u) :: l, n => by
    show (⟨keyV a, u, n⟩ : MapEntry) :: entsK (n + 1) (l ++ [(k, v)]) = ⟨keyV a, u, n⟩ :: (entsK (n + 1) l ++ [⟨keyV k, v, n + (l.length + 1)⟩])
    rw [entsK_snoc k v l (n + 1), show n + 1 + l.length = n + (l.length + 1) by omega]
theorem entsK_at : ∀ (l : List (Key × Value)) (n i : Nat) (k : Key) (v : Value), l[i]? = some (k, v) → (entsK n l)[i]? = some ⟨keyV k, v, n + i⟩
  | [], _, _, _, _, h => by simp at h
  | (a, u) :: l, n, 0, k, v, h => by simp at h; obtain ⟨rfl, rfl⟩ := h; rfl
  | (a, u) :: l, n, i + 1, k, v, h => by
    have := entsK_at l (n + 1) i k v (by simpa using h)
    show (entsK (n + 1) l)[i]? = _
    rw [this, show n + 1 + i = n + (i + 1) by omega]
theorem idxK_none {a : Key} : ∀ {l : List (Key × Value)} {n : Nat}, idxK l a n = none → setK l a = fun v => l ++ [(a, v)]
  | [], _, _ => rfl
  | (k, u) :: l, n, h => by
    unfold idxK at h
    split at h
    · cases h
    · rename_i hk
      funext v
      show (if a == k then _ else (k, u) :: setK l a v) = (k, u) :: (l ++ [(a, v)])
      rw [if_neg hk, idxK_none h]
theorem idxK_some {a : Key} : ∀ {l : List (Key × Value)} {n i : Nat} {v : Value}, idxK l a n = some (i, v) → ∃ j, i = n + j ∧ l[j]? = some (a, v) ∧ ∀ u m, entsK m (setK l a u) = (entsK m l).modify j fun e => { e with key := keyV a, val := u }
  | [], _, _, _, h => by cases h
  | (k, u) :: l, n, i, v, h => by
    unfold idxK at h
    split at h
    · rename_i hk
      cases h
      obtain rfl : a = k := eq_of_beq hk
      refine ⟨0, rfl, rfl, fun u' m => ?_⟩
      show entsK m (if a == a then _ else _) = _
      rw [if_pos (beq_self_eq_true a)]
      rfl
    · rename_i hk
      obtain ⟨j, h1, h2, h3⟩ := idxK_some h
      refine ⟨j + 1, by omega, by simpa using h2, fun u' m => ?_⟩
      show entsK m (if a == k then _ else (k, u) :: setK l a u') = _
      rw [if_neg hk]
      show (⟨keyV k, u, m⟩ : MapEntry) :: entsK (m + 1) (setK l a u') = _
      rw [h3 u' (m + 1)]
      rfl
theorem setK_len {a : Key} {v : Value} : ∀ {l : List (Key × Value)}, (setK l a v).length = if (getK l a).isSome then l.length else l.length + 1 := by
  intro l
  have key : ∀ n, (setK l a v).length = if (idxK l a n).isSome then l.length else l.length + 1 := by
    induction l with
    | nil => intro n; rfl
    | cons p l ih =>
      intro n
      obtain ⟨k, u⟩ := p
      show (if a == k then _ else (k, u) :: setK l a v).length = if (if a == k then some (n, u) else idxK l a (n + 1)).isSome then _ else _
      by_cases h : (a == k) = true
      · rw [if_pos h, if_pos h]; rfl
      · rw [if_neg h, if_neg h, List.length_cons, ih (n + 1), List.length_cons]
        split <;> rfl
  rw [key 0]
  unfold getK
  rw [Option.isSome_map]

section
variable {P : Program} {w : World} {t kt et : TypeId} {b : Nat}
theorem findAsk_K (hk : KeyOk P kt) (a : Key) : ∀ (l : List (Key × Value)) (n i : Nat), (Instr.findAsking kt (keyV a) (entsK n l) i).run P w = .ok (idxK l a i) w
  | [], _, _ => rfl
  | (k, v) :: l, n, i => by
    unfold entsK Instr.findAsking idxK
    simp only [Sem.run_bind, hk.eq, Result.andThen_ok]
    cases h : a == k
    · simp only [Bool.false_eq_true, if_false]
      exact findAsk_K hk a l (n + 1) (i + 1)
    · simp
theorem run_findKeyK (hk : KeyOk P kt) (a : Key) (l : List (Key × Value)) (n : Nat) : (Instr.findKey kt (keyV a) (entsK n l)).run P w = .ok (idxK l a 0) w := by
  obtain ⟨D, hD, hs⟩ := hk.und
  unfold Instr.findKey
  simp only [Sem.run_bind, run_underlying hD, Result.andThen_ok]
  cases l with
  | nil => rfl
  | cons p l =>
    obtain ⟨k, v⟩ := p
    have : Instr.findNow D (keyV a) (entsK n ((k, v) :: l)) 0 = none := by
      unfold entsK Instr.findNow
      rw [hs]
    rw [this]
    exact findAsk_K hk a _ n 0
theorem run_keyStays (a : Key) : (Instr.keyThatStays (keyV a) (keyV a)).run P w = .ok (keyV a) w := by
  unfold Instr.keyThatStays
  rw [if_pos (bits_key a)]
  rfl
theorem run_lookupK (ht : P.underlying t = some (.map kt et)) (hk : KeyOk P kt) {z : Value} (hz : (zeroValue et).run P w = .ok z w) {l : List (Key × Value)} (h : w.heap[b]? = some (mpK l)) (a : Key) :
    (Instr.lookup t (.map (some b)) (keyV a) false).run P w = .ok ((getK l a).getD z) w := by
  unfold Instr.lookup
  simp only [Sem.run_bind, run_underlying ht, Result.andThen_ok, run_getMap h, Sem.run_pure, hk.chk, run_findKeyK hk]
  unfold getK
  cases idxK l a 0 with
  | none => simp [hz]
  | some p => rfl
theorem mpK_set {l : List (Key × Value)} {a : Key} {i : Nat} {u : Value} (h : idxK l a 0 = some (i, u)) (v : Value) : Obj.map ((entsK 0 l).toArray.modify i fun e => { e with key := keyV a, val := v }) l.length = mpK (setK l a v) := by
  obtain ⟨j, rfl, h2, h3⟩ := idxK_some h
  unfold mpK
  have hs : (setK l a v).length = l.length := by
    rw [setK_len, if_pos]
    unfold getK
    rw [h]; rfl
  rw [hs, h3 v 0, Nat.zero_add, List.modify_toArray]
theorem mpK_new {l : List (Key × Value)} {a : Key} (h : idxK l a 0 = none) (v : Value) : Obj.map ((entsK 0 l).toArray.push ⟨keyV a, v, l.length⟩) (l.length + 1) = mpK (setK l a v) := by
  rw [idxK_none h]
  unfold mpK
  rw [entsK_snoc, Nat.zero_add, List.length_append]
  simp
theorem run_updateK (ht : P.underlying t = some (.map kt et)) (hk : KeyOk P kt) {l : List (Key × Value)} (h : w.heap[b]? = some (mpK l)) (a : Key) (v : Value) :
    (Instr.mapUpdate t (.map (some b)) (keyV a) v).run P w = .ok () (w.putObj b (mpK (setK l a v))) := by
  unfold Instr.mapUpdate
  simp only [Sem.run_bind, run_underlying ht, Result.andThen_ok, run_getMap h, hk.chk, run_findKeyK hk]
  cases hi : idxK l a 0 with
  | none =>
    simp only
    rw [run_setMap _ h, mpK_new hi]
  | some p =>
    obtain ⟨i, u⟩ := p
    obtain ⟨j, hj, h2, _⟩ := idxK_some hi
    obtain rfl : i = j := by omega
    have hat := entsK_at l 0 i a u h2
    simp only [Sem.run_bind]
    have : (((entsK 0 l).toArray[i]?).map (·.key)).getD (keyV a) = keyV a := by
      rw [List.getElem?_toArray, hat]; rfl
    rw [this, run_keyStays]
    simp only [Result.andThen_ok]
    rw [run_setMap _ h, mpK_set hi]
/-- The entry that is asked for; made, if it is not there. -/
theorem run_entryK (ht : P.underlying t = some (.map kt et)) (hk : KeyOk P kt) {z : Value} (hz : ∀ w, (zeroValue et).run P w = .ok z w) {l : List (Key × Value)} (h : w.heap[b]? = some (mpK l)) (a : Key) :
    ∃ i : Nat, (Instr.mapEntry t (.map (some b)) (keyV a)).run P w = .ok (.tuple #[(getK l a).getD z, goInt (i : Int)]) (w.putObj b (mpK (setK l a ((getK l a).getD z)))) ∧ (setK l a ((getK l a).getD z))[i]? = some (a, (getK l a).getD z) ∧ idxK (setK l a ((getK l a).getD z)) a 0 = some (i, (getK l a).getD z) := by
  cases hi : idxK l a 0 with
  | none =>
    have hg : getK l a = none := by unfold getK; rw [hi]; rfl
    refine ⟨l.length, ?_, ?_, ?_⟩
    · unfold Instr.mapEntry
      simp only [Sem.run_bind, run_underlying ht, Result.andThen_ok, run_getMap h, hk.chk, run_findKeyK hk, hi, hz]
      rw [run_setMap _ h, mpK_new hi, hg]
      rfl
    · rw [idxK_none hi]; simp
    · rw [idxK_none hi]
      have : ∀ (l : List (Key × Value)) (n : Nat) v, idxK l a n = none → idxK (l ++ [(a, v)]) a n = some (n + l.length, v) := by
        intro l
        induction l with
        | nil => intro n v _; show (if a == a then _ else _) = _; rw [if_pos (beq_self_eq_true a)]; rfl
        | cons p l ih =>
          intro n v h
          obtain ⟨k, u⟩ := p
          unfold idxK at h
          split at h
          · cases h
          · rename_i hk
            show (if a == k then some (n, u) else idxK (l ++ [(a, v)]) a (n + 1)) = _
            rw [if_neg hk, ih (n + 1) v h]
            show some (n + 1 + l.length, v) = some (n + (l.length + 1), v)
            rw [show n + 1 + l.length = n + (l.length + 1) by omega]
      rw [this l 0 _ hi, Nat.zero_add]
  | some p =>
    obtain ⟨i, u⟩ := p
    obtain ⟨j, hj, h2, h3⟩ := idxK_some hi
    obtain rfl : i = j := by omega
    have hg : getK l a = some u := by unfold getK; rw [hi]; rfl
    have hat := entsK_at l 0 i a u h2
    have hm := mpK_set hi u
    refine ⟨i, ?_, ?_, ?_⟩
    · unfold Instr.mapEntry
      simp only [Sem.run_bind, run_underlying ht, Result.andThen_ok, run_getMap h, hk.chk, run_findKeyK hk, hi]
      have e1 : (((entsK 0 l).toArray[i]?).map (·.key)).getD (keyV a) = keyV a := by
        rw [List.getElem?_toArray, hat]; rfl
      have e2 : (((entsK 0 l).toArray[i]?).map (fun x => (x.born : Int))).getD 0 = (i : Int) := by
        rw [List.getElem?_toArray, hat]; simp
      rw [e1, run_keyStays]
      simp only [Result.andThen_ok]
      have e3 : Obj.map ((entsK 0 l).toArray.modify i fun e => { e with key := keyV a }) l.length = mpK (setK l a u) := by
        rw [← hm]
        congr 1
        apply Array.ext'
        simp only [List.modify_toArray]
        apply List.ext_getElem?
        intro q
        rw [List.getElem?_modify, List.getElem?_modify]
        by_cases hq : i = q
        · subst hq; rw [hat]; simp
        · simp [hq]
      rw [run_setMap _ h, e3, hg, e2]
      rfl
    · rw [hg]
      show (setK l a u)[i]? = _
      have : ∀ (l : List (Key × Value)) (n i : Nat), idxK l a n = some (n + i, u) → (setK l a u)[i]? = some (a, u) := by
        intro l
        induction l with
        | nil => intro n i h; cases h
        | cons p l ih =>
          intro n i h
          obtain ⟨k, x⟩ := p
          unfold idxK at h
          split at h
          · rename_i hk
            obtain rfl : a = k := eq_of_beq hk
            have : i = 0 := by injection h with h; injection h with h1 h2; omega
            subst this
            show (if a == a then _ else _ : List (Key × Value))[0]? = _
            rw [if_pos (beq_self_eq_true a)]
            rfl
          · rename_i hk
            obtain ⟨q, rfl⟩ : ∃ q, i = q + 1 := by
              obtain ⟨j, hj, _, _⟩ := idxK_some h
              exact ⟨j, by omega⟩
            show (if a == k then _ else (k, x) :: setK l a u : List (Key × Value))[q + 1]? = _
            rw [if_neg hk]
            exact ih (n + 1) q (by rw [h]; congr 2; omega)
      exact this l 0 i (by rw [Nat.zero_add]; exact hi)
    · rw [hg]
      show idxK (setK l a u) a 0 = some (i, u)
      have : ∀ (l : List (Key × Value)) (n i : Nat), idxK l a n = some (i, u) → idxK (setK l a u) a n = some (i, u) := by
        intro l
        induction l with
        | nil => intro n i h; cases h
        | cons p l ih =>
          intro n i h
          obtain ⟨k, x⟩ := p
          unfold idxK at h
          split at h
          · rename_i hk
            obtain rfl : a = k := eq_of_beq hk
            show idxK (if a == a then _ else _) a n = _
            rw [if_pos (beq_self_eq_true a)]
            show (if a == a then some (n, u) else _) = _
            rw [if_pos (beq_self_eq_true a)]
            injection h with h; injection h with h1 h2; subst h1; rfl
          · rename_i hk
            show idxK (if a == k then _ else (k, x) :: setK l a u) a n = _
            rw [if_neg hk]
            show (if a == k then _ else idxK (setK l a u) a (n + 1)) = _
            rw [if_neg hk]
            exact ih (n + 1) i h
      exact this l 0 i hi
end
end Go.Sy

/-
  SYMBOLIC STATES, over any program, part 55: append to a row of one's own whose slice does not begin where the row does.
-/
namespace Go.Sy
open Go.RowKit

section
variable {cx : Cx} {P : Program} {fn : Func} {lo : Nat} {T : Tab} {k : List It} {s : St} {tm : List (Nat × SV)} {hp : List (Nat × Blk)} {nx : Nat}
variable {all : Array Oper} {rest : List Oper} {d : Nat} {ty : TypeId} {pos : String} {after : Array Edge}

theorem run_append_roomLo (w : World) (t ty e : TypeId) (i : TypeInfo) (ht : P.underlying t = some (.slice e)) (hi : P.info? e = some i)
    (g off sLen sCap : Nat) (cur : Array Value) (hg : w.heap[g]? = some (.cells cur e (0, 0)))
    (a : Addr) (m c : Nat) (news : List Value) (hl : news.length = m * i.size) (hnews : ∀ j u, news[j]? = some u → w.cell? (a.add j) = some u) (h1 : ∀ u ∈ news, u.oneCell' = true)
    (hroom : sLen + m ≤ sCap) (hfit : off + sLen * i.size + news.length ≤ cur.size) :
    (Builtin.append_ #[t, t] ty #[.slice (some ⟨g, off, none⟩) sLen sCap, .slice (some a) m c]).run P w =
      .ok (.slice (some ⟨g, off, none⟩) (sLen + m) sCap) (w.setRow g (cur.toList.take (off + sLen * i.size) ++ news ++ cur.toList.drop (off + sLen * i.size + news.length)).toArray) := by
  have hf := run_firstCells_some (P := P) w i.size m a m c news hl hnews
  have hst := run_storeCells_at P g (off + sLen * i.size) e news 0 cur w hg (by simpa using hfit) h1
  simp only [Nat.add_zero] at hst
  simp [Builtin.append_, run_underlying ht, sizeOf, typeInfo, hi, Builtin.lenOf, hroom, hf, add_add', hst]

theorem append_runLo (hT : TabOk cx.P T) {μ : Nat → Option Nat} {ok : Nat → Prop} {a : Act} {w : World} (hI : Inv1 cx μ ok ⟨tm, hp, nx⟩ a w) {t te : TypeId} {y : Ty} {id m l n C : Nat} {xs ys : List (List SV)} {sx : SV} {v u : Value} (ty : TypeId)
    (hv : Den μ ok w (.own id m l n C) v) (hrow : aget id hp = some (.row te false m xs C)) (hn : xs.length = l + n) (hu : Den μ ok w sx u) (hsrc : Src hp sx m ys) (ht : tySl T t = some (te, m)) (hy : aget te T = some y) (hm : 0 < m) (hy0 : ys ≠ [])
    (hcell : ∀ e ∈ ys, allCells e = true) {hp' : List (Nat × Blk)} (hdel : adelO id hp = some hp') (hb : (n + ys.length) * y.bytes ≤ 140737488355328) (hsz : n + ys.length ≤ maxLen) :
    ∃ v' w' C2 μ' pre, (Builtin.append_ #[t, t] ty #[v, u]).run cx.P w = .ok v' w' ∧ Inv1 cx μ' ok ⟨tm, (nx, .row te false m (pre ++ (xs.drop l ++ ys)) C2) :: hp', Nat.succ nx⟩ a w' ∧ Den μ' ok w' (.own nx m pre.length (n + ys.length) C2) v' ∧ (pre = [] ∨ pre = xs.take l) := by
  obtain ⟨zt, y', t1, t2, t3, t4⟩ := tySl_ok ht
  rw [hy] at t3
  cases t3
  have htu : cx.P.underlying t = some (.slice te) := by have := (hT _ _ t1).td; rw [t2] at this; exact this
  obtain ⟨ti, z, i1, i2, i3, i4, i5⟩ := (hT _ _ hy).info
  have him : ti.size = m := i2.trans t4
  have hzs : z.cells.size = m := by
    have h1 := congrArg List.length i5
    simp only [List.length_map, Array.length_toList] at h1
    rw [h1, (hT _ _ hy).zlen, t4]
  have hget := adelO_get id hp hp' hdel
  have hdrop : ∀ i B, aget i hp' = some B → aget i hp = some B := fun i B hi => by
    rw [hget i] at hi
    split at hi
    · cases hi
    · exact hi
  have hmx : maxLen = 9223372036854775807 := rfl
  have hylen : 0 < ys.length := List.length_pos_iff.2 hy0
  have hlt : ∀ b, ok b → b < w.heap.size := hI.heap.lt
  have hxl0 : (xs.drop l).length = n := by rw [List.length_drop]; omega
  -- a new row
  have hnew : ∀ (olds news : List Value) (C2 : Nat), olds.length = n * m → news.length = ys.length * m → n + ys.length ≤ C2 → C2 ≤ maxLen →
      (∀ (i : Nat) (e : List SV), (xs.drop l)[i]? = some e → e.length = m) → (∀ (i : Nat) (e : List SV), ys[i]? = some e → e.length = m) →
      (∀ (i : Nat) (e : List SV) (j : Nat) (x : SV) (u : Value), (xs.drop l)[i]? = some e → e[j]? = some x → olds[i * m + j]? = some u → Den μ ok w x u) →
      (∀ (i : Nat) (e : List SV) (j : Nat) (x : SV) (u : Value), ys[i]? = some e → e[j]? = some x → news[i * m + j]? = some u → Den μ ok w x u) →
      let w' := w.drew.alloc (.cells (olds.toArray ++ news.toArray ++ Builtin.zeroCells z.cells (C2 - (n + ys.length))) te)
      Inv1 cx (upd μ nx w.heap.size) ok ⟨tm, (nx, .row te false m (xs.drop l ++ ys) C2) :: hp', Nat.succ nx⟩ a w' ∧ Den (upd μ nx w.heap.size) ok w' (.own nx m 0 (n + ys.length) C2) (.slice (some ⟨w.heap.size, 0, none⟩) (n + ys.length) C2) := by
    intro olds news C2 ho hne hC hC2 hxl hyl hod hnd w'
    have hoth : ∀ b, ok b → w'.heap[b]? = w.heap[b]? := fun b hb => Below.heap_alloc w.drew _ b (hlt b hb)
    have harr : (olds.toArray ++ news.toArray ++ Builtin.zeroCells z.cells (C2 - (n + ys.length))) = (olds ++ news ++ (Builtin.zeroCells z.cells (C2 - (n + ys.length))).toList).toArray := by
      apply Array.ext'
      simp
    have hB : DenB μ ok w' w.drew.heap.size (.row te false m (xs.drop l ++ ys) C2) := by
      obtain ⟨r1, r2⟩ := row_app (μ := μ) (ok := ok) (w := w) (c2 := (olds ++ news ++ (Builtin.zeroCells z.cells (C2 - (n + ys.length))).toList).toArray) hxl hyl hod hnd (fun q hq => (app_cells ho hne).1 (by rw [hxl0] at hq; exact hq)) (fun q hq => by rw [hxl0]; exact (app_cells ho hne).2 hq)
      refine ⟨_, (0, 0), (MapKept.heap_alloc w.drew _).1, fun _ => rfl, fun j _ hj => by omega, ?_, by rw [List.length_append, hxl0]; omega, r1, fun i e j x u he hj hu => ?_⟩
      · simp only [Array.size_append, List.size_toArray, ho, hne, size_zeroCells, hzs, ← Nat.add_mul]
        congr 1
        omega
      · rw [harr] at hu
        exact (r2 i e j x u he hj hu).mono (fun _ _ h => h) (fun _ h => h) hoth
    have h1 := (hI.drew).alloc (.cells (olds.toArray ++ news.toArray ++ Builtin.zeroCells z.cells (C2 - (n + ys.length))) te) (.row te false m (xs.drop l ++ ys) C2) hB
    refine ⟨h1.dropHp fun i B hi => ?_, ?_⟩
    · rw [aget_cons] at hi ⊢
      by_cases e : i = nx
      · rw [if_pos e] at hi ⊢; exact hi
      · rw [if_neg e] at hi ⊢; exact hdrop i B hi
    · have := Den.own (μ := upd μ nx w.heap.size) (ok := ok) (w := w') (id := nx) (k := m) (lo := 0) (n := n + ys.length) (C := C2) (b := w.heap.size) (by simp [upd]) (by omega) hC2
      simpa using this
  rcases hsrc.den hI.hh hu with ⟨rfl, hys⟩ | ⟨ua, uc, rfl, hym⟩
  · exact absurd hys hy0
  · obtain ⟨news, hnl, hnc, hnd⟩ := hym.gather
    have hyl := hym.1
    have hnl' : news.length = ys.length * ti.size := by rw [him]; exact hnl
    cases hv with
    | ownNil a0 _ _ _ =>
      have hx0 : xs.drop l = [] := List.eq_nil_of_length_eq_zero hxl0
      have hr : (Builtin.append_ #[t, t] ty #[.slice a0 0 0, .slice (some ua) ys.length uc]).run cx.P w = .ok (.slice (some ⟨w.heap.size, 0, none⟩) ys.length (grownCap w ys.length 0 te)) (w.drew.alloc (.cells (news.toArray ++ Builtin.zeroCells z.cells (grownCap w ys.length 0 te - ys.length)) te)) := by
        cases a0 with
        | none => exact run_append_nil (P := cx.P) w t ty te ti z htu i1 i4 ua ys.length uc news hnl' hnc (by omega) (by rw [hmx] at hsz; omega) (by rw [i3]; simp only [Nat.zero_add] at hb; omega)
        | some a0 =>
          have := run_append_grow (P := cx.P) w t ty te ti z htu i1 i4 a0 0 0 [] (by simp) (by simp) ua ys.length uc news hnl' hnc (by omega) (by rw [hmx] at hsz; omega) (growslice_fits (by omega) (by rw [i3]; exact hb))
          simpa using this
      obtain ⟨h1, h2⟩ := hnew [] news (grownCap w ys.length 0 te) (by simp) hnl (by rw [Nat.zero_add]; exact grownCap_ge w ys.length 0 te) (grownCap_le_maxLen w ys.length 0 te (by omega)) (by rw [hx0]; simp) hyl (by rw [hx0]; simp) hnd
      refine ⟨_, _, grownCap w ys.length 0 te, upd μ nx w.heap.size, [], hr, ?_, ?_, .inl rfl⟩
      · simp only [Nat.zero_add] at h1
        simpa using h1
      · simp only [Nat.zero_add] at h2
        simpa using h2
    | own hb0 g1 g2 =>
      rename_i b
      obtain ⟨_, hn'⟩ | ⟨b', q1, q2, hB⟩ := hI.hh id _ hrow
      · rw [hn'] at hb0; cases hb0
      rw [hb0] at q1
      cases q1
      obtain ⟨cur, zf, c1, c2, c3, c4, c5, c6, c7⟩ := hB
      have hzf := c2 rfl
      subst hzf
      have hlnm : l * m + n * m = (l + n) * m := (Nat.add_mul _ _ _).symm
      have hnm : (l + n) * m ≤ C * m := Nat.mul_le_mul_right _ (by omega)
      by_cases hroom : n + ys.length ≤ C - l
      · have hfit : l * m + n * ti.size + news.length ≤ cur.size := by
          rw [him, hnl, c4, ← Nat.add_mul, ← Nat.add_mul]
          exact Nat.mul_le_mul_right _ (by omega)
        have holen : (cur.toList.take (l * m + n * m)).length = (l + n) * m := by rw [List.length_take, Array.length_toList, c4]; omega
        have hod : ∀ (i : Nat) (e : List SV) (j : Nat) (x : SV) (u : Value), xs[i]? = some e → e[j]? = some x → (cur.toList.take (l * m + n * m))[i * m + j]? = some u → Den μ ok w x u := by
          intro i e j x u he hj hu
          rw [List.getElem?_take] at hu
          split at hu
          · exact c7 i e j x u he hj (by simpa using hu)
          · cases hu
        have hr := run_append_roomLo (P := cx.P) w t ty te ti htu i1 b (l * m) n (C - l) cur c1 ua ys.length uc news hnl' hnc (rows_one hnl hyl hnd hcell) hroom hfit
        rw [him] at hr hfit
        have hupd : Upd w (w.setRow b (cur.toList.take (l * m + n * m) ++ news ++ cur.toList.drop (l * m + n * m + news.length)).toArray) b := ⟨fun b' hb' => setRow_other w b b' _ hb', by simp, rfl, rfl, rfl⟩
        have hoth : ∀ q, ok q → (w.setRow b (cur.toList.take (l * m + n * m) ++ news ++ cur.toList.drop (l * m + n * m + news.length)).toArray).heap[q]? = w.heap[q]? := fun q hq => hupd.other q fun e => q2 (e ▸ hq)
        obtain ⟨r1, r2⟩ := row_app (μ := μ) (ok := ok) (w := w) (c2 := (cur.toList.take (l * m + n * m) ++ news ++ cur.toList.drop (l * m + n * m + news.length)).toArray) c6 hyl hod hnd (fun q hq => (app_cells (n := (l + n) * m) holen hnl).1 (by rw [hn] at hq; exact hq)) (fun q hq => by rw [hn]; exact (app_cells (n := (l + n) * m) holen hnl).2 hq)
        have hB' : DenB μ ok (w.setRow b (cur.toList.take (l * m + n * m) ++ news ++ cur.toList.drop (l * m + n * m + news.length)).toArray) b (.row te false m (xs ++ ys) C) := by
          refine ⟨_, (0, 0), setRow_heap w b cur _ te _ c1, fun _ => rfl, fun j _ hj => by omega, ?_, by rw [List.length_append]; omega, r1, fun i e j x u he hj hu => (r2 i e j x u he hj hu).mono (fun _ _ h => h) (fun _ h => h) hoth⟩
          simp only [List.size_toArray, List.length_append, List.length_drop, Array.length_toList, holen]
          omega
        have hxx : xs.take l ++ (xs.drop l ++ ys) = xs ++ ys := by rw [← List.append_assoc, List.take_append_drop]
        have htl : (xs.take l).length = l := by rw [List.length_take]; omega
        refine ⟨_, _, C, upd μ nx b, xs.take l, hr, ?_, ?_, .inr rfl⟩
        · rw [hxx]; exact hI.move hrow hb0 hupd hB' hdel
        · rw [htl]
          exact Den.own (μ := upd μ nx b) (ok := ok) (w := w.setRow b (cur.toList.take (l * m + n * m) ++ news ++ cur.toList.drop (l * m + n * m + news.length)).toArray) (id := nx) (k := m) (lo := l) (n := n + ys.length) (C := C) (b := b) (by simp [upd]) (by omega) g2
      · have holen : ((cur.toList.drop (l * m)).take (n * m)).length = n * m := by rw [List.length_take, List.length_drop, Array.length_toList, c4]; omega
        have hod : ∀ (i : Nat) (e : List SV) (j : Nat) (x : SV) (u : Value), (xs.drop l)[i]? = some e → e[j]? = some x → ((cur.toList.drop (l * m)).take (n * m))[i * m + j]? = some u → Den μ ok w x u := by
          intro i e j x u he hj hu
          rw [List.getElem?_take] at hu
          split at hu
          · rw [List.getElem?_drop] at he hu
            refine c7 (l + i) e j x u he hj ?_
            rw [Nat.add_mul, Nat.add_assoc]
            simpa using hu
          · cases hu
        have holds : ∀ (j : Nat) v, ((cur.toList.drop (l * m)).take (n * m))[j]? = some v → w.cell? ((⟨b, l * m, none⟩ : Addr).add j) = some v := by
          intro j v hj
          rw [List.getElem?_take] at hj
          split at hj
          · rw [List.getElem?_drop] at hj
            rw [add_add', cell_at c1]; simpa using hj
          · cases hj
        have hr := run_append_grow (P := cx.P) w t ty te ti z htu i1 i4 ⟨b, l * m, none⟩ n (C - l) ((cur.toList.drop (l * m)).take (n * m)) (by rw [him]; exact holen) holds ua ys.length uc news hnl' hnc (by omega) (by rw [hmx] at hsz; omega) (growslice_fits (by omega) (by rw [i3]; exact hb))
        obtain ⟨h1, h2⟩ := hnew ((cur.toList.drop (l * m)).take (n * m)) news (grownCap w (n + ys.length) (C - l) te) holen hnl (grownCap_ge _ _ _ _) (grownCap_le_maxLen _ _ _ _ hsz) (fun i e he => c6 (l + i) e (by rw [← List.getElem?_drop]; exact he)) hyl hod hnd
        exact ⟨_, _, grownCap w (n + ys.length) (C - l) te, upd μ nx w.heap.size, [], hr, h1, h2, .inl rfl⟩

theorem AWP.appendLo (e : Env cx P fn lo) (hT : TabOk P T) {s0 sx : Operand} {t te : TypeId} {y : Ty} {id m l n C : Nat} {xs ys : List (List SV)} {vx : SV} (hd : Nat.blt d fn.ntmps = true) (h1 : opd ⟨tm, hp, nx⟩ s0 = some (.own id m l n C)) (h2 : opd ⟨tm, hp, nx⟩ sx = some vx)
    (hrow : aget id hp = some (.row te false m xs C)) (ht : tySl T t = some (te, m)) (hy : aget te T = some y) (hm : Nat.blt 0 m = true) {hp' : List (Nat × Blk)} (hdel : adelO id hp = some hp')
    (hsrc : Src hp vx m ys) (hn : xs.length = l + n) (hy0 : ys ≠ []) (hcell : ∀ e ∈ ys, allCells e = true) (hb : (n + ys.length) * y.bytes ≤ 140737488355328) (hsz : n + ys.length ≤ 9223372036854775807)
    (g : ∀ C2 pre, (pre = [] ∨ pre = xs.take l) → AWP cx (.ops all rest :: k) ⟨(d, .own nx m pre.length (n + ys.length) C2) :: tm, (nx, .row te false m (pre ++ (xs.drop l ++ ys)) C2) :: hp', Nat.succ nx⟩) :
    AWP cx (.ops all (⟨some d, .call ⟨.builtin .append, #[s0, sx], #[t, t]⟩, ty, pos, after, none⟩ :: rest) :: k) ⟨tm, hp, nx⟩ := by
  obtain ⟨rfl, rfl, _⟩ := e
  refine AWP.op rfl fun a w hi => ?_
  obtain ⟨μ, ok, hI⟩ := hi.one
  obtain ⟨v', w', C2, μ', pre, r1, r3, r4, r5⟩ := append_runLo hT hI ty (opd_den hI.tmps h1) hrow hn (opd_den hI.tmps h2) hsrc ht hy (Nat.le_of_ble_eq_true hm) hy0 hcell hdel hb hsz
  have hrun : (execOp a.eval ⟨some d, .call ⟨.builtin .append, #[s0, sx], #[t, t]⟩, ty, pos, after, none⟩).run cx.P w = .ok (.value v') w' := by
    simp only [execOp, resolve, invoke, builtin, Sem.run_bind, Sem.run_pure, Result.andThen_ok, List.map_toArray, List.map_cons, List.map_nil, r1]
  rw [hrun, Oper.upon_value]
  exact g C2 pre r5 _ _ (r3.put (Nat.le_of_ble_eq_true hd) r4).inv
end
end Go.Sy

/-
  SYMBOLIC STATES, over any program, part 56: a map of rows of texts: its rows taken into the symbolic heap, and given back.
-/
namespace Go.Sy
open Go.RowKit

section
variable {c0 cx : Cx} {P : Program} {fn : Func} {lo : Nat} {T : Tab} {k : List It} {tm : List (Nat × SV)} {hp : List (Nat × Blk)} {nx : Nat} {all : Array Oper} {rest : List Oper} {d : Nat} {ty : TypeId} {pos : String} {after : Array Edge} {S : Nat → Prop}

theorem MapCx.weak (m : MapCx c0 cx S) {S' : Nat → Prop} (h : ∀ q, S' q → S q) : MapCx c0 cx S' := ⟨m.P, m.fn, m.post, m.R, m.ret, m.back0, m.mu0, fun b hb => m.keep b (h b hb)⟩

/-- Begun anew, where blocks pass between one's own and the symbolic heap. -/
theorem MapCx.anew2 (m : MapCx c0 cx S) {μ : Nat → Option Nat} {ok : Nat → Prop} {w w' : World} (hi : HInv cx μ ok hp nx w) (hs : w.heap.size ≤ w'.heap.size) (ho : w'.os = w.os) (ht : w'.tape = w.tape) (hu : w'.output = w.output)
    (hw : ∀ b, b < w.heap.size → ¬ S b → w'.heap[b]? = w.heap[b]?) {μ' : Nat → Option Nat} {ok' : Nat → Prop} {hp' : List (Nat × Blk)} {nx' : Nat} (hμ : ∀ i b, μ i = some b → μ' i = some b) (hfr : ∀ i, nx' ≤ i → μ' i = none)
    (hok : ∀ b, ok b → ok' b) (hok2 : ∀ b, ok' b → b < w'.heap.size ∧ (ok b ∨ S b))
    (hown : ∀ i B, aget i hp' = some B → (B.ghost ∧ μ' i = none) ∨ ∃ b, μ' i = some b ∧ b < w'.heap.size ∧ ¬ ok' b ∧ (c0.w0.heap.size ≤ b ∨ c0.F b) ∧ DenB μ' ok' w' b B)
    (hinj : ∀ i j B C b, aget i hp' = some B → aget j hp' = some C → μ' i = some b → μ' j = some b → i = j)
    {S' : Nat → Prop} (hS : ∀ b, S' b → b < w'.heap.size ∧ ¬ ok' b ∧ (∀ i B, aget i hp' = some B → μ' i ≠ some b) ∧ (c0.w0.heap.size ≤ b ∨ c0.F b)) :
    MapCx c0 (cx.at' μ' ok' hp' w') S' ∧ HInv (cx.at' μ' ok' hp' w') μ' ok' hp' nx' w' := by
  have H0 := m.back _ _ _ _ _ hi
  have hF : ∀ b, (cx.at' μ' ok' hp' w').F b → c0.w0.heap.size ≤ b ∨ c0.F b := fun b ⟨i, B, hB, hb⟩ => by
    rcases hown i B hB with ⟨_, h⟩ | ⟨b', g1, _, _, g4, _⟩
    · rw [h] at hb; cases hb
    · rw [hb] at g1; cases g1; exact g4
  refine ⟨⟨m.P, m.fn, m.post, m.R, m.ret, fun μ2 ok2 h2 n2 w3 H3 => ?_, fun i b hb => hμ i b (H0.mu i b hb), fun b hb => ?_⟩, ?_⟩
  · refine ⟨fun i b hb => H3.mu i b hb, H3.fresh, fun b hb => H3.sub b (hok b (H0.sub b hb)), H3.lt, fun b hb => ?_, fun i B hB => ?_, H3.inj, fun b hb hFb => ?_, ?_, ?_, ?_, ?_⟩
    · rcases H3.okNew b hb with h | h | h
      · rcases (hok2 b h).2 with h | h
        · exact H0.okNew b h
        · exact .inr (m.keep b h).2.2.2
      · exact .inr (.inl (Nat.le_trans (Nat.le_trans H0.size hs) h))
      · exact .inr (hF b h)
    · rcases H3.own i B hB with h | ⟨b, g1, g2, g3, g4, g5⟩
      · exact .inl h
      · refine .inr ⟨b, g1, g2, g3, ?_, g5⟩
        rcases g4 with h | h
        · exact .inl (Nat.le_trans (Nat.le_trans H0.size hs) h)
        · exact hF b h
    · have h1 : b < w.heap.size := Nat.lt_of_lt_of_le hb H0.size
      have h2 : ¬ S b := fun h => by
        rcases (m.keep b h).2.2.2 with h | h
        · omega
        · exact hFb h
      have h3 : ¬ (cx.at' μ' ok' hp' w').F b := fun h => by
        rcases hF b h with h | h
        · omega
        · exact hFb h
      exact (H3.frame b (Nat.lt_of_lt_of_le h1 hs) h3).trans ((hw b h1 h2).trans (H0.frame b hb hFb))
    · exact Nat.le_trans (Nat.le_trans H0.size hs) H3.size
    · exact H3.os.trans (ho.trans H0.os)
    · exact H3.tape.trans (ht.trans H0.tape)
    · exact H3.output.trans (hu.trans H0.output)
  · obtain ⟨h1, h2, h3, h4⟩ := hS b hb
    exact ⟨h1, fun ⟨i, B, hB, hm⟩ => h3 i B hB hm, h2, h4⟩
  · refine ⟨fun _ _ h => h, hfr, fun _ h => h, fun b hb => (hok2 b hb).1, fun _ h => .inl h, fun i B hB => ?_, hinj, fun _ _ _ => rfl, Nat.le_refl _, rfl, rfl, rfl⟩
    rcases hown i B hB with h | ⟨b, g1, g2, g3, g4, g5⟩
    · exact .inl h
    · exact .inr ⟨b, g1, g2, g3, .inr ⟨i, B, hB, g1⟩, g5⟩

theorem MapCx.env2 (m : MapCx c0 cx S) (e : Env cx P fn lo) {μ' : Nat → Option Nat} {ok' : Nat → Prop} {hp' : List (Nat × Blk)} {nx' : Nat} {w' : World} {S' : Nat → Prop} (h1 : MapCx c0 (cx.at' μ' ok' hp' w') S') (hfr : ∀ i, nx' ≤ i → μ' i = none) : Env (cx.at' μ' ok' hp' w') P fn nx' := by
  refine ⟨e.P, e.fn, fun i b hb => ?_, fun ex ac wd hst => ?_⟩
  · rcases Nat.lt_or_ge i nx' with h | h
    · exact h
    · have := hfr i h
      rw [show μ' i = some b from hb] at this; cases this
  · have hst' : c0.std ex ac wd := by
      obtain ⟨g1, g2, μ3, ok3, r, hh, n, y, g3, g4, g5, g6⟩ := hst
      refine ⟨g1, g2, μ3, ok3, r, hh, n, y, h1.back _ _ _ _ _ g3, ?_, g5, ?_⟩
      · have g4 : (results cx.fn ac.tmps).run cx.P wd = .ok y wd := g4
        rw [m.fn, m.P] at g4
        exact g4
      · have g6 : cx.Post r hh n := g6
        rw [m.post] at g6
        exact g6
    have := m.ret _ _ _ hst'
    rw [← m.R] at this
    exact this
/-- What is owned, as it was in the call's beginning. -/
theorem MapCx.owned (m : MapCx c0 cx S) {μ : Nat → Option Nat} {ok : Nat → Prop} {w : World} (hi : HInv cx μ ok hp nx w) {i b : Nat} {B : Blk} (hB : aget i hp = some B) (hb : μ i = some b) : b < w.heap.size ∧ ¬ ok b ∧ (c0.w0.heap.size ≤ b ∨ c0.F b) ∧ DenB μ ok w b B ∧ ¬ S b := by
  obtain ⟨_, hn⟩ | ⟨b', g1, g2, g3, g4, g5⟩ := (m.back _ _ _ _ _ hi).own i B hB
  · rw [hn] at hb; cases hb
  · rw [hb] at g1
    cases g1
    exact ⟨g2, g3, g4, g5, fun h => (m.free hi h).2.1 i B hB hb⟩
end

/-! ### a map of rows of texts -/
def rowB : Value → Option Nat
  | .slice (some a) _ cap => if cap = 0 then none else some a.block
  | _ => none
/-- The value is a slice of these texts, in a row of its own (or of no room). -/
def RowV (te : TypeId) (w : World) (v : Value) (l : List ByteArray) : Prop :=
  (∃ a, v = .slice a 0 0 ∧ l = []) ∨ ∃ (g : Nat) (pre : List ByteArray) (C : Nat) (cs : Array Value), v = .slice (some ⟨g, pre.length, none⟩) l.length (C - pre.length) ∧ pre.length < C ∧ w.heap[g]? = some (.cells cs te (0, 0)) ∧ cs.size = C ∧ pre.length + l.length ≤ C ∧ C ≤ maxLen ∧
    cs.toList.take (pre.length + l.length) = (pre ++ l).map Value.string
theorem RowV.same {te : TypeId} {w w' : World} {v : Value} {l : List ByteArray} (h : RowV te w v l) (hw : ∀ g, rowB v = some g → w'.heap[g]? = w.heap[g]?) : RowV te w' v l := by
  rcases h with h | ⟨g, pre, C, cs, rfl, h1, h2, h3⟩
  · exact .inl h
  · refine .inr ⟨g, pre, C, cs, rfl, h1, (hw g ?_).trans h2, h3⟩
    show (if C - pre.length = 0 then none else some g) = some g
    rw [if_neg (by omega)]
theorem RowV.cells {te : TypeId} {w : World} {v : Value} {l : List ByteArray} (h : RowV te w v l) {g : Nat} (hg : rowB v = some g) : ∃ cs, w.heap[g]? = some (.cells cs te (0, 0)) := by
  rcases h with ⟨a, rfl, _⟩ | ⟨g', pre, C, cs, rfl, h1, h2, _⟩
  · cases a <;> simp [rowB] at hg
  · have : (if C - pre.length = 0 then none else some g') = some g := hg
    rw [if_neg (by omega)] at this
    cases this
    exact ⟨cs, h2⟩
theorem RowV.len {te : TypeId} {w : World} {v : Value} {l : List ByteArray} (h : RowV te w v l) : ∃ a cap, v = .slice a l.length cap := by
  rcases h with ⟨a, rfl, rfl⟩ | ⟨g, pre, C, cs, rfl, _⟩
  · exact ⟨_, _, rfl⟩
  · exact ⟨_, _, rfl⟩

/-- The map at b: its entries E, what is at each key; the row of k0 is elsewhere. -/
structure WMap (te : TypeId) (w : World) (b : Nat) (E : List (Key × Value)) (c : Key → List ByteArray) (k0 : Option Key) : Prop where
  obj : w.heap[b]? = some (mpK E)
  nd : (E.map (·.1)).Nodup
  rows : ∀ p ∈ E, some p.1 ≠ k0 → RowV te w p.2 (c p.1)
  out : ∀ k, getK E k = none → c k = []
  apart : ∀ p ∈ E, ∀ q ∈ E, p.1 ≠ q.1 → ∀ g, rowB p.2 = some g → rowB q.2 ≠ some g
/-- Its blocks. -/
def SE (b : Nat) (E : List (Key × Value)) (k0 : Option Key) (g : Nat) : Prop := g = b ∨ ∃ p ∈ E, some p.1 ≠ k0 ∧ rowB p.2 = some g

theorem getK_mem {a : Key} {v : Value} : ∀ {l : List (Key × Value)}, getK l a = some v → (a, v) ∈ l := by
  intro l h
  unfold getK at h
  cases hi : idxK l a 0 with
  | none => rw [hi] at h; cases h
  | some p =>
    obtain ⟨i, u⟩ := p
    rw [hi] at h
    cases h
    obtain ⟨j, _, h2, _⟩ := idxK_some hi
    exact List.mem_of_getElem? h2
theorem idxK_isNone {a : Key} : ∀ {l : List (Key × Value)} {n : Nat}, idxK l a n = none ↔ ∀ p ∈ l, p.1 ≠ a := by
  intro l
  induction l with
  | nil => intro n; simp [idxK]
  | cons p l ih =>
    intro n
    obtain ⟨k, u⟩ := p
    unfold idxK
    by_cases h : (a == k) = true
    · rw [if_pos h]
      constructor
      · intro h'; cases h'
      · intro h'; exact absurd (eq_of_beq h).symm (h' (k, u) (by simp))
    · rw [if_neg h, ih]
      constructor
      · intro h' p hp
        rcases List.mem_cons.1 hp with rfl | hp
        · intro he; exact h (by rw [← he]; exact beq_self_eq_true _)
        · exact h' p hp
      · intro h' p hp; exact h' p (List.mem_cons_of_mem _ hp)
theorem getK_none {a : Key} {l : List (Key × Value)} : getK l a = none ↔ ∀ p ∈ l, p.1 ≠ a := by
  unfold getK
  rw [Option.map_eq_none_iff]
  exact idxK_isNone
theorem getK_of {a : Key} {v : Value} : ∀ {l : List (Key × Value)}, (l.map (·.1)).Nodup → (a, v) ∈ l → getK l a = some v := by
  intro l hn h
  cases hg : getK l a with
  | none => exact absurd rfl (getK_none.1 hg (a, v) h)
  | some u =>
    have h2 := getK_mem hg
    have : ∀ (l : List (Key × Value)), (l.map (·.1)).Nodup → (a, v) ∈ l → (a, u) ∈ l → u = v := by
      intro l
      induction l with
      | nil => intro _ h; cases h
      | cons p l ih =>
        intro hn h1 h2
        rw [List.map_cons, List.nodup_cons] at hn
        rcases List.mem_cons.1 h1 with h1 | h1 <;> rcases List.mem_cons.1 h2 with h2 | h2
        · rw [← h1] at h2; cases h2; rfl
        · rw [← h1] at hn; exact absurd (List.mem_map_of_mem (f := (·.1)) h2) hn.1
        · rw [← h2] at hn; exact absurd (List.mem_map_of_mem (f := (·.1)) h1) hn.1
        · exact ih hn.2 h1 h2
    rw [this l hn h h2]
/-- A map with a value at a key: its entries, its keys. -/
theorem setK_mem {a : Key} {v : Value} : ∀ {l : List (Key × Value)}, (l.map (·.1)).Nodup → ∀ p, p ∈ setK l a v ↔ p = (a, v) ∨ (p ∈ l ∧ p.1 ≠ a) := by
  intro l
  induction l with
  | nil => intro _ p; simp [setK]
  | cons q l ih =>
    intro hn p
    obtain ⟨k, u⟩ := q
    rw [List.map_cons, List.nodup_cons] at hn
    show p ∈ (if a == k then (k, v) :: l else (k, u) :: setK l a v) ↔ _
    by_cases h : (a == k) = true
    · rw [if_pos h]
      obtain rfl : a = k := eq_of_beq h
      rw [List.mem_cons, List.mem_cons]
      constructor
      · rintro (h1 | h1)
        · exact .inl h1
        · exact .inr ⟨.inr h1, fun e => hn.1 (by rw [← e]; exact List.mem_map_of_mem (f := (·.1)) h1)⟩
      · rintro (h1 | ⟨h1 | h1, h2⟩)
        · exact .inl h1
        · exact absurd (by rw [h1]) h2
        · exact .inr h1
    · rw [if_neg h, List.mem_cons, List.mem_cons, ih hn.2]
      constructor
      · rintro (h1 | h1 | ⟨h1, h2⟩)
        · exact .inr ⟨.inl h1, fun e => h (by rw [← e, h1]; exact beq_self_eq_true _)⟩
        · exact .inl h1
        · exact .inr ⟨.inr h1, h2⟩
      · rintro (h1 | ⟨h1 | h1, h2⟩)
        · exact .inr (.inl h1)
        · exact .inl h1
        · exact .inr (.inr ⟨h1, h2⟩)
theorem setK_keys {a : Key} {v : Value} : ∀ {l : List (Key × Value)}, (setK l a v).map (·.1) = if a ∈ l.map (·.1) then l.map (·.1) else l.map (·.1) ++ [a] := by
  intro l
  induction l with
  | nil => rfl
  | cons q l ih =>
    obtain ⟨k, u⟩ := q
    show (if a == k then (k, v) :: l else (k, u) :: setK l a v).map (·.1) = _
    by_cases h : (a == k) = true
    · rw [if_pos h]
      obtain rfl : a = k := eq_of_beq h
      simp
    · have hne : a ≠ k := fun e => h (by rw [e]; exact beq_self_eq_true _)
      rw [if_neg h, List.map_cons, ih, List.map_cons]
      by_cases h2 : a ∈ l.map (·.1)
      · rw [if_pos h2, if_pos (List.mem_cons_of_mem _ h2)]
      · rw [if_neg h2, if_neg (by rw [List.mem_cons]; rintro (e | e); exact hne e; exact h2 e)]
        rfl
theorem setK_nd {a : Key} {v : Value} {l : List (Key × Value)} (h : (l.map (·.1)).Nodup) : ((setK l a v).map (·.1)).Nodup := by
  rw [setK_keys]
  split
  · exact h
  · rename_i hn
    rw [List.nodup_append]
    exact ⟨h, by simp, fun x hx y hy => by rw [List.mem_singleton] at hy; subst hy; rintro rfl; exact hn hx⟩
theorem getK_set {a : Key} {v : Value} {l : List (Key × Value)} (h : (l.map (·.1)).Nodup) (q : Key) : getK (setK l a v) q = if q = a then some v else getK l q := by
  by_cases hq : q = a
  · subst hq
    rw [if_pos rfl]
    exact getK_of (setK_nd h) ((setK_mem h _).2 (.inl rfl))
  · rw [if_neg hq]
    cases hg : getK l q with
    | none =>
      rw [getK_none] at hg ⊢
      intro p hp
      rcases (setK_mem h p).1 hp with rfl | ⟨h1, _⟩
      · exact fun e => hq e.symm
      · exact hg p h1
    | some u => exact getK_of (setK_nd h) ((setK_mem h _).2 (.inr ⟨getK_mem hg, hq⟩))
theorem SE.sub {b : Nat} {E : List (Key × Value)} {k : Key} {g : Nat} (h : SE b E (some k) g) : SE b E none g := by
  rcases h with h | ⟨p, hp, _, hg⟩
  · exact .inl h
  · exact .inr ⟨p, hp, by simp, hg⟩
abbrev rowT (l : List ByteArray) : List (List SV) := l.map fun s => [SV.s s]
end Go.Sy

/-
  SYMBOLIC STATES, over any program, part 57: a row of such a map taken into the symbolic heap; what the map tells.
-/
namespace Go.Sy
open Go.RowKit

section
variable {c0 cx : Cx} {P : Program} {fn : Func} {lo : Nat} {T : Tab} {k : List It} {tm : List (Nat × SV)} {hp : List (Nat × Blk)} {nx : Nat} {all : Array Oper} {rest : List Oper} {d : Nat} {ty : TypeId} {pos : String} {after : Array Edge} {S : Nat → Prop}
abbrev nilV : Value := .slice none 0 0

/-- The row at a key, in the symbolic heap. -/
theorem AWP.takeK {te : TypeId} {b : Nat} {E : List (Key × Value)} {c : Key → List ByteArray} (m : MapCx c0 cx (SE b E none)) (e : Env cx P fn lo) (hW : WMap te cx.w0 b E c none) (q : Key)
    (g : ∀ cx2 C pre, MapCx c0 cx2 (SE b E (some q)) → Env cx2 P fn (Nat.succ nx) → cx2.Post = cx.Post → WMap te cx2.w0 b E c (some q) →
      (∀ μ ok h n w, HInv cx2 μ ok h n w → Den μ ok w (.own nx 1 pre.length (c q).length C) ((getK E q).getD nilV)) →
      AWP cx2 k ⟨tm, (nx, .row te false 1 (rowT (pre ++ c q)) C) :: hp, Nat.succ nx⟩) : AWP cx k ⟨tm, hp, nx⟩ := fun a w hi => by
  obtain ⟨μ, ok, hi⟩ := hi.one
  have H := hi.heap
  have H0 := m.back _ _ _ _ _ H
  have hnx : μ nx = none := H.fresh nx (Nat.le_refl _)
  have hsame : ∀ s, SE b E none s → w.heap[s]? = cx.w0.heap[s]? := fun s hs => (m.free H hs).2.2.1
  have hb0 : w.heap[b]? = some (mpK E) := (hsame b (.inl rfl)).trans hW.obj
  have hgo : ∀ (μ' : Nat → Option Nat) (C : Nat) (pre : List ByteArray), (∀ i s, μ i = some s → μ' i = some s) → (∀ i, i ≠ nx → μ' i = μ i) →
      ((pre ++ c q = [] ∧ C = 0 ∧ μ' nx = none) ∨ ∃ s, μ' nx = some s ∧ SE b E none s ∧ ¬ SE b E (some q) s ∧ DenB μ' ok w s (.row te false 1 (rowT (pre ++ c q)) C)) →
      (∀ μ2 ok2 h n w2, HInv (cx.at' μ' ok ((nx, .row te false 1 (rowT (pre ++ c q)) C) :: hp) w) μ2 ok2 h n w2 → Den μ2 ok2 w2 (.own nx 1 pre.length (c q).length C) ((getK E q).getD nilV)) →
      K cx.P cx.R k .normal a w := by
    intro μ' C pre h1 h2 h3 h4
    have hfr : ∀ i, Nat.succ nx ≤ i → μ' i = none := fun i h => (h2 i (Nat.ne_of_gt h)).trans (H.fresh i (Nat.le_of_succ_le h))
    have hold : ∀ i B, i ≠ nx → aget i ((nx, Blk.row te false 1 (rowT (pre ++ c q)) C) :: hp) = some B → aget i hp = some B := fun i B hne h => by rwa [aget_cons, if_neg hne] at h
    obtain ⟨k1, k2⟩ := m.anew2 (μ' := μ') (ok' := ok) (hp' := (nx, .row te false 1 (rowT (pre ++ c q)) C) :: hp) (nx' := Nat.succ nx) (S' := SE b E (some q)) H (Nat.le_refl _) rfl rfl rfl (fun _ _ _ => rfl) h1 hfr (fun _ h => h) (fun s hs => ⟨H.lt s hs, .inl hs⟩)
      (fun i B hB => by
        by_cases hne : i = nx
        · subst hne
          rw [aget_cons, if_pos rfl] at hB
          cases hB
          rcases h3 with ⟨g1, g2, g3⟩ | ⟨s, g1, g2, _, g4⟩
          · left
            refine ⟨?_, g3⟩
            rw [g1, g2]
            exact True.intro
          · obtain ⟨f1, _, _, f4⟩ := m.free H g2
            exact .inr ⟨s, g1, f4, f1, (m.keep s g2).2.2.2, g4⟩
        · have hB := hold i B hne hB
          rcases H0.own i B hB with ⟨g1, g2⟩ | ⟨s, g1, g2, g3, g4, g5⟩
          · exact .inl ⟨g1, (h2 i hne).trans g2⟩
          · exact .inr ⟨s, h1 i s g1, g2, g3, g4, g5.mono h1 (fun _ h => h) (fun _ _ => rfl) rfl⟩)
      (fun i j B C' s hB hC hi2 hj2 => by
        have own1 : ∀ j' C'', j' ≠ nx → aget j' ((nx, Blk.row te false 1 (rowT (pre ++ c q)) C) :: hp) = some C'' → μ' j' = some s → μ' nx ≠ some s := fun j' C'' hne hC'' hj' hnx' => by
          rcases h3 with ⟨_, _, g3⟩ | ⟨s', g1, g2, _, _⟩
          · rw [g3] at hnx'; cases hnx'
          · rw [g1] at hnx'; cases hnx'
            exact (m.free H g2).2.1 j' C'' (hold j' C'' hne hC'') ((h2 j' hne).symm.trans hj')
        by_cases hi3 : i = nx
        · by_cases hj3 : j = nx
          · omega
          · exact absurd (hi3 ▸ hi2) (own1 j C' hj3 hC hj2)
        · by_cases hj3 : j = nx
          · exact absurd (hj3 ▸ hj2) (own1 i B hi3 hB hi2)
          · exact H.inj i j B C' s (hold i B hi3 hB) (hold j C' hj3 hC) ((h2 i hi3).symm.trans hi2) ((h2 j hj3).symm.trans hj2))
      (fun s hs => by
        obtain ⟨f1, f2, _, f4⟩ := m.free H hs.sub
        refine ⟨f4, f1, fun i B hB hm => ?_, (m.keep s hs.sub).2.2.2⟩
        by_cases hne : i = nx
        · subst hne
          rcases h3 with ⟨_, _, g3⟩ | ⟨s', g1, _, g3, _⟩
          · rw [g3] at hm; cases hm
          · rw [g1] at hm; cases hm; exact g3 hs
        · exact f2 i B (hold i B hne hB) ((h2 i hne).symm.trans hm))
    have hE := m.env2 e k1 hfr
    have hW2 : WMap te (cx.at' μ' ok ((nx, .row te false 1 (rowT (pre ++ c q)) C) :: hp) w).w0 b E c (some q) :=
      ⟨hb0, hW.nd, fun p hp' _ => (hW.rows p hp' (by simp)).same fun s hs => hsame s (.inr ⟨p, hp', by simp, hs⟩), hW.out, hW.apart⟩
    have := g _ C pre k1 hE rfl hW2 h4
    exact K_eqR rfl rfl (this a w (Inv1.inv (μ := μ') (ok := ok) ⟨hi.defers, hi.size, k2, fun t x hx => (hi.tmps t x hx).mono h1 (fun _ h => h) (fun _ _ => rfl)⟩))
  -- the row's two forms
  have hrow : RowV te w ((getK E q).getD nilV) (c q) ∧ ∀ s, rowB ((getK E q).getD nilV) = some s → SE b E none s ∧ ¬ SE b E (some q) s := by
    cases hg : getK E q with
    | none =>
      refine ⟨.inl ⟨none, rfl, hW.out q hg⟩, fun s hs => ?_⟩
      cases hs
    | some v =>
      have hm := getK_mem hg
      have hr := hW.rows _ hm (by simp)
      refine ⟨hr.same fun s hs => hsame s (.inr ⟨_, hm, by simp, hs⟩), fun s hs => ⟨.inr ⟨_, hm, by simp, hs⟩, ?_⟩⟩
      rintro (h | ⟨p, hp', hne, hps⟩)
      · obtain ⟨cs, hcs⟩ := hr.cells hs
        rw [h, hW.obj] at hcs
        cases hcs
      · exact hW.apart _ hm p hp' (fun h => hne (by rw [← h])) s hs hps
  obtain ⟨hrow, hblk⟩ := hrow
  rcases hrow with ⟨a0, hv, hc⟩ | ⟨s, pre, C, cs, hv, g1, g2, g3, g4, g5, g6⟩
  · refine hgo μ 0 [] (fun _ _ h => h) (fun _ _ => rfl) (.inl ⟨by simp [hc], rfl, hnx⟩) fun μ2 ok2 h n w2 _ => ?_
    rw [hv, hc]
    exact .ownNil _ _ _ _
  · have hrb : rowB ((getK E q).getD nilV) = some s := by
      rw [hv]
      show (if C - pre.length = 0 then none else some s) = some s
      rw [if_neg (by omega)]
    obtain ⟨b1, b2⟩ := hblk s hrb
    have hup : ∀ i s', μ i = some s' → upd μ nx s i = some s' := fun i s' h => by
      show (if i = nx then some s else μ i) = some s'
      rw [if_neg (fun h' => by rw [h', hnx] at h; cases h)]
      exact h
    refine hgo (upd μ nx s) C pre hup (fun i hne => if_neg hne) (.inr ⟨s, if_pos rfl, b1, b2, ?_⟩) fun μ2 ok2 h n w2 H2 => ?_
    · refine ⟨cs, (0, 0), g2, fun _ => rfl, fun j _ hj => by omega, by omega, by simp; omega, fun i el he => ?_, fun i el j x u he hj hu => ?_⟩
      · rw [List.getElem?_map] at he
        cases hz : (pre ++ c q)[i]? with
        | none => rw [hz] at he; cases he
        | some z => rw [hz] at he; cases he; rfl
      · rw [List.getElem?_map] at he
        cases hz : (pre ++ c q)[i]? with
        | none => rw [hz] at he; cases he
        | some z =>
          rw [hz] at he
          cases he
          cases j with
          | succ j => simp at hj
          | zero =>
            cases hj
            have hil : i < pre.length + (c q).length := by
              have := (List.getElem?_eq_some_iff.1 hz).1
              simpa using this
            have h1 : (cs.toList.take (pre.length + (c q).length))[i]? = some (Value.string z) := by rw [g6, List.getElem?_map, hz]; rfl
            rw [List.getElem?_take, if_pos hil, Array.getElem?_toList] at h1
            rw [Nat.mul_one, Nat.add_zero, h1] at hu
            cases hu
            exact .d (.v _)
    · rw [hv]
      have hm2 : μ2 nx = some s := H2.mu nx s (if_pos rfl)
      have := Den.own (μ := μ2) (ok := ok2) (w := w2) (id := nx) (k := 1) (lo := pre.length) (n := (c q).length) (C := C) (b := s) hm2 g4 g5
      rwa [Nat.mul_one] at this

/-- What the map tells at a key, in whatever form. -/
theorem AWP.lookupX (m : MapCx c0 cx S) (e : Env cx P fn lo) {t kt et : TypeId} {x ix : Operand} {b : Nat} {E : List (Key × Value)} {q : Key} {z : Value} {sv : SV} (hb : S b) (ho : cx.w0.heap[b]? = some (mpK E)) (ht : P.underlying t = some (.map kt et)) (hk : KeyOk P kt) (hz : ∀ w, (zeroValue et).run P w = .ok z w)
    (hd : Nat.blt d fn.ntmps = true) (h1 : opd ⟨tm, hp, nx⟩ x = some (.d (.v (.map (some b))))) (h2 : opd ⟨tm, hp, nx⟩ ix = some (.agg [.i q.1, .i q.2])) (hx : ∀ μ ok h n w, HInv cx μ ok h n w → Den μ ok w sv ((getK E q).getD z))
    (g : AWP cx (.ops all rest :: k) ⟨(d, sv) :: tm, hp, nx⟩) : AWP cx (.ops all (⟨some d, .lookup t x ix false, ty, pos, after, none⟩ :: rest) :: k) ⟨tm, hp, nx⟩ := by
  refine AWP.op_run e (Nat.le_of_ble_eq_true hd) (fun μ ok s w hI => ⟨(getK E q).getD z, ?_, hx μ ok _ _ w hI.heap⟩) g
  have e1 := (opd_den hI.tmps h1).vv
  have e2 : s.eval ix = keyV q := by
    have := opd_den hI.tmps h2
    generalize s.eval ix = u at this
    cases this with
    | agg vs g1 g2 =>
      have h4 : vs.size = 2 := g1
      have k0 := (g2 0 (.i q.1) vs[0] rfl (by simp [h4])).vv
      have k1 := (g2 1 (.i q.2) vs[1] rfl (by simp [h4])).vv
      unfold keyV
      congr 1
      apply Array.ext
      · exact g1
      · intro j h5 h6
        have : j = 0 ∨ j = 1 := by omega
        rcases this with rfl | rfl
        · exact k0
        · exact k1
  have hx' : execOp s.eval ⟨some d, .lookup t x ix false, ty, pos, after, none⟩ = (do pure (.value (← Instr.lookup t (s.eval x) (s.eval ix) false))) := rfl
  rw [hx', e1, e2, Sem.run_bind, run_lookupK ht hk (hz w) ((m.free hI.heap hb).2.2.1.trans ho)]
  rfl
theorem VStep.lookupX (m : MapCx c0 cx S) (e : Env cx P fn lo) {t kt et : TypeId} {x ix : Operand} {b : Nat} {E : List (Key × Value)} {q : Key} {z : Value} {sv : SV} (hb : S b) (ho : cx.w0.heap[b]? = some (mpK E)) (ht : P.underlying t = some (.map kt et)) (hk : KeyOk P kt) (hz : ∀ w, (zeroValue et).run P w = .ok z w)
    (hd : Nat.blt d fn.ntmps = true) (h1 : opd ⟨tm, hp, nx⟩ x = some (.d (.v (.map (some b))))) (h2 : opd ⟨tm, hp, nx⟩ ix = some (.agg [.i q.1, .i q.2])) (hx : ∀ μ ok h n w, HInv cx μ ok h n w → Den μ ok w sv ((getK E q).getD z)) :
    VStep cx all hp nx ⟨some d, .lookup t x ix false, ty, pos, after, none⟩ tm d sv := by
  intro tm' k ha g
  exact AWP.lookupX m e hb ho ht hk hz hd ((opd_eq fun u hu => ha u (looks_ops (by simp [Op.operands]) hu)).trans h1) ((opd_eq fun u hu => ha u (looks_ops (by simp [Op.operands]) hu)).trans h2) hx g
end
end Go.Sy

/-
  SYMBOLIC STATES, over any program, part 58: a region that draws its order, whose last operation waits for all others.
-/
namespace Go.Sy
open Go.RowKit

/-- The last operation waits for all others, and none looks ahead. -/
def tailOk (all : Array Oper) (N : Nat) : Bool :=
  ((List.range (N + 1)).all fun j => match all[j]? with
    | some o => (o.after.toList.all fun e => !bindsA e || Nat.blt e.on j) && (match o.guard with | some (g, _) => Nat.blt g N | none => true)
    | none => true) &&
  ((List.range N).all fun i => (List.range (N + 1)).any fun j => Nat.blt i j && (match all[j]? with
    | some o => o.after.toList.any fun e => bindsA e && Nat.beq e.on i
    | none => false))

structure TailOk (all : Array Oper) (N : Nat) : Prop where
  back : ∀ j o, j ≤ N → all[j]? = some o → ∀ e ∈ o.after.toList, Region.binds .any e = true → e.on < j
  guard : ∀ j o g b, j ≤ N → all[j]? = some o → o.guard = some (g, b) → g < N
  sink : ∀ i, i < N → ∃ j o, i < j ∧ j ≤ N ∧ all[j]? = some o ∧ ∃ e ∈ o.after.toList, Region.binds .any e = true ∧ e.on = i
theorem tailOk_ok {all : Array Oper} {N : Nat} (h : tailOk all N = true) : TailOk all N := by
  unfold tailOk at h
  rw [Bool.and_eq_true] at h
  obtain ⟨h1, h2⟩ := h
  rw [List.all_eq_true] at h1 h2
  refine ⟨fun j o hj ho e he hb => ?_, fun j o g b hj ho hg => ?_, fun i hi => ?_⟩
  · have := h1 j (List.mem_range.2 (by omega))
    rw [ho] at this
    simp only [Bool.and_eq_true, List.all_eq_true] at this
    have := this.1 e he
    rw [bindsA_eq] at hb
    rw [hb] at this
    simpa using this
  · have := h1 j (List.mem_range.2 (by omega))
    rw [ho] at this
    simp only [Bool.and_eq_true, hg] at this
    exact Nat.le_of_ble_eq_true this.2
  · have := h2 i (List.mem_range.2 hi)
    rw [List.any_eq_true] at this
    obtain ⟨j, hj, h3⟩ := this
    rw [Bool.and_eq_true] at h3
    obtain ⟨h3, h4⟩ := h3
    cases ho : all[j]? with
    | none => rw [ho] at h4; cases h4
    | some o =>
      rw [ho] at h4
      simp only [List.any_eq_true, Bool.and_eq_true] at h4
      obtain ⟨e, he, h5, h6⟩ := h4
      exact ⟨j, o, Nat.le_of_ble_eq_true h3, by have := List.mem_range.1 hj; omega, ho, e, he, by rw [bindsA_eq]; exact h5, Nat.eq_of_beq_eq_true h6⟩

structure Rl (ops : Array Oper) (listed : Array Bool) (l : List Nat) : Prop where
  size : listed.size = ops.size
  mem : ∀ i, i < ops.size → (listed.getD i true = true ↔ i ∈ l)
  lt : ∀ i ∈ l, i < ops.size
theorem Rl.set {ops : Array Oper} {listed : Array Bool} {l : List Nat} (h : Rl ops listed l) {i : Nat} (hi : i < ops.size) : Rl ops (listed.setIfInBounds i true) (i :: l) := by
  refine ⟨by simpa using h.size, fun q hq => ?_, fun q hq => ?_⟩
  · by_cases e : q = i
    · subst e; simp [h.size, hq]
    · have e' : ¬ i = q := fun h => e h.symm
      have := h.mem q hq
      simp only [Array.getD_eq_getD_getElem?] at this ⊢
      rw [Array.getElem?_setIfInBounds_ne e', this]
      simp [e]
  · rcases List.mem_cons.1 hq with rfl | hq
    · exact hi
    · exact h.lt q hq
theorem Rl.ready {ops : Array Oper} {listed : Array Bool} {l : List Nat} (h : Rl ops listed l) {i : Nat} : i ∈ Region.ready .any ops listed ↔ ∃ o, ops[i]? = some o ∧ i ∉ l ∧ ∀ e ∈ o.after.toList, Region.binds .any e = true → e.on ∈ l := by
  rw [ready_rdy h.size h.mem h.lt, rdy_iff]
  simp only [Nat.zero_le, Nat.sub_zero, true_and, Array.getElem?_toList]

section
variable {P : Program} {R : Exit → Act → World → Prop} {k : List It} {front all : Array Oper} {z : Oper}
theorem yielded_push {a : Act} {g : Nat} (hall : all = front.push z) (hg : g < front.size) : yielded all a.tmps g = yielded front a.tmps g := by
  unfold yielded
  rw [hall, Array.getElem?_push_lt hg, Array.getElem?_eq_getElem hg]
theorem wpAny_tail (hall : all = front.push z) (hz : z.guard = none) (hc : TailOk all front.size) :
    ∀ (n : Nat) (l : List Nat) (listed listed' : Array Bool) (a : Act) (w : World), Rl front listed l → Rl all listed' l → Closed all l → l.Nodup → l.length + n = front.size →
      wpAny P .any front (K P R (.ops all [z] :: k)) n listed a w → wpAny P .any all (K P R k) (n + 1) listed' a w := by
  have hsz : all.size = front.size + 1 := by rw [hall]; simp
  have hN : all[front.size]? = some z := by rw [hall]; simp
  have hlow : ∀ i, i < front.size → all[i]? = front[i]? := fun i hi => by rw [hall, Array.getElem?_push_lt hi, Array.getElem?_eq_getElem hi]
  intro n
  induction n with
  | zero =>
    intro l listed listed' a w r1 r2 hcl hnd hlen h
    have hin : ∀ i, i < front.size → i ∈ l := full_of hnd r1.lt (by omega)
    have hq : wpList P all (K P R k) [z] a w := h.2
    have hno : ∀ i, i ∈ l → i < front.size := r1.lt
    have hNr : front.size ∈ Region.ready .any all listed' := r2.ready.2 ⟨z, hN, fun hm => absurd (hno _ hm) (by omega), fun e he hb => hin _ (hc.back _ _ (Nat.le_refl _) hN e he hb)⟩
    refine ⟨fun h0 => (by rw [h0] at hNr; cases hNr), fun i hi => ?_⟩
    obtain ⟨o, ho, hni, _⟩ := r2.ready.1 hi
    have hieq : i = front.size := by
      have h1 := (Array.getElem?_eq_some_iff.1 ho).1
      rcases Nat.lt_or_ge i front.size with h2 | h2
      · exact absurd (hin i h2) hni
      · omega
    subst hieq
    rw [hN] at ho
    cases ho
    have hdone : ∀ a w, K P R k .normal a w → wpAny P .any all (K P R k) 0 (listed'.setIfInBounds front.size true) a w := fun a w hk => by
      refine ⟨?_, hk⟩
      have r3 := r2.set (i := front.size) (by omega)
      refine List.eq_nil_iff_forall_not_mem.2 fun j hj => ?_
      obtain ⟨oj, hoj, hnj, _⟩ := r3.ready.1 hj
      have h1 := (Array.getElem?_eq_some_iff.1 hoj).1
      rcases Nat.lt_or_ge j front.size with h2 | h2
      · exact hnj (List.mem_cons_of_mem _ (hin j h2))
      · exact hnj (by rw [show j = front.size by omega]; exact List.mem_cons_self)
    unfold wpOp
    rw [hN]
    have hwant : Region.wanted z (yielded all a.tmps) = true := by simp [Region.wanted, hz]
    unfold wpList at hq
    rw [if_pos hwant] at hq
    simp only
    rw [if_pos hwant]
    exact hq.imp (Oper.wp_mono fun a w hk => hdone a w hk) id
  | succ n ih =>
    intro l listed listed' a w r1 r2 hcl hnd hlen h
    have hex : ∃ i, i < front.size ∧ i ∉ l := by
      refine Classical.byContradiction fun hno => ?_
      have hsub : List.range front.size ⊆ l := fun j hj => Classical.byContradiction fun hjl => hno ⟨j, by simpa using hj, hjl⟩
      have := nodup_len _ _ List.nodup_range hsub
      simp at this
      omega
    -- the least that is not done is ready
    obtain ⟨i0, hi0, hmin⟩ : ∃ i, (i < front.size ∧ i ∉ l) ∧ ∀ j, (j < front.size ∧ j ∉ l) → i ≤ j := by
      obtain ⟨i, hi⟩ := hex
      exact exists_min _ i hi
    have hrdy : i0 ∈ Region.ready .any all listed' := by
      obtain ⟨o, ho⟩ : ∃ o, all[i0]? = some o := ⟨all[i0]'(by omega), by simp [show i0 < all.size by omega]⟩
      refine r2.ready.2 ⟨o, ho, hi0.2, fun e he hb => ?_⟩
      have h1 := hc.back i0 o (by omega) ho e he hb
      refine Classical.byContradiction fun h2 => ?_
      have := hmin e.on ⟨by omega, h2⟩
      omega
    -- the last is not
    have hlast : front.size ∉ Region.ready .any all listed' := by
      intro hr
      have key : ∀ d i, front.size - i = d → i < front.size → i ∈ l := by
        intro d
        induction d using Nat.strongRecOn with
        | _ d ihd =>
          intro i hd hi
          obtain ⟨j, o, h1, h2, h3, e, he, hb, heq⟩ := hc.sink i hi
          rcases Nat.lt_or_ge j front.size with h4 | h4
          · have := hcl j (ihd (front.size - j) (by omega) j rfl h4) o h3 e he hb
            rw [heq] at this; exact this
          · obtain rfl : j = front.size := by omega
            obtain ⟨o', ho', _, h5⟩ := r2.ready.1 hr
            rw [h3] at ho'
            cases ho'
            have := h5 e he hb
            rw [heq] at this; exact this
      obtain ⟨i, hi, hni⟩ := hex
      exact hni (key _ i rfl hi)
    refine ⟨fun h0 => (by rw [h0] at hrdy; cases hrdy), fun i hi => ?_⟩
    obtain ⟨o, ho, hni, haft⟩ := r2.ready.1 hi
    have hilt : i < front.size := by
      have h1 := (Array.getElem?_eq_some_iff.1 ho).1
      rcases Nat.lt_or_ge i front.size with h2 | h2
      · exact h2
      · exact absurd (by rwa [show front.size = i by omega]) hlast
    have hof : front[i]? = some o := (hlow i hilt).symm.trans ho
    have hif : i ∈ Region.ready .any front listed := r1.ready.2 ⟨o, hof, hni, haft⟩
    have hst := h.2 i hif
    have hnext : ∀ a w, wpAny P .any front (K P R (.ops all [z] :: k)) n (listed.setIfInBounds i true) a w → wpAny P .any all (K P R k) (n + 1) (listed'.setIfInBounds i true) a w := fun a w hh => by
      refine ih (i :: l) _ _ a w (r1.set hilt) (r2.set (by omega)) (fun j hj oj hoj e he hb => ?_) (List.nodup_cons.2 ⟨hni, hnd⟩) (by simp; omega) hh
      rcases List.mem_cons.1 hj with rfl | hj
      · rw [ho] at hoj; cases hoj; exact List.mem_cons_of_mem _ (haft e he hb)
      · exact List.mem_cons_of_mem _ (hcl j hj oj hoj e he hb)
    have hwant : Region.wanted o (yielded all a.tmps) = Region.wanted o (yielded front a.tmps) := by
      unfold Region.wanted
      cases hg : o.guard with
      | none => rfl
      | some p =>
        obtain ⟨g, b⟩ := p
        simp only
        rw [yielded_push hall (hc.guard i o g b (by omega) ho hg)]
    unfold wpOp at hst ⊢
    rw [ho]
    rw [hof] at hst
    simp only at hst ⊢
    rw [hwant]
    split
    · rename_i hw
      rw [if_pos hw] at hst
      rcases hst with hst | ⟨h1, a0, w0, h2⟩
      · exact .inl (Oper.wp_mono hnext (upon_congrQ (Q := K P R (.ops all [z] :: k)) (fun _ _ _ h => h) (fun _ _ h => h) hst))
      · exact .inr ⟨h1, a0, w0, h2⟩
    · rename_i hw
      rw [if_neg hw] at hst
      exact hnext _ _ hst
end

section
variable {c0 cx : Cx} {P : Program} {fn : Func} {lo M : Nat} {T : Tab} {k : List It} {tm : List (Nat × SV)} {hp : List (Nat × Blk)} {nx : Nat} {all front : Array Oper} {id : Nat} {z : Oper}
/-- A region that draws its order, whose last operation waits for all others: the others, then the last. -/
theorem AWP.drgT (M : Nat) (front : Array Oper) (z : Oper) (hall : all = front.push z) (hz : z.guard = none) (hc : tailOk all front.size = true) (h : DrG cx front id (.ops all [z] :: k) tm hp nx M 0 front.toList []) : AWP cx (.code (.region id all true) :: k) ⟨tm, hp, nx⟩ := fun a w hi => by
  obtain ⟨hm, h⟩ := h ⟨.nil, rfl⟩
  refine wp_region_any hm ?_
  have hsz : all.size = front.size + 1 := by rw [hall]; simp
  rw [hsz]
  refine wpAny_tail hall hz (tailOk_ok hc) front.size [] (Array.replicate front.size false) (Array.replicate (front.size + 1) false) a _ ⟨by simp, fun i hi => by simp [hi], by simp⟩ ⟨by simp [hsz], fun i hi => by simp [show i < front.size + 1 by omega], by simp⟩ (fun i hi => by cases hi) List.nodup_nil (by simp) ?_
  refine h (Array.replicate front.size false) a _ (by simp) (fun i hi => by simp [hi]) (by simp) ?_
  obtain ⟨μ, ok, hi⟩ := hi.one
  exact hi.drew.inv
theorem AWP.drgP (M : Nat) {z : Oper} (hz : all.back? = some z) (hg : z.guard = none) (hc : tailOk all all.pop.size = true) (h : DrG cx all.pop id (.ops all [z] :: k) tm hp nx M 0 all.pop.toList []) : AWP cx (.code (.region id all true) :: k) ⟨tm, hp, nx⟩ := by
  refine AWP.drgT M all.pop z ?_ hg hc h
  apply Array.ext'
  rw [Array.toList_push, Array.toList_pop]
  rw [← Array.getLast?_toList] at hz
  obtain ⟨ys, h⟩ := List.getLast?_eq_some_iff.1 hz
  rw [h]
  simp
/-- A region that draws its order, rows growing, whose last operation waits for all others. -/
theorem AWP.drcT (M : Nat) (front : Array Oper) (z : Oper) (hall : all = front.push z) (hz : z.guard = none) (hc : tailOk all front.size = true) (h : DrC cx front id (.ops all [z] :: k) tm hp nx M 0 front.toList fun _ => []) : AWP cx (.code (.region id all true) :: k) ⟨tm, hp, nx⟩ := fun a w hi => by
  obtain ⟨hm, h⟩ := h ⟨.nil, rfl⟩
  refine wp_region_any hm ?_
  have hsz : all.size = front.size + 1 := by rw [hall]; simp
  rw [hsz]
  refine wpAny_tail hall hz (tailOk_ok hc) front.size [] (Array.replicate front.size false) (Array.replicate (front.size + 1) false) a _ ⟨by simp, fun i hi => by simp [hi], by simp⟩ ⟨by simp [hsz], fun i hi => by simp [show i < front.size + 1 by omega], by simp⟩ (fun i hi => by cases hi) List.nodup_nil (by simp) ?_
  refine h (Array.replicate front.size false) a _ (by simp) (fun i hi => by simp [hi]) (by simp) ?_
  obtain ⟨μ, ok, hi⟩ := hi.one
  exact hi.drew.inv
theorem AWP.drcP (M : Nat) {z : Oper} (hz : all.back? = some z) (hg : z.guard = none) (hc : tailOk all all.pop.size = true) (h : DrC cx all.pop id (.ops all [z] :: k) tm hp nx M 0 all.pop.toList fun _ => []) : AWP cx (.code (.region id all true) :: k) ⟨tm, hp, nx⟩ := by
  refine AWP.drcT M all.pop z ?_ hg hc h
  apply Array.ext'
  rw [Array.toList_push, Array.toList_pop]
  rw [← Array.getLast?_toList] at hz
  obtain ⟨ys, h⟩ := List.getLast?_eq_some_iff.1 hz
  rw [h]
  simp
end
end Go.Sy

/-
  SYMBOLIC STATES, over any program, part 59: a map of rows of texts: a row given back to it; its entries turned.
-/
namespace Go.Sy
open Go.RowKit

section
variable {c0 cx : Cx} {P : Program} {fn : Func} {lo : Nat} {T : Tab} {k : List It} {tm : List (Nat × SV)} {hp : List (Nat × Blk)} {nx : Nat} {all : Array Oper} {rest : List Oper} {d : Nat} {ty : TypeId} {pos : String} {after : Array Edge} {S : Nat → Prop}

/-- A row that is owned, as the map would bear it. -/
theorem row_RowV {μ : Nat → Option Nat} {ok : Nat → Prop} {w : World} (H : HInv c0 μ ok hp nx w) {te : TypeId} {id C : Nat} {pre its : List ByteArray} {v : Value} (hrow : aget id hp = some (.row te false 1 (rowT (pre ++ its)) C)) (hv : Den μ ok w (.own id 1 pre.length its.length C) v) :
    RowV te w v its ∧ ∀ s, rowB v = some s → μ id = some s := by
  generalize hn : its.length = n at hv
  generalize hl : pre.length = l at hv
  cases hv with
  | ownNil a _ _ _ => exact ⟨.inl ⟨a, rfl, List.eq_nil_of_length_eq_zero hn⟩, fun s hs => by cases a <;> simp [rowB] at hs⟩
  | own hb h1 h2 =>
    rename_i b
    by_cases hC : l < C
    · refine ⟨.inr ?_, fun s hs => ?_⟩
      · obtain ⟨_, hn'⟩ | ⟨b', q1, _, _, _, hB⟩ := H.own id _ hrow
        · rw [hn'] at hb; cases hb
        rw [hb] at q1
        cases q1
        obtain ⟨cs, z, c1, c2, _, c4, c5, c6, c7⟩ := hB
        have hz := c2 rfl
        subst hz
        refine ⟨b, pre, C, cs, by rw [Nat.mul_one, hl, hn], by omega, c1, by omega, by omega, h2, ?_⟩
        apply List.ext_getElem?
        intro i
        rw [List.getElem?_take, List.getElem?_map]
        by_cases hi : i < pre.length + its.length
        · rw [if_pos hi, Array.getElem?_toList]
          have hi2 : i < (pre ++ its).length := by simpa using hi
          rw [List.getElem?_eq_getElem hi2]
          have hcs : i < cs.size := by omega
          have he : (rowT (pre ++ its))[i]? = some [SV.s (pre ++ its)[i]] := by rw [List.getElem?_map, List.getElem?_eq_getElem hi2]; rfl
          have hd := c7 i _ 0 _ cs[i] he rfl (by rw [Nat.mul_one, Nat.add_zero]; simp [hcs])
          rw [Array.getElem?_eq_getElem hcs, hd.vv]
          rfl
        · rw [if_neg hi, List.getElem?_eq_none (by simpa using hi)]
          rfl
      · have : (if C - l = 0 then none else some b) = some s := hs
        rw [if_neg (by omega)] at this
        rw [← this]; exact hb
    · have : n = 0 := by omega
      subst this
      have : C - l = 0 := by omega
      rw [this]
      exact ⟨.inl ⟨_, rfl, List.eq_nil_of_length_eq_zero hn⟩, fun s hs => by simp [rowB] at hs⟩

/-- The map with a value at a key. -/
theorem MapCx.store {te : TypeId} {b : Nat} {E : List (Key × Value)} {c : Key → List ByteArray} {k0 : Option Key} (m : MapCx c0 cx (SE b E k0)) (e : Env cx P fn lo) (hW : WMap te cx.w0 b E c k0) {q : Key} (hk0 : k0 = none ∨ k0 = some q) {μ : Nat → Option Nat} {ok : Nat → Prop} {a : Act} {w : World} (hi : Inv1 cx μ ok ⟨tm, hp, nx⟩ a w)
    {v : Value} {its : List ByteArray} (hr : RowV te w v its) {hp' : List (Nat × Blk)} (hsub : ∀ i B, aget i hp' = some B → aget i hp = some B)
    (hblk : ∀ s, rowB v = some s → s < w.heap.size ∧ ¬ ok s ∧ (c0.w0.heap.size ≤ s ∨ c0.F s) ∧ ¬ SE b E k0 s ∧ ∀ i B, aget i hp' = some B → μ i ≠ some s)
    {w' : World} {E' : List (Key × Value)} (hs : w'.heap.size = w.heap.size) (ho : w'.os = w.os) (ht : w'.tape = w.tape) (hu : w'.output = w.output) (hob : w'.heap[b]? = some (mpK E')) (hoth : ∀ s, s ≠ b → w'.heap[s]? = w.heap[s]?)
    (hnd : (E'.map (·.1)).Nodup) (hmem : ∀ p ∈ E', p = (q, v) ∨ (p ∈ E ∧ p.1 ≠ q)) (hout : ∀ k, getK E' k = none → (if k = q then its else c k) = []) :
    MapCx c0 (cx.at' μ ok hp' w') (SE b E' none) ∧ Env (cx.at' μ ok hp' w') P fn nx ∧ WMap te (cx.at' μ ok hp' w').w0 b E' (fun k => if k = q then its else c k) none ∧ Inv1 (cx.at' μ ok hp' w') μ ok ⟨tm, hp', nx⟩ a w' := by
  have H := hi.heap
  have hSb : SE b E k0 b := .inl rfl
  have hSold : ∀ p ∈ E, p.1 ≠ q → ∀ s, rowB p.2 = some s → SE b E k0 s := fun p hp hne s hs => .inr ⟨p, hp, by
    rcases hk0 with h | h
    · rw [h]; simp
    · rw [h]; intro h'; exact hne (Option.some.inj h'), hs⟩
  have hne0 : ∀ p : Key × Value, p.1 ≠ q → some p.1 ≠ k0 := fun p hne h => by
    rcases hk0 with h' | h'
    · rw [h'] at h; cases h
    · rw [h'] at h; exact hne (Option.some.inj h)
  have hrb : ∀ p ∈ E, p.1 ≠ q → ∀ s, rowB p.2 = some s → s ≠ b := fun p hp hne s hs h => by
    obtain ⟨cs, hcs⟩ := (hW.rows p hp (hne0 p hne)).cells hs
    rw [h, hW.obj] at hcs
    cases hcs
  have hokS : ∀ s, ok s → w'.heap[s]? = w.heap[s]? := fun s hs => hoth s fun h => (m.free H hSb).1 (h ▸ hs)
  obtain ⟨k1, k2⟩ := m.anew2 (μ' := μ) (ok' := ok) (hp' := hp') (nx' := nx) (w' := w') (S' := SE b E' none) H (by omega) ho ht hu (fun s _ hns => hoth s fun h => hns (h ▸ hSb)) (fun _ _ h => h) H.fresh (fun _ h => h) (fun s hs' => ⟨by have := H.lt s hs'; omega, .inl hs'⟩)
    (fun i B hB => by
      have hB := hsub i B hB
      rcases (m.back _ _ _ _ _ H).own i B hB with h | ⟨s, g1, g2, g3, g4, g5⟩
      · exact .inl h
      · exact .inr ⟨s, g1, by omega, g3, g4, g5.mono (fun _ _ h => h) (fun _ h => h) hokS (hoth s fun h => (m.owned H hB g1).2.2.2.2 (h ▸ hSb))⟩)
    (fun i j B C s hB hC h1 h2 => H.inj i j B C s (hsub i B hB) (hsub j C hC) h1 h2)
    (fun s hs' => by
      rcases hs' with rfl | ⟨p, hp', _, hps⟩
      · obtain ⟨f1, f2, _, f4⟩ := m.free H hSb
        exact ⟨by omega, f1, fun i B hB => f2 i B (hsub i B hB), (m.keep _ hSb).2.2.2⟩
      · rcases hmem p hp' with rfl | ⟨h1, h2⟩
        · obtain ⟨g1, g2, g3, _, g5⟩ := hblk s hps
          exact ⟨by omega, g2, g5, g3⟩
        · have h3 := hSold p h1 h2 s hps
          obtain ⟨f1, f2, _, f4⟩ := m.free H h3
          exact ⟨by omega, f1, fun i B hB => f2 i B (hsub i B hB), (m.keep _ h3).2.2.2⟩)
  refine ⟨k1, m.env2 e k1 H.fresh, ⟨hob, hnd, fun p hp' _ => ?_, hout, fun p hp1 p2 hp2 hne s h1 h2 => ?_⟩, hi.defers, hi.size, k2, fun t x hx => (hi.tmps t x hx).mono (fun _ _ h => h) (fun _ h => h) hokS⟩
  · rcases hmem p hp' with rfl | ⟨h1, h2⟩
    · rw [if_pos rfl]
      exact hr.same fun s hs' => hoth s fun h => (hblk s hs').2.2.2.1 (h ▸ hSb)
    · rw [if_neg h2]
      exact (hW.rows p h1 (hne0 p h2)).same fun s hs' => (hoth s (hrb p h1 h2 s hs')).trans (m.free H (hSold p h1 h2 s hs')).2.2.1
  · rcases hmem p hp1 with rfl | ⟨h3, h4⟩ <;> rcases hmem p2 hp2 with rfl | ⟨h5, h6⟩
    · exact hne rfl
    · exact (hblk s h1).2.2.2.1 (hSold p2 h5 h6 s h2)
    · exact (hblk s h2).2.2.2.1 (hSold p h3 h4 s h1)
    · exact hW.apart p h3 p2 h5 hne s h1 h2

theorem key_den {μ : Nat → Option Nat} {ok : Nat → Prop} {w : World} {q : Key} {u : Value} (h : Den μ ok w (.agg [.i q.1, .i q.2]) u) : u = keyV q := by
  cases h with
  | agg vs g1 g2 =>
    have h4 : vs.size = 2 := g1
    have k0 := (g2 0 (.i q.1) vs[0] rfl (by simp [h4])).vv
    have k1 := (g2 1 (.i q.2) vs[1] rfl (by simp [h4])).vv
    unfold keyV
    congr 1
    apply Array.ext
    · exact g1
    · intro j h5 h6
      have : j = 0 ∨ j = 1 := by omega
      rcases this with rfl | rfl
      · exact k0
      · exact k1

/-- What a row that is given to the map asks. -/
theorem own_blk {b : Nat} {E : List (Key × Value)} {k0 : Option Key} (m : MapCx c0 cx (SE b E k0)) {μ : Nat → Option Nat} {ok : Nat → Prop} {w : World} (H : HInv cx μ ok hp nx w) {id C : Nat} {B : Blk} {v : Value} (hrow : aget id hp = some B) (hv : ∀ s, rowB v = some s → μ id = some s)
    {hp' : List (Nat × Blk)} (hdel : adelO id hp = some hp') : (∀ i B, aget i hp' = some B → aget i hp = some B) ∧ ∀ s, rowB v = some s → s < w.heap.size ∧ ¬ ok s ∧ (c0.w0.heap.size ≤ s ∨ c0.F s) ∧ ¬ SE b E k0 s ∧ ∀ i B, aget i hp' = some B → μ i ≠ some s := by
  have hget := adelO_get id hp hp' hdel
  have hsub : ∀ i B, aget i hp' = some B → i ≠ id ∧ aget i hp = some B := fun i B hi => by
    rw [hget i] at hi
    split at hi
    · cases hi
    · exact ⟨by assumption, hi⟩
  refine ⟨fun i B h => (hsub i B h).2, fun s hs => ?_⟩
  obtain ⟨g1, g2, g3, _, g5⟩ := m.owned H hrow (hv s hs)
  refine ⟨g1, g2, g3, g5, fun i B' hB' hm => ?_⟩
  obtain ⟨h1, h2⟩ := hsub i B' hB'
  exact h1 (H.inj i id _ _ s h2 hrow hm (hv s hs))

/-- A row of one's own put at a key. -/
theorem AWP.updateOwn {te : TypeId} {b : Nat} {E : List (Key × Value)} {c : Key → List ByteArray} {k0 : Option Key} (m : MapCx c0 cx (SE b E k0)) (e : Env cx P fn lo) (hW : WMap te cx.w0 b E c k0) {q : Key} (hk0 : k0 = none ∨ k0 = some q) {t kt et : TypeId} {x ix y : Operand} (ht : P.underlying t = some (.map kt et)) (hk : KeyOk P kt)
    (pre its : List ByteArray) {id l n C : Nat} (hl : l = pre.length) (hn : n = its.length) (h1 : opd ⟨tm, hp, nx⟩ x = some (.d (.v (.map (some b))))) (h2 : opd ⟨tm, hp, nx⟩ ix = some (.agg [.i q.1, .i q.2])) (h3 : opd ⟨tm, hp, nx⟩ y = some (.own id 1 l n C)) (hrow : aget id hp = some (.row te false 1 (rowT (pre ++ its)) C))
    {hp' : List (Nat × Blk)} (hdel : adelO id hp = some hp')
    (g : ∀ cx2 E2, MapCx c0 cx2 (SE b E2 none) → Env cx2 P fn nx → cx2.Post = cx.Post → WMap te cx2.w0 b E2 (fun k => if k = q then its else c k) none → AWP cx2 (.ops all rest :: k) ⟨tm, hp', nx⟩) :
    AWP cx (.ops all (⟨none, .mapUpdate t x ix y, ty, pos, after, none⟩ :: rest) :: k) ⟨tm, hp, nx⟩ := by
  refine AWP.op rfl fun a w hi => ?_
  obtain ⟨μ, ok, hi⟩ := hi.one
  have e1 := (opd_den hi.tmps h1).vv
  have e2 := key_den (opd_den hi.tmps h2)
  have e3 := opd_den hi.tmps h3
  subst hl hn
  obtain ⟨r1, r2⟩ := row_RowV (m.back _ _ _ _ _ hi.heap) hrow e3
  obtain ⟨b1, b2⟩ := own_blk (C := C) m hi.heap hrow r2 hdel
  have hf := m.free hi.heap (b := b) (.inl rfl)
  have hr : (execOp a.eval ⟨none, .mapUpdate t x ix y, ty, pos, after, none⟩).run cx.P w = .ok .skip (w.putObj b (mpK (setK E q (a.eval y)))) := by
    have hx : execOp a.eval ⟨none, .mapUpdate t x ix y, ty, pos, after, none⟩ = (do Instr.mapUpdate t (a.eval x) (a.eval ix) (a.eval y); pure .skip) := rfl
    rw [hx, e1, e2, Sem.run_bind, e.P, run_updateK ht hk (hf.2.2.1.trans hW.obj)]
    rfl
  rw [hr, Oper.upon_skip]
  obtain ⟨k1, k2, k3, k4⟩ := m.store e hW hk0 hi r1 b1 b2 (w' := w.putObj b (mpK (setK E q (a.eval y)))) (E' := setK E q (a.eval y)) (by simp) rfl rfl rfl (World.putObj_heap_same hf.2.2.2) (fun s hs => World.putObj_heap_other hs) (setK_nd hW.nd) (fun p hp => (setK_mem hW.nd p).1 hp)
    (fun k' hk' => by
      rw [getK_set hW.nd] at hk'
      split at hk'
      · cases hk'
      · rename_i hne; rw [if_neg hne]; exact hW.out k' hk')
  exact K_eqR rfl rfl (g _ _ k1 k2 rfl k3 _ _ k4.inv)

/-- Nothing put at a key. -/
theorem AWP.updateNil {te : TypeId} {b : Nat} {E : List (Key × Value)} {c : Key → List ByteArray} (m : MapCx c0 cx (SE b E none)) (e : Env cx P fn lo) (hW : WMap te cx.w0 b E c none) {q : Key} {t kt et : TypeId} {x ix y : Operand} (ht : P.underlying t = some (.map kt et)) (hk : KeyOk P kt)
    (h1 : opd ⟨tm, hp, nx⟩ x = some (.d (.v (.map (some b))))) (h2 : opd ⟨tm, hp, nx⟩ ix = some (.agg [.i q.1, .i q.2])) (h3 : ∀ a : Act, a.eval y = nilV)
    (g : ∀ cx2 E2, MapCx c0 cx2 (SE b E2 none) → Env cx2 P fn nx → cx2.Post = cx.Post → WMap te cx2.w0 b E2 (fun k => if k = q then [] else c k) none → AWP cx2 (.ops all rest :: k) ⟨tm, hp, nx⟩) :
    AWP cx (.ops all (⟨none, .mapUpdate t x ix y, ty, pos, after, none⟩ :: rest) :: k) ⟨tm, hp, nx⟩ := by
  refine AWP.op rfl fun a w hi => ?_
  obtain ⟨μ, ok, hi⟩ := hi.one
  have e1 := (opd_den hi.tmps h1).vv
  have e2 := key_den (opd_den hi.tmps h2)
  have hf := m.free hi.heap (b := b) (.inl rfl)
  have hr : (execOp a.eval ⟨none, .mapUpdate t x ix y, ty, pos, after, none⟩).run cx.P w = .ok .skip (w.putObj b (mpK (setK E q nilV))) := by
    have hx : execOp a.eval ⟨none, .mapUpdate t x ix y, ty, pos, after, none⟩ = (do Instr.mapUpdate t (a.eval x) (a.eval ix) (a.eval y); pure .skip) := rfl
    rw [hx, e1, e2, h3, Sem.run_bind, e.P, run_updateK ht hk (hf.2.2.1.trans hW.obj)]
    rfl
  rw [hr, Oper.upon_skip]
  obtain ⟨k1, k2, k3, k4⟩ := m.store e hW (.inl rfl) hi (v := nilV) (its := []) (.inl ⟨none, rfl, rfl⟩) (hp' := hp) (fun _ _ h => h) (fun s hs => by cases hs) (w' := w.putObj b (mpK (setK E q nilV))) (E' := setK E q nilV) (by simp) rfl rfl rfl (World.putObj_heap_same hf.2.2.2) (fun s hs => World.putObj_heap_other hs) (setK_nd hW.nd) (fun p hp => (setK_mem hW.nd p).1 hp)
    (fun k' hk' => by
      rw [getK_set hW.nd] at hk'
      split at hk'
      · cases hk'
      · rename_i hne; rw [if_neg hne]; exact hW.out k' hk')
  exact K_eqR rfl rfl (g _ _ k1 k2 rfl k3 _ _ k4.inv)

/-- A row that was taken, given back as it was. -/
theorem AWP.untakeK {te : TypeId} {b : Nat} {E : List (Key × Value)} {c : Key → List ByteArray} {q : Key} (m : MapCx c0 cx (SE b E (some q))) (e : Env cx P fn lo) (hW : WMap te cx.w0 b E c (some q)) {pre : List ByteArray} {id C : Nat}
    (hx : ∀ μ ok h n w, HInv cx μ ok h n w → Den μ ok w (.own id 1 pre.length (c q).length C) ((getK E q).getD nilV)) (hrow : aget id hp = some (.row te false 1 (rowT (pre ++ c q)) C)) {hp' : List (Nat × Blk)} (hdel : adelO id hp = some hp')
    (g : ∀ cx2, MapCx c0 cx2 (SE b E none) → Env cx2 P fn nx → cx2.Post = cx.Post → WMap te cx2.w0 b E c none → AWP cx2 k ⟨tm, hp', nx⟩) : AWP cx k ⟨tm, hp, nx⟩ := fun a w hi => by
  obtain ⟨μ, ok, hi⟩ := hi.one
  obtain ⟨r1, r2⟩ := row_RowV (m.back _ _ _ _ _ hi.heap) hrow (hx _ _ _ _ _ hi.heap)
  obtain ⟨b1, b2⟩ := own_blk (C := C) m hi.heap hrow r2 hdel
  have hf := m.free hi.heap (b := b) (.inl rfl)
  obtain ⟨k1, k2, k3, k4⟩ := m.store e hW (.inr rfl) hi r1 b1 b2 (w' := w) (E' := E) rfl rfl rfl rfl (hf.2.2.1.trans hW.obj) (fun _ _ => rfl) hW.nd (fun p hp => by
      by_cases h : p.1 = q
      · left
        obtain ⟨pk, pv⟩ := p
        obtain rfl : pk = q := h
        rw [getK_of hW.nd hp]; rfl
      · exact .inr ⟨hp, h⟩) (fun k' hk' => by
      have := hW.out k' hk'
      split
      · rename_i h; rw [← h]; exact this
      · exact this)
  have hc : (fun k => if k = q then c q else c k) = c := by
    funext k; split
    · rename_i h; rw [h]
    · rfl
  rw [hc] at k3
  exact K_eqR rfl rfl (g _ k1 k2 rfl k3 _ _ k4.inv)
end
end Go.Sy

/-
  SYMBOLIC STATES, over any program, part 60: a map of rows of texts: an entry asked for and stored, a walk over its entries, its rows shared.
-/
namespace Go.Sy
open Go.RowKit
open Go.ChangeMaps (setBlock)

section
variable {P : Program} {w : World} {t : TypeId} {b : Nat}
theorem entsK_born : ∀ (l : List (Key × Value)) (n i : Nat), i < l.length → (entsK n l).findIdx? (fun e => (e.born : Int) == ((n + i : Nat) : Int)) = some i
  | [], _, _, h => by simp at h
  | (k, v) :: l, n, 0, _ => by
    show (List.findIdx? _ ((⟨keyV k, v, n⟩ : MapEntry) :: entsK (n + 1) l)) = _
    rw [List.findIdx?_cons, if_pos (by simp)]
  | (k, v) :: l, n, i + 1, h => by
    show (List.findIdx? _ ((⟨keyV k, v, n⟩ : MapEntry) :: entsK (n + 1) l)) = _
    rw [List.findIdx?_cons, if_neg (by simp; omega)]
    have := entsK_born l (n + 1) i (by simpa using h)
    rw [show n + 1 + i = n + (i + 1) by omega] at this
    rw [this]
    rfl
theorem run_entryStoreK {l : List (Key × Value)} {a : Key} {i : Nat} {u : Value} (h : w.heap[b]? = some (mpK l)) (hi : idxK l a 0 = some (i, u)) (v : Value) :
    (Instr.entryStore t (.map (some b)) (goInt (i : Int)) v).run P w = .ok () (w.putObj b (mpK (setK l a v))) := by
  obtain ⟨j, hj, h2, _⟩ := idxK_some hi
  obtain rfl : i = j := by omega
  have hat := entsK_at l 0 i a u h2
  have hlt : i < l.length := (List.getElem?_eq_some_iff.1 h2).1
  have hf : (entsK 0 l).toArray.findIdx? (fun e => (e.born : Int) == (i : Int)) = some i := by
    have := entsK_born l 0 i hlt
    rw [Nat.zero_add] at this
    rw [← this]
    simp
  unfold Instr.entryStore
  simp only [Sem.run_bind, run_getMap h, Result.andThen_ok]
  have hasI : (asInt (goInt (i : Int))).run P w = .ok (i : Int) w := rfl
  rw [hasI]
  simp only [Result.andThen_ok, hf]
  rw [run_setMap _ h, ← mpK_set hi v]
  congr 3
  apply Array.ext'
  simp only [List.modify_toArray]
  apply List.ext_getElem?
  intro q
  rw [List.getElem?_modify, List.getElem?_modify]
  by_cases hq : i = q
  · subst hq; rw [hat]; simp
  · simp [hq]
end

section
variable {c0 cx : Cx} {P : Program} {fn : Func} {lo : Nat} {T : Tab} {k : List It} {tm : List (Nat × SV)} {hp : List (Nat × Blk)} {nx : Nat} {all : Array Oper} {rest : List Oper} {d : Nat} {ty : TypeId} {pos : String} {after : Array Edge} {S : Nat → Prop}

/-- The entry of a key whose row is taken. -/
theorem AWP.entryOwn {te : TypeId} {b : Nat} {E : List (Key × Value)} {c : Key → List ByteArray} {q : Key} (m : MapCx c0 cx (SE b E (some q))) (e : Env cx P fn lo) (hW : WMap te cx.w0 b E c (some q)) {t kt et : TypeId} {x ix : Operand} {sv : SV} (ht : P.underlying t = some (.map kt et)) (hk : KeyOk P kt)
    (hz : ∀ w, (zeroValue et).run P w = .ok nilV w) (hd : Nat.blt d fn.ntmps = true) (h1 : opd ⟨tm, hp, nx⟩ x = some (.d (.v (.map (some b))))) (h2 : opd ⟨tm, hp, nx⟩ ix = some (.agg [.i q.1, .i q.2])) (hx : ∀ μ ok h n w, HInv cx μ ok h n w → Den μ ok w sv ((getK E q).getD nilV))
    (g : ∀ cx2 E2 (i : Nat) u, MapCx c0 cx2 (SE b E2 (some q)) → Env cx2 P fn nx → cx2.Post = cx.Post → WMap te cx2.w0 b E2 c (some q) → idxK E2 q 0 = some (i, u) → AWP cx2 (.ops all rest :: k) ⟨(d, .tup [sv, .i i]) :: tm, hp, nx⟩) :
    AWP cx (.ops all (⟨some d, .mapEntry t x ix, ty, pos, after, none⟩ :: rest) :: k) ⟨tm, hp, nx⟩ := by
  refine AWP.op rfl fun a w hi => ?_
  obtain ⟨μ, ok, hi⟩ := hi.one
  have e1 := (opd_den hi.tmps h1).vv
  have e2 := key_den (opd_den hi.tmps h2)
  have H := hi.heap
  have hf := m.free H (b := b) (.inl rfl)
  obtain ⟨i, r1, r2, r3⟩ := run_entryK ht hk hz (hf.2.2.1.trans hW.obj) q
  have hr : (execOp a.eval ⟨some d, .mapEntry t x ix, ty, pos, after, none⟩).run cx.P w = .ok (.value (.tuple #[(getK E q).getD nilV, goInt (i : Int)])) (w.putObj b (mpK (setK E q ((getK E q).getD nilV)))) := by
    have hx : execOp a.eval ⟨some d, .mapEntry t x ix, ty, pos, after, none⟩ = (do pure (.value (← Instr.mapEntry t (a.eval x) (a.eval ix)))) := rfl
    rw [hx, e1, e2, Sem.run_bind, e.P, r1]
    rfl
  rw [hr, Oper.upon_value]
  have hSE : ∀ s, SE b (setK E q ((getK E q).getD nilV)) (some q) s → SE b E (some q) s := by
    rintro s (h | ⟨p, hp, hne, hs⟩)
    · exact .inl h
    · rcases (setK_mem hW.nd p).1 hp with rfl | ⟨h1, _⟩
      · exact absurd rfl hne
      · exact .inr ⟨p, h1, hne, hs⟩
  obtain ⟨k1, k2, k3⟩ := m.go e hi (w' := w.putObj b (mpK (setK E q ((getK E q).getD nilV)))) (S' := SE b (setK E q ((getK E q).getD nilV)) (some q)) (by simp) rfl rfl rfl (fun s _ hs => World.putObj_heap_other (fun h => hs (.inl h))) (fun s hs => ⟨by have := (m.free H (hSE s hs)).2.2.2; simpa using this, .inl (hSE s hs)⟩)
  have hdl : d < cx.fn.ntmps := by rw [e.fn]; exact Nat.le_of_ble_eq_true hd
  have hDen : Den μ ok (w.putObj b (mpK (setK E q ((getK E q).getD nilV)))) sv ((getK E q).getD nilV) := (hx _ _ _ _ _ H).mono (fun _ _ h => h) (fun _ h => h) fun s hs => World.putObj_heap_other (fun h => hf.1 (by rw [← h]; exact hs))
  refine K_eqR rfl rfl (g _ _ i _ k1 k2 rfl ⟨World.putObj_heap_same hf.2.2.2, setK_nd hW.nd, fun p hp hne => ?_, fun k' hk' => ?_, fun p hp p2 hp2 hne s h1 h2 => ?_⟩ r3 _ _ (k3.put hdl ?_).inv)
  · rcases (setK_mem hW.nd p).1 hp with rfl | ⟨h3, h4⟩
    · exact absurd rfl hne
    · refine (hW.rows p h3 hne).same fun s hs => ?_
      have hS : SE b E (some q) s := .inr ⟨p, h3, hne, hs⟩
      refine (World.putObj_heap_other fun h => ?_).trans (m.free H hS).2.2.1
      obtain ⟨cs, hcs⟩ := (hW.rows p h3 hne).cells hs
      rw [h, hW.obj] at hcs
      cases hcs
  · rw [getK_set hW.nd] at hk'
    split at hk'
    · cases hk'
    · exact hW.out k' hk'
  · have old : ∀ p ∈ setK E q ((getK E q).getD nilV), ∀ s, rowB p.2 = some s → p ∈ E := fun p hp s hs => by
      rcases (setK_mem hW.nd p).1 hp with rfl | ⟨h3, h4⟩
      · cases hg : getK E q with
        | none => rw [hg] at hs; cases hs
        | some v => exact getK_mem hg
      · exact h3
    exact hW.apart p (old p hp s h1) p2 (old p2 hp2 s h2) hne s h1 h2
  · refine .tup _ rfl fun j c' u hc hu => ?_
    match j with
    | 0 => cases hc; cases hu; exact hDen
    | 1 => cases hc; cases hu; exact .d (.v _)
    | j + 2 => cases hc

/-- A row of one's own stored in an entry. -/
theorem AWP.entryStoreOwn {te : TypeId} {b : Nat} {E : List (Key × Value)} {c : Key → List ByteArray} {q : Key} (m : MapCx c0 cx (SE b E (some q))) (e : Env cx P fn lo) (hW : WMap te cx.w0 b E c (some q)) {t : TypeId} {x s y : Operand} {i : Nat} {u : Value} (hi0 : idxK E q 0 = some (i, u))
    (pre its : List ByteArray) {id l n C : Nat} (hl : l = pre.length) (hn : n = its.length) (h1 : opd ⟨tm, hp, nx⟩ x = some (.d (.v (.map (some b))))) (h2 : opd ⟨tm, hp, nx⟩ s = some (.i i)) (h3 : opd ⟨tm, hp, nx⟩ y = some (.own id 1 l n C)) (hrow : aget id hp = some (.row te false 1 (rowT (pre ++ its)) C))
    {hp' : List (Nat × Blk)} (hdel : adelO id hp = some hp')
    (g : ∀ cx2 E2, MapCx c0 cx2 (SE b E2 none) → Env cx2 P fn nx → cx2.Post = cx.Post → WMap te cx2.w0 b E2 (fun k => if k = q then its else c k) none → AWP cx2 (.ops all rest :: k) ⟨tm, hp', nx⟩) :
    AWP cx (.ops all (⟨none, .entryStore t x s y, ty, pos, after, none⟩ :: rest) :: k) ⟨tm, hp, nx⟩ := by
  refine AWP.op rfl fun a w hi => ?_
  obtain ⟨μ, ok, hi⟩ := hi.one
  have e1 := (opd_den hi.tmps h1).vv
  have e2 := (opd_den hi.tmps h2).vv
  have e3 := opd_den hi.tmps h3
  subst hl hn
  obtain ⟨r1, r2⟩ := row_RowV (m.back _ _ _ _ _ hi.heap) hrow e3
  obtain ⟨b1, b2⟩ := own_blk (C := C) m hi.heap hrow r2 hdel
  have hf := m.free hi.heap (b := b) (.inl rfl)
  have hr : (execOp a.eval ⟨none, .entryStore t x s y, ty, pos, after, none⟩).run cx.P w = .ok .skip (w.putObj b (mpK (setK E q (a.eval y)))) := by
    have hx : execOp a.eval ⟨none, .entryStore t x s y, ty, pos, after, none⟩ = (do Instr.entryStore t (a.eval x) (a.eval s) (a.eval y); pure .skip) := rfl
    rw [hx, e1, e2, Sem.run_bind, show (Value.int .i64 (i : Int)) = goInt (i : Int) from rfl, run_entryStoreK (hf.2.2.1.trans hW.obj) hi0]
    rfl
  rw [hr, Oper.upon_skip]
  obtain ⟨k1, k2, k3, k4⟩ := m.store e hW (.inr rfl) hi r1 b1 b2 (w' := w.putObj b (mpK (setK E q (a.eval y)))) (E' := setK E q (a.eval y)) (by simp) rfl rfl rfl (World.putObj_heap_same hf.2.2.2) (fun s hs => World.putObj_heap_other hs) (setK_nd hW.nd) (fun p hp => (setK_mem hW.nd p).1 hp)
    (fun k' hk' => by
      rw [getK_set hW.nd] at hk'
      split at hk'
      · cases hk'
      · rename_i hne; rw [if_neg hne]; exact hW.out k' hk')
  exact K_eqR rfl rfl (g _ _ k1 k2 rfl k3 _ _ k4.inv)

/-- The map's rows shared. -/
theorem AWP.promoteK {te : TypeId} {b : Nat} {E : List (Key × Value)} {c : Key → List ByteArray} (m : MapCx c0 cx (SE b E none)) (e : Env cx P fn lo) (hW : WMap te cx.w0 b E c none) {s0 : St}
    (g : ∀ cx2, MapCx c0 cx2 (fun s => s = b) → Env cx2 P fn s0.next → cx2.Post = cx.Post → cx2.w0.heap[b]? = some (mpK E) → (∀ q μ ok h n w, HInv cx2 μ ok h n w → Den μ ok w (.d (.sl 1 ((c q).map fun s => [DV.v (.string s)]))) ((getK E q).getD nilV)) → AWP cx2 k s0) : AWP cx k s0 := fun a w hi => by
  obtain ⟨tm, hp, nx⟩ := s0
  obtain ⟨μ, ok, hi⟩ := hi.one
  have H := hi.heap
  have hf := m.free H (b := b) (.inl rfl)
  have hrb : ∀ p ∈ E, ∀ s, rowB p.2 = some s → s ≠ b := fun p hp s hs h => by
    obtain ⟨cs, hcs⟩ := (hW.rows p hp (by simp)).cells hs
    rw [h, hW.obj] at hcs
    cases hcs
  let ok' : Nat → Prop := fun s => ok s ∨ (SE b E none s ∧ s ≠ b)
  obtain ⟨k1, k2⟩ := m.anew2 (μ' := μ) (ok' := ok') (hp' := hp) (nx' := nx) (w' := w) (S' := fun s => s = b) H (Nat.le_refl _) rfl rfl rfl (fun _ _ _ => rfl) (fun _ _ h => h) H.fresh (fun _ h => .inl h) (fun s hs => by
      rcases hs with hs | ⟨hs, _⟩
      · exact ⟨H.lt s hs, .inl hs⟩
      · exact ⟨(m.free H hs).2.2.2, .inr hs⟩)
    (fun i B hB => by
      rcases (m.back _ _ _ _ _ H).own i B hB with h | ⟨s, g1, g2, g3, g4, g5⟩
      · exact .inl h
      · refine .inr ⟨s, g1, g2, ?_, g4, g5.mono (fun _ _ h => h) (fun _ h => .inl h) (fun _ _ => rfl) rfl⟩
        rintro (h | ⟨h, _⟩)
        · exact g3 h
        · exact (m.free H h).2.1 i B hB g1)
    H.inj (fun s hs => by
      subst hs
      refine ⟨hf.2.2.2, ?_, hf.2.1, (m.keep _ (.inl rfl)).2.2.2⟩
      rintro (h | ⟨_, h⟩)
      · exact hf.1 h
      · exact h rfl)
  refine K_eqR rfl rfl (g _ k1 (m.env2 e k1 H.fresh) rfl (hf.2.2.1.trans hW.obj) (fun q μ2 ok2 h n w2 H2 => ?_) a w (Inv1.inv (μ := μ) (ok := ok') ⟨hi.defers, hi.size, k2, fun t x hx => (hi.tmps t x hx).mono (fun _ _ h => h) (fun _ h => .inl h) (fun _ _ => rfl)⟩))
  refine .d ?_
  cases hg : getK E q with
  | none => rw [hW.out q hg]; exact .slNil 1
  | some v =>
    have hm := getK_mem hg
    show DDen ok2 w2 _ v
    rcases hW.rows _ hm (by simp) with ⟨a0, hv, hc⟩ | ⟨s, pre, C, cs, hv, g1, g2, g3, g4, g5, g6⟩
    · show DDen ok2 w2 (.sl 1 ((c q).map _)) v
      have hc : c q = [] := hc
      have hv : v = .slice a0 0 0 := hv
      rw [hc, hv]
      cases a0 with
      | none => exact .slNil 1
      | some a0 => exact .sl 1 [] a0 0 (Nat.le_refl _) (Nat.zero_le _) (fun i e he => by simp at he) (fun i e j c he => by simp at he) (fun i e j c u he => by simp at he)
    · have hv : v = .slice (some ⟨s, pre.length, none⟩) (c q).length (C - pre.length) := hv
      have hps : rowB v = some s := by
        rw [hv]
        show (if C - pre.length = 0 then none else some s) = some s
        rw [if_neg (by omega)]
      have hS : SE b E none s := .inr ⟨_, hm, by simp, hps⟩
      have hok : ok' s := .inr ⟨hS, hrb _ hm s hps⟩
      have hF : ¬ (cx.at' μ ok' hp w).F s := fun ⟨i, B, hB, hmu⟩ => (m.free H hS).2.1 i B hB hmu
      have hw : w2.heap[s]? = some (.cells cs te (0, 0)) := ((H2.frame s (m.free H hS).2.2.2 hF).trans (m.free H hS).2.2.1).trans g2
      have hcell : ∀ i e j x, ((c q).map fun z => [DV.v (.string z)])[i]? = some e → e[j]? = some x → ∃ z, x = .v (.string z) ∧ w2.cell? (Addr.add ⟨s, pre.length, none⟩ (i * 1 + j)) = some (.string z) := fun i e j x he hj => by
        rw [List.getElem?_map] at he
        cases hz : (c q)[i]? with
        | none => rw [hz] at he; cases he
        | some z =>
          rw [hz] at he
          cases he
          cases j with
          | succ j => simp at hj
          | zero =>
            cases hj
            refine ⟨z, rfl, ?_⟩
            have hil : pre.length + i < pre.length + (c q).length := by
              have := (List.getElem?_eq_some_iff.1 hz).1
              omega
            have h1 : (cs.toList.take (pre.length + (c q).length))[pre.length + i]? = some (Value.string z) := by
              rw [g6, List.getElem?_map, List.getElem?_append_right (by omega), show pre.length + i - pre.length = i by omega, hz]; rfl
            rw [List.getElem?_take, if_pos hil, Array.getElem?_toList] at h1
            rw [Nat.mul_one, Nat.add_zero, add_add', cell_at hw]
            exact h1
      have hlen : ((c q).map fun z => [DV.v (.string z)]).length = (c q).length := List.length_map ..
      have g4' : pre.length + (c q).length ≤ C := g4
      rw [hv, ← hlen]
      refine .sl 1 _ _ _ (by rw [hlen]; omega) (by omega) (fun i e he => ?_) (fun i e j x he hj => ?_) (fun i e j x u he hj hu => ?_)
      · rw [List.getElem?_map] at he
        cases hz : (c q)[i]? with
        | none => rw [hz] at he; cases he
        | some z => rw [hz] at he; cases he; rfl
      · obtain ⟨z, _, h2⟩ := hcell i e j x he hj
        exact ⟨H2.sub s hok, _, h2⟩
      · obtain ⟨z, h1, h2⟩ := hcell i e j x he hj
        rw [h2] at hu
        cases hu
        rw [h1]
        exact .v _

/-- One key's row shared. -/
theorem AWP.shareK {te : TypeId} {b : Nat} {E : List (Key × Value)} {c : Key → List ByteArray} (m : MapCx c0 cx (SE b E none)) (e : Env cx P fn lo) (hW : WMap te cx.w0 b E c none) (q : Key) {s0 : St}
    (g : ∀ cx2, MapCx c0 cx2 (SE b E (some q)) → Env cx2 P fn s0.next → cx2.Post = cx.Post → WMap te cx2.w0 b E c (some q) → (∀ μ ok h n w, HInv cx2 μ ok h n w → Den μ ok w (.d (.sl 1 ((c q).map fun s => [DV.v (.string s)]))) ((getK E q).getD nilV)) → AWP cx2 k s0) : AWP cx k s0 := fun a w hi => by
  obtain ⟨tm, hp, nx⟩ := s0
  obtain ⟨μ, ok, hi⟩ := hi.one
  have H := hi.heap
  have hf := m.free H (b := b) (.inl rfl)
  let ok' : Nat → Prop := fun s => ok s ∨ ∃ v, getK E q = some v ∧ rowB v = some s
  have hblk : ∀ v s, getK E q = some v → rowB v = some s → SE b E none s ∧ ¬ SE b E (some q) s := fun v s hg hs => by
    have hm := getK_mem hg
    refine ⟨.inr ⟨_, hm, by simp, hs⟩, ?_⟩
    rintro (h | ⟨p, hp', hne, hps⟩)
    · obtain ⟨cs, hcs⟩ := (hW.rows _ hm (by simp)).cells hs
      rw [h, hW.obj] at hcs
      cases hcs
    · exact hW.apart _ hm p hp' (fun h => hne (by rw [← h])) s hs hps
  obtain ⟨k1, k2⟩ := m.anew2 (μ' := μ) (ok' := ok') (hp' := hp) (nx' := nx) (w' := w) (S' := SE b E (some q)) H (Nat.le_refl _) rfl rfl rfl (fun _ _ _ => rfl) (fun _ _ h => h) H.fresh (fun _ h => .inl h) (fun s hs => by
      rcases hs with hs | ⟨v, h1, h2⟩
      · exact ⟨H.lt s hs, .inl hs⟩
      · exact ⟨(m.free H (hblk v s h1 h2).1).2.2.2, .inr (hblk v s h1 h2).1⟩)
    (fun i B hB => by
      rcases (m.back _ _ _ _ _ H).own i B hB with h | ⟨s, g1, g2, g3, g4, g5⟩
      · exact .inl h
      · refine .inr ⟨s, g1, g2, ?_, g4, g5.mono (fun _ _ h => h) (fun _ h => .inl h) (fun _ _ => rfl) rfl⟩
        rintro (h | ⟨v, h1, h2⟩)
        · exact g3 h
        · exact (m.free H (hblk v s h1 h2).1).2.1 i B hB g1)
    H.inj (fun s hs => by
      obtain ⟨f1, f2, _, f4⟩ := m.free H hs.sub
      refine ⟨f4, ?_, f2, (m.keep _ hs.sub).2.2.2⟩
      rintro (h | ⟨v, h1, h2⟩)
      · exact f1 h
      · exact (hblk v s h1 h2).2 hs)
  have hW2 : WMap te w b E c (some q) := ⟨hf.2.2.1.trans hW.obj, hW.nd, fun p hp' _ => (hW.rows p hp' (by simp)).same fun s hs => (m.free H (.inr ⟨p, hp', by simp, hs⟩)).2.2.1, hW.out, hW.apart⟩
  refine K_eqR rfl rfl (g _ k1 (m.env2 e k1 H.fresh) rfl hW2 (fun μ2 ok2 h n w2 H2 => ?_) a w (Inv1.inv (μ := μ) (ok := ok') ⟨hi.defers, hi.size, k2, fun t x hx => (hi.tmps t x hx).mono (fun _ _ h => h) (fun _ h => .inl h) (fun _ _ => rfl)⟩))
  refine .d ?_
  cases hg : getK E q with
  | none => rw [hW.out q hg]; exact .slNil 1
  | some v =>
    have hm := getK_mem hg
    show DDen ok2 w2 _ v
    rcases hW.rows _ hm (by simp) with ⟨a0, hv, hc⟩ | ⟨s, pre, C, cs, hv, g1, g2, g3, g4, g5, g6⟩
    · show DDen ok2 w2 (.sl 1 ((c q).map _)) v
      have hc : c q = [] := hc
      have hv : v = .slice a0 0 0 := hv
      rw [hc, hv]
      cases a0 with
      | none => exact .slNil 1
      | some a0 => exact .sl 1 [] a0 0 (Nat.le_refl _) (Nat.zero_le _) (fun i e he => by simp at he) (fun i e j c he => by simp at he) (fun i e j c u he => by simp at he)
    · have hv : v = .slice (some ⟨s, pre.length, none⟩) (c q).length (C - pre.length) := hv
      have hps : rowB v = some s := by
        rw [hv]
        show (if C - pre.length = 0 then none else some s) = some s
        rw [if_neg (by omega)]
      have hS : SE b E none s := .inr ⟨_, hm, by simp, hps⟩
      have hok : ok' s := .inr ⟨v, hg, hps⟩
      have hF : ¬ (cx.at' μ ok' hp w).F s := fun ⟨i, B, hB, hmu⟩ => (m.free H hS).2.1 i B hB hmu
      have hw : w2.heap[s]? = some (.cells cs te (0, 0)) := ((H2.frame s (m.free H hS).2.2.2 hF).trans (m.free H hS).2.2.1).trans g2
      have hcell : ∀ i e j x, ((c q).map fun z => [DV.v (.string z)])[i]? = some e → e[j]? = some x → ∃ z, x = .v (.string z) ∧ w2.cell? (Addr.add ⟨s, pre.length, none⟩ (i * 1 + j)) = some (.string z) := fun i e j x he hj => by
        rw [List.getElem?_map] at he
        cases hz : (c q)[i]? with
        | none => rw [hz] at he; cases he
        | some z =>
          rw [hz] at he
          cases he
          cases j with
          | succ j => simp at hj
          | zero =>
            cases hj
            refine ⟨z, rfl, ?_⟩
            have hil : pre.length + i < pre.length + (c q).length := by
              have := (List.getElem?_eq_some_iff.1 hz).1
              omega
            have h1 : (cs.toList.take (pre.length + (c q).length))[pre.length + i]? = some (Value.string z) := by
              rw [g6, List.getElem?_map, List.getElem?_append_right (by omega), show pre.length + i - pre.length = i by omega, hz]; rfl
            rw [List.getElem?_take, if_pos hil, Array.getElem?_toList] at h1
            rw [Nat.mul_one, Nat.add_zero, add_add', cell_at hw]
            exact h1
      have hlen : ((c q).map fun z => [DV.v (.string z)]).length = (c q).length := List.length_map ..
      have g4' : pre.length + (c q).length ≤ C := g4
      rw [hv, ← hlen]
      refine .sl 1 _ _ _ (by rw [hlen]; omega) (by omega) (fun i e he => ?_) (fun i e j x he hj => ?_) (fun i e j x u he hj hu => ?_)
      · rw [List.getElem?_map] at he
        cases hz : (c q)[i]? with
        | none => rw [hz] at he; cases he
        | some z => rw [hz] at he; cases he; rfl
      · obtain ⟨z, _, h2⟩ := hcell i e j x he hj
        exact ⟨H2.sub s hok, _, h2⟩
      · obtain ⟨z, h1, h2⟩ := hcell i e j x he hj
        rw [h2] at hu
        cases hu
        rw [h1]
        exact .v _
end
end Go.Sy

/-
  SYMBOLIC STATES, over any program, part 61: a walk over the entries of a map of rows of texts.
-/
namespace Go.Sy
open Go.RowKit
open Go.ChangeMaps (setBlock)

section
variable {c0 cx : Cx} {P : Program} {fn : Func} {lo : Nat} {T : Tab} {k : List It} {tm : List (Nat × SV)} {hp : List (Nat × Blk)} {nx : Nat} {all : Array Oper} {rest : List Oper} {d : Nat} {ty : TypeId} {pos : String} {after : Array Edge} {S : Nat → Prop}

/-- The walk's own blocks. -/
abbrev SI (b : Nat) (E : List (Key × Value)) (r : Nat) (s : Nat) : Prop := s = r ∨ SE b E none s
def itO (b : Nat) (E : List (Key × Value)) (seen : Array Nat) : Obj := .mapIter (some b) E.length seen E.length

theorem WMap.same {te : TypeId} {w w' : World} {b : Nat} {E : List (Key × Value)} {c : Key → List ByteArray} {k0 : Option Key} (h : WMap te w b E c k0) (hs : ∀ s, SE b E k0 s → w'.heap[s]? = w.heap[s]?) : WMap te w' b E c k0 :=
  ⟨(hs b (.inl rfl)).trans h.obj, h.nd, fun p hp hne => (h.rows p hp hne).same fun s hs' => hs s (.inr ⟨p, hp, hne, hs'⟩), h.out, h.apart⟩

theorem AWP.rangeM {te : TypeId} {b : Nat} {E : List (Key × Value)} {c : Key → List ByteArray} (m : MapCx c0 cx (SE b E none)) (e : Env cx P fn lo) (hW : WMap te cx.w0 b E c none) {t kt et : TypeId} {x : Operand} (ht : P.underlying t = some (.map kt et)) (hd : Nat.blt d fn.ntmps = true) (h1 : opd ⟨tm, hp, nx⟩ x = some (.d (.v (.map (some b)))))
    (g : ∀ cx2 r, MapCx c0 cx2 (SI b E r) → Env cx2 P fn nx → cx2.Post = cx.Post → WMap te cx2.w0 b E c none → cx2.w0.heap[r]? = some (itO b E #[]) → ¬ SE b E none r → AWP cx2 (.ops all rest :: k) ⟨(d, .d (.v (.pointer (some ⟨r, 0, none⟩)))) :: tm, hp, nx⟩) :
    AWP cx (.ops all (⟨some d, .range t x, ty, pos, after, none⟩ :: rest) :: k) ⟨tm, hp, nx⟩ := by
  refine AWP.op rfl fun a w hi => ?_
  obtain ⟨μ, ok, hi⟩ := hi.one
  have e1 := (opd_den hi.tmps h1).vv
  have H := hi.heap
  have hf := m.free H (b := b) (.inl rfl)
  have hob := hf.2.2.1.trans hW.obj
  have hr : (execOp a.eval ⟨some d, .range t x, ty, pos, after, none⟩).run cx.P w = .ok (.value (.pointer (some ⟨w.heap.size, 0, none⟩))) (w.alloc (itO b E #[])) := by
    have hx : execOp a.eval ⟨some d, .range t x, ty, pos, after, none⟩ = (do pure (.value (← Instr.range t (a.eval x)))) := rfl
    rw [hx, e1]
    unfold Instr.range
    simp only [Sem.run_bind, e.P, run_underlying ht, Result.andThen_ok, run_getMap hob, mpK]
    rfl
  rw [hr, Oper.upon_value]
  have hsz : (w.alloc (itO b E #[])).heap.size = w.heap.size + 1 := by simp
  obtain ⟨k1, k2, k3⟩ := m.go e hi (w' := w.alloc (itO b E #[])) (S' := SI b E w.heap.size) (by omega) rfl rfl rfl (fun s hs _ => Below.heap_alloc _ _ _ hs) (fun s hs => by
    rcases hs with rfl | hs
    · exact ⟨by omega, .inr (Nat.le_refl _)⟩
    · exact ⟨by have := (m.free H hs).2.2.2; omega, .inl hs⟩)
  have hdl : d < cx.fn.ntmps := by rw [e.fn]; exact Nat.le_of_ble_eq_true hd
  exact K_eqR rfl rfl (g _ _ k1 k2 rfl (hW.same fun s hs => (Below.heap_alloc _ _ _ (m.free H hs).2.2.2).trans (m.free H hs).2.2.1) (World.alloc_heap_new w _) (fun hs => by have := (m.free H hs).2.2.2; omega) _ _ (k3.put hdl (.d (.v _))).inv)

theorem entsK_mem {en : MapEntry} : ∀ (l : List (Key × Value)) (n : Nat), en ∈ entsK n l → ∃ j kk v, l[j]? = some (kk, v) ∧ en = ⟨keyV kk, v, n + j⟩
  | [], _, h => by cases h
  | (a, u) :: l, n, h => by
    rcases List.mem_cons.1 h with rfl | h
    · exact ⟨0, a, u, rfl, rfl⟩
    · obtain ⟨j, kk, v, h1, h2⟩ := entsK_mem l (n + 1) h
      exact ⟨j + 1, kk, v, by simpa using h1, by rw [h2]; congr 1; omega⟩
theorem entsK_borns : ∀ (l : List (Key × Value)) (n : Nat), ((entsK n l).map (·.born)).Nodup ∧ ∀ e ∈ entsK n l, n ≤ e.born
  | [], _ => ⟨List.nodup_nil, fun e h => by cases h⟩
  | (a, u) :: l, n => by
    obtain ⟨h1, h2⟩ := entsK_borns l (n + 1)
    refine ⟨List.nodup_cons.2 ⟨fun h => ?_, h1⟩, fun e he => ?_⟩
    · obtain ⟨e, he, hb⟩ := List.mem_map.1 h
      have := h2 e he
      simp only at hb
      omega
    · rcases List.mem_cons.1 he with rfl | he
      · exact Nat.le_refl _
      · exact Nat.le_of_succ_le (h2 e he)

theorem AWP.nextM {te : TypeId} {b r : Nat} {E : List (Key × Value)} {c : Key → List ByteArray} {seen : Array Nat} (m : MapCx c0 cx (SI b E r)) (e : Env cx P fn lo) (hW : WMap te cx.w0 b E c none) (hI : cx.w0.heap[r]? = some (itO b E seen)) (hrb : ¬ SE b E none r) {x : Operand} (hd : Nat.blt d fn.ntmps = true)
    (h1 : opd ⟨tm, hp, nx⟩ x = some (.d (.v (.pointer (some ⟨r, 0, none⟩)))))
    (g0 : (∀ j, j < E.length → j ∈ seen.toList) → AWP cx (.ops all rest :: k) ⟨(d, .tup [.b false]) :: tm, hp, nx⟩)
    (g1 : ∀ cx2 j kk v, E[j]? = some (kk, v) → j ∉ seen.toList → MapCx c0 cx2 (SI b E r) → Env cx2 P fn nx → cx2.Post = cx.Post → WMap te cx2.w0 b E c none → cx2.w0.heap[r]? = some (itO b E (seen.push j)) → AWP cx2 (.ops all rest :: k) ⟨(d, .tup [.b true, .agg [.i kk.1, .i kk.2], .d (.v v)]) :: tm, hp, nx⟩) :
    AWP cx (.ops all (⟨some d, .next x false, ty, pos, after, none⟩ :: rest) :: k) ⟨tm, hp, nx⟩ := by
  refine AWP.op rfl fun a w hi0 => ?_
  obtain ⟨μ, ok, hi⟩ := hi0.one
  have e1 := (opd_den hi.tmps h1).vv
  have H := hi.heap
  have hfb := m.free H (b := b) (.inr (.inl rfl))
  have hfr := m.free H (b := r) (.inl rfl)
  have hx : execOp a.eval ⟨some d, .next x false, ty, pos, after, none⟩ = (do pure (.value (← Instr.next (a.eval x) false ty))) := rfl
  have hdl : d < cx.fn.ntmps := by rw [e.fn]; exact Nat.le_of_ble_eq_true hd
  rw [hx, e1, Sem.run_bind]
  rcases run_next_at (P := cx.P) w ty r b E.length E.length seen (entsK 0 E).toArray E.length (hfr.2.2.1.trans hI) (hfb.2.2.1.trans hW.obj) (fun en he => by
      obtain ⟨j, kk, v, h1, h2⟩ := entsK_mem E 0 (by simpa using he)
      rw [h2, Nat.zero_add]
      exact (List.getElem?_eq_some_iff.1 h1).1) (Nat.le_refl _) with ⟨hz, hr⟩ | ⟨en, hen, w1, hw1, hr⟩
  · rw [hr, Result.andThen_ok]
    show Oper.upon _ _ _ _ _ (Result.ok (Next.value _) w)
    rw [Oper.upon_value]
    refine g0 (fun j hj => ?_) _ _ (hi.put hdl (.tup _ rfl fun j c' u hc hu => ?_)).inv
    · refine Classical.byContradiction fun hn => ?_
      obtain ⟨⟨kk, v⟩, hkv⟩ : ∃ p, E[j]? = some p := ⟨E[j], by simp [hj]⟩
      have hat := entsK_at E 0 j kk v hkv
      rw [Nat.zero_add] at hat
      have hmem : (⟨keyV kk, v, j⟩ : MapEntry) ∈ leftOf (entsK 0 E).toArray seen := by
        unfold leftOf
        rw [Array.mem_filter]
        refine ⟨by simpa using List.mem_of_getElem? hat, ?_⟩
        simpa using hn
      rw [Array.eq_empty_of_size_eq_zero hz] at hmem
      simp at hmem
    · match j with
      | 0 => cases hc; cases hu; exact .d (.v _)
      | j + 1 => cases hc
  · rw [hr, Result.andThen_ok]
    show Oper.upon _ _ _ _ _ (Result.ok (Next.value _) _)
    rw [Oper.upon_value]
    have hen2 : en ∈ (entsK 0 E) ∧ en.born ∉ seen.toList := by
      unfold leftOf at hen
      rw [Array.mem_toList_iff, Array.mem_filter] at hen
      exact ⟨by simpa using hen.1, by simpa using hen.2⟩
    obtain ⟨j, kk, v, h2, rfl⟩ := entsK_mem E 0 hen2.1
    have hnj := hen2.2
    simp only [Nat.zero_add] at hnj ⊢
    have hw1' : w1.heap = w.heap ∧ w1.os = w.os ∧ w1.tape = w.tape ∧ w1.output = w.output := by
      rcases hw1 with rfl | rfl
      · exact ⟨rfl, rfl, rfl, rfl⟩
      · exact ⟨rfl, rfl, rfl, rfl⟩
    have hsz : (setBlock w1 r (.mapIter (some b) E.length (seen.push j) E.length)).heap.size = w.heap.size := by
      show (w1.heap.setIfInBounds r _).size = _
      rw [Array.size_setIfInBounds, hw1'.1]
    have hoth : ∀ s, s ≠ r → (setBlock w1 r (.mapIter (some b) E.length (seen.push j) E.length)).heap[s]? = w.heap[s]? := fun s hs => by
      show (w1.heap.setIfInBounds r _)[s]? = _
      rw [Array.getElem?_setIfInBounds_ne (fun h => hs h.symm), hw1'.1]
    have hat : (setBlock w1 r (.mapIter (some b) E.length (seen.push j) E.length)).heap[r]? = some (itO b E (seen.push j)) := by
      show (w1.heap.setIfInBounds r _)[r]? = _
      rw [Array.getElem?_setIfInBounds_self_of_lt (by rw [hw1'.1]; exact hfr.2.2.2)]
      rfl
    obtain ⟨k1, k2, k3⟩ := m.go e hi (w' := setBlock w1 r (.mapIter (some b) E.length (seen.push j) E.length)) (S' := SI b E r) (by omega) hw1'.2.1 hw1'.2.2.1 hw1'.2.2.2 (fun s _ hs => hoth s fun h => hs (.inl h)) (fun s hs => ⟨by have := (m.free H hs).2.2.2; omega, .inl hs⟩)
    refine K_eqR rfl rfl (g1 _ j kk v h2 hnj k1 k2 rfl (hW.same fun s hs => (hoth s fun h => hrb (h ▸ hs)).trans (m.free H (.inr hs)).2.2.1) hat _ _ (k3.put hdl (.tup _ rfl fun j' c' u hc hu => ?_)).inv)
    match j' with
    | 0 => cases hc; cases hu; exact .d (.v _)
    | 1 =>
      cases hc; cases hu
      refine .agg _ rfl fun j2 c2 u2 hc2 hu2 => ?_
      match j2 with
      | 0 => cases hc2; cases hu2; exact .d (.v _)
      | 1 => cases hc2; cases hu2; exact .d (.v _)
      | j2 + 2 => cases hc2
    | 2 => cases hc; cases hu; exact .d (.v _)
    | j' + 3 => cases hc

theorem AWP.entryM {te : TypeId} {b r j : Nat} {E : List (Key × Value)} {c : Key → List ByteArray} {seen : Array Nat} {kk : Key} {v : Value} (m : MapCx c0 cx (SI b E r)) (e : Env cx P fn lo) (hW : WMap te cx.w0 b E c none) (hI : cx.w0.heap[r]? = some (itO b E (seen.push j))) (hj : E[j]? = some (kk, v)) {x : Operand} (hd : Nat.blt d fn.ntmps = true)
    (h1 : opd ⟨tm, hp, nx⟩ x = some (.d (.v (.pointer (some ⟨r, 0, none⟩))))) (g : AWP cx (.ops all rest :: k) ⟨(d, .tup [.agg [.i kk.1, .i kk.2], .d (.v v)]) :: tm, hp, nx⟩) :
    AWP cx (.ops all (⟨some d, .entry x, ty, pos, after, none⟩ :: rest) :: k) ⟨tm, hp, nx⟩ := by
  refine AWP.op_run e (Nat.le_of_ble_eq_true hd) (fun μ ok s w hi => ⟨.tuple #[keyV kk, v], ?_, ?_⟩) g
  · have e1 := (opd_den hi.tmps h1).vv
    have H := hi.heap
    have hfb := m.free H (b := b) (.inr (.inl rfl))
    have hfr := m.free H (b := r) (.inl rfl)
    have hx : execOp s.eval ⟨some d, .entry x, ty, pos, after, none⟩ = (do pure (.value (← Instr.entry (s.eval x)))) := rfl
    have hat := entsK_at E 0 j kk v hj
    rw [Nat.zero_add] at hat
    rw [hx, e1, Sem.run_bind, run_entry_at w r b E.length seen (entsK 0 E).toArray E.length ⟨keyV kk, v, j⟩ (hfr.2.2.1.trans hI) (hfb.2.2.1.trans hW.obj) (by simpa using List.mem_of_getElem? hat) (by simpa using (entsK_borns E 0).1)]
    rfl
  · refine .tup _ rfl fun j' c' u hc hu => ?_
    match j' with
    | 0 =>
      cases hc; cases hu
      refine .agg _ rfl fun j2 c2 u2 hc2 hu2 => ?_
      match j2 with
      | 0 => cases hc2; cases hu2; exact .d (.v _)
      | 1 => cases hc2; cases hu2; exact .d (.v _)
      | j2 + 2 => cases hc2
    | 1 => cases hc; cases hu; exact .d (.v _)
    | j' + 2 => cases hc

/-- The length of a slice that is a plain value. -/
theorem AWP.lenV (e : Env cx P fn lo) {t te : TypeId} {x : Operand} {a : Option Addr} {n cap : Nat} (ht : P.underlying t = some (.slice te)) (hd : Nat.blt d fn.ntmps = true) (h1 : opd ⟨tm, hp, nx⟩ x = some (.d (.v (.slice a n cap)))) (g : AWP cx (.ops all rest :: k) ⟨(d, .i n) :: tm, hp, nx⟩) :
    AWP cx (.ops all (⟨some d, .call ⟨.builtin .len, #[x], #[t]⟩, ty, pos, after, none⟩ :: rest) :: k) ⟨tm, hp, nx⟩ := by
  refine AWP.op_run e (Nat.le_of_ble_eq_true hd) (fun μ ok s w hi => ⟨.int .i64 n, ?_, .d (.v _)⟩) g
  have e1 := (opd_den hi.tmps h1).vv
  simp only [execOp, resolve, invoke, builtin, Sem.run_bind, Sem.run_pure, Result.andThen_ok, List.map_toArray, List.map_cons, List.map_nil, e1]
  simp [Builtin.len_, run_underlying ht, goInt]
end
end Go.Sy
