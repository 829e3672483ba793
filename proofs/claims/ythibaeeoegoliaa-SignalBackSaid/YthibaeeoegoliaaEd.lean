/-
  SYMBOLIC STATES, over any program, part 40: rows that are made of zeros.
-/
import Derived.Test.YthibaeeoegoliaaEc
import Derived.Handed
import Derived.Shelf.Vars
import Derived.RangeFuncRecord
namespace Go.Sy
open Go.RowKit
section
variable {cx : Cx} {P : Program} {fn : Func} {lo : Nat} {T : Tab} {k : List It} {tm : List (Nat × SV)} {hp : List (Nat × Blk)} {nx M : Nat} {all : Array Oper} {R : List Rec} {id : Nat}
variable {d : Nat} {rest : List Oper} {ty : TypeId} {pos : String} {after : Array Edge}

theorem madeCells_one {z : Array Value} {v : Value} (hz : z = #[v]) (n i : Nat) (hi : i < n) : (madeCells z n)[i]? = some v := by
  subst hz
  unfold madeCells
  rw [Array.getElem?_map, Array.getElem?_eq_getElem (by simpa using hi)]
  simp [Nat.mod_one]

/-- A row of n zeros (of one cell each). -/
theorem AWP.make1 (e : Env cx P fn lo) (hT : TabOk P T) {t te : TypeId} {a b : Operand} {kl kc : IntKind} {l c : Int} {zt y : Ty} {zc : DV} (n : Nat) (hd : Nat.blt d fn.ntmps = true) (h1 : opd ⟨tm, hp, nx⟩ a = some (.d (.v (.int kl l)))) (h2 : opd ⟨tm, hp, nx⟩ b = some (.d (.v (.int kc c))))
    (h3 : aget t T = some zt) (h4 : zt.td = .slice te) (h5 : aget te T = some y) (h6 : y.zero = [zc]) (hl : l = n) (hc : c = n) (hb : y.bytes * n ≤ 281474976710656) (hn : n ≤ 9223372036854775807)
    (g : AWP cx (.ops all rest :: k) ⟨(d, .own nx 1 0 n n) :: tm, (nx, .row te false 1 (List.replicate n [.d zc]) n) :: hp, Nat.succ nx⟩) :
    AWP cx (.ops all (⟨some d, .makeSlice t a b, ty, pos, after, none⟩ :: rest) :: k) ⟨tm, hp, nx⟩ := by
  obtain ⟨rfl, rfl, _⟩ := e
  subst hl hc
  refine AWP.op rfl fun ac w hi => ?_
  obtain ⟨μ, ok, hI⟩ := hi.one
  have ha := (opd_den hI.tmps h1).int
  have hbv := (opd_den hI.tmps h2).int
  have u1 : cx.P.underlying t = some (.slice te) := by have := (hT _ _ h3).td; rw [h4] at this; exact this
  obtain ⟨ti, z, i1, i2, i3, i4, i5⟩ := (hT _ _ h5).info
  have hsz : y.size = 1 := by rw [← (hT _ _ h5).zlen, h6]; rfl
  have hz1 : ∃ v, z.cells = #[v] ∧ some v = dvCell zc := by
    rw [h6] at i5
    simp only [List.map_cons, List.map_nil] at i5
    cases hzl : z.cells.toList with
    | nil => rw [hzl] at i5; cases i5
    | cons v l =>
      rw [hzl] at i5
      simp only [List.map_cons, List.cons.injEq, List.map_eq_nil_iff] at i5
      obtain ⟨i6, rfl⟩ := i5
      exact ⟨v, by apply Array.ext'; rw [hzl], i6⟩
  obtain ⟨v, hv, hdv⟩ := hz1
  have hden : ∀ {μ : Nat → Option Nat} {ok : Nat → Prop} {w : World}, Den μ ok w (.d zc) v := by
    intro μ ok w
    cases zc with
    | v x => simp only [dvCell, Option.some.injEq] at hdv; subst hdv; exact .d (.v _)
    | nil => simp only [dvCell, Option.some.injEq] at hdv; subst hdv; exact .d .nil
    | sl _ _ => cases hdv
  have hrun := run_make (P := cx.P) w t te ti z u1 i1 i4 kl kc n n (by omega) (Int.le_refl _) (by rw [i3]; omega) (by omega)
  rw [Int.toNat_natCast, i2, hsz, Nat.mul_one] at hrun
  have hex : (execOp ac.eval ⟨some d, .makeSlice t a b, ty, pos, after, none⟩).run cx.P w = .ok (.value (.slice (some ⟨w.heap.size, 0, none⟩) n n)) (w.alloc (.cells (madeCells z.cells n) te)) := by
    simp only [execOp, ha, hbv, Sem.run_bind, hrun, Result.andThen_ok, Sem.run_pure]
  rw [hex, Oper.upon_value]
  have hB : DenB μ ok (w.alloc (.cells (madeCells z.cells n) te)) w.heap.size (.row te false 1 (List.replicate n [.d zc]) n) := by
    refine ⟨_, (0, 0), (MapKept.heap_alloc w _).1, fun _ => rfl, fun j _ hj => by omega, by rw [size_madeCells, Nat.mul_one], by rw [List.length_replicate]; exact Nat.le_refl _, fun i e he => ?_, fun i e j x u he hx hu => ?_⟩
    · rw [List.getElem?_replicate] at he
      split at he
      · cases he; rfl
      · cases he
    · rw [List.getElem?_replicate] at he
      split at he
      · rename_i hin
        cases he
        cases j with
        | zero =>
          cases hx
          rw [Nat.mul_one, Nat.add_zero, madeCells_one hv n i hin] at hu
          cases hu
          exact hden
        | succ j => simp at hx
      · cases he
  have a1 := hI.alloc (.cells (madeCells z.cells n) te) _ hB
  have hμ : upd μ nx w.heap.size nx = some w.heap.size := by simp [upd]
  have a2 := a1.put (Nat.le_of_ble_eq_true hd) (x := .own nx 1 0 n n) (v := .slice (some ⟨w.heap.size, 0, none⟩) n n) (by
    have := Den.own (μ := upd μ nx w.heap.size) (ok := ok) (w := w.alloc (.cells (madeCells z.cells n) te)) (id := nx) (k := 1) (lo := 0) (n := n) (C := n) (b := w.heap.size) hμ (by omega) hn
    simpa using this)
  exact g _ _ a2.inv

def keepH {Q : Type} (L : List Nat) : List Nat → List (Nat × Blk) → (List (Nat × Blk) → Q) → Q
  | _, [], k => k []
  | seen, (t, x) :: l, k => bif memN t seen then keepH L seen l k else bif memN t L then keepH L (t :: seen) l (fun r => k ((t, x) :: r)) else keepH L seen l k
theorem keepH_get {L : List Nat} : ∀ {l : List (Nat × Blk)} {seen : List Nat} {k : List (Nat × Blk) → Option (List (Nat × Blk))} {r : List (Nat × Blk)}, keepH L seen l k = some r → ∃ l', k l' = some r ∧ ∀ i B, aget i l' = some B → memN i seen = false ∧ aget i l = some B
  | [], seen, k, r, h => ⟨[], h, fun i B hi => by simp [aget] at hi⟩
  | (t, x) :: l, seen, k, r, h => by
    have drop : (memN t L = false) → keepH L seen l k = some r → ∃ l', k l' = some r ∧ ∀ i B, aget i l' = some B → memN i seen = false ∧ aget i ((t, x) :: l) = some B := fun hL h => by
      obtain ⟨l', h1, h2⟩ := keepH_getL h
      refine ⟨l', h1, fun i B hi => ?_⟩
      obtain ⟨g1, g2, g3⟩ := h2 i B hi
      refine ⟨g1, ?_⟩
      rw [aget_cons, if_neg (fun e => by rw [e, hL] at g3; cases g3)]
      exact g2
    simp only [keepH] at h
    cases h1 : memN t seen
    · rw [h1] at h
      simp only [cond_false] at h
      cases h2 : memN t L
      · rw [h2] at h
        exact drop h2 h
      · rw [h2] at h
        simp only [cond_true] at h
        obtain ⟨l', g1, g2⟩ := keepH_get h
        refine ⟨_, g1, fun i B hi => ?_⟩
        rw [aget_cons] at hi ⊢
        by_cases e : i = t
        · rw [if_pos e] at hi ⊢; subst e; exact ⟨h1, hi⟩
        · rw [if_neg e] at hi ⊢
          obtain ⟨q1, q2⟩ := g2 i B hi
          rw [memN_cons e] at q1
          exact ⟨q1, q2⟩
    · rw [h1] at h
      simp only [cond_true] at h
      obtain ⟨l', g1, g2⟩ := keepH_get h
      refine ⟨l', g1, fun i B hi => ?_⟩
      obtain ⟨q1, q2⟩ := g2 i B hi
      refine ⟨q1, ?_⟩
      rw [aget_cons, if_neg (fun e => by rw [e, h1] at q1; cases q1)]
      exact q2
where keepH_getL {L : List Nat} : ∀ {l : List (Nat × Blk)} {seen : List Nat} {k : List (Nat × Blk) → Option (List (Nat × Blk))} {r : List (Nat × Blk)}, keepH L seen l k = some r → ∃ l', k l' = some r ∧ ∀ i B, aget i l' = some B → memN i seen = false ∧ aget i l = some B ∧ memN i L = true
  | [], seen, k, r, h => ⟨[], h, fun i B hi => by simp [aget] at hi⟩
  | (t, x) :: l, seen, k, r, h => by
    simp only [keepH] at h
    cases h1 : memN t seen
    · rw [h1] at h
      simp only [cond_false] at h
      cases h2 : memN t L
      · rw [h2] at h
        simp only [cond_false] at h
        obtain ⟨l', g1, g2⟩ := keepH_getL h
        refine ⟨l', g1, fun i B hi => ?_⟩
        obtain ⟨q1, q2, q3⟩ := g2 i B hi
        refine ⟨q1, ?_, q3⟩
        rw [aget_cons, if_neg (fun e => by rw [e, h2] at q3; cases q3)]
        exact q2
      · rw [h2] at h
        simp only [cond_true] at h
        obtain ⟨l', g1, g2⟩ := keepH_getL h
        refine ⟨_, g1, fun i B hi => ?_⟩
        rw [aget_cons] at hi ⊢
        by_cases e : i = t
        · rw [if_pos e] at hi ⊢; subst e; exact ⟨h1, hi, h2⟩
        · rw [if_neg e] at hi ⊢
          obtain ⟨q1, q2, q3⟩ := g2 i B hi
          rw [memN_cons e] at q1
          exact ⟨q1, q2, q3⟩
    · rw [h1] at h
      simp only [cond_true] at h
      obtain ⟨l', g1, g2⟩ := keepH_getL h
      refine ⟨l', g1, fun i B hi => ?_⟩
      obtain ⟨q1, q2, q3⟩ := g2 i B hi
      refine ⟨q1, ?_, q3⟩
      rw [aget_cons, if_neg (fun e => by rw [e, h1] at q1; cases q1)]
      exact q2
/-- Less is known: these blocks alone. -/
theorem AWP.keepB (L : List Nat) {hp2 : List (Nat × Blk)} (h : keepH L [] hp some = some hp2) (g : AWP cx k ⟨tm, hp2, nx⟩) : AWP cx k ⟨tm, hp, nx⟩ := by
  obtain ⟨l', h1, h2⟩ := keepH_get h
  cases h1
  exact AWP.sub (fun _ _ h => h) (fun i B hB => (h2 i B hB).2) g

end
end Go.Sy

/-
  SYMBOLIC STATES, over any program, part 41: max of three.
-/
namespace Go.Sy
open Go.RowKit
section
variable {cx : Cx} {P : Program} {fn : Func} {lo : Nat} {T : Tab} {k : List It} {tm : List (Nat × SV)} {hp : List (Nat × Blk)} {nx M : Nat} {all : Array Oper} {R : List Rec} {id : Nat}
variable {d : Nat} {rest : List Oper} {ty : TypeId} {pos : String} {after : Array Edge}

theorem AWP.max3 (e : Env cx P fn lo) {x y z : Operand} {k1 k2 k3 : IntKind} {a b c : Int} {ts : Array TypeId} (hd : Nat.blt d fn.ntmps = true)
    (h1 : opd ⟨tm, hp, nx⟩ x = some (.d (.v (.int k1 a)))) (h2 : opd ⟨tm, hp, nx⟩ y = some (.d (.v (.int k2 b)))) (h3 : opd ⟨tm, hp, nx⟩ z = some (.d (.v (.int k3 c))))
    (g : AWP cx (.ops all rest :: k) ⟨(d, .d (.v (.int k1 (if c > (if b > a then b else a) then c else (if b > a then b else a))))) :: tm, hp, nx⟩) :
    AWP cx (.ops all (⟨some d, .call ⟨.builtin .max, #[x, y, z], ts⟩, ty, pos, after, none⟩ :: rest) :: k) ⟨tm, hp, nx⟩ := by
  refine AWP.op_run e (Nat.le_of_ble_eq_true hd) (fun μ ok s w hI => ⟨_, ?_, .d (.v _)⟩) g
  have e1 := (opd_den hI.tmps h1).int
  have e2 := (opd_den hI.tmps h2).int
  have e3 := (opd_den hI.tmps h3).int
  have hm : (Builtin.max_ ts ty #[s.eval x, s.eval y, s.eval z]).run P w = .ok (.int k1 (if c > (if b > a then b else a) then c else (if b > a then b else a))) w := by
    rw [e1, e2, e3]
    simp [Builtin.max_, Builtin.max2]
  have hx : execOp s.eval ⟨some d, .call ⟨.builtin .max, #[x, y, z], ts⟩, ty, pos, after, none⟩ = (do pure (.value (← Builtin.max_ ts ty #[s.eval x, s.eval y, s.eval z]))) := by
    simp only [execOp, resolve, List.map_toArray, List.map_cons, List.map_nil]
    rfl
  rw [hx, Sem.run_bind, hm]
  rfl

theorem VStep.max3 (e : Env cx P fn lo) {x y z : Operand} {k1 k2 k3 : IntKind} {a b c : Int} {ts : Array TypeId} (hd : Nat.blt d fn.ntmps = true)
    (h1 : opd ⟨tm, hp, nx⟩ x = some (.d (.v (.int k1 a)))) (h2 : opd ⟨tm, hp, nx⟩ y = some (.d (.v (.int k2 b)))) (h3 : opd ⟨tm, hp, nx⟩ z = some (.d (.v (.int k3 c)))) :
    VStep cx all hp nx ⟨some d, .call ⟨.builtin .max, #[x, y, z], ts⟩, ty, pos, after, none⟩ tm d (.d (.v (.int k1 (if c > (if b > a then b else a) then c else (if b > a then b else a))))) := by
  intro tm' k ha g
  exact AWP.max3 e hd ((opd_eq fun u hu => ha u (looks_ops (by simp [Op.operands, Call.operands]) hu)).trans h1) ((opd_eq fun u hu => ha u (looks_ops (by simp [Op.operands, Call.operands]) hu)).trans h2) ((opd_eq fun u hu => ha u (looks_ops (by simp [Op.operands, Call.operands]) hu)).trans h3) g
end
end Go.Sy

/-
  SYMBOLIC STATES, over any program, part 42: a call by its contract whose result is rows of its own; its blocks get names behind the caller's.
-/
namespace Go.Sy
open Go.RowKit

def SV.up (n : Nat) : SV → SV
  | .ptr id j => .ptr (Nat.add n id) j
  | .pel id k i j => .pel (Nat.add n id) k i j
  | .own id k lo m C => .own (Nat.add n id) k lo m C
  | .agg cs => .agg (go n cs)
  | .tup cs => .tup (go n cs)
  | .fn f a b => .fn f (go n a) (go n b)
  | .d x => .d x
  | .ip x => .ip x
  | .lit b => .lit b
where go (n : Nat) : List SV → List SV
  | [] => []
  | x :: l => SV.up n x :: go n l
def Blk.up (n : Nat) : Blk → Blk
  | .box cs => .box (SV.up.go n cs)
  | .row e f k xs C => .row e f k xs C
def upH (n : Nat) : List (Nat × Blk) → List (Nat × Blk) → List (Nat × Blk)
  | [], hp => hp
  | (i, B) :: l, hp => (Nat.add n i, B.up n) :: upH n l hp
/-- What a row holds has no names. -/
def Blk.okU : Blk → Prop
  | .box _ => True
  | .row _ _ _ xs _ => ∀ e ∈ xs, SV.idsLt.go 0 e = true
def okU : List (Nat × Blk) → Prop
  | [] => True
  | (_, B) :: l => B.okU ∧ okU l
def keysLt (n : Nat) : List (Nat × Blk) → Bool
  | [] => true
  | (i, _) :: l => bif Nat.blt i n then keysLt n l else false

theorem up_get (n : Nat) (l : List SV) : (SV.up.go n l).length = l.length ∧ ∀ (j : Nat) c, (SV.up.go n l)[j]? = some c → ∃ d, l[j]? = some d ∧ c = SV.up n d := by
  induction l with
  | nil => exact ⟨rfl, by simp [SV.up.go]⟩
  | cons x l ih =>
    refine ⟨by simp only [SV.up.go, List.length_cons, ih.1], fun j c hc => ?_⟩
    cases j with
    | zero => cases hc; exact ⟨x, rfl, rfl⟩
    | succ j => exact ih.2 j c (by simpa [SV.up.go] using hc)

theorem Den.up {μ μ' : Nat → Option Nat} {ok : Nat → Prop} {w : World} {n : Nat} (hμ : ∀ i b, μ i = some b → μ' (n + i) = some b) {x : SV} {v : Value} (h : Den μ ok w x v) : Den μ' ok w (x.up n) v := by
  induction h with
  | d h => exact .d h
  | ptr h => exact .ptr (hμ _ _ h)
  | pel h => exact .pel (hμ _ _ h)
  | own h h1 h2 => exact .own (hμ _ _ h) h1 h2
  | ip a h4 => exact .ip a h4
  | lit b => exact .lit b
  | ownNil a id k lo => exact .ownNil a _ k lo
  | agg vs h h1 ih =>
    rename_i cs
    obtain ⟨g1, g2⟩ := up_get n cs
    exact .agg vs (by rw [h, g1]) fun j c u hc hu => by obtain ⟨d, hd, rfl⟩ := g2 j c hc; exact ih j d u hd hu
  | tup vs h h1 ih =>
    rename_i cs
    obtain ⟨g1, g2⟩ := up_get n cs
    exact .tup vs (by rw [h, g1]) fun j c u hc hu => by obtain ⟨d, hd, rfl⟩ := g2 j c hc; exact ih j d u hd hu
  | fn vs us h h1 h2 h3 ih1 ih2 =>
    rename_i cs ds
    obtain ⟨g1, g2⟩ := up_get n cs
    obtain ⟨g3, g4⟩ := up_get n ds
    exact .fn vs us (by rw [h, g1]) (fun j c u hc hu => by obtain ⟨d, hd, rfl⟩ := g2 j c hc; exact ih1 j d u hd hu) (by rw [h2, g3]) (fun j c u hc hu => by obtain ⟨d, hd, rfl⟩ := g4 j c hc; exact ih2 j d u hd hu)

theorem DenB.up {μ μ' : Nat → Option Nat} {ok : Nat → Prop} {w : World} {n : Nat} (hμ : ∀ i b, μ i = some b → μ' (n + i) = some b) {b : Nat} {B : Blk} (h : DenB μ ok w b B) (hl : B.okU) : DenB μ' ok w b (B.up n) := by
  cases B with
  | box cs =>
    obtain ⟨c, T, z, h1, hz, h2, h3⟩ := h
    obtain ⟨g1, g2⟩ := up_get n cs
    exact ⟨c, T, z, h1, hz, by rw [h2, g1], fun j x u hx hu => by obtain ⟨d, hd, rfl⟩ := g2 j x hx; exact (h3 j d u hd hu).up hμ⟩
  | row T fz k xs C =>
    obtain ⟨c, z, h1, hf, hz, h2, h3, h4, h5⟩ := h
    exact ⟨c, z, h1, hf, hz, h2, h3, h4, fun i e j x u he hx hu => (h5 i e j x u he hx hu).cut (n := 0) (fun i hi => by omega) (idsLt_go (hl e (List.mem_of_getElem? he)) j x hx)⟩

theorem upB_ghost {n : Nat} {B : Blk} (h : B.ghost) : (B.up n).ghost := by
  cases B with
  | box cs => exact h
  | row => exact h

theorem okU_get {h : List (Nat × Blk)} (ho : okU h) : ∀ i B, aget i h = some B → B.okU := by
  induction h with
  | nil => intro i B hB; simp [aget] at hB
  | cons p l ih =>
    obtain ⟨u, y⟩ := p
    intro i B hB
    rw [aget_cons] at hB
    by_cases e : i = u
    · rw [if_pos e] at hB; cases hB; exact ho.1
    · rw [if_neg e] at hB; exact ih ho.2 i B hB

theorem keysLt_get {n : Nat} {h : List (Nat × Blk)} (ho : keysLt n h = true) : ∀ i B, aget i h = some B → i < n := by
  induction h with
  | nil => intro i B hB; simp [aget] at hB
  | cons p l ih =>
    obtain ⟨u, y⟩ := p
    simp only [keysLt, cond_eq_ite] at ho
    split at ho
    · rename_i hu
      intro i B hB
      rw [aget_cons] at hB
      by_cases e : i = u
      · rw [e]; exact Nat.le_of_ble_eq_true hu
      · rw [if_neg e] at hB; exact ih ho i B hB
    · cases ho

theorem upH_get {n : Nat} {hp : List (Nat × Blk)} (h : List (Nat × Blk)) : ∀ i B, aget i (upH n h hp) = some B → (∃ i0 B0, i = n + i0 ∧ aget i0 h = some B0 ∧ B = B0.up n) ∨ aget i hp = some B := by
  induction h with
  | nil => exact fun i B hB => .inr hB
  | cons p l ih =>
    obtain ⟨u, y⟩ := p
    intro i B hB
    simp only [upH] at hB
    rw [aget_cons] at hB
    have hB : (if i = n + u then some (Blk.up n y) else aget i (upH n l hp)) = some B := hB
    by_cases e : i = n + u
    · rw [if_pos e] at hB
      cases hB
      exact .inl ⟨u, y, e, by rw [aget_cons, if_pos rfl], rfl⟩
    · rw [if_neg e] at hB
      rcases ih i B hB with ⟨i0, B0, h1, h2, h3⟩ | h1
      · refine .inl ⟨i0, B0, h1, ?_, h3⟩
        rw [aget_cons, if_neg (by omega)]
        exact h2
      · exact .inr h1

section
variable {cx : Cx} {P : Program} {fn : Func} {lo : Nat} {T : Tab} {k : List It} {tm : List (Nat × SV)} {hp : List (Nat × Blk)} {nx : Nat}

/-- A CALL BY ITS CONTRACT, whose result may be rows that are new: they are the caller's own, then. -/
theorem AWP.callO (e : Env cx P fn lo) {f : FuncId} {cs : List SV} {Post : SV → List (Nat × Blk) → Nat → Prop} (hE : Eff P f cs [] 0 Post) {all : Array Oper} {rest : List Oper} {dst : Option Tmp} {c : Call} {ty : TypeId} {pos : String} {after : Array Edge} {xs : List SV}
    (hc : acall ⟨tm, hp, nx⟩ c = some (f, xs)) (hcv : CvL hp [] xs cs) (hno : SV.noIds.go cs = true) (hd : dstOk fn.ntmps dst = true) (hk : keysLt nx hp = true)
    (h : ∀ r h n, Post r h n → okU h ∧ AWP cx (.ops all rest :: k) ⟨tput dst (r.up nx) tm, upH nx h hp, Nat.add nx n⟩) :
    AWP cx (.ops all (⟨dst, .call c, ty, pos, after, none⟩ :: rest) :: k) ⟨tm, hp, nx⟩ := by
  obtain ⟨hE1, hE2⟩ := hE
  obtain ⟨rfl, rfl, _⟩ := e
  refine AWP.op rfl fun a w hi => ?_
  obtain ⟨μ, ok, hi⟩ := hi.one
  obtain ⟨vs, h1, h2⟩ := acall_ok hi.tmps hc (⟨dst, .call c, ty, pos, after, none⟩ : Oper) rfl hE1
  rw [h1, Oper.upon_enter]
  let cx2 : Cx := ⟨cx.P, cx.fn, w, fun _ => none, ok, fun _ => False, fun _ _ _ => True, fun _ _ _ => False⟩
  have howned : ∀ i B b, aget i hp = some B → μ i = some b → b < w.heap.size ∧ ¬ ok b := fun i B b hB hb => by
    obtain ⟨_, hn⟩ | ⟨b', g1, g2, g3, _⟩ := hi.heap.own i B hB
    · rw [hn] at hb; cases hb
    rw [hb] at g1
    cases g1
    exact ⟨g2, g3⟩
  have hH : HInv cx2 cx2.μ0 cx2.ok0 [] 0 cx2.w0 := ⟨fun _ _ h => h, fun _ _ => rfl, fun _ h => h, hi.heap.lt, fun _ h => .inl h, fun i B h => by simp [aget] at h, fun i j C D b h => by simp [aget] at h, fun _ _ _ => rfl, Nat.le_refl _, rfl, rfl, rfl⟩
  obtain ⟨hl1, hl2⟩ := hcv.get
  have hnoj : ∀ (j : Nat) c, cs[j]? = some c → SV.noIds c = true := by
    have : ∀ (l : List SV), SV.noIds.go l = true → ∀ (j : Nat) c, l[j]? = some c → SV.noIds c = true := by
      intro l
      induction l with
      | nil => intro _ j c hc; simp at hc
      | cons x l ih =>
        intro h j c hc
        simp only [SV.noIds.go, Bool.and_eq_true] at h
        cases j with
        | zero => cases hc; exact h.1
        | succ j => exact ih h.2 j c (by simpa using hc)
    exact this cs hno
  refine (hE2 cx2 vs rfl (fun b => ⟨fun h => h.elim, fun ⟨i, B, h, _⟩ => by simp [aget] at h⟩) hH (by rw [h2.1, hl1]) (fun j c u hcj hu => by
    have hj : j < xs.length := by rw [hl1]; exact (List.getElem?_eq_some_iff.1 hcj).1
    have hx := h2.2 j xs[j] u (by simp [hj]) hu
    have := Cv.den (ok' := ok) hi.hh (fun _ h => h) (fun i hm B hB b hb => by cases hm) (hl2 j xs[j] c (by simp [hj]) hcj) hx
    exact this.any (hnoj j c hcj))).mono ?_
  rintro e w' ⟨v, μ', ok', r, h', n', rfl, g1, g2, g3⟩
  obtain ⟨k1, k2⟩ := h r h' n' g3
  let μ2 : Nat → Option Nat := fun i => if i < nx then μ i else μ' (i - nx)
  have hm2 : ∀ i b, μ i = some b → μ2 i = some b := fun i b hb => by
    have : i < nx := by
      rcases Nat.lt_or_ge i nx with h | h
      · exact h
      · rw [hi.heap.fresh i h] at hb; cases hb
    simp only [μ2, if_pos this]; exact hb
  have hu2 : ∀ i, μ2 (nx + i) = μ' i := fun i => by show (if nx + i < nx then μ (nx + i) else μ' (nx + i - nx)) = _; rw [if_neg (by omega), Nat.add_sub_cancel_left]
  have hup : ∀ i b, μ' i = some b → μ2 (nx + i) = some b := fun i b hb => by rw [hu2]; exact hb
  have hlow : ∀ i, i < nx → μ2 i = μ i := fun i h => by simp only [μ2, if_pos h]
  have hfr : ∀ b, b < w.heap.size → w'.heap[b]? = w.heap[b]? := fun b hb => g1.frame b hb (fun h => h)
  have hokf : ∀ b, ok b → w'.heap[b]? = w.heap[b]? := fun b hb => hfr b (hi.heap.lt b hb)
  have hsz : w.heap.size ≤ w'.heap.size := g1.size
  have hsub : ∀ b, ok b → ok' b := g1.sub
  have hnew : ∀ i B b, aget i h' = some B → μ' i = some b → w.heap.size ≤ b := fun i B b hB hb => by
    obtain ⟨_, q⟩ | ⟨b', q1, _, _, q4, _⟩ := g1.own i B hB
    · rw [q] at hb; cases hb
    · rw [hb] at q1; cases q1
      rcases q4 with q4 | q4
      · exact q4
      · exact q4.elim
  have hI : Inv1 cx μ2 ok' ⟨tm, upH nx h' hp, Nat.add nx n'⟩ a w' := by
    refine ⟨hi.defers, hi.size, ⟨fun i b hb => hm2 i b (hi.heap.mu i b hb), fun i h => ?_, fun b hb => hsub b (hi.heap.sub b hb), g1.lt, fun b hb => ?_, fun i B hB => ?_, fun i j B C b hB hC hb hb' => ?_, fun b hb hF => ?_, Nat.le_trans hi.heap.size hsz, g1.os.trans hi.heap.os, g1.tape.trans hi.heap.tape, g1.output.trans hi.heap.output⟩, fun t x hx => (hi.tmps t x hx).mono hm2 hsub hokf⟩
    · have h : nx + n' ≤ i := h
      show μ2 i = none
      simp only [μ2]
      rw [if_neg (by omega)]
      exact g1.fresh _ (by omega)
    · rcases g1.okNew b hb with h1 | h1 | h1
      · exact hi.heap.okNew b h1
      · exact .inr (.inl (Nat.le_trans hi.heap.size h1))
      · exact h1.elim
    · rcases upH_get h' i B hB with ⟨i0, B0, rfl, hB0, rfl⟩ | hB
      · obtain ⟨q1, q2⟩ | ⟨b, q1, q2, q3, q4, q5⟩ := g1.own i0 B0 hB0
        · exact .inl ⟨upB_ghost q1, by rw [hu2]; exact q2⟩
        · refine .inr ⟨b, hup _ _ q1, q2, q3, ?_, q5.up hup (okU_get k1 i0 B0 hB0)⟩
          exact .inl (Nat.le_trans hi.heap.size (hnew i0 B0 b hB0 q1))
      · have hlt := keysLt_get hk i B hB
        obtain ⟨q1, q2⟩ | ⟨b, q1, q2, q3, q4, q5⟩ := hi.heap.own i B hB
        · exact .inl ⟨q1, by rw [hlow i hlt]; exact q2⟩
        · refine .inr ⟨b, hm2 _ _ q1, Nat.lt_of_lt_of_le q2 hsz, fun hb => ?_, q4, q5.mono hm2 hsub hokf (hfr b q2)⟩
          rcases g1.okNew b hb with h1 | h1 | h1
          · exact q3 h1
          · exact absurd q2 (Nat.not_lt.2 h1)
          · exact h1.elim
    · rcases upH_get h' i B hB with ⟨i0, B0, rfl, hB0, rfl⟩ | hB
      · rw [hu2] at hb
        rcases upH_get h' j C hC with ⟨j0, C0, rfl, hC0, rfl⟩ | hC
        · rw [hu2] at hb'
          exact congrArg (nx + ·) (g1.inj i0 j0 B0 C0 b hB0 hC0 hb hb')
        · rw [hlow j (keysLt_get hk j C hC)] at hb'
          have q1 := hnew i0 B0 b hB0 hb
          have q2 := (howned j C b hC hb').1
          exact absurd q2 (Nat.not_lt.2 q1)
      · rw [hlow i (keysLt_get hk i B hB)] at hb
        rcases upH_get h' j C hC with ⟨j0, C0, rfl, hC0, rfl⟩ | hC
        · rw [hu2] at hb'
          have q1 := hnew j0 C0 b hC0 hb'
          have q2 := (howned i B b hB hb).1
          exact absurd q2 (Nat.not_lt.2 q1)
        · rw [hlow j (keysLt_get hk j C hC)] at hb'
          exact hi.heap.inj i j B C b hB hC hb hb'
    · exact (hfr b (Nat.lt_of_lt_of_le hb hi.heap.size)).trans (hi.heap.frame b hb hF)
  exact k2 _ _ (hI.dput (dstOk_lt hd) (g2.up hup)).inv

/-- The same, for a contract 'the result is R C, its blocks are H C, for some C'. -/
theorem AWP.callC (e : Env cx P fn lo) {f : FuncId} {all : Array Oper} {rest : List Oper} {dst : Option Tmp} {c : Call} {ty : TypeId} {pos : String} {after : Array Edge} {xs : List SV} {N m : Nat} {R : Nat → SV} {H : Nat → List (Nat × Blk)}
    (hE : Eff P f xs [] 0 (fun r h n => ∃ C, m ≤ C ∧ r = R C ∧ h = H C ∧ n = N))
    (hc : acall ⟨tm, hp, nx⟩ c = some (f, xs)) (hno : SV.noIds.go xs = true) (hd : dstOk fn.ntmps dst = true) (hk : keysLt nx hp = true)
    (h : ∀ C, m ≤ C → okU (H C) ∧ AWP cx (.ops all rest :: k) ⟨tput dst ((R C).up nx) tm, upH nx (H C) hp, Nat.add nx N⟩) :
    AWP cx (.ops all (⟨dst, .call c, ty, pos, after, none⟩ :: rest) :: k) ⟨tm, hp, nx⟩ := by
  refine AWP.callO e hE hc (CvL.rfl' _) hno hd hk ?_
  rintro r h' n ⟨C, h1, rfl, rfl, rfl⟩
  exact h C h1
end
end Go.Sy

/-
  SYMBOLIC STATES, over any program, part 43: a contract of the kit's library, whose arguments and result bear no memory, as a contract of ours.
-/
namespace Go.Sy
open Go.RowKit

/-- A call that gives a plain value and touches nothing that was there. -/
theorem eff_calls {P : Program} {f : FuncId} {fn : Func} {v : Value} (vals : List Value) (hf : P.funcs[f]? = some fn) (hn : (fn.name == "runtime.NumGoroutine") = false) (hb : fn.body.isNone = false)
    (h : ∀ w, Calls P f vals.toArray w fun e w' => e = .returned v ∧ Below w.heap.size w w') : Eff P f (vals.map fun x => .d (.v x)) [] 0 (fun r _ _ => r = .d (.v v)) := by
  refine ⟨enters hf hn hb, fun cx vs hP hF hH hs hd => ?_⟩
  have hv : vs = vals.toArray := by
    apply Array.ext
    · simpa using hs
    · intro j h1 h2
      have h3 : j < vals.length := by simpa using h2
      have := (hd j (.d (.v vals[j])) vs[j] (by simp [h3]) (by simp [h1])).vv
      simpa using this
  subst hv
  refine (h cx.w0).mono fun e w' hh => ?_
  obtain ⟨he, hw⟩ := hh
  refine ⟨v, cx.μ0, cx.ok0, .d (.v v), [], 0, he, ⟨hH.mu, hH.fresh, hH.sub, fun b hb => Nat.lt_of_lt_of_le (hH.lt b hb) hw.size, hH.okNew, fun i B hi => absurd hi (by simp [aget]), fun i j B C b hi => absurd hi (by simp [aget]), fun b hb _ => hw.block b hb, hw.size, hw.os, hw.tape, hw.output⟩, .d (.v v), rfl⟩

end Go.Sy

/-
  SYMBOLIC STATES, over any program, part 44: 'and', 'or', 'xor' of numbers of a kind without a sign, as rows of bits; conversions between such kinds.
-/
namespace Go.Sy
open Go.RowKit

theorem ofInt_bv {n : Nat} (x : BitVec n) : BitVec.ofInt n (x.toNat : Int) = x := by
  apply BitVec.eq_of_toInt_eq
  rw [BitVec.toInt_ofInt, BitVec.toInt_eq_toNat_bmod]
theorem ofInt_lit {n : Nat} (m : Nat) : BitVec.ofInt n (m : Int) = BitVec.ofNat n m := by
  apply BitVec.eq_of_toNat_eq
  rw [BitVec.toNat_ofNat, BitVec.toNat_ofInt]
  norm_cast

theorem u8and (x y : BitVec 8) : IntKind.wrap .u8 (((BitVec.ofInt IntKind.u8.bits (x.toNat : Int) &&& BitVec.ofInt IntKind.u8.bits (y.toNat : Int)).toNat : Nat) : Int) = ((x &&& y).toNat : Int) := by
  rw [show BitVec.ofInt IntKind.u8.bits (x.toNat : Int) = x from ofInt_bv x, show BitVec.ofInt IntKind.u8.bits (y.toNat : Int) = y from ofInt_bv y]
  exact u8w (x &&& y)
theorem u8or (x y : BitVec 8) : IntKind.wrap .u8 (((BitVec.ofInt IntKind.u8.bits (x.toNat : Int) ||| BitVec.ofInt IntKind.u8.bits (y.toNat : Int)).toNat : Nat) : Int) = ((x ||| y).toNat : Int) := by
  rw [show BitVec.ofInt IntKind.u8.bits (x.toNat : Int) = x from ofInt_bv x, show BitVec.ofInt IntKind.u8.bits (y.toNat : Int) = y from ofInt_bv y]
  exact u8w (x ||| y)
theorem u8xor (x y : BitVec 8) : IntKind.wrap .u8 (((BitVec.ofInt IntKind.u8.bits (x.toNat : Int) ^^^ BitVec.ofInt IntKind.u8.bits (y.toNat : Int)).toNat : Nat) : Int) = ((x ^^^ y).toNat : Int) := by
  rw [show BitVec.ofInt IntKind.u8.bits (x.toNat : Int) = x from ofInt_bv x, show BitVec.ofInt IntKind.u8.bits (y.toNat : Int) = y from ofInt_bv y]
  exact u8w (x ^^^ y)
theorem u32and (x y : BitVec 32) : IntKind.wrap .u32 (((BitVec.ofInt IntKind.u32.bits (x.toNat : Int) &&& BitVec.ofInt IntKind.u32.bits (y.toNat : Int)).toNat : Nat) : Int) = ((x &&& y).toNat : Int) := by
  rw [show BitVec.ofInt IntKind.u32.bits (x.toNat : Int) = x from ofInt_bv x, show BitVec.ofInt IntKind.u32.bits (y.toNat : Int) = y from ofInt_bv y]
  exact u32w (x &&& y)
theorem u32or (x y : BitVec 32) : IntKind.wrap .u32 (((BitVec.ofInt IntKind.u32.bits (x.toNat : Int) ||| BitVec.ofInt IntKind.u32.bits (y.toNat : Int)).toNat : Nat) : Int) = ((x ||| y).toNat : Int) := by
  rw [show BitVec.ofInt IntKind.u32.bits (x.toNat : Int) = x from ofInt_bv x, show BitVec.ofInt IntKind.u32.bits (y.toNat : Int) = y from ofInt_bv y]
  exact u32w (x ||| y)
theorem u32xor (x y : BitVec 32) : IntKind.wrap .u32 (((BitVec.ofInt IntKind.u32.bits (x.toNat : Int) ^^^ BitVec.ofInt IntKind.u32.bits (y.toNat : Int)).toNat : Nat) : Int) = ((x ^^^ y).toNat : Int) := by
  rw [show BitVec.ofInt IntKind.u32.bits (x.toNat : Int) = x from ofInt_bv x, show BitVec.ofInt IntKind.u32.bits (y.toNat : Int) = y from ofInt_bv y]
  exact u32w (x ^^^ y)
theorem u64and (x y : BitVec 64) : IntKind.wrap .u64 (((BitVec.ofInt IntKind.u64.bits (x.toNat : Int) &&& BitVec.ofInt IntKind.u64.bits (y.toNat : Int)).toNat : Nat) : Int) = ((x &&& y).toNat : Int) := by
  rw [show BitVec.ofInt IntKind.u64.bits (x.toNat : Int) = x from ofInt_bv x, show BitVec.ofInt IntKind.u64.bits (y.toNat : Int) = y from ofInt_bv y]
  exact u64w (x &&& y)
theorem u64or (x y : BitVec 64) : IntKind.wrap .u64 (((BitVec.ofInt IntKind.u64.bits (x.toNat : Int) ||| BitVec.ofInt IntKind.u64.bits (y.toNat : Int)).toNat : Nat) : Int) = ((x ||| y).toNat : Int) := by
  rw [show BitVec.ofInt IntKind.u64.bits (x.toNat : Int) = x from ofInt_bv x, show BitVec.ofInt IntKind.u64.bits (y.toNat : Int) = y from ofInt_bv y]
  exact u64w (x ||| y)

/-- A shift by a number that is not below 0, told as one. -/
theorem toNat_sub {a b c : Nat} (h : c + b ≤ a) : (((a : Int) - (b : Int)) - (c : Int)) = ((a - b - c : Nat) : Int) := by omega
theorem wrap_nat (k : IntKind) (hk : k.signed = false) {n : Nat} (h : n < 2 ^ k.bits) : k.wrap (n : Int) = (n : Int) := by
  rw [wrapN k hk, Nat.mod_eq_of_lt h]

end Go.Sy

/-
  SYMBOLIC STATES, over any program, part 45: drawn regions that look into rows of one's own, and write them, at a place that is told.
-/
namespace Go.Sy
open Go.RowKit
section
variable {cx : Cx} {P : Program} {fn : Func} {lo : Nat} {T : Tab} {k : List It} {tm : List (Nat × SV)} {hp : List (Nat × Blk)} {nx M : Nat} {all : Array Oper} {R : List Rec} {id : Nat}
variable {d : Nat} {q : Nat} {rest : List Oper} {ty : TypeId} {pos : String} {after : Array Edge}

theorem DrG.idx_own (n : Nat) (e : Env cx P fn lo) (hT : TabOk P T) {t te : TypeId} {x ix : Operand} {kk : IntKind} {i : Int} {b m l w C : Nat} (hd : Nat.blt d fn.ntmps = true) (h1 : opd ⟨tmS R tm, [], 0⟩ x = some (.own b m l w C)) (h2 : opd ⟨tmS R tm, [], 0⟩ ix = some (.d (.v (.int kk i))))
    (h3 : tySl T t = some (te, m)) (hi : i = n) (hn : n < w) (hb : Nat.blt b M = true) (h : DrG cx all id k tm hp nx M (Nat.succ q) rest (⟨q, some d, .pel b m (l + n) 0, [], [], []⟩ :: R)) : DrG cx all id k tm hp nx M q (⟨some d, .indexAddr t x ix, ty, pos, after, none⟩ :: rest) R :=
  DrG.v (x := .pel b m (l + n) 0) rfl (fun hp0 => VStep.idx_own (hp := hp0) (nx := M) e hT hd h1 h2 h3 n hi hn) hb h
theorem DrG.idx_ownGo (n : Nat) (e : Env cx P fn lo) (hT : TabOk P T) {t te : TypeId} {x ix : Operand} {kk : IntKind} {i : Int} {b m l w C jg dj : Nat} {wg : Bool} (hg : guardS all (tmS R tm) jg = .told dj wg) (hd : Nat.blt d fn.ntmps = true) (h1 : opd ⟨tmS R tm, [], 0⟩ x = some (.own b m l w C)) (h2 : opd ⟨tmS R tm, [], 0⟩ ix = some (.d (.v (.int kk i))))
    (h3 : tySl T t = some (te, m)) (hi : i = n) (hn : n < w) (hb : Nat.blt b M = true) (h : DrG cx all id k tm hp nx M (Nat.succ q) rest (⟨q, some d, .pel b m (l + n) 0, [], [], []⟩ :: R)) : DrG cx all id k tm hp nx M q (⟨some d, .indexAddr t x ix, ty, pos, after, some (jg, wg)⟩ :: rest) R :=
  DrG.v (x := .pel b m (l + n) 0) rfl (fun hp0 => VStep.go hg (VStep.idx_own (hp := hp0) (nx := M) e hT hd h1 h2 h3 n hi hn)) hb h
theorem DrG.load_el (v : SV) (e : Env cx P fn lo) (hT : TabOk P T) {t : TypeId} {a : Operand} {y : Ty} {b m i j C : Nat} {te : TypeId} {fz : Bool} {xs : List (List SV)} {el : List SV} (hd : Nat.blt d fn.ntmps = true) (h1 : opd ⟨tmS R tm, [], 0⟩ a = some (.pel b m i j)) (h2 : aget t T = some y)
    (h3 : aget b (hpS R hp) = some (.row te fz m xs C)) (he : xs[i]? = some el) (h4 : part1 y.td.agg y.size j el = .val v True) (hx : SV.idsLt M v = true) (h : DrG cx all id k tm hp nx M (Nat.succ q) rest (⟨q, some d, v, [b], [], []⟩ :: R)) : DrG cx all id k tm hp nx M q (⟨some d, .load t a, ty, pos, after, none⟩ :: rest) R :=
  DrG.v1 rfl h3 (fun hp' hb => VStep.load_el (hp := hp') (nx := M) e hT hd (show opd ⟨tmS R tm, hp', M⟩ a = _ from h1) h2 hb he h4) hx h
theorem DrG.load_elGo (v : SV) (e : Env cx P fn lo) (hT : TabOk P T) {t : TypeId} {a : Operand} {y : Ty} {b m i j C jg dj : Nat} {wg : Bool} {te : TypeId} {fz : Bool} {xs : List (List SV)} {el : List SV} (hg : guardS all (tmS R tm) jg = .told dj wg) (hd : Nat.blt d fn.ntmps = true) (h1 : opd ⟨tmS R tm, [], 0⟩ a = some (.pel b m i j)) (h2 : aget t T = some y)
    (h3 : aget b (hpS R hp) = some (.row te fz m xs C)) (he : xs[i]? = some el) (h4 : part1 y.td.agg y.size j el = .val v True) (hx : SV.idsLt M v = true) (h : DrG cx all id k tm hp nx M (Nat.succ q) rest (⟨q, some d, v, [b], [], []⟩ :: R)) : DrG cx all id k tm hp nx M q (⟨some d, .load t a, ty, pos, after, some (jg, wg)⟩ :: rest) R :=
  DrG.v1 rfl h3 (fun hp' hb => VStep.go hg (VStep.load_el (hp := hp') (nx := M) e hT hd (show opd ⟨tmS R tm, hp', M⟩ a = _ from h1) h2 hb he h4)) hx h
/-- A store into a row's element, which is one cell. -/
theorem DrG.store_el (e : Env cx P fn lo) (hT : TabOk P T) {dst : Option Nat} {t : TypeId} {a b : Operand} {i m n j C : Nat} {te : TypeId} {fz : Bool} {xs : List (List SV)} {y : Ty} {x : SV} {vs el el' : List SV} (hd : dstOk fn.ntmps dst = true) (h1 : opd ⟨tmS R tm, [], 0⟩ a = some (.pel i m n j)) (hv : opd ⟨tmS R tm, [], 0⟩ b = some x) (h2 : aget t T = some y)
    (h3 : aget i (hpS R hp) = some (.row te fz m xs C)) (he : xs[n]? = some el) (hvs : cellsOf x = some vs) (hl : Nat.beq (lenK vs) y.size = true) (ha : allCells vs = true) (h4 : laid j vs el = some el') (hx : ∀ z ∈ xs.set n el', SV.idsLt.go 0 z = true) (hi : Nat.blt i M = true)
    (h : DrG cx all id k tm hp nx M (Nat.succ q) rest (⟨q, dst, undefS, [i], [(i, some (.row te fz m (xs.set n el') C))], []⟩ :: R)) : DrG cx all id k tm hp nx M q (⟨dst, .store t a b, ty, pos, after, none⟩ :: rest) R := by
  refine DrG.step (d := dst) (x := undefS) (eff := [(i, some (.row te fz m (xs.set n el') C))]) (nw := []) (rds := [(i, .row te fz m xs C)]) (fun t ht => ht) (fun p hp => by simp only [List.mem_singleton] at hp; subst hp; exact h3) rfl ⟨⟨hi, hx⟩, trivial⟩ (fun tm' hp' k a1 a2 _ _ g => ?_) h
  have h1' : opd ⟨tm', hp', M⟩ a = some (.pel i m n j) := (opd_eq fun u hu => a1 u (looks_ops (by simp [Op.operands]) hu)).trans h1
  have hv' : opd ⟨tm', hp', M⟩ b = some x := (opd_eq fun u hu => a1 u (looks_ops (by simp [Op.operands]) hu)).trans hv
  exact AWP.store_el e hT hd h1' hv' h2 (a2 (i, .row te fz m xs C) (by simp)) he hvs hl ha h4 g
/-- Any value in another form. -/
theorem DrG.eqV {q0 : Nat} {d0 : Option Nat} {x x' : SV} {rd : List Nat} {eff : List (Nat × Option Blk)} {nw : List Nat} (hx : x = x') (h : DrG cx all id k tm hp nx M q rest (⟨q0, d0, x', rd, eff, nw⟩ :: R)) : DrG cx all id k tm hp nx M q rest (⟨q0, d0, x, rd, eff, nw⟩ :: R) := by
  subst hx; exact h
theorem AWP.idx_elt (n : Nat) (e : Env cx P fn lo) (hT : TabOk P T) {t te : TypeId} {x ix : Operand} {kk : IntKind} {i : Int} {m : Nat} {xs : List (List DV)} (hd : Nat.blt d fn.ntmps = true) (h1 : opd ⟨tm, hp, nx⟩ x = some (.d (.sl m xs))) (h2 : opd ⟨tm, hp, nx⟩ ix = some (.d (.v (.int kk i))))
    (h3 : tySl T t = some (te, m)) (hi : i = n) {el : List DV} (he : xs[n]? = some el) (g : AWP cx (.ops all rest :: k) ⟨(d, .ip el) :: tm, hp, nx⟩) :
    AWP cx (.ops all (⟨some d, .indexAddr t x ix, ty, pos, after, none⟩ :: rest) :: k) ⟨tm, hp, nx⟩ := AWP.idx e hT hd h1 h2 h3 n hi he g
end
end Go.Sy

/-
  SYMBOLIC STATES, over any program, part 46: one element more behind a row, told by a list.
-/
namespace Go.Sy
open Go.RowKit
section
variable {cx : Cx} {P : Program} {fn : Func} {lo : Nat} {T : Tab} {k : List It} {tm : List (Nat × SV)} {hp : List (Nat × Blk)} {nx M : Nat} {all : Array Oper} {R : List Rec} {id : Nat}
variable {d : Nat} {q : Nat} {rest : List Oper} {ty : TypeId} {pos : String} {after : Array Edge}

theorem AWP.append1 {α : Type} (f : α → List SV) (xs : List α) (x : α) (e : Env cx P fn lo) (hT : TabOk P T) {s0 sx : Operand} {t te te2 : TypeId} {y : Ty} {id id2 m C C0 C1 n n1 : Nat} {fz2 : Bool} {row : List (List SV)} {el : List SV} (hd : Nat.blt d fn.ntmps = true) (h1 : opd ⟨tm, hp, nx⟩ s0 = some (.own id m 0 n C)) (h2 : opd ⟨tm, hp, nx⟩ sx = some (.own id2 m 0 n1 C0))
    (hrow : aget id hp = some (.row te false m row C)) (hrow2 : aget id2 hp = some (.row te2 fz2 m [el] C1)) (ht : tySl T t = some (te, m)) (hy : aget te T = some y) (hm : Nat.blt 0 m = true) {hp' : List (Nat × Blk)} (hdel : adelO id hp = some hp')
    (hn1 : n1 = 1) (hn : n = xs.length) (hr : row = xs.map f) (hel : el = f x) (hcell : allCells (f x) = true) (hb : (xs.length + 1) * y.bytes ≤ 140737488355328) (hsz : xs.length + 1 ≤ 9223372036854775807)
    (g : ∀ C2, AWP cx (.ops all rest :: k) ⟨(d, .own nx m 0 (xs ++ [x]).length C2) :: tm, (nx, .row te false m ((xs ++ [x]).map f) C2) :: hp', Nat.succ nx⟩) :
    AWP cx (.ops all (⟨some d, .call ⟨.builtin .append, #[s0, sx], #[t, t]⟩, ty, pos, after, none⟩ :: rest) :: k) ⟨tm, hp, nx⟩ := by
  subst hr hel hn1 hn
  refine AWP.append e hT hd h1 h2 hrow ht hy hm hdel (.own hrow2 (by simp)) (by simp) (by simpa using hcell) (by simpa using hb) (by simpa using hsz) fun C2 hC2 => ?_
  have := g C2
  rw [List.map_append] at this
  simpa using this
end
end Go.Sy

/-
  SYMBOLIC STATES, over any program, part 47: a contract of the kit's library that reads a row of texts, as a contract of ours.
-/
namespace Go.Sy
open Go.RowKit

theorem addr_add (b o n : Nat) : (⟨b, o, none⟩ : Addr).add n = ⟨b, o + n, none⟩ := by
  unfold Addr.add
  split
  · rename_i h; subst h; rfl
  · rfl
/-- What a row of one-cell elements that are plain says of memory. -/
theorem row_of {ok : Nat → Prop} {w : World} {xs : List Value} {y : Value} (h : DDen ok w (.sl 1 (xs.map fun x => [.v x])) y) :
    (xs = [] ∧ ∃ a c, y = .slice a 0 c) ∨ ∃ b o c, y = .slice (some ⟨b, o, none⟩) xs.length c ∧ xs.length ≤ c ∧ ok b ∧ ∀ (j : Nat) x, xs[j]? = some x → w.cell? ⟨b, o + j, none⟩ = some x := by
  rcases slOf h with ⟨h1, h2⟩ | ⟨a, cap, h1, h2, h3, h4, h5⟩
  · exact .inl ⟨List.map_eq_nil_iff.1 h1, none, 0, h2⟩
  · rw [List.length_map] at h1 h2
    cases xs with
    | nil => exact .inl ⟨rfl, _, _, h1⟩
    | cons x0 xs =>
      have hat : ∀ (j : Nat) x, (x0 :: xs)[j]? = some x → ok a.block ∧ ∃ u, w.cell? (a.add (j * 1 + 0)) = some u ∧ DDen ok w (.v x) u := fun j x hx => h5 j [.v x] 0 (.v x) (by rw [List.getElem?_map, hx]; rfl) rfl
      have h0 := hat 0 x0 rfl
      obtain ⟨ho, u, hu, hd⟩ := h0
      have hs : a.spot = none := by
        rw [show a.add (0 * 1 + 0) = a from rfl] at hu
        unfold World.cell? at hu
        split at hu
        · split at hu
          · cases hu
          · rename_i h; cases e : a.spot with
            | none => rfl
            | some z => rw [e] at h; exact absurd rfl h
        · cases hu
      have ha : a = ⟨a.block, a.off, none⟩ := by
        obtain ⟨b, o, s⟩ := a
        have hs : s = none := hs
        rw [hs]
      refine .inr ⟨a.block, a.off, cap, by rw [← ha]; exact h1, h2, ho, fun j x hx => ?_⟩
      obtain ⟨_, u, hu, hd⟩ := hat j x hx
      have e : a.add (j * 1 + 0) = ⟨a.block, a.off + j, none⟩ := by
        conv => lhs; rw [ha]
        rw [addr_add]
        congr 1; omega
      rw [e] at hu
      rw [hu]
      cases hd
      rfl
theorem eff_rows {P : Program} {f : FuncId} {fn : Func} {v sep : Value} (xs : List Value) (hf : P.funcs[f]? = some fn) (hn : (fn.name == "runtime.NumGoroutine") = false) (hb : fn.body.isNone = false)
    (h0 : xs = [] → ∀ w a c, Calls P f #[.slice a 0 c, sep] w fun e w' => e = .returned v ∧ Below w.heap.size w w')
    (h : ∀ w b o c, (∀ (j : Nat) x, xs[j]? = some x → w.cell? ⟨b, o + j, none⟩ = some x) → b < w.heap.size → xs.length ≤ c → Calls P f #[.slice (some ⟨b, o, none⟩) xs.length c, sep] w fun e w' => e = .returned v ∧ Below w.heap.size w w') :
    Eff P f [.d (.sl 1 (xs.map fun x => [.v x])), .d (.v sep)] [] 0 (fun r _ _ => r = .d (.v v)) := by
  refine ⟨enters hf hn hb, fun cx vs hP hF hH hs hd => ?_⟩
  have h2 : vs.size = 2 := hs
  obtain ⟨y, z, rfl⟩ : ∃ y z, vs = #[y, z] := ⟨vs[0], vs[1], by
    apply Array.ext
    · exact h2
    · intro j h1 h3
      have : j = 0 ∨ j = 1 := by simp at h3; omega
      rcases this with rfl | rfl <;> rfl⟩
  have hz := (hd 1 _ z rfl rfl).vv.symm
  subst hz
  have hy := hd 0 _ y rfl rfl
  cases hy with
  | d hy =>
    have fin : (Calls P f #[y, sep] cx.w0 fun e w' => e = .returned v ∧ Below cx.w0.heap.size cx.w0 w') → Calls P f #[y, sep] cx.w0 fun e w' => ∃ v1 μ ok r h n', e = .returned v1 ∧ HInv cx μ ok h n' w' ∧ Den μ ok w' r v1 ∧ r = .d (.v v) := fun hc => by
      refine hc.mono fun e w' hh => ?_
      obtain ⟨he, hw⟩ := hh
      exact ⟨v, cx.μ0, cx.ok0, .d (.v v), [], 0, he, ⟨hH.mu, hH.fresh, hH.sub, fun b hb => Nat.lt_of_lt_of_le (hH.lt b hb) hw.size, hH.okNew, fun i B hi => absurd hi (by simp [aget]), fun i j B C b hi => absurd hi (by simp [aget]), fun b hb _ => hw.block b hb, hw.size, hw.os, hw.tape, hw.output⟩, .d (.v v), rfl⟩
    rcases row_of hy with ⟨g1, a, c, rfl⟩ | ⟨b, o, c, rfl, g1, g2, g3⟩
    · exact fin (h0 g1 _ a c)
    · exact fin (h _ b o c g3 (hH.lt b g2) g1)
end Go.Sy

/-
  SYMBOLIC STATES, over any program, part 48: contracts that ask something of the world in which they begin (a library's open variable); what is asked lives on where nothing that was there turns.
-/
namespace Go.Sy
open Go.RowKit
section
variable {cx : Cx} {P : Program} {fn : Func} {lo : Nat} {T : Tab} {k : List It} {s : St} {tm : List (Nat × SV)} {hp : List (Nat × Blk)} {nx : Nat}

/-- As Eff, of a call that may write to nothing of its caller's, from a world of which G holds. -/
def EffG (P : Program) (f : FuncId) (args : List SV) (G : World → Prop) (Post : SV → List (Nat × Blk) → Nat → Prop) : Prop :=
  (∀ (vs : Array Value) (w : World), (callFunc f vs).run P w = .ok (.enter f vs) w) ∧
  ∀ (cx : Cx) (vs : Array Value), cx.P = P → (∀ b, ¬ cx.F b) → G cx.w0 → HInv cx cx.μ0 cx.ok0 [] 0 cx.w0 → vs.size = args.length →
    (∀ (j : Nat) c u, args[j]? = some c → vs[j]? = some u → Den cx.μ0 cx.ok0 cx.w0 c u) →
    Calls P f vs cx.w0 fun e w' => ∃ v μ ok r h n', e = .returned v ∧ HInv cx μ ok h n' w' ∧ Den μ ok w' r v ∧ Post r h n'

theorem effG_of {G : World → Prop} {f : FuncId} {args : List SV} {Post : SV → List (Nat × Blk) → Nat → Prop} {c : Code} (hf : P.funcs[f]? = some fn) (hn : (fn.name == "runtime.NumGoroutine") = false) (hb : fn.body = some c)
    (hl : Nat.ble (lenK args) fn.ntmps = true) (h : ∀ cx, Env cx P fn 0 → cx.Post = Post → (∀ b, ¬ cx.F b) → G cx.w0 → AWP cx [.code c] ⟨argT 0 args, [], 0⟩) : EffG P f args G Post := by
  refine ⟨enters hf hn (by rw [hb]; rfl), fun cx vs hP hF hG hH hs hd => ?_⟩
  let cx' : Cx := cx.full fn Post
  have hH' : HInv cx' cx'.μ0 cx'.ok0 [] 0 cx'.w0 := ⟨hH.mu, hH.fresh, hH.sub, hH.lt, hH.okNew, hH.own, hH.inj, hH.frame, hH.size, hH.os, hH.tape, hH.output⟩
  have e : Env cx' P fn 0 := ⟨hP, rfl, (fun i b hi => by
    rcases Nat.lt_or_ge i 0 with h | h
    · exact h
    · have hi : cx.μ0 i = some b := hi
      rw [hH.fresh i h] at hi; cases hi), cx.full_ret fn Post⟩
  have hl := Nat.le_of_ble_eq_true hl
  rw [lenK_eq] at hl
  have hw := h cx' e rfl hF hG { tmps := vs ++ Array.replicate (fn.ntmps - vs.size) undef, defers := [] } cx.w0
    ⟨rfl, by show _ = fn.ntmps; simp; omega, cx.μ0, cx.ok0, hH', fun t x hx => by
      obtain ⟨_, h2⟩ := argT_get args 0 t x hx
      rw [Nat.sub_zero] at h2
      have hlt : t < vs.size := by have := (List.getElem?_eq_some_iff.1 h2).1; omega
      have := hd t x vs[t] h2 (by simp [hlt])
      have e2 : (vs ++ Array.replicate (fn.ntmps - vs.size) undef).getD t undef = vs[t] := by
        rw [Array.getD_eq_getD_getElem?, Array.getElem?_append_left hlt]
        simp [hlt]
      rw [e2]
      exact this⟩
  refine calls_of_wp hf hb ?_
  have hw' : c.wp P (K P cx'.R []) { tmps := vs ++ Array.replicate (fn.ntmps - vs.size) undef, defers := [] } cx.w0 := by
    have h1 : c.wp cx'.P (K cx'.P cx'.R []) { tmps := vs ++ Array.replicate (fn.ntmps - vs.size) undef, defers := [] } cx.w0 := hw
    rw [e.P] at h1
    exact h1
  refine Code.wp_mono (fun e a w q => ?_) hw'
  have q' : cx'.R e a w := q
  obtain ⟨he, hdf, μ, ok, r, hh, n', y, g1, g2, g3, g4⟩ := q'
  have g2 : (results fn a.tmps).run P w = .ok y w := by
    have : (results fn a.tmps).run cx'.P w = .ok y w := g2
    rw [show cx'.P = P from hP] at this
    exact this
  have g1' : HInv cx μ ok hh n' w := ⟨g1.mu, g1.fresh, g1.sub, g1.lt, g1.okNew, g1.own, g1.inj, g1.frame, g1.size, g1.os, g1.tape, g1.output⟩
  rcases he with rfl | rfl
  · exact ⟨hdf, y, g2, y, μ, ok, r, hh, n', rfl, g1', g3, g4⟩
  · exact ⟨hdf, y, g2, y, μ, ok, r, hh, n', rfl, g1', g3, g4⟩


/-- A CALL BY ITS CONTRACT: of a function that writes to no block of its caller's. -/
theorem AWP.callG {G : World → Prop} (hst : ∀ w w' : World, (∀ b, b < w.heap.size → w'.heap[b]? = w.heap[b]?) → G w → G w') (hcF : ∀ b, ¬ cx.F b) (hG : G cx.w0) (e : Env cx P fn lo) {f : FuncId} {cs : List SV} {Post : SV → List (Nat × Blk) → Nat → Prop} (hE : EffG P f cs G Post) {all : Array Oper} {rest : List Oper} {dst : Option Tmp} {c : Call} {ty : TypeId} {pos : String} {after : Array Edge} {xs : List SV}
    (hc : acall ⟨tm, hp, nx⟩ c = some (f, xs)) (lend : List Nat) (hcv : CvL hp lend xs cs) (hno : SV.noIds.go cs = true) (hd : dstOk fn.ntmps dst = true)
    (h : ∀ r h n, Post r h n → SV.noIds r = true ∧ (lend = [] ∨ SV.noMem r = true) ∧ AWP cx (.ops all rest :: k) ⟨tput dst r tm, hp, nx⟩) :
    AWP cx (.ops all (⟨dst, .call c, ty, pos, after, none⟩ :: rest) :: k) ⟨tm, hp, nx⟩ := by
  obtain ⟨hE1, hE2⟩ := hE
  obtain ⟨rfl, rfl, _⟩ := e
  refine AWP.op rfl fun a w hi => ?_
  obtain ⟨μ, ok, hi⟩ := hi.one
  obtain ⟨vs, h1, h2⟩ := acall_ok hi.tmps hc (⟨dst, .call c, ty, pos, after, none⟩ : Oper) rfl hE1
  rw [h1, Oper.upon_enter]
  let ok0 : Nat → Prop := fun b => ok b ∨ ∃ i ∈ lend, ∃ B, aget i hp = some B ∧ μ i = some b
  let cx2 : Cx := ⟨cx.P, cx.fn, w, fun _ => none, ok0, fun _ => False, fun _ _ _ => True, fun _ _ _ => False⟩
  have howned : ∀ i B b, aget i hp = some B → μ i = some b → b < w.heap.size ∧ ¬ ok b := fun i B b hB hb => by
    obtain ⟨_, hn⟩ | ⟨b', g1, g2, g3, _⟩ := hi.heap.own i B hB
    · rw [hn] at hb; cases hb
    rw [hb] at g1
    cases g1
    exact ⟨g2, g3⟩
  have hlt0 : ∀ b, ok0 b → b < w.heap.size := fun b hb => by
    rcases hb with hb | ⟨i, _, B, hB, hb⟩
    · exact hi.heap.lt b hb
    · exact (howned i B b hB hb).1
  have hH : HInv cx2 cx2.μ0 cx2.ok0 [] 0 cx2.w0 := ⟨fun _ _ h => h, fun _ _ => rfl, fun _ h => h, hlt0, fun _ h => .inl h, fun i B h => by simp [aget] at h, fun i j C D b h => by simp [aget] at h, fun _ _ _ => rfl, Nat.le_refl _, rfl, rfl, rfl⟩
  obtain ⟨hl1, hl2⟩ := hcv.get
  have hnoj : ∀ (j : Nat) c, cs[j]? = some c → SV.noIds c = true := by
    have : ∀ (l : List SV), SV.noIds.go l = true → ∀ (j : Nat) c, l[j]? = some c → SV.noIds c = true := by
      intro l
      induction l with
      | nil => intro _ j c hc; simp at hc
      | cons x l ih =>
        intro h j c hc
        simp only [SV.noIds.go, Bool.and_eq_true] at h
        cases j with
        | zero => cases hc; exact h.1
        | succ j => exact ih h.2 j c (by simpa using hc)
    exact this cs hno
  refine (hE2 cx2 vs rfl (fun b h => h.elim) (hst cx.w0 w (fun b hb => hi.heap.frame b hb (hcF b)) hG) hH (by rw [h2.1, hl1]) (fun j c u hcj hu => by
    have hj : j < xs.length := by rw [hl1]; exact (List.getElem?_eq_some_iff.1 hcj).1
    have hx := h2.2 j xs[j] u (by simp [hj]) hu
    have := Cv.den (ok' := ok0) hi.hh (fun _ h => .inl h) (fun i hm B hB b hb => .inr ⟨i, hm, B, hB, hb⟩) (hl2 j xs[j] c (by simp [hj]) hcj) hx
    exact this.any (hnoj j c hcj))).mono ?_
  rintro e w' ⟨v, μ', ok', r, h', n', rfl, g1, g2, g3⟩
  obtain ⟨k1, k2, k3⟩ := h r h' n' g3
  let ok2 : Nat → Prop := fun b => ok' b ∧ ¬ ∃ i B, aget i hp = some B ∧ μ i = some b
  have hsub : ∀ b, ok b → ok2 b := fun b hb => ⟨g1.sub b (.inl hb), fun ⟨i, B, hB, hm⟩ => (howned i B b hB hm).2 hb⟩
  have hfr : ∀ b, b < w.heap.size → w'.heap[b]? = w.heap[b]? := fun b hb => g1.frame b hb (fun h => h)
  have hokf : ∀ b, ok b → w'.heap[b]? = w.heap[b]? := fun b hb => hfr b (hi.heap.lt b hb)
  have hsz : w.heap.size ≤ w'.heap.size := g1.size
  have hI : Inv1 cx μ ok2 ⟨tm, hp, nx⟩ a w' := by
    refine ⟨hi.defers, hi.size, ⟨hi.heap.mu, hi.heap.fresh, fun b hb => hsub b (hi.heap.sub b hb), fun b hb => g1.lt b hb.1, fun b hb => ?_, fun i B hB => ?_, hi.heap.inj, fun b hb hF => ?_, Nat.le_trans hi.heap.size hsz, g1.os.trans hi.heap.os, g1.tape.trans hi.heap.tape, g1.output.trans hi.heap.output⟩, fun t x hx => (hi.tmps t x hx).mono (fun _ _ h => h) hsub hokf⟩
    · rcases g1.okNew b hb.1 with h1 | h1
      · rcases h1 with h1 | ⟨i, _, B, hB, hm⟩
        · exact hi.heap.okNew b h1
        · exact absurd ⟨i, B, hB, hm⟩ hb.2
      · rcases h1 with h1 | h1
        · exact .inr (.inl (Nat.le_trans hi.heap.size h1))
        · exact h1.elim
    · obtain hg | ⟨b, q1, q2, q3, q4, q5⟩ := hi.heap.own i B hB
      · exact .inl hg
      exact .inr ⟨b, q1, Nat.lt_of_lt_of_le q2 hsz, fun hb => hb.2 ⟨i, B, hB, q1⟩, q4, q5.mono (fun _ _ h => h) hsub hokf (hfr b q2)⟩
    · exact (hfr b (Nat.lt_of_lt_of_le hb hi.heap.size)).trans (hi.heap.frame b hb hF)
  refine k3 _ _ (hI.dput (dstOk_lt hd) ?_).inv
  rcases k2 with k2 | k2
  · subst k2
    refine (g2.any (μ' := μ) k1).mono (fun _ _ h => h) (fun b hb => ⟨hb, fun ⟨i, B, hB, hm⟩ => ?_⟩) (fun _ _ => rfl)
    obtain ⟨q1, q2⟩ := howned i B b hB hm
    rcases g1.okNew b hb with h1 | h1
    · rcases h1 with h1 | ⟨i, hi, _⟩
      · exact q2 h1
      · cases hi
    · rcases h1 with h1 | h1
      · exact absurd q1 (Nat.not_lt.2 h1)
      · exact h1.elim
  · exact g2.flat k2


/-- What a variable of the library's holds: some int. -/
def HasInt (g : Nat) (w : World) : Prop := ∃ m, w.cell? ⟨g, 0, none⟩ = some (.int .i64 m)
theorem HasInt.st (g : Nat) (w w' : World) (h : ∀ b, b < w.heap.size → w'.heap[b]? = w.heap[b]?) (hw : HasInt g w) : HasInt g w' := by
  obtain ⟨m, hm⟩ := hw
  refine ⟨m, ?_⟩
  have hb : g < w.heap.size := by
    unfold World.cell? at hm
    rcases Nat.lt_or_ge g w.heap.size with hlt | hge
    · exact hlt
    · simp [Array.getElem?_eq_none hge] at hm
  rw [← hm]
  unfold World.cell?
  rw [h g hb]

/-- A call that gives a plain value and touches nothing that was there. -/
theorem effG_calls {G : World → Prop} {f : FuncId} {fn : Func} {v : Value} (vals : List Value) (hf : P.funcs[f]? = some fn) (hn : (fn.name == "runtime.NumGoroutine") = false) (hb : fn.body.isNone = false)
    (h : ∀ w, G w → Calls P f vals.toArray w fun e w' => e = .returned v ∧ Below w.heap.size w w') : EffG P f (vals.map fun x => .d (.v x)) G (fun r _ _ => r = .d (.v v)) := by
  refine ⟨enters hf hn hb, fun cx vs hP hF hG hH hs hd => ?_⟩
  have hv : vs = vals.toArray := by
    apply Array.ext
    · simpa using hs
    · intro j h1 h2
      have h3 : j < vals.length := by simpa using h2
      have := (hd j (.d (.v vals[j])) vs[j] (by simp [h3]) (by simp [h1])).vv
      simpa using this
  subst hv
  refine (h cx.w0 hG).mono fun e w' hh => ?_
  obtain ⟨he, hw⟩ := hh
  refine ⟨v, cx.μ0, cx.ok0, .d (.v v), [], 0, he, ⟨hH.mu, hH.fresh, hH.sub, fun b hb => Nat.lt_of_lt_of_le (hH.lt b hb) hw.size, hH.okNew, fun i B hi => absurd hi (by simp [aget]), fun i j B C b hi => absurd hi (by simp [aget]), fun b hb _ => hw.block b hb, hw.size, hw.os, hw.tape, hw.output⟩, .d (.v v), rfl⟩

theorem calls_lawG {G : World → Prop} {W : World} (hG : G W) {f : FuncId} {l : List SV} {vs : Array Value} (hE : EffG P f l G (fun r _ _ => r = .b true)) (h1 : l.length = vs.toList.length) (h2 : ∀ (j : Nat) c u, l[j]? = some c → vs.toList[j]? = some u → Den (fun _ => none) (· < W.heap.size) W c u) :
    Calls P f vs W fun e W' => e = .returned (.bool true) ∧ Below W.heap.size W W' := by
  let cx : Cx := ⟨P, default, W, fun _ => none, (· < W.heap.size), fun _ => False, fun _ _ _ => True, fun _ _ _ => False⟩
  refine (hE.2 cx vs rfl (fun b h => h.elim) hG
    ⟨fun _ _ h => h, fun _ _ => rfl, fun _ h => h, fun _ h => h, fun _ h => .inl h, fun i B h => by simp [aget] at h, fun i j C D b h => by simp [aget] at h, fun _ _ _ => rfl, Nat.le_refl _, rfl, rfl, rfl⟩ (by simpa using h1.symm) (fun j c u hc hu => h2 j c u hc (by simpa using hu))).mono ?_
  rintro e w' ⟨v, μ, ok, r, h, n', rfl, g1, g2, rfl⟩
  refine ⟨by rw [g2.vv], g1.os, g1.tape, g1.output, g1.size, fun k hk => g1.frame k hk (fun h => h)⟩

end
section
variable {H : Type} {enc : TypeId × Value → H}
/-- As the kit's lemma of the same conclusion; the contract is told also that the world is shaped. -/
theorem handed_shaped {a : Assume} {C : Checked} {os : Os} {f : FuncId} {fn : Func} {s : ChangeSpec} {conds : List PathCond} {apart fresh handsOn again : Bool} {X : World → Array Value → Prop}
    (hX : ∀ (w w' : World) (args : Array Value), w.heap = w'.heap → X w args → X w' args)
    (own : ownKnob C.prog.godebug = none) (started : os.Started) (noInit : C.prog.inits.idxOf? f = none) (hfn : C.prog.funcs[f]? = some fn)
    (witness : ∃ (w : World) (tape : Tape) (i : Input), w.os = os ∧ (w.forCall tape i).Shaped C.prog ∧ i.vars = [] ∧ Input.okWide C.prog (w.forCall tape i) .any w.heap.size f i ∧
      ((s.pre enc C.prog fn conds apart (w.forCall tape i).memory i.args ∧ X (w.forCall tape i).memory i.args) ∧ sizedMet enc C.prog fn (OpenSpec.ofChange s) apart (w.forCall tape i).memory i.args) ∧ a.holds C.prog (lone (Frame.enter C.prog f i.args .normal) [] (w.forCall tape i)))
    (contract : ∀ (W : World) (base : Nat) (args : Array Value) (ds gs : List (DataW H)) (before : List MemPlace),
      (∀ (j : Nat) t v, fn.params[j]? = some t → args[j]? = some v → Value.okWide C.prog W .any base t v) →
      DataW.Whole enc C.prog fn.params.toList s.vars apart W args.toList ds gs before →
      conds.all (PathCond.test C.prog ⟨fn.params.toList, ds, s.plain.varTypes C.prog, gs⟩) = true →
      (DataW.weightsEach C.prog (fn.params.toList ++ s.plain.varTypes C.prog) (ds ++ gs)).all (· ≤ reachBytes) = true → X W args → W.ShapedOpen C.prog →
      a.holds C.prog (lone (Frame.enter C.prog f args .normal) [] W) →
      Calls C.prog f args W fun e W' => ∃ v, e = .returned v ∧ s.post enc C.prog fn apart fresh handsOn again W args v W') :
    ReturnsInHanded a C os f .any (fun w args => (s.pre enc C.prog fn conds apart w args ∧ X w args) ∧ sizedMet enc C.prog fn (OpenSpec.ofChange s) apart w args) (s.post enc C.prog fn apart fresh handsOn again) := by
  refine returnsInHanded_of_calls own started noInit witness ?_
  intro w tape i _ hsh _ hok hpre hholds
  obtain ⟨_, _, _, fn', hfn', _, _, _, _, hval⟩ := hok
  have e : fn' = fn := Option.some.inj (hfn'.symm.trans hfn)
  subst e
  obtain ⟨⟨⟨ds, gs, before, hw, hc⟩, hx⟩, hz⟩ := hpre
  have hw' := DataW.Whole.of_heap (w' := w.forCall tape i) (by rfl) hw
  refine (contract (w.forCall tape i) w.heap.size i.args ds gs before hval hw' hc (hz.weights hw) (hX _ _ _ (by rfl) hx) hsh hholds).mono fun e W' ⟨v, he, hp⟩ => ?_
  subst he
  exact ChangeSpec.post_blind hp
end
end Go.Sy

/-
  SYMBOLIC STATES, over any program, part 49: calls by contracts that ask something of the first world.
-/
namespace Go.Sy
open Go.RowKit
section
variable {cx : Cx} {P : Program} {fn : Func} {lo : Nat} {T : Tab} {k : List It} {tm : List (Nat × SV)} {hp : List (Nat × Blk)} {nx M : Nat} {all : Array Oper} {R : List Rec} {id : Nat}
variable {d q : Nat} {rest : List Oper} {ty : TypeId} {pos : String} {after : Array Edge}

/-- A contract that holds wherever this walk may come. -/
def GC (cx : Cx) (P : Program) (f : FuncId) (xs : List SV) (r : SV) : Prop :=
  ∃ G : World → Prop, (∀ w w' : World, (∀ b, b < w.heap.size → w'.heap[b]? = w.heap[b]?) → G w → G w') ∧ (∀ b, ¬ cx.F b) ∧ G cx.w0 ∧ EffG P f xs G (fun r' _ _ => r' = r)

theorem VStep.callG (e : Env cx P fn lo) {f : FuncId} {cs : List SV} {r : SV} (hE : GC cx P f cs r) {d : Nat} {c : Call} {ty : TypeId} {pos : String} {after : Array Edge}
    (hc : acall ⟨tm, [], 0⟩ c = some (f, cs)) (hno : SV.noIds.go cs = true) (hd : Nat.blt d fn.ntmps = true) (hr : SV.noIds r = true) : VStep cx all hp nx ⟨some d, .call c, ty, pos, after, none⟩ tm d r := by
  intro tm' k ha g
  obtain ⟨G, h1, h2, h3, h4⟩ := hE
  refine AWP.callG h1 h2 h3 e h4 ?_ [] (CvL.rfl' _) hno hd fun r' h n hr' => ?_
  · refine Eq.trans ?_ ((acall_heap (hp := hp) (nx := nx)).trans hc)
    exact acall_eq fun x hx u hu => ha u (looks_ops (by simpa [Op.operands] using hx) hu)
  · subst hr'
    exact ⟨hr, .inl rfl, g⟩
theorem DrG.callG (e : Env cx P fn lo) {c : Call} {f : FuncId} {xs : List SV} {r : SV} (hE : GC cx P f xs r) (hc : acall ⟨tmS R tm, [], 0⟩ c = some (f, xs)) (hno : SV.noIds.go xs = true) (hd : Nat.blt d fn.ntmps = true) (hr : SV.noIds r = true) (h : DrG cx all id k tm hp nx M (Nat.succ q) rest (⟨q, some d, r, [], [], []⟩ :: R)) :
    DrG cx all id k tm hp nx M q (⟨some d, .call c, ty, pos, after, none⟩ :: rest) R :=
  DrG.v rfl (fun _ => VStep.callG e hE hc hno hd hr) (idsLt_mono (Nat.zero_le _) (noIds_lt hr)) h
theorem DrG.callGG (e : Env cx P fn lo) {c : Call} {f : FuncId} {xs : List SV} {r : SV} {jg dj : Nat} {wg : Bool} (hE : GC cx P f xs r) (hg : guardS all (tmS R tm) jg = .told dj wg) (hc : acall ⟨tmS R tm, [], 0⟩ c = some (f, xs)) (hno : SV.noIds.go xs = true) (hd : Nat.blt d fn.ntmps = true) (hr : SV.noIds r = true) (h : DrG cx all id k tm hp nx M (Nat.succ q) rest (⟨q, some d, r, [], [], []⟩ :: R)) :
    DrG cx all id k tm hp nx M q (⟨some d, .call c, ty, pos, after, some (jg, wg)⟩ :: rest) R :=
  DrG.v rfl (fun _ => VStep.go hg (VStep.callG e hE hc hno hd hr)) (idsLt_mono (Nat.zero_le _) (noIds_lt hr)) h
theorem AWP.callG' (e : Env cx P fn lo) {c : Call} {f : FuncId} {xs : List SV} {r : SV} {all' : Array Oper} {rest' : List Oper} (hE : GC cx P f xs r) (hc : acall ⟨tm, hp, nx⟩ c = some (f, xs)) (hno : SV.noIds.go xs = true) {d : Option Tmp} (hd : dstOk fn.ntmps d = true) (hr : SV.noIds r = true)
    (h : AWP cx (.ops all' rest' :: k) ⟨tput d r tm, hp, nx⟩) : AWP cx (.ops all' (⟨d, .call c, ty, pos, after, none⟩ :: rest') :: k) ⟨tm, hp, nx⟩ := by
  obtain ⟨G, h1, h2, h3, h4⟩ := hE
  refine AWP.callG h1 h2 h3 e h4 hc [] (CvL.rfl' _) hno hd fun r' h' n hr' => ?_
  subst hr'
  exact ⟨hr, .inl rfl, h⟩
end
end Go.Sy

/-
  SYMBOLIC STATES, over any program, part 50: an element of a row of one's own, weakened (nil, as an empty row).
-/
namespace Go.Sy
open Go.RowKit
section
variable {cx : Cx} {P : Program} {fn : Func} {lo : Nat} {T : Tab} {k : List It} {tm : List (Nat × SV)} {hp : List (Nat × Blk)} {nx : Nat}

theorem AWP.weakR (i n : Nat) {te : TypeId} {fz : Bool} {m C : Nat} {xs : List (List SV)} {el el' : List SV} (h : aget i hp = some (.row te fz m xs C)) (he : xs[n]? = some el) (hw : WkL el el') (g : AWP cx k ⟨tm, (i, .row te fz m (xs.set n el') C) :: hp, nx⟩) : AWP cx k ⟨tm, hp, nx⟩ := fun a w hi => by
  obtain ⟨μ, ok, hi⟩ := hi.one
  obtain ⟨h1, h2⟩ := hw.get
  have hn : n < xs.length := (List.getElem?_eq_some_iff.1 he).1
  have key : ∀ j B, aget j ((i, Blk.row te fz m (xs.set n el') C) :: hp) = some B → ∃ B0, aget j hp = some B0 ∧ (B = B0 ∨ (B0 = .row te fz m xs C ∧ B = .row te fz m (xs.set n el') C)) := fun j B hB => by
    rw [aget_cons] at hB
    by_cases e : j = i
    · rw [if_pos e] at hB; cases hB; subst e; exact ⟨_, h, .inr ⟨rfl, rfl⟩⟩
    · rw [if_neg e] at hB; exact ⟨B, hB, .inl rfl⟩
  refine g a w (Inv1.inv (μ := μ) (ok := ok) ⟨hi.defers, hi.size, ⟨hi.heap.mu, hi.heap.fresh, hi.heap.sub, hi.heap.lt, hi.heap.okNew, fun j B hB => ?_, fun j l B C b hB hC h3 h4 => ?_, hi.heap.frame, hi.heap.size, hi.heap.os, hi.heap.tape, hi.heap.output⟩, hi.tmps⟩)
  · obtain ⟨B0, e1, e2⟩ := key j B hB
    obtain hg | ⟨b, g1, g2, g3, g4, g5⟩ := hi.heap.own j B0 e1
    · rcases e2 with rfl | ⟨rfl, rfl⟩
      · exact .inl hg
      · cases xs with
        | nil => exact absurd hn (Nat.not_lt_zero _)
        | cons x xs => exact hg.1.elim
    · refine .inr ⟨b, g1, g2, g3, g4, ?_⟩
      rcases e2 with rfl | ⟨rfl, rfl⟩
      · exact g5
      · obtain ⟨c, z, r1, r2, r3, r4, r5, r6, r7⟩ := g5
        refine ⟨c, z, r1, r2, r3, r4, by simpa using r5, fun q e hq => ?_, fun q e j x u hq hj hu => ?_⟩
        · rw [List.getElem?_set] at hq
          split at hq
          · simp only [Option.some.injEq] at hq
            subst hq; rw [← h1]; exact r6 n el he
          · exact r6 q e hq
        · rw [List.getElem?_set] at hq
          split at hq
          · rename_i hqn
            simp only [Option.some.injEq] at hq
            subst hq
            subst hqn
            have hjl : j < el.length := by rw [h1]; exact (List.getElem?_eq_some_iff.1 hj).1
            exact (h2 j el[j] x (by simp [hjl]) hj).den (r7 n el j _ u he (by simp [hjl]) hu)
          · exact r7 q e j x u hq hj hu
  · obtain ⟨B0, e1, _⟩ := key j B hB
    obtain ⟨C0, e2, _⟩ := key l C hC
    exact hi.heap.inj j l B0 C0 b e1 e2 h3 h4
end
end Go.Sy

/-
  SYMBOLIC STATES, over any program, part 51: products and conversions of int64 that may go round.
-/
namespace Go.Sy
open Go.RowKit
section
variable {cx : Cx} {P : Program} {fn : Func} {lo : Nat} {T : Tab} {k : List It} {tm : List (Nat × SV)} {hp : List (Nat × Blk)} {nx : Nat} {all : Array Oper} {rest : List Oper} {d : Nat} {ty : TypeId} {pos : String} {after : Array Edge}

theorem AWP.mulW (e : Env cx P fn lo) {x y : Operand} {t t' : TypeId} {k1 : IntKind} {a b : Int} (hd : Nat.blt d fn.ntmps = true)
    (h1 : opd ⟨tm, hp, nx⟩ x = some (.d (.v (.int k1 a)))) (h2 : opd ⟨tm, hp, nx⟩ y = some (.d (.v (.int k1 b))))
    (g : AWP cx (.ops all rest :: k) ⟨(d, .d (.v (.int k1 (k1.wrap (a * b))))) :: tm, hp, nx⟩) :
    AWP cx (.ops all (⟨some d, .binOp .mul t x y t', ty, pos, after, none⟩ :: rest) :: k) ⟨tm, hp, nx⟩ := by
  refine AWP.op_run e (Nat.le_of_ble_eq_true hd) (fun μ ok s w hI => ⟨_, ?_, .d (.v _)⟩) g
  have e1 := (opd_den hI.tmps h1).int
  have e2 := (opd_den hI.tmps h2).int
  have hx : execOp s.eval ⟨some d, .binOp .mul t x y t', ty, pos, after, none⟩ = (do pure (.value (← (do eqGuard .mul t x y (s.eval x) (s.eval y); binOp .mul t (s.eval x) (s.eval y))))) := rfl
  rw [hx, e1, e2]
  have hg : ∀ x y, (eqGuard .mul t x y (.int k1 a) (.int k1 b)).run P w = .ok () w := fun x y => run_eqGuard_none .mul t x y _ _ (by intro cs h; cases h) (by intro h; cases h)
  simp [binOp, Op.intArith, hg]

theorem AWP.convW (e : Env cx P fn lo) (hT : TabOk P T) {x : Operand} {src dst : TypeId} {k0 k1 : IntKind} {a : Int} {y : Ty} {n1 n2 : Nat} {z : List DV} (hd : Nat.blt d fn.ntmps = true)
    (h1 : opd ⟨tm, hp, nx⟩ x = some (.d (.v (.int k0 a)))) (h2 : aget src T = some y) (h3 : aget dst T = some ⟨.int k1, n1, n2, z⟩)
    (g : AWP cx (.ops all rest :: k) ⟨(d, .d (.v (.int k1 (k1.wrap a)))) :: tm, hp, nx⟩) :
    AWP cx (.ops all (⟨some d, .convert src dst x, ty, pos, after, none⟩ :: rest) :: k) ⟨tm, hp, nx⟩ := by
  refine AWP.op_run e (Nat.le_of_ble_eq_true hd) (fun μ ok s w hI => ⟨_, ?_, .d (.v _)⟩) g
  have e1 := (opd_den hI.tmps h1).int
  obtain ⟨D, hD⟩ := (hT _ _ h2).und
  have hb : P.underlying dst = some (.int k1) := (hT _ _ h3).td
  have hx : execOp s.eval ⟨some d, .convert src dst x, ty, pos, after, none⟩ = (do pure (.value (← convert src dst (s.eval x)))) := rfl
  rw [hx, e1]
  have : (convert src dst (.int k0 a)).run P w = .ok (.int k1 (k1.wrap a)) w := by
    simp only [convert, Sem.run_bind, run_underlying hD, run_underlying hb, Result.andThen_ok]
    cases D <;> simp [Conv.intToInt]
  simp [this]
end
/-- What goes round. -/
theorem wrap64_eq (x : Int) : IntKind.wrap .i64 x = (x + 9223372036854775808) % 18446744073709551616 - 9223372036854775808 := by
  unfold IntKind.wrap
  simp only [IntKind.signed, IntKind.bits, Bool.true_and]
  split <;> rename_i h <;> simp at h ⊢ <;> omega
theorem wrap64_in {x : Int} (h : -9223372036854775808 ≤ x ∧ x ≤ 9223372036854775807) : IntKind.wrap .i64 x = x := by
  rw [wrap64_eq]; omega
end Go.Sy

/-
  SYMBOLIC STATES, over any program, part 52: blocks that a walk keeps for itself (a map's object), whose contents turn as the walk goes on: a call that stands, begun anew at the world that is.
-/
namespace Go.Sy
open Go.RowKit

/-- The call 'cx' stands as 'c0' began it, begun anew at a later world; the blocks S are nobody's else. -/
structure MapCx (c0 cx : Cx) (S : Nat → Prop) : Prop where
  P : cx.P = c0.P
  fn : cx.fn = c0.fn
  post : cx.Post = c0.Post
  R : cx.R = c0.R
  ret : ∀ e a w, c0.std e a w → c0.R e a w
  back : ∀ μ ok h n w, HInv cx μ ok h n w → HInv c0 μ ok h n w
  keep : ∀ b, S b → b < cx.w0.heap.size ∧ ¬ cx.F b ∧ ¬ cx.ok0 b ∧ c0.w0.heap.size ≤ b

section
variable {c0 cx : Cx} {P : Program} {fn : Func} {lo : Nat} {T : Tab} {k : List It} {tm : List (Nat × SV)} {hp : List (Nat × Blk)} {nx : Nat} {all : Array Oper} {rest : List Oper} {d : Nat} {ty : TypeId} {pos : String} {after : Array Edge} {S : Nat → Prop}

theorem MapCx.start (e : Env cx P fn lo) : MapCx cx cx (fun _ => False) := ⟨rfl, rfl, rfl, rfl, e.ret, fun _ _ _ _ _ h => h, fun _ h => h.elim⟩

theorem MapCx.free (m : MapCx c0 cx S) {μ : Nat → Option Nat} {ok : Nat → Prop} {h : List (Nat × Blk)} {n : Nat} {w : World} (hi : HInv cx μ ok h n w) {b : Nat} (hb : S b) :
    ¬ ok b ∧ (∀ i B, aget i h = some B → μ i ≠ some b) ∧ w.heap[b]? = cx.w0.heap[b]? ∧ b < w.heap.size := by
  obtain ⟨h1, h2, h3, h4⟩ := m.keep b hb
  refine ⟨fun ho => ?_, fun i B hB hm => ?_, hi.frame b h1 h2, Nat.lt_of_lt_of_le h1 hi.size⟩
  · rcases hi.okNew b ho with h | h | h
    · exact h3 h
    · omega
    · exact h2 h
  · obtain ⟨_, hn⟩ | ⟨b', g1, _, _, g4, _⟩ := hi.own i B hB
    · rw [hn] at hm; cases hm
    · rw [hm] at g1
      cases g1
      rcases g4 with h | h
      · omega
      · exact h2 h

/-- Begun anew at a world in which blocks of one's own have turned. -/
def Cx.at' (cx : Cx) (μ : Nat → Option Nat) (ok : Nat → Prop) (hp : List (Nat × Blk)) (w : World) : Cx := { cx with w0 := w, μ0 := μ, ok0 := ok, F := fun b => ∃ i B, aget i hp = some B ∧ μ i = some b }

theorem MapCx.anew (m : MapCx c0 cx S) {μ : Nat → Option Nat} {ok : Nat → Prop} {w w' : World} (hi : HInv cx μ ok hp nx w) (hs : w.heap.size ≤ w'.heap.size) (ho : w'.os = w.os) (ht : w'.tape = w.tape) (hu : w'.output = w.output)
    (hw : ∀ b, b < w.heap.size → ¬ S b → w'.heap[b]? = w.heap[b]?) {S' : Nat → Prop} (hS : ∀ b, S' b → b < w'.heap.size ∧ (S b ∨ w.heap.size ≤ b)) :
    MapCx c0 (cx.at' μ ok hp w') S' ∧ HInv (cx.at' μ ok hp w') μ ok hp nx w' := by
  have H0 := m.back _ _ _ _ _ hi
  have hok : ∀ b, ok b → w'.heap[b]? = w.heap[b]? := fun b hb => hw b (hi.lt b hb) fun hS0 => (m.free hi hS0).1 hb
  have hown : ∀ i B b, aget i hp = some B → μ i = some b → (c0.w0.heap.size ≤ b ∨ c0.F b) ∧ b < w.heap.size ∧ ¬ ok b ∧ ¬ S b := fun i B b hB hb => by
    refine ⟨?_, ?_, ?_, fun h => (m.free hi h).2.1 i B hB hb⟩
    all_goals
      obtain ⟨_, hn⟩ | ⟨b', g1, g2, g3, g4, _⟩ := H0.own i B hB
      · rw [hn] at hb; cases hb
      · rw [hb] at g1
        cases g1
        assumption
  refine ⟨⟨m.P, m.fn, m.post, m.R, m.ret, fun μ2 ok2 h2 n2 w3 H3 => ?_, fun b hb => ?_⟩, ?_⟩
  · have hF : ∀ b, (cx.at' μ ok hp w').F b → c0.w0.heap.size ≤ b ∨ c0.F b := fun b ⟨i, B, hB, hb⟩ => (hown i B b hB hb).1
    refine ⟨fun i b hb => H3.mu i b (H0.mu i b hb), H3.fresh, fun b hb => H3.sub b (H0.sub b hb), H3.lt, fun b hb => ?_, fun i B hB => ?_, H3.inj, fun b hb hFb => ?_, ?_, ?_, ?_, ?_⟩
    · rcases H3.okNew b hb with h | h | h
      · exact H0.okNew b h
      · exact .inr (.inl (Nat.le_trans (Nat.le_trans H0.size hs) h))
      · exact .inr (hF b h)
    · rcases H3.own i B hB with h | ⟨b, g1, g2, g3, g4, g5⟩
      · exact .inl h
      · refine .inr ⟨b, g1, g2, g3, ?_, g5⟩
        rcases g4 with h | h
        · exact .inl (Nat.le_trans (Nat.le_trans H0.size hs) h)
        · exact hF b h
    · have h1 : b < w.heap.size := Nat.lt_of_lt_of_le hb H0.size
      have h2 : ¬ S b := fun h => by have := (m.keep b h).2.2.2; omega
      have h3 : ¬ (cx.at' μ ok hp w').F b := fun h => by
        rcases hF b h with h | h
        · omega
        · exact hFb h
      exact (H3.frame b (Nat.lt_of_lt_of_le h1 hs) h3).trans ((hw b h1 h2).trans (H0.frame b hb hFb))
    · exact Nat.le_trans (Nat.le_trans H0.size hs) H3.size
    · exact H3.os.trans (ho.trans H0.os)
    · exact H3.tape.trans (ht.trans H0.tape)
    · exact H3.output.trans (hu.trans H0.output)
  · obtain ⟨h1, h2⟩ := hS b hb
    have h3 : c0.w0.heap.size ≤ b := by
      rcases h2 with h | h
      · exact (m.keep b h).2.2.2
      · exact Nat.le_trans H0.size h
    refine ⟨h1, fun ⟨i, B, hB, hm⟩ => ?_, fun ho => ?_, h3⟩
    · have := hown i B b hB hm
      rcases h2 with h | h
      · exact this.2.2.2 h
      · omega
    · rcases h2 with h | h
      · exact (m.free hi h).1 ho
      · have := hi.lt b ho; omega
  · refine ⟨fun _ _ h => h, hi.fresh, fun _ h => h, fun b hb => Nat.lt_of_lt_of_le (hi.lt b hb) hs, fun _ h => .inl h, fun i B hB => ?_, hi.inj, fun _ _ _ => rfl, Nat.le_refl _, rfl, rfl, rfl⟩
    rcases hi.own i B hB with h | ⟨b, g1, g2, g3, g4, g5⟩
    · exact .inl h
    · have hb := hw b g2 fun h => (m.free hi h).2.1 i B hB g1
      exact .inr ⟨b, g1, Nat.lt_of_lt_of_le g2 hs, g3, .inr ⟨i, B, hB, g1⟩, g5.mono (fun _ _ h => h) (fun _ h => h) hok hb⟩

/-- .. and the walk goes on. -/
theorem MapCx.go (m : MapCx c0 cx S) (e : Env cx P fn lo) {μ : Nat → Option Nat} {ok : Nat → Prop} {a : Act} {w w' : World} (hi : Inv1 cx μ ok ⟨tm, hp, nx⟩ a w) (hs : w.heap.size ≤ w'.heap.size) (ho : w'.os = w.os) (ht : w'.tape = w.tape) (hu : w'.output = w.output)
    (hw : ∀ b, b < w.heap.size → ¬ S b → w'.heap[b]? = w.heap[b]?) {S' : Nat → Prop} (hS : ∀ b, S' b → b < w'.heap.size ∧ (S b ∨ w.heap.size ≤ b)) :
    MapCx c0 (cx.at' μ ok hp w') S' ∧ Env (cx.at' μ ok hp w') P fn nx ∧ Inv1 (cx.at' μ ok hp w') μ ok ⟨tm, hp, nx⟩ a w' := by
  obtain ⟨h1, h2⟩ := m.anew hi.heap hs ho ht hu hw hS
  have hok : ∀ b, ok b → w'.heap[b]? = w.heap[b]? := fun b hb => hw b (hi.heap.lt b hb) fun hS0 => (m.free hi.heap hS0).1 hb
  refine ⟨h1, ⟨e.P, e.fn, fun i b hb => ?_, fun ex ac wd hst => ?_⟩, hi.defers, hi.size, h2, fun t x hx => (hi.tmps t x hx).mono (fun _ _ h => h) (fun _ h => h) hok⟩
  · rcases Nat.lt_or_ge i nx with h | h
    · exact h
    · have := hi.heap.fresh i h
      rw [show μ i = some b from hb] at this; cases this
  · have hst' : c0.std ex ac wd := by
      obtain ⟨g1, g2, μ3, ok3, r, hh, n, y, g3, g4, g5, g6⟩ := hst
      refine ⟨g1, g2, μ3, ok3, r, hh, n, y, h1.back _ _ _ _ _ g3, ?_, g5, ?_⟩
      · have g4 : (results cx.fn ac.tmps).run cx.P wd = .ok y wd := g4
        rw [m.fn, m.P] at g4
        exact g4
      · have g6 : cx.Post r hh n := g6
        rw [m.post] at g6
        exact g6
    have := m.ret _ _ _ hst'
    rw [← m.R] at this
    exact this

theorem K_eqR {cx cx' : Cx} (h1 : cx'.P = cx.P) (h2 : cx'.R = cx.R) {k : List It} {e : Exit} {a : Act} {w : World} (h : K cx'.P cx'.R k e a w) : K cx.P cx.R k e a w := by
  rw [h1, h2] at h; exact h

theorem run_getMap {w : World} {r : Nat} {es : Array MapEntry} {c : Nat} (h : w.heap[r]? = some (.map es c)) : (getObj r).run P w = .ok (.map es c) w := by simp [getObj, Sem.run, h]
theorem run_setMap {w : World} {r : Nat} {es : Array MapEntry} {c : Nat} (o' : Obj) (h : w.heap[r]? = some (.map es c)) : (setObj r o').run P w = .ok () (w.putObj r o') := by simp [setObj, Sem.run, h, World.putObj]

/-- A map that is made. -/
theorem AWP.makeMap (m : MapCx c0 cx S) (e : Env cx P fn lo) {t : TypeId} (hd : Nat.blt d fn.ntmps = true)
    (g : ∀ cx2 b, MapCx c0 cx2 (fun q => q = b ∨ S q) → Env cx2 P fn nx → cx2.Post = cx.Post → cx2.w0.heap[b]? = some (.map #[] 0) → (∀ q, S q → q ≠ b ∧ cx2.w0.heap[q]? = cx.w0.heap[q]?) →
      AWP cx2 (.ops all rest :: k) ⟨(d, .d (.v (.map (some b)))) :: tm, hp, nx⟩) : AWP cx (.ops all (⟨some d, .makeMap t none, ty, pos, after, none⟩ :: rest) :: k) ⟨tm, hp, nx⟩ := by
  refine AWP.op rfl fun a w hi => ?_
  obtain ⟨μ, ok, hi⟩ := hi.one
  have hr : (execOp a.eval ⟨some d, .makeMap t none, ty, pos, after, none⟩).run cx.P w = .ok (.value (.map (some w.heap.size))) (w.alloc (.map #[] 0)) := by
    have hx : execOp a.eval ⟨some d, .makeMap t none, ty, pos, after, none⟩ = (do pure (.value (← Instr.makeMap t none))) := rfl
    rw [hx]
    simp [Instr.makeMap, run_newObj_alloc]
  rw [hr, Oper.upon_value]
  have hsz : (w.alloc (.map #[] 0)).heap.size = w.heap.size + 1 := by simp
  obtain ⟨h1, h2, h3⟩ := m.go e hi (w' := w.alloc (.map #[] 0)) (S' := fun q => q = w.heap.size ∨ S q) (by omega) rfl rfl rfl (fun b hb _ => Below.heap_alloc _ _ _ hb) (fun b hb => by
    rcases hb with rfl | hb
    · exact ⟨by omega, .inr (Nat.le_refl _)⟩
    · exact ⟨by have := (m.free hi.heap hb).2.2.2; omega, .inl hb⟩)
  have hg := g _ _ h1 h2 rfl (World.alloc_heap_new w _) (fun q hq => by
    have hf := m.free hi.heap hq
    exact ⟨by have := hf.2.2.2; omega, (Below.heap_alloc _ _ _ hf.2.2.2).trans hf.2.2.1⟩)
  have hdl : d < cx.fn.ntmps := by rw [e.fn]; exact Nat.le_of_ble_eq_true hd
  exact K_eqR rfl rfl (hg _ _ (h3.put hdl (.d (.v _))).inv)

/-- What a map's object tells. -/
theorem AWP.lookupM (m : MapCx c0 cx S) (e : Env cx P fn lo) {t : TypeId} {x ix : Operand} {b : Nat} {o : Obj} {key v : Value} {cm : Bool} (hb : S b) (ho : cx.w0.heap[b]? = some o) (hd : Nat.blt d fn.ntmps = true) (h1 : opd ⟨tm, hp, nx⟩ x = some (.d (.v (.map (some b)))))
    (h2 : ∀ (μ : Nat → Option Nat) ok w a sv, opd ⟨tm, hp, nx⟩ ix = some sv → Den μ ok w sv a → a = key) (h3 : (opd ⟨tm, hp, nx⟩ ix).isSome = true) (hrun : ∀ w, w.heap[b]? = some o → (Instr.lookup t (.map (some b)) key cm).run P w = .ok v w)
    (g : AWP cx (.ops all rest :: k) ⟨(d, .d (.v v)) :: tm, hp, nx⟩) : AWP cx (.ops all (⟨some d, .lookup t x ix cm, ty, pos, after, none⟩ :: rest) :: k) ⟨tm, hp, nx⟩ := by
  refine AWP.op_run e (Nat.le_of_ble_eq_true hd) (fun μ ok s w hI => ⟨v, ?_, .d (.v _)⟩) g
  have e1 := (opd_den hI.tmps h1).vv
  obtain ⟨sv, hsv⟩ := Option.isSome_iff_exists.1 h3
  have e2 := h2 μ ok w _ sv hsv (opd_den hI.tmps hsv)
  have hx : execOp s.eval ⟨some d, .lookup t x ix cm, ty, pos, after, none⟩ = (do pure (.value (← Instr.lookup t (s.eval x) (s.eval ix) cm))) := rfl
  rw [hx, e1, e2, Sem.run_bind, hrun w ((m.free hI.heap hb).2.2.1.trans ho)]
  rfl

/-- A map's object turned. -/
theorem AWP.updateM (m : MapCx c0 cx S) (e : Env cx P fn lo) {t : TypeId} {x ix y : Operand} {b : Nat} {o o' : Obj} {key : Value} {sv : SV} (hb : S b) (ho : cx.w0.heap[b]? = some o) (h1 : opd ⟨tm, hp, nx⟩ x = some (.d (.v (.map (some b)))))
    (h2 : ∀ (μ : Nat → Option Nat) ok w a sv, opd ⟨tm, hp, nx⟩ ix = some sv → Den μ ok w sv a → a = key) (h3 : (opd ⟨tm, hp, nx⟩ ix).isSome = true) (h4 : opd ⟨tm, hp, nx⟩ y = some sv) {v : Value} (h5 : ∀ (μ : Nat → Option Nat) ok w a, Den μ ok w sv a → a = v)
    (hrun : ∀ w, w.heap[b]? = some o → (Instr.mapUpdate t (.map (some b)) key v).run P w = .ok () (w.putObj b o'))
    (g : ∀ cx2, MapCx c0 cx2 S → Env cx2 P fn nx → cx2.Post = cx.Post → cx2.w0.heap[b]? = some o' → (∀ q, S q → q ≠ b → cx2.w0.heap[q]? = cx.w0.heap[q]?) → AWP cx2 (.ops all rest :: k) ⟨tm, hp, nx⟩) :
    AWP cx (.ops all (⟨none, .mapUpdate t x ix y, ty, pos, after, none⟩ :: rest) :: k) ⟨tm, hp, nx⟩ := by
  refine AWP.op rfl fun a w hi => ?_
  obtain ⟨μ, ok, hi⟩ := hi.one
  have e1 := (opd_den hi.tmps h1).vv
  obtain ⟨si, hsi⟩ := Option.isSome_iff_exists.1 h3
  have e2 := h2 μ ok w _ si hsi (opd_den hi.tmps hsi)
  have e3 := h5 μ ok w _ (opd_den hi.tmps h4)
  have hf := m.free hi.heap hb
  have hr : (execOp a.eval ⟨none, .mapUpdate t x ix y, ty, pos, after, none⟩).run cx.P w = .ok .skip (w.putObj b o') := by
    have hx : execOp a.eval ⟨none, .mapUpdate t x ix y, ty, pos, after, none⟩ = (do Instr.mapUpdate t (a.eval x) (a.eval ix) (a.eval y); pure .skip) := rfl
    rw [hx, e1, e2, e3, Sem.run_bind, e.P, hrun w (hf.2.2.1.trans ho)]
    rfl
  rw [hr, Oper.upon_skip]
  obtain ⟨k1, k2, k3⟩ := m.go e hi (w' := w.putObj b o') (S' := S) (by simp) rfl rfl rfl (fun q _ hq => World.putObj_heap_other (fun h => hq (h ▸ hb))) (fun q hq => ⟨by have := (m.free hi.heap hq).2.2.2; simpa using this, .inl hq⟩)
  have hg := g _ k1 k2 rfl (World.putObj_heap_same hf.2.2.2) (fun q hq hne => (World.putObj_heap_other hne).trans (m.free hi.heap hq).2.2.1)
  exact K_eqR rfl rfl (hg _ _ k3.inv)

/-- A loop whose rounds turn such blocks. -/
theorem AWP.loopM {ι : Type} (S : ι → St) (I : ι → Cx → Prop) (m : ι → Nat) (i0 : ι) (hI : I i0 cx) (hE : ∀ i c, I i c → c.P = cx.P ∧ c.R = cx.R) {c : Code} {s : St}
    (start : AWP cx (.code (.loop c) :: k) (S i0) → AWP cx (.code (.loop c) :: k) s)
    (round : ∀ i cx2 Φ, I i cx2 → (∀ j cx3, I j cx3 → m j < m i → AWP cx3 (.inv Φ :: k) (S j)) → AWP cx2 (.code c :: .inv Φ :: k) (S i)) : AWP cx (.code (.loop c) :: k) s := by
  refine start fun a w hi => ?_
  let good : Act → World → Nat → Prop := fun a w n => ∃ i c2, I i c2 ∧ m i = n ∧ Inv c2 (S i) a w
  show (Code.loop c).wp cx.P (K cx.P cx.R k) a w
  have hex : ∃ n, good a w n := ⟨_, i0, cx, hI, rfl, hi⟩
  have hmin : ∀ a w, (∃ n, good a w n) → ∃ n, good a w n ∧ ∀ m, good a w m → n ≤ m := fun a w ⟨n, h⟩ => exists_min _ n h
  classical
  let μ : Act → World → Nat := fun a w => if h : ∃ n, good a w n then Classical.choose (hmin a w h) else 0
  have hspec : ∀ a w (h : ∃ n, good a w n), good a w (μ a w) ∧ ∀ m, good a w m → μ a w ≤ m := by
    intro a w h
    simp only [μ, dif_pos h]
    exact Classical.choose_spec (hmin a w h)
  refine wp_loop (fun a w => ∃ n, good a w n) μ hex fun a w hg => ?_
  obtain ⟨⟨i, c2, hi1, hi2, hi3⟩, _⟩ := hspec a w hg
  have := round i c2 (fun a' w' => (∃ n, good a' w' n) ∧ μ a' w' < μ a w) hi1 (fun j c3 hj hlt a' w' hinv => by
    have h1 : good a' w' (m j) := ⟨j, c3, hj, rfl, hinv⟩
    have h3 : μ a' w' ≤ m j := (hspec a' w' ⟨_, h1⟩).2 _ h1
    exact ⟨⟨_, h1⟩, by omega⟩)
  have h := this a w hi3
  have h : c.wp c2.P (K c2.P c2.R (.inv (fun a' w' => (∃ n, good a' w' n) ∧ μ a' w' < μ a w) :: k)) a w := h
  rw [(hE i c2 hi1).1, (hE i c2 hi1).2] at h
  refine Code.wp_mono (fun e a' w' q => ?_) h
  cases e <;> exact q
end
end Go.Sy

/-
  SYMBOLIC STATES, over any program, part 53: maps whose keys are numbers.
-/
namespace Go.Sy
open Go.RowKit

def entsI (kk : IntKind) : Nat → List (Int × Value) → List MapEntry
  | _, [] => []
  | n, (k, v) :: l => ⟨.int kk k, v, n⟩ :: entsI kk (n + 1) l
/-- A map's object: its entries, in the order in which they came; none has gone. -/
def mapI (kk : IntKind) (l : List (Int × Value)) : Obj := .map (entsI kk 0 l).toArray l.length
def idxI : List (Int × Value) → Int → Nat → Option (Nat × Value)
  | [], _, _ => none
  | (k, v) :: l, a, n => if a == k then some (n, v) else idxI l a (n + 1)
/-- What is told at a key. -/
def getI (l : List (Int × Value)) (a : Int) : Option Value := (idxI l a 0).map (·.2)

theorem findNow_I (kk : IntKind) (a : Int) : ∀ (l : List (Int × Value)) (n i : Nat), Instr.findNow (.int kk) (.int kk a) (entsI kk n l) i = some (idxI l a i)
  | [], _, _ => rfl
  | (k, v) :: l, n, i => by
    unfold entsI Instr.findNow idxI
    simp only [Instr.sameNow, if_true]
    cases h : a == k
    · simp only [Bool.false_eq_true, if_false]
      exact findNow_I kk a l (n + 1) (i + 1)
    · simp
theorem entsI_len (kk : IntKind) : ∀ (l : List (Int × Value)) (n : Nat), (entsI kk n l).length = l.length
  | [], _ => rfl
  | _ :: l, n => congrArg Nat.succ (entsI_len kk l (n + 1))
theorem entsI_snoc (kk : IntKind) (k : Int) (v : Value) : ∀ (l : List (Int × Value)) (n : Nat), entsI kk n (l ++ [(k, v)]) = entsI kk n l ++ [⟨.int kk k, v, n + l.length⟩]
  | [], n => rfl
  | (a, u) :: l, n => by
    show (⟨.int kk a, u, n⟩ : MapEntry) :: entsI kk (n + 1) (l ++ [(k, v)]) = ⟨.int kk a, u, n⟩ :: (entsI kk (n + 1) l ++ [⟨.int kk k, v, n + (l.length + 1)⟩])
    rw [entsI_snoc kk k v l (n + 1), show n + 1 + l.length = n + (l.length + 1) by omega]

section
variable {P : Program} {w : World} {t kt et : TypeId} {kk : IntKind} {b : Nat}
theorem run_checkKeyI (hk : P.underlying kt = some (.int kk)) (em : Bool) (n : Nat) (a : Int) : (Instr.checkKey em (n + 1) kt (.int kk a)).run P w = .ok () w := by
  unfold Instr.checkKey
  simp [run_underlying hk]
theorem run_findKeyI (hk : P.underlying kt = some (.int kk)) (a : Int) (l : List (Int × Value)) (n : Nat) : (Instr.findKey kt (.int kk a) (entsI kk n l)).run P w = .ok (idxI l a 0) w := by
  unfold Instr.findKey
  simp only [Sem.run_bind, run_underlying hk, Result.andThen_ok, findNow_I, Sem.run_pure]
theorem run_lookupI (ht : P.underlying t = some (.map kt et)) (hk : P.underlying kt = some (.int kk)) {z : Value} (hz : (zeroValue et).run P w = .ok z w) {l : List (Int × Value)} (h : w.heap[b]? = some (mapI kk l)) (a : Int) :
    (Instr.lookup t (.map (some b)) (.int kk a) false).run P w = .ok ((getI l a).getD z) w := by
  unfold Instr.lookup
  simp only [Sem.run_bind, run_underlying ht, Result.andThen_ok, run_getMap h, Sem.run_pure, run_checkKeyI hk _ 9999, run_findKeyI hk]
  unfold getI
  cases idxI l a 0 with
  | none => simp [hz]
  | some p => rfl
theorem run_newI (ht : P.underlying t = some (.map kt et)) (hk : P.underlying kt = some (.int kk)) {l : List (Int × Value)} (h : w.heap[b]? = some (mapI kk l)) {a : Int} {v : Value} (hn : getI l a = none) :
    (Instr.mapUpdate t (.map (some b)) (.int kk a) v).run P w = .ok () (w.putObj b (mapI kk (l ++ [(a, v)]))) := by
  have hn' : idxI l a 0 = none := Option.map_eq_none_iff.1 hn
  unfold Instr.mapUpdate
  simp only [Sem.run_bind, run_underlying ht, Result.andThen_ok, run_getMap h, Sem.run_pure, run_checkKeyI hk _ 9999, run_findKeyI hk, hn']
  rw [run_setMap _ h]
  unfold mapI
  rw [entsI_snoc, Nat.zero_add, List.length_append]
  simp
end
theorem idxI_mem (a : Int) : ∀ (l : List (Int × Value)) (n : Nat), (∀ p ∈ l, p.1 ≠ a) → idxI l a n = none
  | [], _, _ => rfl
  | (k, v) :: l, n, h => by
    unfold idxI
    rw [if_neg (by have := h (k, v) (by simp); simpa using fun e => this e.symm)]
    exact idxI_mem a l (n + 1) fun p hp => h p (by simp [hp])
theorem getI_set (v : Value) (a : Int) : ∀ (l : List Int), getI (l.map fun k => (k, v)) a = if a ∈ l then some v else none := by
  intro l
  unfold getI
  have : ∀ n, (idxI (l.map fun k => (k, v)) a n).map (·.2) = if a ∈ l then some v else none := by
    induction l with
    | nil => intro n; rfl
    | cons k l ih =>
      intro n
      show (if a == k then some (n, v) else idxI (l.map fun k => (k, v)) a (n + 1)).map (·.2) = _
      by_cases h : a = k
      · subst h; simp
      · rw [if_neg (by simpa using h), ih]
        simp [h]
  exact this 0

section
variable {c0 cx : Cx} {P : Program} {fn : Func} {lo : Nat} {T : Tab} {k : List It} {tm : List (Nat × SV)} {hp : List (Nat × Blk)} {nx : Nat} {all : Array Oper} {rest : List Oper} {d : Nat} {ty : TypeId} {pos : String} {after : Array Edge} {S : Nat → Prop}
theorem AWP.lookupI (m : MapCx c0 cx S) (e : Env cx P fn lo) {t kt et : TypeId} {x ix : Operand} {b : Nat} {kk : IntKind} {l : List (Int × Value)} {a : Int} {z : Value} (hb : S b) (ho : cx.w0.heap[b]? = some (mapI kk l)) (ht : P.underlying t = some (.map kt et)) (hk : P.underlying kt = some (.int kk)) (hz : ∀ w, (zeroValue et).run P w = .ok z w)
    (hd : Nat.blt d fn.ntmps = true) (h1 : opd ⟨tm, hp, nx⟩ x = some (.d (.v (.map (some b))))) (h2 : opd ⟨tm, hp, nx⟩ ix = some (.d (.v (.int kk a)))) (v : Value) (hv : (getI l a).getD z = v)
    (g : AWP cx (.ops all rest :: k) ⟨(d, .d (.v v)) :: tm, hp, nx⟩) : AWP cx (.ops all (⟨some d, .lookup t x ix false, ty, pos, after, none⟩ :: rest) :: k) ⟨tm, hp, nx⟩ := by
  refine AWP.lookupM m e (key := .int kk a) (v := v) hb ho hd h1 (fun μ ok w u sv hs hu => ?_) (by rw [h2]; rfl) (fun w hw => by rw [run_lookupI ht hk (hz w) hw, hv]) g
  rw [h2] at hs
  cases hs
  exact hu.vv
theorem AWP.newI (m : MapCx c0 cx S) (e : Env cx P fn lo) {t kt et : TypeId} {x ix y : Operand} {b : Nat} {kk : IntKind} {l : List (Int × Value)} {a : Int} {v : Value} (hb : S b) (ho : cx.w0.heap[b]? = some (mapI kk l)) (ht : P.underlying t = some (.map kt et)) (hk : P.underlying kt = some (.int kk))
    (h1 : opd ⟨tm, hp, nx⟩ x = some (.d (.v (.map (some b))))) (h2 : opd ⟨tm, hp, nx⟩ ix = some (.d (.v (.int kk a)))) (h3 : opd ⟨tm, hp, nx⟩ y = some (.d (.v v))) (hn : getI l a = none)
    (g : ∀ cx2, MapCx c0 cx2 S → Env cx2 P fn nx → cx2.Post = cx.Post → cx2.w0.heap[b]? = some (mapI kk (l ++ [(a, v)])) → (∀ q, S q → q ≠ b → cx2.w0.heap[q]? = cx.w0.heap[q]?) → AWP cx2 (.ops all rest :: k) ⟨tm, hp, nx⟩) :
    AWP cx (.ops all (⟨none, .mapUpdate t x ix y, ty, pos, after, none⟩ :: rest) :: k) ⟨tm, hp, nx⟩ := by
  refine AWP.updateM m e (key := .int kk a) (v := v) hb ho h1 (fun μ ok w u sv hs hu => ?_) (by rw [h2]; rfl) h3 (fun μ ok w u hu => hu.vv) (fun w hw => run_newI ht hk hw hn) g
  rw [h2] at hs
  cases hs
  exact hu.vv
end
end Go.Sy
