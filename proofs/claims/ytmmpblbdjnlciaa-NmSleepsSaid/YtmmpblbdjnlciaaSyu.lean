/-
  SYMBOLIC STATES, over any program, part 30: the steps of such a region (drawC).
-/
import Derived.Test.YtmmpblbdjnlciaaSyt
namespace Go.Sy
open Go.RowKit

section
variable {cx : Cx} {P : Program} {fn : Func} {lo : Nat} {T : Tab} {k : List It} {tm : List (Nat × SV)} {hp : List (Nat × Blk)} {nx M : Nat} {all : Array Oper} {id : Nat} {R : Caps → List Rec}
variable {d q : Nat} {rest : List Oper} {ty : TypeId} {pos : String} {after : Array Edge}

def DrC (cx : Cx) (all : Array Oper) (id : Nat) (k : List It) (tm : List (Nat × SV)) (hp : List (Nat × Blk)) (nx M : Nat) (i : Nat) (rest : List Oper) (R : Caps → List Rec) : Prop :=
  (GoodC cx all M tm hp R ∧ all.toList.drop i = rest) → AWP cx (.code (.region id all true) :: k) ⟨tm, hp, nx⟩

theorem AWP.drc (M : Nat) (h : DrC cx all id k tm hp nx M 0 all.toList fun _ => []) : AWP cx (.code (.region id all true) :: k) ⟨tm, hp, nx⟩ := h ⟨.nil, rfl⟩

theorem DrC.at {o : Oper} (h : all.toList.drop q = o :: rest) : all[q]? = some o ∧ all.toList.drop (Nat.succ q) = rest := by
  constructor
  · have := congrArg List.head? h
    rw [List.head?_drop, Array.getElem?_toList] at this
    exact this
  · show all.toList.drop (q + 1) = rest
    rw [← List.tail_drop, h]; rfl

theorem DrC.step {o : Oper} {d : Option Nat} {x : Caps → SV} {rds : Caps → List (Nat × Blk)} {eff : Caps → List (Nat × Option Blk)} {nw rd : List Nat} (hd : ∀ t, d = some t → o.dst = some t)
    (hr : ∀ c, ∀ p ∈ rds c, aget p.1 (hpS (R c) hp) = some p.2) (hrd : ∀ c, (rds c).map Prod.fst = rd) (hx : ∀ c, SV.idsLt M (x c) = true) (he : ∀ c, effOk M (eff c)) (hs : ∀ c, GStep cx all M o (tmS (R c) tm) (rds c) d (x c) (eff c) nw)
    (h : DrC cx all id k tm hp nx M (Nat.succ q) rest fun c => ⟨q, d, x c, rd, eff c, nw⟩ :: R c) : DrC cx all id k tm hp nx M q (o :: rest) R := by
  rintro ⟨h1, h2⟩
  obtain ⟨ho, h3⟩ := DrC.at h2
  exact h ⟨.step h1 ho hd hr hrd hx he hs, h3⟩

theorem DrC.app {o : Oper} {d : Option Nat} {x : Caps → Nat → SV} {rds : Caps → List (Nat × Blk)} {eff : Caps → Nat → List (Nat × Option Blk)} {nw rd : List Nat} (hd : ∀ t, d = some t → o.dst = some t)
    (hr : ∀ c, ∀ p ∈ rds c, aget p.1 (hpS (R c) hp) = some p.2) (hrd : ∀ c, (rds c).map Prod.fst = rd) (hx : ∀ c C, SV.idsLt M (x c C) = true) (he : ∀ c C, effOk M (eff c C)) (hs : ∀ c, GStepA cx all M o (tmS (R c) tm) (rds c) d (x c) (eff c) nw)
    (hi : ∀ c C, x (setC q C c) = x c ∧ eff (setC q C c) = eff c)
    (h : DrC cx all id k tm hp nx M (Nat.succ q) rest fun c => ⟨q, d, x c (c q), rd, eff c (c q), nw⟩ :: R c) : DrC cx all id k tm hp nx M q (o :: rest) R := by
  rintro ⟨h1, h2⟩
  obtain ⟨ho, h3⟩ := DrC.at h2
  exact h ⟨.app h1 ho hd hr hrd hx he hs hi, h3⟩

/-- A step that touches no owned block. -/
theorem DrC.v {o : Oper} {x : Caps → SV} (hd : o.dst = some d) (hv : ∀ c hp', VStep cx all hp' M o (tmS (R c) tm) d (x c)) (hx : ∀ c, SV.idsLt M (x c) = true) (h : DrC cx all id k tm hp nx M (Nat.succ q) rest fun c => ⟨q, some d, x c, [], [], []⟩ :: R c) : DrC cx all id k tm hp nx M q (o :: rest) R :=
  DrC.step (d := some d) (x := x) (rds := fun _ => []) (eff := fun _ => []) (nw := []) (rd := []) (fun t ht => by cases ht; exact hd) (fun c p hp => by cases hp) (fun _ => rfl) hx (fun _ => trivial) (fun c tm' hp' k h1 _ _ _ g => hv c hp' tm' k h1 g) h

theorem DrC.load (e : Env cx P fn lo) (hT : TabOk P T) {t : TypeId} {a : Operand} {i j : Nat} {cs : Caps → List SV} {y : Ty} {v : Caps → SV} (hd : Nat.blt d fn.ntmps = true) (h1 : ∀ c, opd ⟨tmS (R c) tm, [], 0⟩ a = some (.ptr i j)) (h2 : aget t T = some y)
    (h3 : ∀ c, aget i (hpS (R c) hp) = some (.box (cs c))) (h4 : ∀ c, part1 y.td.agg y.size j (cs c) = .val (v c) True) (hx : ∀ c, SV.idsLt M (v c) = true) (h : DrC cx all id k tm hp nx M (Nat.succ q) rest fun c => ⟨q, some d, v c, [i], [], []⟩ :: R c) : DrC cx all id k tm hp nx M q (⟨some d, .load t a, ty, pos, after, none⟩ :: rest) R :=
  DrC.step (d := some d) (x := v) (rds := fun c => [(i, .box (cs c))]) (eff := fun _ => []) (nw := []) (rd := [i]) (fun t ht => ht) (fun c p hp => by simp only [List.mem_singleton] at hp; subst hp; exact h3 c) (fun _ => rfl) hx (fun _ => trivial) (fun c => GStep.load e hT hd (h1 c) h2 (h4 c) trivial) h

theorem DrC.store (e : Env cx P fn lo) (hT : TabOk P T) {dst : Option Nat} {t : TypeId} {a v : Operand} {i j : Nat} {x : Caps → SV} {vs cs cs' : Caps → List SV} {y : Ty} (hd : dstOk fn.ntmps dst = true) (h1 : ∀ c, opd ⟨tmS (R c) tm, [], 0⟩ a = some (.ptr i j)) (hv : ∀ c, opd ⟨tmS (R c) tm, [], 0⟩ v = some (x c)) (h2 : aget t T = some y)
    (h3 : ∀ c, aget i (hpS (R c) hp) = some (.box (cs c))) (hvs : ∀ c, cellsOf (x c) = some (vs c)) (hl : ∀ c, Nat.beq (lenK (vs c)) y.size = true) (ha : ∀ c, allCells (vs c) = true) (h4 : ∀ c, laid j (vs c) (cs c) = some (cs' c)) (hx : ∀ c, SV.idsLt.go M (cs' c) = true) (hi : Nat.blt i M = true)
    (h : DrC cx all id k tm hp nx M (Nat.succ q) rest fun c => ⟨q, dst, undefS, [i], [(i, some (.box (cs' c)))], []⟩ :: R c) : DrC cx all id k tm hp nx M q (⟨dst, .store t a v, ty, pos, after, none⟩ :: rest) R :=
  DrC.step (d := dst) (x := fun _ => undefS) (rds := fun c => [(i, .box (cs c))]) (eff := fun c => [(i, some (.box (cs' c)))]) (nw := []) (rd := [i]) (fun t ht => ht) (fun c p hp => by simp only [List.mem_singleton] at hp; subst hp; exact h3 c) (fun _ => rfl) (fun _ => rfl) (fun c => ⟨⟨hi, hx c⟩, trivial⟩)
    (fun c => GStep.store e hT hd (h1 c) (hv c) h2 (hvs c) (hl c) (ha c) (h4 c)) h

theorem DrC.box (N : Nat) (e : Env cx P fn lo) (hT : TabOk P T) {op : Op} {cs : Caps → List SV} (hls : isLs op = false) (hd : Nat.blt d fn.ntmps = true) (hev : ∀ c, ev T ⟨tmS (R c) tm, [], 0⟩ op = .box (cs c)) (hN : Nat.blt N M = true) (hlo : Nat.ble lo N = true) (hcs : ∀ c, SV.idsLt.go M (cs c) = true) (hf : ∀ c, SV.freeOf.go N (cs c) = true)
    (h : DrC cx all id k tm hp nx M (Nat.succ q) rest fun c => ⟨q, some d, .ptr N 0, [], [(N, some (.box (cs c)))], [N]⟩ :: R c) : DrC cx all id k tm hp nx M q (⟨some d, op, ty, pos, after, none⟩ :: rest) R :=
  DrC.step (d := some d) (x := fun _ => .ptr N 0) (rds := fun _ => []) (eff := fun c => [(N, some (.box (cs c)))]) (nw := [N]) (rd := []) (fun t ht => ht) (fun c p hp => by cases hp) (fun _ => rfl) (fun _ => hN) (fun c => ⟨⟨hN, hcs c⟩, trivial⟩)
    (fun c => GStep.box N e hT hls hd (hev c) hN hlo (hcs c) (hf c)) h

theorem DrC.row (N : Nat) (e : Env cx P fn lo) (hT : TabOk P T) {op : Op} {te : TypeId} {m n : Nat} {xs : List (List SV)} (hls : isLs op = false) (hd : Nat.blt d fn.ntmps = true) (hev : ∀ c, ev T ⟨tmS (R c) tm, [], 0⟩ op = .row te m xs n) (hN : Nat.blt N M = true) (hlo : Nat.ble lo N = true) (hxs : rowsOk xs = true)
    (h : DrC cx all id k tm hp nx M (Nat.succ q) rest fun c => ⟨q, some d, .own N m 0 n n, [], [(N, some (.row te false m xs n))], [N]⟩ :: R c) : DrC cx all id k tm hp nx M q (⟨some d, op, ty, pos, after, none⟩ :: rest) R :=
  DrC.step (d := some d) (x := fun _ => .own N m 0 n n) (rds := fun _ => []) (eff := fun _ => [(N, some (.row te false m xs n))]) (nw := [N]) (rd := []) (fun t ht => ht) (fun c p hp => by cases hp) (fun _ => rfl) (fun _ => hN) (fun c => ⟨⟨hN, rowsOk_get hxs⟩, trivial⟩)
    (fun c => GStep.row N e hT hls hd (hev c) hN hlo (rowsOk_get hxs)) h

theorem adelO_all {α : Type} (t : Nat) : ∀ (l : List (Nat × α)), ∃ l', adelO t l = some l'
  | [] => ⟨_, rfl⟩
  | (k, y) :: l => by
    obtain ⟨l', h⟩ := adelO_all t l
    simp only [adelO, h]
    cases Nat.beq t k <;> exact ⟨_, rfl⟩

/-- APPEND to a row of its own, which lies in block i; the new one has the name N. -/
theorem DrC.append (N : Nat) (e : Env cx P fn lo) (hT : TabOk P T) {s0 sx : Operand} {t te : TypeId} {y : Ty} {i m n : Nat} {Cf : Caps → Nat} {xs ys : List (List SV)} {vx : SV} (hd : Nat.blt d fn.ntmps = true) (h1 : ∀ c, opd ⟨tmS (R c) tm, [], 0⟩ s0 = some (.own i m 0 n (Cf c))) (h2 : ∀ c, opd ⟨tmS (R c) tm, [], 0⟩ sx = some vx)
    (hrow : ∀ c, aget i (hpS (R c) hp) = some (.row te false m xs (Cf c))) (ht : tySl T t = some (te, m)) (hy : aget te T = some y) (hm : Nat.blt 0 m = true) (hsrc : ∀ hp, Src hp vx m ys) (hn : xs.length = n) (hcell : ∀ e ∈ ys, allCells e = true) (hb : (n + ys.length) * y.bytes ≤ 140737488355328) (hsz : n + ys.length ≤ 9223372036854775807)
    (hN : Nat.blt N M = true) (hlo : Nat.ble lo N = true) (hok : ∀ e ∈ xs ++ ys, SV.idsLt.go 0 e = true) (hne : Nat.beq i N = false)
    (h : DrC cx all id k tm hp nx M (Nat.succ q) rest fun c => ⟨q, some d, .own N m 0 (n + ys.length) (c q), [i], [(i, none), (N, some (.row te false m (xs ++ ys) (c q)))], [N]⟩ :: R c) :
    DrC cx all id k tm hp nx M q (⟨some d, .call ⟨.builtin .append, #[s0, sx], #[t, t]⟩, ty, pos, after, none⟩ :: rest) R := by
  have hN' := Nat.le_of_ble_eq_true hN
  have hiN : i ≠ N := fun e => by subst e; rw [Nat.beq_refl] at hne; cases hne
  refine DrC.app (d := some d) (x := fun _ C => .own N m 0 (n + ys.length) C) (rds := fun c => [(i, .row te false m xs (Cf c))]) (eff := fun _ C => [(i, none), (N, some (.row te false m (xs ++ ys) C))]) (nw := [N]) (rd := [i]) (fun t ht => ht) (fun c p hp => by simp only [List.mem_singleton] at hp; subst hp; exact hrow c) (fun _ => rfl)
    (fun _ _ => hN) (fun _ _ => ⟨⟨hN, hok⟩, trivial⟩) (fun c tm' hp' k a1 a2 a3 a4 g => ?_) (fun _ _ => ⟨rfl, rfl⟩) h
  obtain ⟨rfl, rfl, e3⟩ := e
  have hb' := a2 (i, .row te false m xs (Cf c)) (by simp)
  have h1' : opd ⟨tm', hp', M⟩ s0 = some (.own i m 0 n (Cf c)) := ((opd_eq fun u hu => a1 u (looks_ops (by simp [Op.operands, Call.operands]) hu)).trans (opd_heap _)).trans (h1 c)
  have h2' : opd ⟨tm', hp', M⟩ sx = some vx := ((opd_eq fun u hu => a1 u (looks_ops (by simp [Op.operands, Call.operands]) hu)).trans (opd_heap _)).trans (h2 c)
  obtain ⟨hp2, hdel⟩ := adelO_all i hp'
  have hget := adelO_get i hp' hp2 hdel
  refine AWP.append ⟨rfl, rfl, e3⟩ hT hd h1' h2' hb' ht hy hm hdel (hsrc hp') hn hcell hb hsz fun C2 _ => ?_
  refine AWP.ext (tm2 := tput (some d) (.own M m 0 (n + ys.length) C2) tm') (hp2 := effH [(i, none), (M, some (.row te false m (xs ++ ys) C2))] hp') (fun t => rfl) (fun j => ?_) ?_
  · rw [aget_effH]
    have hiM : ∀ j, j = M → ¬ j = i := fun j h e => by have := (a3.2 i _ hb').1; omega
    have hl : aget j ((M, Blk.row te false m (xs ++ ys) C2) :: hp2) = if j = M then some (Blk.row te false m (xs ++ ys) C2) else aget j hp2 := aget_cons ..
    have hr : aget j [(i, (none : Option Blk)), (M, some (.row te false m (xs ++ ys) C2))] = if j = i then some none else if j = M then some (some (.row te false m (xs ++ ys) C2)) else none := by
      rw [aget_cons, aget_cons]; rfl
    rw [hl, hr]
    by_cases hj : j = M
    · simp only [if_neg (hiM j hj), if_pos hj]
    · by_cases hji : j = i
      · simp only [if_neg hj, if_pos hji, hget]
      · simp only [if_neg hji, if_neg hj, hget]
  · refine AWP.newName ⟨rfl, rfl, e3⟩ (N := N) (d := some d) (x := .own N m 0 (n + ys.length) C2) (x1 := .own M m 0 (n + ys.length) C2) (eff := [(i, none), (N, some (.row te false m (xs ++ ys) C2))]) (eff1 := [(i, none), (M, some (.row te false m (xs ++ ys) C2))]) hN' (Nat.le_of_ble_eq_true hlo) ?_ hN a3 (a4 N (by simp)) (fun j hj => ?_) ⟨⟨hN, hok⟩, trivial⟩ (g C2)
    · simp [renS, renI, aget, Nat.beq_refl]
    · unfold renI
      simp only [aget]
      by_cases h : j = N
      · subst h
        have : ¬ M = i := fun e => by have := (a3.2 i _ hb').1; omega
        simp [Nat.beq_refl, beq_ne this, beq_ne (fun e => hiN e.symm), renB]
      · simp only [beq_ne h, cond_false]
        by_cases hji : j = i
        · subst hji; simp [Nat.beq_refl]
        · simp only [beq_ne hji, cond_false]
          rw [beq_ne (by omega)]
          rfl

/-- The same, what is appended being a row of its own, too. -/
theorem DrC.appendO (N : Nat) (e : Env cx P fn lo) (hT : TabOk P T) {s0 sx : Operand} {t te : TypeId} {y : Ty} {i m n : Nat} {Cf : Caps → Nat} {xs ys : List (List SV)} {i2 n2 : Nat} {C2f C2r : Caps → Nat} {fz2 : Bool} {te2 : TypeId} (hd : Nat.blt d fn.ntmps = true) (h1 : ∀ c, opd ⟨tmS (R c) tm, [], 0⟩ s0 = some (.own i m 0 n (Cf c))) (h2 : ∀ c, opd ⟨tmS (R c) tm, [], 0⟩ sx = some (.own i2 m 0 n2 (C2f c)))
    (hrow : ∀ c, aget i (hpS (R c) hp) = some (.row te false m xs (Cf c))) (ht : tySl T t = some (te, m)) (hy : aget te T = some y) (hm : Nat.blt 0 m = true) (hrow2 : ∀ c, aget i2 (hpS (R c) hp) = some (.row te2 fz2 m ys (C2r c))) (hn2 : n2 = ys.length) (hn : xs.length = n) (hcell : ∀ e ∈ ys, allCells e = true) (hb : (n + ys.length) * y.bytes ≤ 140737488355328) (hsz : n + ys.length ≤ 9223372036854775807)
    (hN : Nat.blt N M = true) (hlo : Nat.ble lo N = true) (hok : ∀ e ∈ xs ++ ys, SV.idsLt.go 0 e = true) (hne : Nat.beq i N = false)
    (h : DrC cx all id k tm hp nx M (Nat.succ q) rest fun c => ⟨q, some d, .own N m 0 (n + ys.length) (c q), [i, i2], [(i, none), (N, some (.row te false m (xs ++ ys) (c q)))], [N]⟩ :: R c) :
    DrC cx all id k tm hp nx M q (⟨some d, .call ⟨.builtin .append, #[s0, sx], #[t, t]⟩, ty, pos, after, none⟩ :: rest) R := by
  have hN' := Nat.le_of_ble_eq_true hN
  have hiN : i ≠ N := fun e => by subst e; rw [Nat.beq_refl] at hne; cases hne
  refine DrC.app (d := some d) (x := fun _ C => .own N m 0 (n + ys.length) C) (rds := fun c => [(i, .row te false m xs (Cf c)), (i2, .row te2 fz2 m ys (C2r c))]) (eff := fun _ C => [(i, none), (N, some (.row te false m (xs ++ ys) C))]) (nw := [N]) (rd := [i, i2]) (fun t ht => ht) (fun c p hp => by simp only [List.mem_cons, List.not_mem_nil, or_false] at hp; rcases hp with rfl | rfl <;> first | exact hrow c | exact hrow2 c) (fun _ => rfl)
    (fun _ _ => hN) (fun _ _ => ⟨⟨hN, hok⟩, trivial⟩) (fun c tm' hp' k a1 a2 a3 a4 g => ?_) (fun _ _ => ⟨rfl, rfl⟩) h
  obtain ⟨rfl, rfl, e3⟩ := e
  have hb' := a2 (i, .row te false m xs (Cf c)) (by simp)
  have h1' : opd ⟨tm', hp', M⟩ s0 = some (.own i m 0 n (Cf c)) := ((opd_eq fun u hu => a1 u (looks_ops (by simp [Op.operands, Call.operands]) hu)).trans (opd_heap _)).trans (h1 c)
  have hb2 := a2 (i2, .row te2 fz2 m ys (C2r c)) (by simp)
  have h2' : opd ⟨tm', hp', M⟩ sx = some (.own i2 m 0 n2 (C2f c)) := ((opd_eq fun u hu => a1 u (looks_ops (by simp [Op.operands, Call.operands]) hu)).trans (opd_heap _)).trans (h2 c)
  obtain ⟨hp2, hdel⟩ := adelO_all i hp'
  have hget := adelO_get i hp' hp2 hdel
  refine AWP.append ⟨rfl, rfl, e3⟩ hT hd h1' h2' hb' ht hy hm hdel (.own hb2 hn2) hn hcell hb hsz fun C2 _ => ?_
  refine AWP.ext (tm2 := tput (some d) (.own M m 0 (n + ys.length) C2) tm') (hp2 := effH [(i, none), (M, some (.row te false m (xs ++ ys) C2))] hp') (fun t => rfl) (fun j => ?_) ?_
  · rw [aget_effH]
    have hiM : ∀ j, j = M → ¬ j = i := fun j h e => by have := (a3.2 i _ hb').1; omega
    have hl : aget j ((M, Blk.row te false m (xs ++ ys) C2) :: hp2) = if j = M then some (Blk.row te false m (xs ++ ys) C2) else aget j hp2 := aget_cons ..
    have hr : aget j [(i, (none : Option Blk)), (M, some (.row te false m (xs ++ ys) C2))] = if j = i then some none else if j = M then some (some (.row te false m (xs ++ ys) C2)) else none := by
      rw [aget_cons, aget_cons]; rfl
    rw [hl, hr]
    by_cases hj : j = M
    · simp only [if_neg (hiM j hj), if_pos hj]
    · by_cases hji : j = i
      · simp only [if_neg hj, if_pos hji, hget]
      · simp only [if_neg hji, if_neg hj, hget]
  · refine AWP.newName ⟨rfl, rfl, e3⟩ (N := N) (d := some d) (x := .own N m 0 (n + ys.length) C2) (x1 := .own M m 0 (n + ys.length) C2) (eff := [(i, none), (N, some (.row te false m (xs ++ ys) C2))]) (eff1 := [(i, none), (M, some (.row te false m (xs ++ ys) C2))]) hN' (Nat.le_of_ble_eq_true hlo) ?_ hN a3 (a4 N (by simp)) (fun j hj => ?_) ⟨⟨hN, hok⟩, trivial⟩ (g C2)
    · simp [renS, renI, aget, Nat.beq_refl]
    · unfold renI
      simp only [aget]
      by_cases h : j = N
      · subst h
        have : ¬ M = i := fun e => by have := (a3.2 i _ hb').1; omega
        simp [Nat.beq_refl, beq_ne this, beq_ne (fun e => hiN e.symm), renB]
      · simp only [beq_ne h, cond_false]
        by_cases hji : j = i
        · subst hji; simp [Nat.beq_refl]
        · simp only [beq_ne hji, cond_false]
          rw [beq_ne (by omega)]
          rfl

def forallLt : Nat → (Nat → Prop) → Prop
  | 0, _ => True
  | n + 1, p => p n ∧ forallLt n p
theorem forallLt_get {p : Nat → Prop} : ∀ {n : Nat}, forallLt n p → ∀ a, a < n → p a
  | n + 1, h, a, ha => by
    by_cases e : a = n
    · subst e; exact h.1
    · exact forallLt_get h.2 a (by omega)

theorem DrC.fin (e : Env cx P fn lo) (hm : P.follows .mixedOrders = true) (hchk : ∀ c, chkG all.toList nx M (R c) = true) (hlen : ∀ c, Nat.beq (lenK (R c)) (lenK all.toList) = true) (hM : Nat.ble nx M = true) (hT : okT nx tm = true) (hH : okHR nx hp)
    (hind : forallLt (lenK all.toList) (IndepC all R)) (g : ∀ c, AWP cx k ⟨tmS (R c) tm, hpS (R c) hp, M⟩) {q : Nat} : DrC cx all id k tm hp nx M q [] R := fun h1 => by
  refine AWP.drawC e hm h1.1 hchk (fun c => ?_) (Nat.le_of_ble_eq_true hM) hT hH (fun a ha => forallLt_get hind a ?_) g
  · have := Nat.eq_of_beq_eq_true (hlen c)
    rw [lenK_eq, lenK_eq] at this
    simpa using this
  · rw [lenK_eq, Array.length_toList]; exact ha

end
end Go.Sy
