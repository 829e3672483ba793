/-
  SYMBOLIC STATES, over any program, part 28: a region that draws its order, walked by itself.
-/
import Derived.Test.YtmmpblbdjnlciaaSyr
namespace Go.Sy
open Go.RowKit

section
variable {cx : Cx} {P : Program} {fn : Func} {lo : Nat} {T : Tab} {k : List It} {tm : List (Nat × SV)} {hp : List (Nat × Blk)} {nx M : Nat} {all : Array Oper} {R : List Rec} {id : Nat}

/-! ### Operations that read no block -/
theorem opd_heap (x : Operand) : opd ⟨tm, hp, nx⟩ x = opd ⟨tm, [], 0⟩ x := by cases x <;> rfl
theorem opdR_heap (x : Operand) : opdR ⟨tm, hp, nx⟩ x = opdR ⟨tm, [], 0⟩ x := by
  cases x with
  | const v => cases v <;> first | rfl | exact opd_heap _
  | _ => rfl
theorem fillK_heap {place : Nat → Option (Nat × Nat)} : ∀ (l : List (Nat × Operand)) (cs : List SV) (k : List SV → EvR), fillK ⟨tm, hp, nx⟩ place l cs k = fillK ⟨tm, [], 0⟩ place l cs k
  | [], _, _ => rfl
  | (i, o) :: l, cs, k => by
    have ih : ∀ cs k, fillK ⟨tm, hp, nx⟩ place l cs k = fillK ⟨tm, [], 0⟩ place l cs k := fun cs k => fillK_heap l cs k
    simp only [fillK, opd_heap (hp := hp) (nx := nx), ih]
theorem opsK_heap : ∀ (l : List Operand) (k : Option (List SV) → EvR), opsK ⟨tm, hp, nx⟩ l k = opsK ⟨tm, [], 0⟩ l k
  | [], _ => rfl
  | o :: l, k => by
    have ih : ∀ k, opsK ⟨tm, hp, nx⟩ l k = opsK ⟨tm, [], 0⟩ l k := fun k => opsK_heap l k
    simp only [opsK, opd_heap (hp := hp) (nx := nx), ih]
theorem rowK_heap {size : Nat} : ∀ (l : List (Nat × Operand)) (i : Nat) (k : Option (List (List SV)) → EvR), rowK ⟨tm, hp, nx⟩ size i l k = rowK ⟨tm, [], 0⟩ size i l k
  | [], _, _ => rfl
  | (j, o) :: l, i, k => by
    have ih : ∀ i k, rowK ⟨tm, hp, nx⟩ size i l k = rowK ⟨tm, [], 0⟩ size i l k := fun i k => rowK_heap l i k
    simp only [rowK, opd_heap (hp := hp) (nx := nx), ih]
theorem optI_heap (o : Option Operand) : optI ⟨tm, hp, nx⟩ o = optI ⟨tm, [], 0⟩ o := by
  cases o with
  | none => rfl
  | some x => simp only [optI, opd_heap (hp := hp) (nx := nx)]

def isLs : Op → Bool
  | .load .. => true
  | .store .. => true
  | _ => false

theorem ev_heap {op : Op} (h : isLs op = false) : ev T ⟨tm, hp, nx⟩ op = ev T ⟨tm, [], 0⟩ op := by
  cases op <;> first | (cases h; done) | skip
  all_goals simp only [ev, opd_heap (hp := hp) (nx := nx), opdR_heap (hp := hp) (nx := nx), opsK_heap (hp := hp) (nx := nx), rowK_heap (hp := hp) (nx := nx), evBuild, fillK_heap (hp := hp) (nx := nx), evSlice, optI_heap (hp := hp) (nx := nx), evCall]
  case pick c x y => cases c <;> simp only [ev, opdR_heap (hp := hp) (nx := nx)]

/-! ### The steps -/
variable {d : Nat} {ty : TypeId} {pos : String} {after : Array Edge}

theorem looks_go {o : Oper} {dst : Option Nat} {op : Op} {g : Option (Nat × Bool)} {t : Nat} (ho : o = ⟨dst, op, ty, pos, after, g⟩) (ht : t ∈ (⟨dst, op, ty, pos, after, none⟩ : Oper).looksAt all) : t ∈ o.looksAt all := by
  subst ho
  unfold Oper.looksAt at ht ⊢
  rw [List.append_nil] at ht
  exact List.mem_append_left _ ht

theorem GStep.go {dst dx : Option Nat} {op : Op} {x : SV} {rds : List (Nat × Blk)} {eff : List (Nat × Option Blk)} {nw : List Nat} {dj j : Nat} {b w : Bool} (hg : guardS all tm j = .told dj b) (hb : b = w)
    (h : GStep cx all M ⟨dst, op, ty, pos, after, none⟩ tm rds dx x eff nw) : GStep cx all M ⟨dst, op, ty, pos, after, some (j, w)⟩ tm rds dx x eff nw := by
  subst hb
  intro tm' hp' k h1 h2 h3 h4 g
  refine AWP.guard_yes (fun a wd hi => ?_) (h tm' hp' k (fun t ht => h1 t (looks_go rfl ht)) h2 h3 h4 g)
  exact guard_told hi ((guardS_congr rfl h1).trans hg)

theorem GStep.not (e : Env cx P fn lo) {dst : Option Nat} {op : Op} {dj j : Nat} {b w : Bool} (hd : dstOk fn.ntmps dst = true) (hg : guardS all tm j = .told dj b) (hb : b ≠ w) : GStep cx all M ⟨dst, op, ty, pos, after, some (j, w)⟩ tm [] dst undefS [] [] := by
  obtain ⟨rfl, rfl, _⟩ := e
  intro tm' hp' k h1 _ _ _ g
  have hne : ∀ a wd, Inv cx ⟨tm', hp', M⟩ a wd → yielded all a.tmps j ≠ some w := fun a wd hi => by
    rw [guard_told hi ((guardS_congr rfl h1).trans hg)]
    intro e
    cases e
    exact hb rfl
  cases dst with
  | none => exact AWP.guard_not hne (fun t ht => by cases ht) g
  | some d => exact AWP.guard_not hne (fun t ht => by cases ht; exact Nat.le_of_ble_eq_true hd) g

theorem GStep.un (e : Env cx P fn lo) {dst : Option Nat} {op : Op} {dj j : Nat} {w : Bool} (hd : dstOk fn.ntmps dst = true) (hg : guardS all tm j = .no dj) : GStep cx all M ⟨dst, op, ty, pos, after, some (j, w)⟩ tm [] dst undefS [] [] := by
  obtain ⟨rfl, rfl, _⟩ := e
  intro tm' hp' k h1 _ _ _ g
  cases dst with
  | none => exact AWP.guard_un ((guardS_congr rfl h1).trans hg) (fun t ht => by cases ht) g
  | some d => exact AWP.guard_un ((guardS_congr rfl h1).trans hg) (fun t ht => by cases ht; exact Nat.le_of_ble_eq_true hd) g

theorem GStep.val (e : Env cx P fn lo) (hT : TabOk P T) {op : Op} {x : SV} {p : Prop} (hls : isLs op = false) (hd : Nat.blt d fn.ntmps = true) (he : ev T ⟨tm, [], 0⟩ op = .val x p) (hp : p) : GStep cx all M ⟨some d, op, ty, pos, after, none⟩ tm [] (some d) x [] [] :=
  fun tm' hp' k h1 _ _ _ g => VStep.ev e hT hd ((ev_heap hls).trans he) hp tm' k h1 g

theorem GStep.load (e : Env cx P fn lo) (hT : TabOk P T) {t : TypeId} {a : Operand} {i j : Nat} {cs : List SV} {y : Ty} {v : SV} {p : Prop} (hd : Nat.blt d fn.ntmps = true) (h1 : opd ⟨tm, [], 0⟩ a = some (.ptr i j)) (h2 : aget t T = some y) (h4 : part1 y.td.agg y.size j cs = .val v p) (hp' : p) :
    GStep cx all M ⟨some d, .load t a, ty, pos, after, none⟩ tm [(i, .box cs)] (some d) v [] [] := fun tm' hp' k a1 a2 _ _ g => by
  refine VStep.ev e hT (tm := tm) hd (p := p) ?_ ‹p› tm' k a1 g
  have h1' : opd ⟨tm, hp', M⟩ a = some (.ptr i j) := (opd_heap _).trans h1
  have hb := a2 (i, .box cs) (by simp)
  unfold Sy.ev
  simp only [h1', evLoad, h2, hb, h4]

theorem GStep.loadI (e : Env cx P fn lo) (hT : TabOk P T) {t : TypeId} {a : Operand} {ds : List DV} {y : Ty} {v : SV} {p : Prop} (hd : Nat.blt d fn.ntmps = true) (h1 : opd ⟨tm, [], 0⟩ a = some (.ip ds)) (h2 : aget t T = some y) (h4 : part1 y.td.agg y.size 0 (ds.map sd) = .val v p) (hp' : p) :
    GStep cx all M ⟨some d, .load t a, ty, pos, after, none⟩ tm [] (some d) v [] [] := fun tm' hp' k a1 _ _ _ g => by
  refine VStep.ev e hT (tm := tm) hd (p := p) ?_ ‹p› tm' k a1 g
  have h1' : opd ⟨tm, hp', M⟩ a = some (.ip ds) := (opd_heap _).trans h1
  unfold Sy.ev
  simp only [h1', evLoad, h2, mapK_eq, h4]

theorem GStep.store (e : Env cx P fn lo) (hT : TabOk P T) {dst : Option Nat} {t : TypeId} {a v : Operand} {i j : Nat} {x : SV} {vs cs cs' : List SV} {y : Ty} (hd : dstOk fn.ntmps dst = true) (h1 : opd ⟨tm, [], 0⟩ a = some (.ptr i j)) (hv : opd ⟨tm, [], 0⟩ v = some x) (h2 : aget t T = some y)
    (hvs : cellsOf x = some vs) (hl : Nat.beq (lenK vs) y.size = true) (ha : allCells vs = true) (h4 : laid j vs cs = some cs') :
    GStep cx all M ⟨dst, .store t a v, ty, pos, after, none⟩ tm [(i, .box cs)] dst undefS [(i, some (.box cs'))] [] := fun tm' hp' k a1 a2 _ _ g => by
  obtain ⟨rfl, rfl, _⟩ := e
  have h1' : opd ⟨tm', hp', M⟩ a = some (.ptr i j) := ((opd_eq fun u hu => a1 u (looks_ops (by simp [Op.operands]) hu)).trans (opd_heap _)).trans h1
  have hv' : opd ⟨tm', hp', M⟩ v = some x := ((opd_eq fun u hu => a1 u (looks_ops (by simp [Op.operands]) hu)).trans (opd_heap _)).trans hv
  have hb := a2 (i, .box cs) (by simp)
  refine AWP.op_set hT (fun t ht => dstOk_lt hd t ht) (id := i) (cs := cs') ?_ g
  unfold Sy.ev
  simp only [h1', hv', evStore, h2, hvs, hl, ha, cond_true, hb, putK_eq, h4]

theorem GStep.box (N : Nat) (e : Env cx P fn lo) (hT : TabOk P T) {op : Op} {cs : List SV} (hls : isLs op = false) (hd : Nat.blt d fn.ntmps = true) (hev : ev T ⟨tm, [], 0⟩ op = .box cs) (hN : Nat.blt N M = true) (hlo : Nat.ble lo N = true) (hcs : SV.idsLt.go M cs = true) (hf : SV.freeOf.go N cs = true) :
    GStep cx all M ⟨some d, op, ty, pos, after, none⟩ tm [] (some d) (.ptr N 0) [(N, some (.box cs))] [N] := fun tm' hp' k a1 _ a3 a4 g => by
  have hN' := Nat.le_of_ble_eq_true hN
  obtain ⟨rfl, rfl, e3⟩ := e
  refine AWP.op_box hT (Nat.le_of_ble_eq_true hd) (cs := cs) ?_ ?_
  · rw [← hev, ← ev_heap (hp := hp') (nx := M) hls]
    exact ev_congr fun y hy t ht => a1 t (looks_ops hy ht)
  · refine AWP.newName ⟨rfl, rfl, e3⟩ (N := N) (d := some d) (x := .ptr N 0) (x1 := .ptr M 0) (eff := [(N, some (.box cs))]) (eff1 := [(M, some (.box cs))]) hN' (Nat.le_of_ble_eq_true hlo) ?_ hN a3 (a4 N (by simp)) (fun i hi => newEff hN' hi ?_) ⟨⟨hN, hcs⟩, trivial⟩ g
    · simp [renS, renI, aget, Nat.beq_refl]
    · simp only [renB]; rw [renS_go_free hf]

theorem GStep.row (N : Nat) (e : Env cx P fn lo) (hT : TabOk P T) {op : Op} {te : TypeId} {m n : Nat} {xs : List (List SV)} (hls : isLs op = false) (hd : Nat.blt d fn.ntmps = true) (hev : ev T ⟨tm, [], 0⟩ op = .row te m xs n) (hN : Nat.blt N M = true) (hlo : Nat.ble lo N = true) (hxs : ∀ e ∈ xs, SV.idsLt.go 0 e = true) :
    GStep cx all M ⟨some d, op, ty, pos, after, none⟩ tm [] (some d) (.own N m 0 n n) [(N, some (.row te false m xs n))] [N] := fun tm' hp' k a1 _ a3 a4 g => by
  have hN' := Nat.le_of_ble_eq_true hN
  obtain ⟨rfl, rfl, e3⟩ := e
  refine AWP.op_row hT (Nat.le_of_ble_eq_true hd) (n := m) (m := n) (t := te) (xs := xs) ?_ ?_
  · rw [← hev, ← ev_heap (hp := hp') (nx := M) hls]
    exact ev_congr fun y hy t ht => a1 t (looks_ops hy ht)
  · refine AWP.newName ⟨rfl, rfl, e3⟩ (N := N) (d := some d) (x := .own N m 0 n n) (x1 := .own M m 0 n n) (eff := [(N, some (.row te false m xs n))]) (eff1 := [(M, some (.row te false m xs n))]) hN' (Nat.le_of_ble_eq_true hlo) ?_ hN a3 (a4 N (by simp)) (fun i hi => newEff hN' hi rfl) ⟨⟨hN, hxs⟩, trivial⟩ g
    simp [renS, renI, aget, Nat.beq_refl]

/-! ### The walk -/
structure OutG where
  q : Nat
  rest : List Oper
  R : List Rec
  nm : Nat
  ob : Prop

def rowsOk : List (List SV) → Bool
  | [] => true
  | e :: l => SV.idsLt.go 0 e && rowsOk l
theorem rowsOk_get : ∀ {l : List (List SV)}, rowsOk l = true → ∀ e ∈ l, SV.idsLt.go 0 e = true
  | e :: l, h, x, hx => by
    simp only [rowsOk, Bool.and_eq_true] at h
    rcases List.mem_cons.1 hx with rfl | hx
    · exact h.1
    · exact rowsOk_get h.2 x hx

/-- One step: what is recorded. -/
inductive GR : Type where
  | rcd (d : Option Nat) (x : SV) (rd : List Nat) (eff : List (Nat × Option Blk)) (nw : List Nat) (nm : Nat) (ob : Prop)
  | stop

def gstep (T : Tab) (N M lo nm : Nat) (tm : List (Nat × SV)) (hp : List (Nat × Blk)) (dst : Option Nat) (op : Op) : GR :=
  match op with
  | .load t a => match dst with
    | some d => bif Nat.blt d N then (match opd ⟨tm, [], 0⟩ a with
      | some (.ptr i j) => match aget t T, aget i hp with
        | some y, some (.box cs) => match part1 y.td.agg y.size j cs with
          | .val x p => forceK x fun x => bif SV.idsLt M x then .rcd (some d) x [i] [] [] nm p else .stop
          | _ => .stop
        | _, _ => .stop
      | some (.ip ds) => match aget t T with
        | some y => mapK sd ds fun cs => match part1 y.td.agg y.size 0 cs with
          | .val x p => forceK x fun x => bif SV.idsLt M x then .rcd (some d) x [] [] [] nm p else .stop
          | _ => .stop
        | none => .stop
      | _ => .stop) else .stop
    | none => .stop
  | .store t a v => bif dstOk N dst then (match opd ⟨tm, [], 0⟩ a, opd ⟨tm, [], 0⟩ v with
      | some (.ptr i j), some x => match aget t T, cellsOf x, aget i hp with
        | some y, some vs, some (.box cs) => bif Nat.beq (lenK vs) y.size && allCells vs && Nat.blt i M then putK j vs cs (fun o => match o with
          | some cs' => bif SV.idsLt.go M cs' then .rcd dst undefS [i] [(i, some (.box cs'))] [] nm True else .stop
          | none => .stop) else .stop
        | _, _, _ => .stop
      | _, _ => .stop) else .stop
  | op => match dst with
    | some d => bif Nat.blt d N then (match ev T ⟨tm, [], 0⟩ op with
      | .val x p => forceK x fun x => bif SV.idsLt M x then .rcd (some d) x [] [] [] nm p else .stop
      | .box cs => bif Nat.blt nm M && Nat.ble lo nm && SV.idsLt.go M cs && SV.freeOf.go nm cs then .rcd (some d) (.ptr nm 0) [] [(nm, some (.box cs))] [nm] (Nat.succ nm) True else .stop
      | .row te m xs n => bif Nat.blt nm M && Nat.ble lo nm && rowsOk xs then .rcd (some d) (.own nm m 0 n n) [] [(nm, some (.row te false m xs n))] [nm] (Nat.succ nm) True else .stop
      | _ => .stop) else .stop
    | none => .stop

theorem gval_ok (e : Env cx P fn lo) (hT : TabOk P T) {nm : Nat} {dst : Option Nat} {op : Op} {d : Option Nat} {x : SV} {rd : List Nat} {eff : List (Nat × Option Blk)} {nw : List Nat} {nm' : Nat} {ob : Prop} (hls : isLs op = false) (h : (match dst with
    | some d => bif Nat.blt d fn.ntmps then (match ev T ⟨tm, [], 0⟩ op with
      | .val x p => forceK x fun x => bif SV.idsLt M x then GR.rcd (some d) x [] [] [] nm p else .stop
      | .box cs => bif Nat.blt nm M && Nat.ble lo nm && SV.idsLt.go M cs && SV.freeOf.go nm cs then .rcd (some d) (.ptr nm 0) [] [(nm, some (.box cs))] [nm] (Nat.succ nm) True else .stop
      | .row te m xs n => bif Nat.blt nm M && Nat.ble lo nm && rowsOk xs then .rcd (some d) (.own nm m 0 n n) [] [(nm, some (.row te false m xs n))] [nm] (Nat.succ nm) True else .stop
      | _ => .stop) else .stop
    | none => .stop ) = GR.rcd d x rd eff nw nm' ob) (hob : ob) :
    (∀ t, d = some t → dst = some t) ∧ SV.idsLt M x = true ∧ effOk M eff ∧ ∃ rds, rds.map Prod.fst = rd ∧ (∀ p ∈ rds, aget p.1 hp = some p.2) ∧ GStep cx all M ⟨dst, op, ty, pos, after, none⟩ tm rds d x eff nw := by
  split at h
  · rename_i d0
    cases hb : Nat.blt d0 fn.ntmps
    · rw [hb] at h; cases h
    · rw [hb] at h
      simp only [cond_true] at h
      split at h
      · rename_i x0 p0 he
        rw [forceK_eq] at h
        cases hx : SV.idsLt M x0
        · rw [hx] at h; cases h
        · rw [hx] at h
          cases h
          exact ⟨fun t ht => ht, hx, trivial, [], rfl, (fun p hp => by cases hp), GStep.val e hT hls hb he hob⟩
      · rename_i cs he
        cases hx : (Nat.blt nm M && Nat.ble lo nm && SV.idsLt.go M cs && SV.freeOf.go nm cs)
        · rw [hx] at h; cases h
        · rw [hx] at h
          cases h
          simp only [Bool.and_eq_true] at hx
          obtain ⟨⟨⟨h1, h2⟩, h3⟩, h4⟩ := hx
          exact ⟨fun t ht => ht, h1, ⟨⟨h1, h3⟩, trivial⟩, [], rfl, (fun p hp => by cases hp), GStep.box nm e hT hls hb he h1 h2 h3 h4⟩
      · rename_i te m xs n he
        cases hx : (Nat.blt nm M && Nat.ble lo nm && rowsOk xs)
        · rw [hx] at h; cases h
        · rw [hx] at h
          cases h
          simp only [Bool.and_eq_true] at hx
          obtain ⟨⟨h1, h2⟩, h3⟩ := hx
          exact ⟨fun t ht => ht, h1, ⟨⟨h1, rowsOk_get h3⟩, trivial⟩, [], rfl, (fun p hp => by cases hp), GStep.row nm e hT hls hb he h1 h2 (rowsOk_get h3)⟩
      · cases h
  · cases h

theorem gstep_ok (e : Env cx P fn lo) (hT : TabOk P T) {nm : Nat} {dst : Option Nat} {op : Op} {d : Option Nat} {x : SV} {rd : List Nat} {eff : List (Nat × Option Blk)} {nw : List Nat} {nm' : Nat} {ob : Prop} (h : gstep T fn.ntmps M lo nm tm hp dst op = .rcd d x rd eff nw nm' ob) (hob : ob) :
    (∀ t, d = some t → dst = some t) ∧ SV.idsLt M x = true ∧ effOk M eff ∧ ∃ rds, rds.map Prod.fst = rd ∧ (∀ p ∈ rds, aget p.1 hp = some p.2) ∧ GStep cx all M ⟨dst, op, ty, pos, after, none⟩ tm rds d x eff nw := by
  unfold gstep at h
  split at h
  · -- load
    rename_i t a
    split at h
    · rename_i d0
      cases hb : Nat.blt d0 fn.ntmps
      · rw [hb] at h; cases h
      · rw [hb] at h
        simp only [cond_true] at h
        split at h
        · rename_i i j ha
          split at h
          · rename_i y cs hy hcs
            split at h
            · rename_i x0 p0 hpt
              rw [forceK_eq] at h
              cases hx : SV.idsLt M x0
              · rw [hx] at h; cases h
              · rw [hx] at h
                cases h
                exact ⟨fun t ht => ht, hx, trivial, [(i, .box cs)], rfl, (fun p hp => by simp only [List.mem_singleton] at hp; subst hp; exact hcs), GStep.load e hT hb ha hy hpt hob⟩
            · cases h
          · cases h
        · rename_i ds ha
          split at h
          · rename_i y hy
            rw [mapK_eq] at h
            split at h
            · rename_i x0 p0 hpt
              rw [forceK_eq] at h
              cases hx : SV.idsLt M x0
              · rw [hx] at h; cases h
              · rw [hx] at h
                cases h
                exact ⟨fun t ht => ht, hx, trivial, [], rfl, (fun p hp => by cases hp), GStep.loadI e hT hb ha hy hpt hob⟩
            · cases h
          · cases h
        · cases h
    · cases h
  · -- store
    rename_i t a v
    cases hb : dstOk fn.ntmps dst
    · rw [hb] at h; cases h
    · rw [hb] at h
      simp only [cond_true] at h
      split at h
      · rename_i i j x0 ha hv
        split at h
        · rename_i y vs cs hy hvs hcs
          cases hx : (Nat.beq (lenK vs) y.size && allCells vs && Nat.blt i M)
          · rw [hx] at h; cases h
          · rw [hx] at h
            simp only [cond_true, putK_eq] at h
            simp only [Bool.and_eq_true] at hx
            obtain ⟨⟨h1, h2⟩, h3⟩ := hx
            split at h
            · rename_i cs' hl
              cases hc : SV.idsLt.go M cs'
              · rw [hc] at h; cases h
              · rw [hc] at h
                cases h
                exact ⟨fun t ht => ht, rfl, ⟨⟨h3, hc⟩, trivial⟩, [(i, .box cs)], rfl, (fun p hp => by simp only [List.mem_singleton] at hp; subst hp; exact hcs), GStep.store e hT hb ha hv hy hvs h1 h2 hl⟩
            · cases h
        · cases h
      · cases h
  · rename_i h1 h2
    refine gval_ok e hT ?_ h hob
    cases op <;> first | rfl | (exact absurd rfl (h1 _ _)) | (exact absurd rfl (h2 _ _ _))

def gwalk (T : Tab) (N M lo : Nat) (all : Array Oper) : Nat → Nat → List Oper → List (Nat × SV) → List (Nat × Blk) → List Rec → Nat → Prop → OutG
  | 0, q, rest, _, _, R, nm, ob => ⟨q, rest, R, nm, ob⟩
  | _ + 1, q, [], _, _, R, nm, ob => ⟨q, [], R, nm, ob⟩
  | n + 1, q, ⟨dst, op, ty, pos, after, none⟩ :: rest, tm, hp, R, nm, ob =>
    match gstep T N M lo nm tm hp dst op with
    | .rcd d x rd eff nw nm' p => gwalk T N M lo all n (Nat.succ q) rest (tput d x tm) (effH eff hp) (⟨q, d, x, rd, eff, nw⟩ :: R) nm' (p ∧ ob)
    | .stop => ⟨q, ⟨dst, op, ty, pos, after, none⟩ :: rest, R, nm, ob⟩
  | n + 1, q, ⟨dst, op, ty, pos, after, some (j, w)⟩ :: rest, tm, hp, R, nm, ob =>
    match guardS all tm j with
    | .told _ b => bif (bif b then w else !w) then (match gstep T N M lo nm tm hp dst op with
        | .rcd d x rd eff nw nm' p => gwalk T N M lo all n (Nat.succ q) rest (tput d x tm) (effH eff hp) (⟨q, d, x, rd, eff, nw⟩ :: R) nm' (p ∧ ob)
        | .stop => ⟨q, ⟨dst, op, ty, pos, after, some (j, w)⟩ :: rest, R, nm, ob⟩)
      else (bif dstOk N dst then gwalk T N M lo all n (Nat.succ q) rest (tput dst undefS tm) hp (⟨q, dst, undefS, [], [], []⟩ :: R) nm ob else ⟨q, ⟨dst, op, ty, pos, after, some (j, w)⟩ :: rest, R, nm, ob⟩)
    | .no _ => bif dstOk N dst then gwalk T N M lo all n (Nat.succ q) rest (tput dst undefS tm) hp (⟨q, dst, undefS, [], [], []⟩ :: R) nm ob else ⟨q, ⟨dst, op, ty, pos, after, some (j, w)⟩ :: rest, R, nm, ob⟩
    | _ => ⟨q, ⟨dst, op, ty, pos, after, some (j, w)⟩ :: rest, R, nm, ob⟩

theorem gwalk_ok (e : Env cx P fn lo) (hT : TabOk P T) : ∀ (n q : Nat) (rest : List Oper) (R : List Rec) (nm : Nat) (ob : Prop), (gwalk T fn.ntmps M lo all n q rest (tmS R tm) (hpS R hp) R nm ob).ob →
    ob ∧ (DrG cx all id k tm hp nx M (gwalk T fn.ntmps M lo all n q rest (tmS R tm) (hpS R hp) R nm ob).q (gwalk T fn.ntmps M lo all n q rest (tmS R tm) (hpS R hp) R nm ob).rest (gwalk T fn.ntmps M lo all n q rest (tmS R tm) (hpS R hp) R nm ob).R → DrG cx all id k tm hp nx M q rest R)
  | 0, q, rest, R, nm, ob, h => ⟨h, fun g => g⟩
  | n + 1, q, [], R, nm, ob, h => ⟨h, fun g => g⟩
  | n + 1, q, ⟨dst, op, ty, pos, after, none⟩ :: rest, R, nm, ob, h => by
    unfold gwalk at h ⊢
    split at h
    · rename_i d x rd eff nw nm' p hs
      obtain ⟨⟨h1, h1'⟩, h2⟩ := gwalk_ok e hT n (Nat.succ q) rest (⟨q, d, x, rd, eff, nw⟩ :: R) nm' (p ∧ ob) h
      obtain ⟨g1, g2, g3, rds, rfl, g5, g6⟩ := gstep_ok (cx := cx) (all := all) (ty := ty) (pos := pos) (after := after) e hT hs h1
      exact ⟨h1', fun g => DrG.step g1 g5 g2 g3 g6 (h2 g)⟩
    · exact ⟨h, fun g => g⟩
  | n + 1, q, ⟨dst, op, ty, pos, after, some (j, w)⟩ :: rest, R, nm, ob, h => by
    unfold gwalk at h ⊢
    have skip : dstOk fn.ntmps dst = true → GStep cx all M ⟨dst, op, ty, pos, after, some (j, w)⟩ (tmS R tm) [] dst undefS [] [] → (gwalk T fn.ntmps M lo all n (Nat.succ q) rest (tput dst undefS (tmS R tm)) (hpS R hp) (⟨q, dst, undefS, [], [], []⟩ :: R) nm ob).ob →
        ob ∧ (DrG cx all id k tm hp nx M (gwalk T fn.ntmps M lo all n (Nat.succ q) rest (tput dst undefS (tmS R tm)) (hpS R hp) (⟨q, dst, undefS, [], [], []⟩ :: R) nm ob).q (gwalk T fn.ntmps M lo all n (Nat.succ q) rest (tput dst undefS (tmS R tm)) (hpS R hp) (⟨q, dst, undefS, [], [], []⟩ :: R) nm ob).rest (gwalk T fn.ntmps M lo all n (Nat.succ q) rest (tput dst undefS (tmS R tm)) (hpS R hp) (⟨q, dst, undefS, [], [], []⟩ :: R) nm ob).R →
          DrG cx all id k tm hp nx M q (⟨dst, op, ty, pos, after, some (j, w)⟩ :: rest) R) := fun hd hs h => by
      obtain ⟨h1, h2⟩ := gwalk_ok e hT n (Nat.succ q) rest (⟨q, dst, undefS, [], [], []⟩ :: R) nm ob h
      exact ⟨h1, fun g => DrG.step (rds := []) (d := dst) (x := undefS) (eff := []) (nw := []) (fun t ht => ht) (fun p hp => by cases hp) rfl trivial hs (h2 g)⟩
    cases hg : guardS all (tmS R tm) j with
    | ask d b => simp only [hg] at h ⊢; exact ⟨h, fun g => g⟩
    | bad => simp only [hg] at h ⊢; exact ⟨h, fun g => g⟩
    | no dj =>
      simp only [hg] at h ⊢
      cases hd : dstOk fn.ntmps dst
      · simp only [hd, cond_false] at h ⊢; exact ⟨h, fun g => g⟩
      · simp only [hd, cond_true] at h ⊢
        exact skip hd (GStep.un e hd hg) h
    | told dj b =>
      simp only [hg] at h ⊢
      cases hw : (bif b then w else !w)
      · simp only [hw, cond_false] at h ⊢
        cases hd : dstOk fn.ntmps dst
        · simp only [hd, cond_false] at h ⊢; exact ⟨h, fun g => g⟩
        · simp only [hd, cond_true] at h ⊢
          exact skip hd (GStep.not e hd hg (fun e => by subst e; cases b <;> cases hw)) h
      · simp only [hw, cond_true] at h ⊢
        cases hs : gstep T fn.ntmps M lo nm (tmS R tm) (hpS R hp) dst op with
        | stop => simp only [hs] at h ⊢; exact ⟨h, fun g => g⟩
        | rcd d x rd eff nw nm' p =>
          simp only [hs] at h ⊢
          obtain ⟨⟨h1, h1'⟩, h2⟩ := gwalk_ok e hT n (Nat.succ q) rest (⟨q, d, x, rd, eff, nw⟩ :: R) nm' (p ∧ ob) h
          obtain ⟨g1, g2, g3, rds, rfl, g5, g6⟩ := gstep_ok (cx := cx) (all := all) (ty := ty) (pos := pos) (after := after) e hT hs h1
          exact ⟨h1', fun g => DrG.step g1 g5 g2 g3 (GStep.go hg (by cases b <;> cases w <;> first | rfl | cases hw) g6) (h2 g)⟩

theorem DrG.run (e : Env cx P fn lo) (hT : TabOk P T) (n nm : Nat) {q q' nm' : Nat} {rest rest' : List Oper} {R' : List Rec} {ob : Prop} (h : gwalk T fn.ntmps M lo all n q rest (tmS R tm) (hpS R hp) R nm True = ⟨q', rest', R', nm', ob⟩) (hob : ob) (g : DrG cx all id k tm hp nx M q' rest' R') : DrG cx all id k tm hp nx M q rest R := by
  have := gwalk_ok (cx := cx) (P := P) (fn := fn) (lo := lo) (T := T) (k := k) (tm := tm) (hp := hp) (nx := nx) (M := M) (all := all) (id := id) e hT n q rest R nm True
  rw [h] at this
  exact (this hob).2 g

def nxOf (nx : Nat) : List Rec → Nat
  | [] => nx
  | r :: R => up r.nw (nxOf nx R)
where up : List Nat → Nat → Nat
  | [], n => n
  | _ :: l, n => up l (Nat.succ n)

theorem DrG.runN (e : Env cx P fn lo) (hT : TabOk P T) (n : Nat) {q q' nm' : Nat} {rest rest' : List Oper} {R' : List Rec} {ob : Prop} (h : gwalk T fn.ntmps M lo all n q rest (tmS R tm) (hpS R hp) R (nxOf nx R) True = ⟨q', rest', R', nm', ob⟩) (hob : ob) (g : DrG cx all id k tm hp nx M q' rest' R') : DrG cx all id k tm hp nx M q rest R :=
  DrG.run e hT n _ h hob g

end
end Go.Sy
