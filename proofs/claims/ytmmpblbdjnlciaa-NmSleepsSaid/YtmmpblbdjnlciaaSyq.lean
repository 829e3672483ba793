/-
  SYMBOLIC STATES, over any program, part 26: the steps of a region that draws its order (drawG).
-/
import Derived.Test.YtmmpblbdjnlciaaSyp
namespace Go.Sy
open Go.RowKit

section
variable {cx : Cx} {P : Program} {fn : Func} {lo : Nat} {T : Tab} {k : List It} {tm : List (Nat × SV)} {hp : List (Nat × Blk)} {nx M : Nat} {all : Array Oper} {R : List Rec} {id : Nat}
variable {d q : Nat} {rest : List Oper} {ty : TypeId} {pos : String} {after : Array Edge}

/-! ### A walk over such a region -/
def DrG (cx : Cx) (all : Array Oper) (id : Nat) (k : List It) (tm : List (Nat × SV)) (hp : List (Nat × Blk)) (nx M : Nat) (i : Nat) (rest : List Oper) (R : List Rec) : Prop :=
  (GoodG cx all M tm hp R ∧ all.toList.drop i = rest) → AWP cx (.code (.region id all true) :: k) ⟨tm, hp, nx⟩

theorem AWP.drg (M : Nat) (h : DrG cx all id k tm hp nx M 0 all.toList []) : AWP cx (.code (.region id all true) :: k) ⟨tm, hp, nx⟩ := h ⟨.nil, rfl⟩

theorem DrG.step {o : Oper} {d : Option Nat} {x : SV} {rds : List (Nat × Blk)} {eff : List (Nat × Option Blk)} {nw : List Nat} (hd : ∀ t, d = some t → o.dst = some t)
    (hr : ∀ p ∈ rds, aget p.1 (hpS R hp) = some p.2) (hx : SV.idsLt M x = true) (he : effOk M eff) (hs : GStep cx all M o (tmS R tm) rds d x eff nw) (h : DrG cx all id k tm hp nx M (Nat.succ q) rest (⟨q, d, x, rds.map Prod.fst, eff, nw⟩ :: R)) : DrG cx all id k tm hp nx M q (o :: rest) R := by
  rintro ⟨h1, h2⟩
  have ho : all[q]? = some o := by
    have := congrArg List.head? h2
    rw [List.head?_drop, Array.getElem?_toList] at this
    exact this
  exact h ⟨.step h1 ho hd hr hx he hs, by show all.toList.drop (q + 1) = rest; rw [← List.tail_drop, h2]; rfl⟩

theorem DrG.fin (e : Env cx P fn lo) (hm : P.follows .mixedOrders = true) (hchk : chkG all.toList nx M R = true) (hlen : Nat.beq (lenK R) (lenK all.toList) = true) (hM : Nat.ble nx M = true) (hT : okT nx tm = true) (hH : okHR nx hp)
    (g : AWP cx k ⟨tmS R tm, hpS R hp, M⟩) {q : Nat} : DrG cx all id k tm hp nx M q [] R := fun h1 => by
  refine AWP.drawG e hm h1.1 hchk ?_ (Nat.le_of_ble_eq_true hM) hT hH g
  have := Nat.eq_of_beq_eq_true hlen
  rw [lenK_eq, lenK_eq] at this
  simpa using this

/-- A step that touches no owned block. -/
theorem DrG.v {o : Oper} {x : SV} (hd : o.dst = some d) (hv : ∀ hp', VStep cx all hp' M o (tmS R tm) d x) (hx : SV.idsLt M x = true) (h : DrG cx all id k tm hp nx M (Nat.succ q) rest (⟨q, some d, x, [], [], []⟩ :: R)) : DrG cx all id k tm hp nx M q (o :: rest) R :=
  DrG.step (d := some d) (eff := []) (nw := []) (rds := []) (fun t ht => by cases ht; exact hd) (fun p hp => by cases hp) hx trivial (fun tm' hp' k h1 _ _ _ g => hv hp' tm' k h1 g) h

/-- A step that reads one owned block. -/
theorem DrG.v1 {o : Oper} {x : SV} {i : Nat} {B : Blk} (hd : o.dst = some d) (hr : aget i (hpS R hp) = some B) (hv : ∀ hp', aget i hp' = some B → VStep cx all hp' M o (tmS R tm) d x) (hx : SV.idsLt M x = true) (h : DrG cx all id k tm hp nx M (Nat.succ q) rest (⟨q, some d, x, [i], [], []⟩ :: R)) : DrG cx all id k tm hp nx M q (o :: rest) R :=
  DrG.step (d := some d) (eff := []) (nw := []) (rds := [(i, B)]) (fun t ht => by cases ht; exact hd) (fun p hp => by simp only [List.mem_singleton] at hp; subst hp; exact hr) hx trivial (fun tm' hp' k h1 h2 _ _ g => hv hp' (h2 (i, B) (by simp)) tm' k h1 g) h

theorem VStep.load (e : Env cx P fn lo) (hT : TabOk P T) {t : TypeId} {a : Operand} {i j : Nat} {cs : List SV} {y : Ty} {v : SV} (hd : Nat.blt d fn.ntmps = true) (h1 : opd ⟨tm, [], 0⟩ a = some (.ptr i j)) (h2 : aget t T = some y) (h4 : part1 y.td.agg y.size j cs = .val v True)
    (hb : aget i hp = some (.box cs)) : VStep cx all hp nx ⟨some d, .load t a, ty, pos, after, none⟩ tm d v := by
  refine VStep.ev e hT hd (p := True) ?_ trivial
  have h1' : opd ⟨tm, hp, nx⟩ a = some (.ptr i j) := h1
  unfold Sy.ev
  simp only [h1', evLoad, h2, hb, h4]

theorem DrG.load (e : Env cx P fn lo) (hT : TabOk P T) {t : TypeId} {a : Operand} {i j : Nat} {cs : List SV} {y : Ty} {v : SV} (hd : Nat.blt d fn.ntmps = true) (h1 : opd ⟨tmS R tm, [], 0⟩ a = some (.ptr i j)) (h2 : aget t T = some y)
    (h3 : aget i (hpS R hp) = some (.box cs)) (h4 : part1 y.td.agg y.size j cs = .val v True) (hx : SV.idsLt M v = true) (h : DrG cx all id k tm hp nx M (Nat.succ q) rest (⟨q, some d, v, [i], [], []⟩ :: R)) : DrG cx all id k tm hp nx M q (⟨some d, .load t a, ty, pos, after, none⟩ :: rest) R :=
  DrG.v1 rfl h3 (fun _ hb => VStep.load e hT hd h1 h2 h4 hb) hx h

theorem DrG.loadGo (e : Env cx P fn lo) (hT : TabOk P T) {t : TypeId} {a : Operand} {i j jg dj : Nat} {wg : Bool} {cs : List SV} {y : Ty} {v : SV} (hg : guardS all (tmS R tm) jg = .told dj wg) (hd : Nat.blt d fn.ntmps = true) (h1 : opd ⟨tmS R tm, [], 0⟩ a = some (.ptr i j)) (h2 : aget t T = some y)
    (h3 : aget i (hpS R hp) = some (.box cs)) (h4 : part1 y.td.agg y.size j cs = .val v True) (hx : SV.idsLt M v = true) (h : DrG cx all id k tm hp nx M (Nat.succ q) rest (⟨q, some d, v, [i], [], []⟩ :: R)) : DrG cx all id k tm hp nx M q (⟨some d, .load t a, ty, pos, after, some (jg, wg)⟩ :: rest) R :=
  DrG.v1 rfl h3 (fun _ hb => VStep.go hg (VStep.load e hT hd h1 h2 h4 hb)) hx h

theorem DrG.loadGoA (e : Env cx P fn lo) (hT : TabOk P T) {t : TypeId} {a : Operand} {i j jg dj : Nat} {bg wg : Bool} {cs : List SV} {y : Ty} {v : SV} (hg : guardS all (tmS R tm) jg = .ask dj bg) (hb : bg = wg) (hd : Nat.blt d fn.ntmps = true) (h1 : opd ⟨tmS R tm, [], 0⟩ a = some (.ptr i j)) (h2 : aget t T = some y)
    (h3 : aget i (hpS R hp) = some (.box cs)) (h4 : part1 y.td.agg y.size j cs = .val v True) (hx : SV.idsLt M v = true) (h : DrG cx all id k tm hp nx M (Nat.succ q) rest (⟨q, some d, v, [i], [], []⟩ :: R)) : DrG cx all id k tm hp nx M q (⟨some d, .load t a, ty, pos, after, some (jg, wg)⟩ :: rest) R :=
  DrG.v1 rfl h3 (fun _ hb' => VStep.goA hg hb (VStep.load e hT hd h1 h2 h4 hb')) hx h

/-- A store into a variable. -/
theorem DrG.store (e : Env cx P fn lo) (hT : TabOk P T) {dst : Option Nat} {t : TypeId} {a v : Operand} {i j : Nat} {x : SV} {vs cs cs' : List SV} {y : Ty} (hd : dstOk fn.ntmps dst = true) (h1 : opd ⟨tmS R tm, [], 0⟩ a = some (.ptr i j)) (hv : opd ⟨tmS R tm, [], 0⟩ v = some x) (h2 : aget t T = some y)
    (h3 : aget i (hpS R hp) = some (.box cs)) (hvs : cellsOf x = some vs) (hl : Nat.beq (lenK vs) y.size = true) (ha : allCells vs = true) (h4 : laid j vs cs = some cs') (hx : SV.idsLt.go M cs' = true) (hi : Nat.blt i M = true)
    (h : DrG cx all id k tm hp nx M (Nat.succ q) rest (⟨q, dst, undefS, [i], [(i, some (.box cs'))], []⟩ :: R)) : DrG cx all id k tm hp nx M q (⟨dst, .store t a v, ty, pos, after, none⟩ :: rest) R := by
  refine DrG.step (d := dst) (x := undefS) (eff := [(i, some (.box cs'))]) (nw := []) (rds := [(i, .box cs)]) (fun t ht => ht) (fun p hp => by simp only [List.mem_singleton] at hp; subst hp; exact h3) rfl ⟨⟨hi, hx⟩, trivial⟩ (fun tm' hp' k a1 a2 _ _ g => ?_) h
  obtain ⟨rfl, rfl, _⟩ := e
  have h1' : opd ⟨tm', hp', M⟩ a = some (.ptr i j) := (opd_eq fun u hu => a1 u (looks_ops (by simp [Op.operands]) hu)).trans h1
  have hv' : opd ⟨tm', hp', M⟩ v = some x := (opd_eq fun u hu => a1 u (looks_ops (by simp [Op.operands]) hu)).trans hv
  have hb := a2 (i, .box cs) (by simp)
  refine AWP.op_set hT (fun t ht => dstOk_lt hd t ht) (id := i) (cs := cs') ?_ g
  unfold ev
  simp only [h1', hv', evStore, h2, hvs, hl, ha, cond_true, hb, putK_eq, h4]

/-- A name for what was made. -/
theorem AWP.newName (e : Env cx P fn lo) {N : Nat} {d : Option Nat} {x x1 : SV} {eff eff1 : List (Nat × Option Blk)} {tm' : List (Nat × SV)} {hp' : List (Nat × Blk)} (hN : N < M) (hlo : lo ≤ N) (hx : x1 = renS [(N, M)] x) (hxl : SV.idsLt M x = true) (hlow : Low M tm' hp') (hfree : FreeS N tm' hp')
    (heff : ∀ i, i < M → aget (renI [(N, M)] i) eff1 = (aget i eff).map (·.map (renB [(N, M)]))) (hok : effOk M eff) (g : AWP cx k ⟨tput d x tm', effH eff hp', M⟩) : AWP cx k ⟨tput d x1 tm', effH eff1 hp', Nat.succ M⟩ := by
  have hr : ∀ i, renI [(N, M)] i = if i = N then M else i := fun i => by
    unfold renI
    simp only [aget]
    by_cases h : i = N
    · subst h; simp [Nat.beq_refl]
    · simp [beq_ne h, h]
  refine AWP.lessG e [(N, M)] (fun t z hz => ?_) (fun i B hB => ?_) (fun i a hi => ?_) (fun i j hi hj hij => ?_) (by omega) g
  · rw [aget_tput] at hz ⊢
    by_cases hd : d = some t
    · rw [if_pos hd] at hz ⊢
      cases hz
      exact ⟨⟨_, rfl, .inl hx⟩, hxl⟩
    · rw [if_neg hd] at hz ⊢
      exact ⟨⟨z, hz, .inl (renS_free (hfree.1 t z hz)).symm⟩, hlow.1 t z hz⟩
  · rw [aget_effH] at hB ⊢
    cases hu : aget i eff with
    | some b =>
      rw [hu] at hB
      have hb : b = some B := hB
      subst hb
      obtain ⟨q1, q2⟩ := effOk_get hok i B hu
      rw [heff i q1, hu]
      exact ⟨rfl, q1, q2⟩
    | none =>
      rw [hu] at hB
      have hB : aget i hp' = some B := hB
      obtain ⟨q1, q2⟩ := hlow.2 i B hB
      obtain ⟨q3, q4⟩ := hfree.2 i B hB
      rw [heff i q1, hu, hr, if_neg q3, renB_free q4]
      exact ⟨hB, q1, q2⟩
  · simp only [aget] at hi
    by_cases h : i = N
    · omega
    · rw [beq_ne h] at hi; cases hi
  · rw [hr, hr] at hij
    split at hij <;> split at hij <;> omega

theorem newEff {N i : Nat} {B B1 : Blk} (hN : N < M) (hi : i < M) (hB : B1 = renB [(N, M)] B) : aget (renI [(N, M)] i) [(M, some B1)] = (aget i [(N, some B)]).map (·.map (renB [(N, M)])) := by
  unfold renI
  simp only [aget]
  by_cases h : i = N
  · subst h; simp [Nat.beq_refl, hB]
  · simp only [beq_ne h, cond_false]
    rw [beq_ne (by omega)]
    rfl

/-- A variable that is made. -/
theorem DrG.box (N : Nat) (e : Env cx P fn lo) (hT : TabOk P T) {op : Op} {cs : List SV} (hd : Nat.blt d fn.ntmps = true) (hev : ∀ hp', ev T ⟨tmS R tm, hp', M⟩ op = .box cs) (hN : Nat.blt N M = true) (hlo : Nat.ble lo N = true) (hcs : SV.idsLt.go M cs = true) (hf : SV.freeOf.go N cs = true)
    (h : DrG cx all id k tm hp nx M (Nat.succ q) rest (⟨q, some d, .ptr N 0, [], [(N, some (.box cs))], [N]⟩ :: R)) : DrG cx all id k tm hp nx M q (⟨some d, op, ty, pos, after, none⟩ :: rest) R := by
  have hN' := Nat.le_of_ble_eq_true hN
  refine DrG.step (d := some d) (x := .ptr N 0) (eff := [(N, some (.box cs))]) (nw := [N]) (rds := []) (fun t ht => ht) (fun p hp => by cases hp) hN ⟨⟨hN, hcs⟩, trivial⟩ (fun tm' hp' k a1 _ a3 a4 g => ?_) h
  obtain ⟨rfl, rfl, e3⟩ := e
  refine AWP.op_box hT (Nat.le_of_ble_eq_true hd) (cs := cs) ?_ ?_
  · rw [← hev hp']
    exact ev_congr fun y hy t ht => a1 t (looks_ops hy ht)
  · refine AWP.newName ⟨rfl, rfl, e3⟩ (N := N) (d := some d) (x := .ptr N 0) (x1 := .ptr M 0) (eff := [(N, some (.box cs))]) (eff1 := [(M, some (.box cs))]) hN' (Nat.le_of_ble_eq_true hlo) ?_ hN a3 (a4 N (by simp)) (fun i hi => newEff hN' hi ?_) ⟨⟨hN, hcs⟩, trivial⟩ g
    · simp [renS, renI, aget, Nat.beq_refl]
    · simp only [renB]; rw [renS_go_free hf]

/-- A row that is made of parts. -/
theorem DrG.row (N : Nat) (e : Env cx P fn lo) (hT : TabOk P T) {op : Op} {te : TypeId} {m n : Nat} {xs : List (List SV)} (hd : Nat.blt d fn.ntmps = true) (hev : ∀ hp', ev T ⟨tmS R tm, hp', M⟩ op = .row te m xs n) (hN : Nat.blt N M = true) (hlo : Nat.ble lo N = true) (hxs : ∀ e ∈ xs, SV.idsLt.go 0 e = true)
    (h : DrG cx all id k tm hp nx M (Nat.succ q) rest (⟨q, some d, .own N m 0 n n, [], [(N, some (.row te false m xs n))], [N]⟩ :: R)) : DrG cx all id k tm hp nx M q (⟨some d, op, ty, pos, after, none⟩ :: rest) R := by
  have hN' := Nat.le_of_ble_eq_true hN
  refine DrG.step (d := some d) (x := .own N m 0 n n) (eff := [(N, some (.row te false m xs n))]) (nw := [N]) (rds := []) (fun t ht => ht) (fun p hp => by cases hp) hN ⟨⟨hN, hxs⟩, trivial⟩ (fun tm' hp' k a1 _ a3 a4 g => ?_) h
  obtain ⟨rfl, rfl, e3⟩ := e
  refine AWP.op_row hT (Nat.le_of_ble_eq_true hd) (n := m) (m := n) (t := te) (xs := xs) ?_ ?_
  · rw [← hev hp']
    exact ev_congr fun y hy t ht => a1 t (looks_ops hy ht)
  · refine AWP.newName ⟨rfl, rfl, e3⟩ (N := N) (d := some d) (x := .own N m 0 n n) (x1 := .own M m 0 n n) (eff := [(N, some (.row te false m xs n))]) (eff1 := [(M, some (.row te false m xs n))]) hN' (Nat.le_of_ble_eq_true hlo) ?_ hN a3 (a4 N (by simp)) (fun i hi => newEff hN' hi rfl) ⟨⟨hN, hxs⟩, trivial⟩ g
    simp [renS, renI, aget, Nat.beq_refl]

/-- A call that writes to none of the caller's blocks. -/
theorem DrG.call (e : Env cx P fn lo) {f : FuncId} {cs xs : List SV} {r : SV} (hE : Eff P f cs [] 0 (fun r' _ _ => r' = r)) {c : Call} 
    (hc : acall ⟨tmS R tm, [], 0⟩ c = some (f, xs)) (hcv : ∀ hp', CvL hp' [] xs cs) (hno : SV.noIds.go cs = true) (hd : Nat.blt d fn.ntmps = true) (hr : SV.noIds r = true) (h : DrG cx all id k tm hp nx M (Nat.succ q) rest (⟨q, some d, r, [], [], []⟩ :: R)) : DrG cx all id k tm hp nx M q (⟨some d, .call c, ty, pos, after, none⟩ :: rest) R :=
  DrG.v rfl (fun hp' => VStep.call e hE (by
    have : ∀ (l : List Operand), opds ⟨tmS R tm, hp', M⟩ l = opds ⟨tmS R tm, [], 0⟩ l := fun l => by
      induction l with
      | nil => rfl
      | cons o l ih => simp only [opds, ih]; rfl
    have h2 : acall ⟨tmS R tm, hp', M⟩ c = acall ⟨tmS R tm, [], 0⟩ c := by
      obtain ⟨cal, args, ats⟩ := c
      cases cal with
      | value fo => simp only [acall, this]; rfl
      | _ => rfl
    exact h2.trans hc) [] (hcv hp') hno hd hr (.inl rfl)) (idsLt_mono (Nat.zero_le _) (noIds_lt hr)) h

theorem okD (n : Nat) : ∀ l : List DV, SV.idsLt.go n (l.map SV.d) = true
  | [] => rfl
  | _ :: l => by show (true && SV.idsLt.go n (l.map SV.d)) = true; rw [okD n l]; rfl

theorem okEls (n : Nat) (ys : List (List DV)) : ∀ e ∈ ys.map (·.map SV.d), SV.idsLt.go n e = true := by
  intro e he
  obtain ⟨y, _, rfl⟩ := List.mem_map.1 he
  exact okD n y

theorem okRow {n m C : Nat} {te : TypeId} {fz : Bool} (ys : List (List DV)) : Blk.okR n (.row te fz m (ys.map (·.map SV.d)) C) := okEls 0 ys

end
end Go.Sy
