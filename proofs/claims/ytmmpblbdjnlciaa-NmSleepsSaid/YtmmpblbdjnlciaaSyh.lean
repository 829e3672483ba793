/-
  SYMBOLIC STATES, over any program, part 17: the steps of a region that draws its order.
-/
import Derived.Test.YtmmpblbdjnlciaaSyg
namespace Go.Sy
open Go.RowKit

section
variable {cx : Cx} {P : Program} {fn : Func} {lo : Nat} {T : Tab} {k : List It} {tm tm' : List (Nat × SV)} {hp : List (Nat × Blk)} {nx : Nat} {all : Array Oper}

theorem opd_eq {x : Operand} (h : ∀ t, x = .tmp t → aget t tm = aget t tm') : opd ⟨tm, hp, nx⟩ x = opd ⟨tm', hp, nx⟩ x := by
  cases x with
  | tmp t => simp only [opd, h t rfl]
  | _ => rfl
theorem opdR_eq {x : Operand} (h : ∀ t, x = .tmp t → aget t tm = aget t tm') : opdR ⟨tm, hp, nx⟩ x = opdR ⟨tm', hp, nx⟩ x := by
  unfold opdR
  split
  · exact h _ rfl
  · rfl
  · exact opd_eq h

theorem fillK_congr {place : Nat → Option (Nat × Nat)} : ∀ (l : List (Nat × Operand)) (cs : List SV) (k : List SV → EvR), (∀ x ∈ l.map (·.2), ∀ t, x = .tmp t → aget t tm = aget t tm') → fillK ⟨tm, hp, nx⟩ place l cs k = fillK ⟨tm', hp, nx⟩ place l cs k
  | [], _, _, _ => rfl
  | (i, o) :: l, cs, k, h => by
    rw [fillK_eq, fillK_eq]
    have : ∀ (l : List (Nat × Operand)) (cs : List SV), (∀ x ∈ l.map (·.2), ∀ t, x = .tmp t → aget t tm = aget t tm') → fillD ⟨tm, hp, nx⟩ place l cs = fillD ⟨tm', hp, nx⟩ place l cs := by
      intro l
      induction l with
      | nil => intro _ _; rfl
      | cons p l ih =>
        intro cs h
        obtain ⟨i, o⟩ := p
        have ho : opd ⟨tm, hp, nx⟩ o = opd ⟨tm', hp, nx⟩ o := opd_eq (h o (by simp))
        have ih' := fun cs => ih cs fun x hx => h x (by simp at hx ⊢; exact .inr hx)
        simp only [fillD, ho, ih']
    rw [this _ _ h]

theorem opsK_congr {l : List Operand} {k : Option (List SV) → EvR} (h : ∀ x ∈ l, ∀ t, x = .tmp t → aget t tm = aget t tm') : opsK ⟨tm, hp, nx⟩ l k = opsK ⟨tm', hp, nx⟩ l k := by
  rw [opsK_eq, opsK_eq]
  congr 1
  induction l with
  | nil => rfl
  | cons o l ih =>
    have ho : opd ⟨tm, hp, nx⟩ o = opd ⟨tm', hp, nx⟩ o := opd_eq (h o (by simp))
    simp only [List.mapM_cons, ho, ih fun x hx => h x (by simp [hx])]

theorem rowK_congr {size : Nat} {l : List (Nat × Operand)} {k : Option (List (List SV)) → EvR} (h : ∀ x ∈ l.map (·.2), ∀ t, x = .tmp t → aget t tm = aget t tm') : rowK ⟨tm, hp, nx⟩ size 0 l k = rowK ⟨tm', hp, nx⟩ size 0 l k := by
  rw [rowK_eq, rowK_eq]
  congr 1
  generalize (0 : Nat) = i
  induction l generalizing i with
  | nil => rfl
  | cons p l ih =>
    obtain ⟨j, o⟩ := p
    have ho : opd ⟨tm, hp, nx⟩ o = opd ⟨tm', hp, nx⟩ o := opd_eq (h o (by simp))
    simp only [rowD, ho, ih fun x hx => h x (by simp at hx ⊢; exact .inr hx)]

theorem optI_congr {o : Option Operand} (h : ∀ x ∈ o.toArray, ∀ t, x = .tmp t → aget t tm = aget t tm') : optI ⟨tm, hp, nx⟩ o = optI ⟨tm', hp, nx⟩ o := by
  cases o with
  | none => rfl
  | some x => simp only [optI, opd_eq (h x (by simp))]

theorem ev_congr {op : Op} (h : ∀ x ∈ op.operands, ∀ t, x = .tmp t → aget t tm = aget t tm') : ev T ⟨tm, hp, nx⟩ op = ev T ⟨tm', hp, nx⟩ op := by
  cases op <;> simp only [ev]
  case move x => rw [opdR_eq (h x (by simp [Op.operands]))]
  case assign x => rw [opdR_eq (h x (by simp [Op.operands]))]
  case pick c x y =>
    cases c with
    | tmp t =>
      simp only [ev, h (.tmp t) (by simp [Op.operands]) t rfl, opdR_eq (h x (by simp [Op.operands])), opdR_eq (h y (by simp [Op.operands]))]
    | _ => rfl
  case box t x => rw [opd_eq (h x (by simp [Op.operands]))]
  case build t ps =>
    unfold evBuild
    have hp' : ∀ x ∈ ps.toList.map (·.2), ∀ t, x = .tmp t → aget t tm = aget t tm' := fun x hx => h x (by simpa [Op.operands] using hx)
    simp only [fillK_congr _ _ _ hp']
  case buildSlice t n ps =>
    have hp' : ∀ x ∈ ps.toList.map (·.2), ∀ t, x = .tmp t → aget t tm = aget t tm' := fun x hx => h x (by simpa [Op.operands] using hx)
    simp only [rowK_congr hp']
  case load t x =>
    rw [opd_eq (h x (by simp [Op.operands]))]
    rfl
  case store t x y =>
    rw [opd_eq (h x (by simp [Op.operands])), opd_eq (h y (by simp [Op.operands]))]
    rfl
  case nilCheck x => rw [opd_eq (h x (by simp [Op.operands]))]
  case binOp op t x y t' => rw [opd_eq (h x (by simp [Op.operands])), opd_eq (h y (by simp [Op.operands]))]
  case unOp op t x => rw [opd_eq (h x (by simp [Op.operands]))]
  case convert t t' x => rw [opd_eq (h x (by simp [Op.operands]))]
  case makeFunc f x y =>
    have h1 : ∀ z ∈ x.toList, ∀ t, z = .tmp t → aget t tm = aget t tm' := fun z hz => h z (by simp [Op.operands]; exact .inl (by simpa using hz))
    have h2 : ∀ z ∈ y.toList, ∀ t, z = .tmp t → aget t tm = aget t tm' := fun z hz => h z (by simp [Op.operands]; exact .inr (by simpa using hz))
    rw [opsK_congr h1]
    congr 1
    funext r
    cases r with
    | none => rfl
    | some l => exact opsK_congr h2
  case slice t x lo hi mx =>
    rw [opd_eq (h x (by simp [Op.operands]))]
    have h1 := optI_congr (tm := tm) (tm' := tm') (hp := hp) (nx := nx) (o := lo) fun x hx => h x (by simp [Op.operands]; exact .inr (.inl (by simpa using hx)))
    have h2 := optI_congr (tm := tm) (tm' := tm') (hp := hp) (nx := nx) (o := hi) fun x hx => h x (by simp [Op.operands]; exact .inr (.inr (.inl (by simpa using hx))))
    simp only [evSlice, h1, h2]
  case fieldAddr t x f => rw [opd_eq (h x (by simp [Op.operands]))]
  case field t x f => rw [opd_eq (h x (by simp [Op.operands]))]
  case index t x ix => rw [opd_eq (h x (by simp [Op.operands])), opd_eq (h ix (by simp [Op.operands]))]
  case extract x i => rw [opd_eq (h x (by simp [Op.operands]))]
  case call c =>
    unfold evCall
    obtain ⟨cal, args, ats⟩ := c
    obtain ⟨args⟩ := args
    have ha : ∀ x ∈ args, opd ⟨tm, hp, nx⟩ x = opd ⟨tm', hp, nx⟩ x := fun x hx => opd_eq (h x (by simp [Op.operands, Call.operands, hx]))
    cases cal with
    | builtin b =>
      simp only
      cases args with
      | nil => cases b <;> rfl
      | cons x l =>
        have hx := ha x (by simp)
        cases l with
        | nil => cases b <;> first | rfl | simp only [hx]
        | cons y l =>
          have hy := ha y (by simp)
          cases l with
          | nil => cases b <;> first | rfl | simp only [hx, hy]
          | cons _ _ => cases b <;> rfl
    | _ => rfl

theorem looks_ops {o : Oper} {x : Operand} (hx : x ∈ o.op.operands) {t : Nat} (ht : x = .tmp t) : t ∈ o.looksAt all := by
  subst ht
  exact List.mem_append_left _ (List.mem_filterMap.2 ⟨.tmp t, by simpa using hx, rfl⟩)

/-- An operation that works itself out. -/
theorem VStep.ev (e : Env cx P fn lo) (hT : TabOk P T) {d : Nat} {op : Op} {ty : TypeId} {pos : String} {after : Array Edge} (hd : Nat.blt d fn.ntmps = true) {x : SV} {p : Prop} (he : ev T ⟨tm, hp, nx⟩ op = .val x p) (hp' : p) :
    VStep cx all hp nx ⟨some d, op, ty, pos, after, none⟩ tm d x := by
  obtain ⟨rfl, rfl, _⟩ := e
  intro tm' k ha h
  refine AWP.op_val hT (Nat.le_of_ble_eq_true hd) ?_ hp' h
  rw [← he]
  exact ev_congr fun y hy t ht => ha t (looks_ops hy ht)

theorem guardS_congr {j : Nat} {o : Oper} {w : Bool} (hg : o.guard = some (j, w)) (ha : ∀ t ∈ o.looksAt all, aget t tm' = aget t tm) : guardS all tm' j = guardS all tm j := by
  unfold guardS
  rw [nth_eq, Array.getElem?_toList]
  cases e : all[j]? with
  | none => rfl
  | some o' =>
    obtain ⟨dst, a1, a2, a3, a4, a5⟩ := o'
    cases dst with
    | none => rfl
    | some d =>
      have : aget d tm' = aget d tm := ha d (by
        unfold Oper.looksAt
        rw [hg]
        exact List.mem_append_right _ (by simp [e]))
      simp only [this]

/-- A guarded operation whose guard is told: it runs. -/
theorem VStep.go {d dj j : Nat} {op : Op} {ty : TypeId} {pos : String} {after : Array Edge} {w : Bool} {x : SV} (hg : guardS all tm j = .told dj w) (h : VStep cx all hp nx ⟨some d, op, ty, pos, after, none⟩ tm d x) :
    VStep cx all hp nx ⟨some d, op, ty, pos, after, some (j, w)⟩ tm d x := by
  intro tm' k ha g
  refine AWP.guard_yes (fun a wd hi => ?_) (h tm' k (fun t ht => ha t ?_) g)
  · exact guard_told hi ((guardS_congr rfl ha).trans hg)
  · unfold Oper.looksAt at ht ⊢
    rw [List.append_nil] at ht
    exact List.mem_append_left _ ht

/-- .. or it does not run. -/
theorem VStep.not (e : Env cx P fn lo) {d dj j : Nat} {op : Op} {ty : TypeId} {pos : String} {after : Array Edge} {b w : Bool} (hd : Nat.blt d fn.ntmps = true) (hg : guardS all tm j = .told dj b) (hb : b = !w) : VStep cx all hp nx ⟨some d, op, ty, pos, after, some (j, w)⟩ tm d undefS := by
  obtain ⟨rfl, rfl, _⟩ := e
  intro tm' k ha g
  refine AWP.guard_not (fun a wd hi => ?_) (fun t ht => by cases ht; exact Nat.le_of_ble_eq_true hd) g
  rw [guard_told hi ((guardS_congr rfl ha).trans hg), hb]
  cases w <;> simp
/-- .. where the guard is known by a fact. -/
theorem VStep.goA {d dj j : Nat} {op : Op} {ty : TypeId} {pos : String} {after : Array Edge} {b w : Bool} {x : SV} (hg : guardS all tm j = .ask dj b) (hb : b = w) (h : VStep cx all hp nx ⟨some d, op, ty, pos, after, none⟩ tm d x) :
    VStep cx all hp nx ⟨some d, op, ty, pos, after, some (j, w)⟩ tm d x := by
  intro tm' k ha g
  refine AWP.guard_yes (fun a wd hi => ?_) (h tm' k (fun t ht => ha t ?_) g)
  · rw [guard_ask hi ((guardS_congr rfl ha).trans hg), hb]
  · unfold Oper.looksAt at ht ⊢
    rw [List.append_nil] at ht
    exact List.mem_append_left _ ht
theorem VStep.notA (e : Env cx P fn lo) {d dj j : Nat} {op : Op} {ty : TypeId} {pos : String} {after : Array Edge} {b w : Bool} (hd : Nat.blt d fn.ntmps = true) (hg : guardS all tm j = .ask dj b) (hb : b = !w) : VStep cx all hp nx ⟨some d, op, ty, pos, after, some (j, w)⟩ tm d undefS := by
  obtain ⟨rfl, rfl, _⟩ := e
  intro tm' k ha g
  refine AWP.guard_not (fun a wd hi => ?_) (fun t ht => by cases ht; exact Nat.le_of_ble_eq_true hd) g
  rw [guard_ask hi ((guardS_congr rfl ha).trans hg), hb]
  cases w <;> simp
theorem VStep.pickA (e : Env cx P fn lo) {d t : Nat} {x y : Operand} {ty : TypeId} {pos : String} {after : Array Edge} {b v : Bool} {z : SV} (hd : Nat.blt d fn.ntmps = true) (hg : aget t tm = some (.b b)) (hb : b = v) (hz : (match v with | true => opdR ⟨tm, hp, nx⟩ x | false => opdR ⟨tm, hp, nx⟩ y) = some z) : VStep cx all hp nx ⟨some d, .pick (.tmp t) x y, ty, pos, after, none⟩ tm d z := by
  subst hb
  intro tm' k ha g
  refine AWP.op_run e (Nat.le_of_ble_eq_true hd) (fun μ ok a w hI => ?_) g
  have ht : aget t tm' = some (.b b) := (ha t (looks_ops (x := .tmp t) (by simp [Op.operands]) rfl)).trans hg
  have e1 : a.eval (.tmp t) = .bool b := (hI.tmps t _ ht).vv
  cases b
  · have h2 := (opdR_eq (hp := hp) (nx := nx) fun u hu => ha u (looks_ops (x := y) (by simp [Op.operands]) hu)).trans hz
    exact ⟨a.eval y, by simp [execOp, e1, asBool], opdR_den hI.tmps h2⟩
  · have h2 := (opdR_eq (hp := hp) (nx := nx) fun u hu => ha u (looks_ops (x := x) (by simp [Op.operands]) hu)).trans hz
    exact ⟨a.eval x, by simp [execOp, e1, asBool], opdR_den hI.tmps h2⟩
theorem VStep.un (e : Env cx P fn lo) {d dj j : Nat} {op : Op} {ty : TypeId} {pos : String} {after : Array Edge} {w : Bool} (hd : Nat.blt d fn.ntmps = true) (hg : guardS all tm j = .no dj) : VStep cx all hp nx ⟨some d, op, ty, pos, after, some (j, w)⟩ tm d undefS := by
  obtain ⟨rfl, rfl, _⟩ := e
  intro tm' k ha g
  exact AWP.guard_un ((guardS_congr rfl ha).trans hg) (fun t ht => by cases ht; exact Nat.le_of_ble_eq_true hd) g

theorem VStep.idx (e : Env cx P fn lo) (hT : TabOk P T) {d : Nat} {ty : TypeId} {pos : String} {after : Array Edge} {t : TypeId} {x ix : Operand} {te : TypeId} {kk : IntKind} {i : Int} {m : Nat} {xs : List (List DV)} (hd : Nat.blt d fn.ntmps = true) (h1 : opd ⟨tm, hp, nx⟩ x = some (.d (.sl m xs))) (h2 : opd ⟨tm, hp, nx⟩ ix = some (.d (.v (.int kk i))))
    (h3 : tySl T t = some (te, m)) (n : Nat) (hi : i = n) {el : List DV} (he : xs[n]? = some el) : VStep cx all hp nx ⟨some d, .indexAddr t x ix, ty, pos, after, none⟩ tm d (.ip el) := by
  intro tm' k ha g
  exact AWP.idx e hT hd ((opd_eq fun u hu => ha u (looks_ops (by simp [Op.operands]) hu)).trans h1) ((opd_eq fun u hu => ha u (looks_ops (by simp [Op.operands]) hu)).trans h2) h3 n hi he g

theorem VStep.idx_own (e : Env cx P fn lo) (hT : TabOk P T) {d : Nat} {ty : TypeId} {pos : String} {after : Array Edge} {t : TypeId} {x ix : Operand} {te : TypeId} {kk : IntKind} {i : Int} {id m l q C : Nat} (hd : Nat.blt d fn.ntmps = true) (h1 : opd ⟨tm, hp, nx⟩ x = some (.own id m l q C)) (h2 : opd ⟨tm, hp, nx⟩ ix = some (.d (.v (.int kk i))))
    (h3 : tySl T t = some (te, m)) (n : Nat) (hi : i = n) (hn : n < q) : VStep cx all hp nx ⟨some d, .indexAddr t x ix, ty, pos, after, none⟩ tm d (.pel id m (l + n) 0) := by
  intro tm' k ha g
  exact AWP.idx_own e hT hd ((opd_eq fun u hu => ha u (looks_ops (by simp [Op.operands]) hu)).trans h1) ((opd_eq fun u hu => ha u (looks_ops (by simp [Op.operands]) hu)).trans h2) h3 n hi hn g

theorem VStep.load_el (e : Env cx P fn lo) (hT : TabOk P T) {d : Nat} {ty : TypeId} {pos : String} {after : Array Edge} {t : TypeId} {x : Operand} {y : Ty} {id m i j C : Nat} {te : TypeId} {fz : Bool} {xs : List (List SV)} {v : SV} (hd : Nat.blt d fn.ntmps = true) (h1 : opd ⟨tm, hp, nx⟩ x = some (.pel id m i j))
    (h2 : aget t T = some y) (h3 : aget id hp = some (.row te fz m xs C)) {el : List SV} (he : xs[i]? = some el) (h4 : part1 y.td.agg y.size j el = .val v True) : VStep cx all hp nx ⟨some d, .load t x, ty, pos, after, none⟩ tm d v := by
  intro tm' k ha g
  exact AWP.load_el e hT hd ((opd_eq fun u hu => ha u (looks_ops (by simp [Op.operands]) hu)).trans h1) h2 h3 he h4 g

theorem opds_eq : ∀ {l : List Operand}, (∀ x ∈ l, ∀ t, x = .tmp t → aget t tm = aget t tm') → opds ⟨tm, hp, nx⟩ l = opds ⟨tm', hp, nx⟩ l
  | [], _ => rfl
  | o :: l, h => by
    have h1 := opd_eq (hp := hp) (nx := nx) (h o (by simp))
    have h2 := opds_eq (l := l) fun x hx => h x (by simp [hx])
    simp only [opds, h1, h2]

theorem acall_eq {c : Call} (h : ∀ x ∈ c.operands, ∀ t, x = .tmp t → aget t tm = aget t tm') : acall ⟨tm, hp, nx⟩ c = acall ⟨tm', hp, nx⟩ c := by
  obtain ⟨cal, args, ats⟩ := c
  cases cal with
  | value fo =>
    simp only [acall, opd_eq (h fo (by simp [Call.operands])), opds_eq (l := args.toList) (fun x hx => h x (by simp [Call.operands]; exact .inr (by simpa using hx)))]
  | _ => rfl

theorem VStep.call (e : Env cx P fn lo) {f : FuncId} {cs : List SV} {r : SV} (hE : Eff P f cs [] 0 (fun r' _ _ => r' = r)) {d : Nat} {c : Call} {ty : TypeId} {pos : String} {after : Array Edge} {xs : List SV}
    (hc : acall ⟨tm, hp, nx⟩ c = some (f, xs)) (lend : List Nat) (hcv : CvL hp lend xs cs) (hno : SV.noIds.go cs = true) (hd : Nat.blt d fn.ntmps = true) (hr : SV.noIds r = true) (hl : lend = [] ∨ SV.noMem r = true) : VStep cx all hp nx ⟨some d, .call c, ty, pos, after, none⟩ tm d r := by
  intro tm' k ha g
  refine AWP.call e hE ?_ lend hcv hno hd fun r' h n hr' => ?_
  · rw [← hc]; exact acall_eq fun x hx u hu => ha u (looks_ops (by simpa [Op.operands] using hx) hu)
  · subst hr'
    exact ⟨hr, hl, g⟩

/-! A walk over such a region -/
def Dr (cx : Cx) (all : Array Oper) (id : Nat) (k : List It) (hp : List (Nat × Blk)) (nx : Nat) (tm : List (Nat × SV)) (i : Nat) (rest : List Oper) (done : List (Nat × SV)) : Prop :=
  (Good cx all hp nx tm i done ∧ all.toList.drop i = rest) → AWP cx (.code (.region id all true) :: k) ⟨tm, hp, nx⟩

theorem AWP.dr {id : Nat} (h : Dr cx all id k hp nx tm 0 all.toList []) : AWP cx (.code (.region id all true) :: k) ⟨tm, hp, nx⟩ := h ⟨.nil, rfl⟩

theorem Dr.step {id i d : Nat} {rest : List Oper} {done : List (Nat × SV)} {o : Oper} {x : SV} (hd : o.dst = some d) (hv : VStep cx all hp nx o (done ++ tm) d x) (h : Dr cx all id k hp nx tm (i + 1) rest ((d, x) :: done)) : Dr cx all id k hp nx tm i (o :: rest) done := by
  rintro ⟨h1, h2⟩
  have ho : all[i]? = some o := by
    have := congrArg List.head? h2
    rw [List.head?_drop, Array.getElem?_toList] at this
    exact this
  exact h ⟨.step h1 ho hd hv, by rw [← List.tail_drop, h2]; rfl⟩

theorem Dr.fin (e : Env cx P fn lo) (hm : P.follows .mixedOrders = true) {id i : Nat} {done : List (Nat × SV)} (hs : all.size = i) (hchk : drawOk all = true) (g : AWP cx k ⟨done ++ tm, hp, nx⟩) : Dr cx all id k hp nx tm i [] done := by
  rintro ⟨h1, _⟩
  subst hs
  exact AWP.draw e hm hchk h1 g

end
end Go.Sy
