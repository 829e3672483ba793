/-
  SYMBOLIC STATES, over any program, part 29: regions that draw their order, in which rows are made whose room nobody knows beforehand (append).
-/
import Derived.Test.YtmmpblbdjnlciaaSys
namespace Go.Sy
open Go.RowKit

section
variable {cx : Cx} {P : Program} {fn : Func} {lo : Nat} {T : Tab} {k : List It} {tm : List (Nat × SV)} {hp : List (Nat × Blk)} {nx M : Nat} {all : Array Oper} {id : Nat}

def fl (l : List Nat) (R : List Rec) : List Rec := R.filter fun r => memN r.q l

structure RelS (tm : List (Nat × SV)) (hp : List (Nat × Blk)) (M : Nat) (R : List Rec) (l : List Nat) (s : St) : Prop where
  t : ∀ t, aget t s.tmps = look (uT t) (aget t tm) (fl l R)
  h : ∀ i, aget i s.heap = look (uH i) (aget i hp) (fl l R)
  n : s.next = M

theorem fl_split {l : List Nat} {A B : List Rec} {r : Rec} (hni : r.q ∉ l) : fl l (A ++ r :: B) = fl l A ++ fl l B := by
  have hmn : memN r.q l = false := by
    cases hb : memN r.q l
    · rfl
    · exact absurd (memN_iff.1 hb) hni
  simp only [fl, List.filter_append]
  rw [List.filter_cons_of_neg (by simp [hmn])]

theorem later_apart {l : List Nat} {A B : List Rec} {r : Rec} (hops : ∀ a ∈ A ++ r :: B, ∃ o, all[a.q]? = some o) (hchk : chkG all.toList nx M (A ++ r :: B) = true) (hc : Closed all l) (hni : r.q ∉ l) : ∀ a ∈ fl l A, ∃ oa, all[a.q]? = some oa ∧ clash all.toList a r = false := fun a ha => by
  obtain ⟨ha1, ha2⟩ := List.mem_filter.1 ha
  obtain ⟨oa, hoa⟩ := hops a (by simp [ha1])
  refine ⟨oa, hoa, ?_⟩
  rcases ((chkG_get hchk).2.1 a ha1).2.1 with h | h
  · exact absurd (clo_mem hc (fun q hq => by simp only [List.mem_singleton] at hq; rw [hq]; exact memN_iff.1 ha2) _ h) hni
  · exact h

theorem early_apart {l : List Nat} {A B : List Rec} {r : Rec} (hops : ∀ a ∈ A ++ r :: B, ∃ o, all[a.q]? = some o) (hchk : chkG all.toList nx M (A ++ r :: B) = true) (hc : Closed all l) (hr : ∀ o, all[r.q]? = some o → ∀ e ∈ o.after.toList, Region.binds .any e = true → e.on ∈ l) : ∀ b ∈ B, memN b.q l = false → ∃ ob, all[b.q]? = some ob ∧ clash all.toList r b = false := fun b hb hbl => by
  obtain ⟨ob, hob⟩ := hops b (by simp [hb])
  refine ⟨ob, hob, ?_⟩
  obtain ⟨⟨h, _⟩, hne⟩ := (chkG_get hchk).1 b hb
  rcases h with h | h
  · rcases clo_ready hc hr _ h with h | h
    · exact absurd h hne
    · rw [memN_iff.2 h] at hbl; cases hbl
  · exact h

theorem stepPre {l : List Nat} {A B : List Rec} {r : Rec} {s : St} {o : Oper} {rds : List (Nat × Blk)} (hT' : ∀ t x, aget t tm = some x → SV.idsLt nx x = true) (hH' : ∀ i B, aget i hp = some B → i < nx ∧ B.okR nx) (hM : nx ≤ M)
    (hops : ∀ a ∈ A ++ r :: B, ∃ o, all[a.q]? = some o) (hxs : ∀ a ∈ A ++ r :: B, SV.idsLt M a.x = true ∧ effOk M a.eff) (hchk : chkG all.toList nx M (A ++ r :: B) = true) (hc : Closed all l) (hni : r.q ∉ l) (ho : all[r.q]? = some o) (hri : ∀ e ∈ o.after.toList, Region.binds .any e = true → e.on ∈ l)
    (hrel : RelS tm hp M (A ++ r :: B) l s) (hrd : rds.map Prod.fst = r.rd) (hrds : ∀ p ∈ rds, aget p.1 (hpS B hp) = some p.2) :
    (∀ t ∈ o.looksAt all, aget t s.tmps = aget t (tmS B tm)) ∧ (∀ p ∈ rds, aget p.1 s.heap = some p.2) ∧ Low M s.tmps s.heap ∧ ∀ N ∈ r.nw, FreeS N s.tmps s.heap := by
  have hr : ∀ o', all[r.q]? = some o' → ∀ e ∈ o'.after.toList, Region.binds .any e = true → e.on ∈ l := fun o' ho' => by rw [ho] at ho'; cases ho'; exact hri
  have hA := later_apart hops hchk hc hni
  have hB := early_apart hops hchk hc hr
  obtain ⟨k1, k2, k3, k4⟩ := chkG_get hchk
  have hfl := fl_split (l := l) (A := A) (B := B) hni
  refine ⟨fun t ht => ?_, fun p hp' => ?_, ⟨fun t x hx => ?_, fun i B' hB' => ?_⟩, fun N hN => ?_⟩
  · rw [hrel.t t, hfl, tmS_look, look_skip, fl, look_filter]
    · intro b hb hbl
      obtain ⟨ob, hob, hcl⟩ := hB b hb hbl
      simp only [uT]
      rw [if_neg fun hd => ((clash_get hcl ho hob).1 t hd).1 ht]
    · intro a ha
      obtain ⟨oa, hoa, hcl⟩ := hA a ha
      simp only [uT]
      rw [if_neg fun hd => (clash_get hcl hoa ho).2.1 t hd ht]
  · have hpr : p.1 ∈ r.rd := by rw [← hrd]; exact List.mem_map.2 ⟨p, hp', rfl⟩
    rw [← hrds p hp', hrel.h p.1, hfl, hpS_look, look_skip, fl, look_filter]
    · intro b hb hbl
      obtain ⟨ob, hob, hcl⟩ := hB b hb hbl
      simp only [uH]
      cases hu : aget p.1 b.eff with
      | none => rfl
      | some z => exact absurd hpr ((clash_get hcl ho hob).2.2.1 p.1 (aget_mem hu)).1
    · intro a ha
      obtain ⟨oa, hoa, hcl⟩ := hA a ha
      simp only [uH]
      cases hu : aget p.1 a.eff with
      | none => rfl
      | some z => exact absurd hpr ((clash_get hcl hoa ho).2.2.2.1 p.1 (aget_mem hu))
  · rw [hrel.t t] at hx
    rcases look_from (u := uT t) (base := aget t tm) (R := fl l (A ++ r :: B)) with ⟨a, ha, hua⟩ | hb
    · rw [hx] at hua
      have hxa := (hxs a (List.mem_filter.1 ha).1).1
      simp only [uT] at hua
      split at hua
      · cases hua; exact hxa
      · cases hua
    · rw [hb] at hx
      exact idsLt_mono hM (hT' t x hx)
  · rw [hrel.h i] at hB'
    rcases look_from (u := uH i) (base := aget i hp) (R := fl l (A ++ r :: B)) with ⟨a, ha, hua⟩ | hb
    · rw [hB'] at hua
      exact effOk_get (hxs a (List.mem_filter.1 ha).1).2 i B' hua
    · rw [hb] at hB'
      obtain ⟨q1, q2⟩ := hH' i B' hB'
      exact ⟨Nat.lt_of_lt_of_le q1 hM, okR_mono hM q2⟩
  · have hrec : ∀ a ∈ fl l (A ++ r :: B), SV.freeOf N a.x = true ∧ effFree N a.eff = true := by
      intro a ha
      rw [hfl] at ha
      rcases List.mem_append.1 ha with ha | ha
      · obtain ⟨oa, hoa, hcl⟩ := hA a ha
        exact recFree_get (clash_get hcl hoa ho).2.2.2.2 N hN
      · exact recFree_get (k1 a (List.mem_filter.1 ha).1).1.2 N hN
    refine ⟨fun t x hx => ?_, fun i B' hB' => ?_⟩
    · rw [hrel.t t] at hx
      rcases look_from (u := uT t) (base := aget t tm) (R := fl l (A ++ r :: B)) with ⟨a, ha, hua⟩ | hb
      · rw [hx] at hua
        simp only [uT] at hua
        split at hua
        · cases hua; exact (hrec a ha).1
        · cases hua
      · rw [hb] at hx
        exact freeOf_lt (k4 N hN) (hT' t x hx)
    · rw [hrel.h i] at hB'
      rcases look_from (u := uH i) (base := aget i hp) (R := fl l (A ++ r :: B)) with ⟨a, ha, hua⟩ | hb
      · rw [hB'] at hua
        exact effFree_get (hrec a ha).2 i B' hua
      · rw [hb] at hB'
        obtain ⟨q1, q2⟩ := hH' i B' hB'
        have := k4 N hN
        exact ⟨by omega, freeB_lt this q2⟩

theorem stepPost {l : List Nat} {A B : List Rec} {r : Rec} {s : St} {o : Oper} (hops : ∀ a ∈ A ++ r :: B, ∃ o, all[a.q]? = some o) (hchk : chkG all.toList nx M (A ++ r :: B) = true) (hc : Closed all l) (hni : r.q ∉ l) (ho : all[r.q]? = some o) (hrel : RelS tm hp M (A ++ r :: B) l s) :
    RelS tm hp M (A ++ r :: B) (r.q :: l) ⟨tput r.d r.x s.tmps, effH r.eff s.heap, M⟩ := by
  have hA := later_apart hops hchk hc hni
  obtain ⟨k1, k2, k3, k4⟩ := chkG_get hchk
  have hfl := fl_split (l := l) (A := A) (B := B) hni
  have hfl' : fl (r.q :: l) (A ++ r :: B) = fl l A ++ r :: fl l B := by
    have hne : ∀ a : Rec, a.q ≠ r.q → memN a.q (r.q :: l) = memN a.q l := fun a ha => memN_cons ha
    simp only [fl, List.filter_append]
    rw [List.filter_cons_of_pos (by simp [memN])]
    congr 1
    · exact List.filter_congr fun a ha => hne a (k2 a ha).1
    · congr 1
      exact List.filter_congr fun b hb => hne b (k1 b hb).2
  refine ⟨fun t => ?_, fun i => ?_, rfl⟩
  · rw [hfl']
    show aget t (tput r.d r.x s.tmps) = _
    rw [aget_tput]
    by_cases hdt : r.d = some t
    · rw [if_pos hdt, look_skip]
      · simp only [look, uT, if_pos hdt]
      · intro a ha
        obtain ⟨oa, hoa, hcl⟩ := hA a ha
        simp only [uT]
        rw [if_neg fun hd => (((clash_get hcl hoa ho).1 t hdt).2) hd]
    · rw [if_neg hdt, look_mid (by simp only [uT, if_neg hdt]), hrel.t t, hfl]
  · rw [hfl']
    show aget i (effH r.eff s.heap) = _
    rw [aget_effH]
    cases hu : aget i r.eff with
    | some z =>
      rw [look_skip]
      · simp only [look, uH, hu]
      · intro a ha
        obtain ⟨oa, hoa, hcl⟩ := hA a ha
        simp only [uH]
        cases hua : aget i a.eff with
        | none => rfl
        | some y => exact absurd (aget_mem hua) ((clash_get hcl hoa ho).2.2.1 i (aget_mem hu)).2
    | none => rw [look_mid (by simp only [uH, hu])]; exact (hrel.h i).trans (by rw [hfl])

/-! ### Rooms that nobody knows -/
abbrev Caps := Nat → Nat
def setC (q C : Nat) (c : Caps) : Caps := fun i => bif Nat.beq i q then C else c i

def GStepA (cx : Cx) (all : Array Oper) (M : Nat) (o : Oper) (tm : List (Nat × SV)) (rds : List (Nat × Blk)) (d : Option Nat) (x : Nat → SV) (eff : Nat → List (Nat × Option Blk)) (nw : List Nat) : Prop :=
  ∀ tm' hp' k, (∀ t ∈ o.looksAt all, aget t tm' = aget t tm) → (∀ p ∈ rds, aget p.1 hp' = some p.2) → Low M tm' hp' → (∀ N ∈ nw, FreeS N tm' hp') →
    (∀ C, AWP cx (.ops all [] :: k) ⟨tput d (x C) tm', effH (eff C) hp', M⟩) → AWP cx (.ops all [o] :: k) ⟨tm', hp', M⟩

inductive GoodC (cx : Cx) (all : Array Oper) (M : Nat) (tm : List (Nat × SV)) (hp : List (Nat × Blk)) : (Caps → List Rec) → Prop where
  | nil : GoodC cx all M tm hp fun _ => []
  | step {R : Caps → List Rec} {q : Nat} {o : Oper} {d : Option Nat} {x : Caps → SV} {rds : Caps → List (Nat × Blk)} {eff : Caps → List (Nat × Option Blk)} {nw : List Nat} {rd : List Nat} (h : GoodC cx all M tm hp R) (ho : all[q]? = some o) (hd : ∀ t, d = some t → o.dst = some t)
      (hr : ∀ c, ∀ p ∈ rds c, aget p.1 (hpS (R c) hp) = some p.2) (hrd : ∀ c, (rds c).map Prod.fst = rd) (hx : ∀ c, SV.idsLt M (x c) = true) (he : ∀ c, effOk M (eff c)) (hs : ∀ c, GStep cx all M o (tmS (R c) tm) (rds c) d (x c) (eff c) nw) : GoodC cx all M tm hp fun c => ⟨q, d, x c, rd, eff c, nw⟩ :: R c
  | app {R : Caps → List Rec} {q : Nat} {o : Oper} {d : Option Nat} {x : Caps → Nat → SV} {rds : Caps → List (Nat × Blk)} {eff : Caps → Nat → List (Nat × Option Blk)} {nw : List Nat} {rd : List Nat} (h : GoodC cx all M tm hp R) (ho : all[q]? = some o) (hd : ∀ t, d = some t → o.dst = some t)
      (hr : ∀ c, ∀ p ∈ rds c, aget p.1 (hpS (R c) hp) = some p.2) (hrd : ∀ c, (rds c).map Prod.fst = rd) (hx : ∀ c C, SV.idsLt M (x c C) = true) (he : ∀ c C, effOk M (eff c C)) (hs : ∀ c, GStepA cx all M o (tmS (R c) tm) (rds c) d (x c) (eff c) nw)
      (hi : ∀ c C, x (setC q C c) = x c ∧ eff (setC q C c) = eff c) : GoodC cx all M tm hp fun c => ⟨q, d, x c (c q), rd, eff c (c q), nw⟩ :: R c

inductive All2 (p : Rec → Rec → Prop) : List Rec → List Rec → Prop where
  | nil : All2 p [] []
  | cons {x y : Rec} {l m : List Rec} (h : p x y) (t : All2 p l m) : All2 p (x :: l) (y :: m)

/-- Those that do not wait for an operation do not hang on the room that it makes. -/
def IndepC (all : Array Oper) (R : Caps → List Rec) (a : Nat) : Prop := ∀ c C, All2 (fun r r' => r'.q = r.q ∧ (memN a (clo all.toList (lenK all.toList) [r.q]) = true ∨ r' = r)) (R c) (R (setC a C c))

theorem GoodC.get {M : Nat} {R : Caps → List Rec} (h : GoodC cx all M tm hp R) : ∀ c A r B, R c = A ++ r :: B → ∃ o rds, all[r.q]? = some o ∧ (∀ t, r.d = some t → o.dst = some t) ∧ rds.map Prod.fst = r.rd ∧ (∀ p ∈ rds, aget p.1 (hpS B hp) = some p.2) ∧ SV.idsLt M r.x = true ∧ effOk M r.eff ∧
    (GStep cx all M o (tmS B tm) rds r.d r.x r.eff r.nw ∨ ∃ (x : Nat → SV) (eff : Nat → List (Nat × Option Blk)), GStepA cx all M o (tmS B tm) rds r.d x eff r.nw ∧ ∀ C, ∃ A' B', R (setC r.q C c) = A' ++ ⟨r.q, r.d, x C, r.rd, eff C, r.nw⟩ :: B' ∧ A'.length = A.length) := by
  induction h with
  | nil => intro c A r B h; simp at h
  | step h ho hd hr hrd hx he hs ih =>
    intro c A r B hR
    cases A with
    | nil =>
      rw [List.nil_append] at hR
      injection hR with h1 h2
      subst h1 h2
      exact ⟨_, _, ho, hd, hrd c, hr c, hx c, he c, .inl (hs c)⟩
    | cons a A =>
      rw [List.cons_append] at hR
      injection hR with h1 h2
      obtain ⟨o, rds, g1, g2, g3, g4, g5, g6, g7⟩ := ih c A r B h2
      refine ⟨o, rds, g1, g2, g3, g4, g5, g6, g7.imp (fun h => h) fun ⟨x, eff, q1, q2⟩ => ⟨x, eff, q1, fun C => ?_⟩⟩
      obtain ⟨A', B', e1, e2⟩ := q2 C
      exact ⟨_ :: A', B', congrArg (List.cons _) e1, by simp [e2]⟩
  | app h ho hd hr hrd hx he hs hi ih =>
    rename_i R q o d x rds eff nw rd
    intro c A r B hR
    cases A with
    | nil =>
      rw [List.nil_append] at hR
      injection hR with h1 h2
      subst h1 h2
      refine ⟨_, _, ho, hd, hrd c, hr c, hx c _, he c _, .inr ⟨x c, eff c, hs c, fun C => ⟨[], R (setC q C c), ?_, rfl⟩⟩⟩
      obtain ⟨e1, e2⟩ := hi c C
      simp only [List.nil_append, e1, e2]
      have : setC q C c q = C := by simp [setC, Nat.beq_refl]
      rw [this]
    | cons a A =>
      rw [List.cons_append] at hR
      injection hR with h1 h2
      obtain ⟨o, rds, g1, g2, g3, g4, g5, g6, g7⟩ := ih c A r B h2
      refine ⟨o, rds, g1, g2, g3, g4, g5, g6, g7.imp (fun h => h) fun ⟨x, eff, q1, q2⟩ => ⟨x, eff, q1, fun C => ?_⟩⟩
      obtain ⟨A', B', e1, e2⟩ := q2 C
      exact ⟨_ :: A', B', congrArg (List.cons _) e1, by simp [e2]⟩

theorem indep_fl {R : Caps → List Rec} {a C : Nat} {c : Caps} {l : List Nat} (hi : IndepC all R a) (hc : Closed all l) (hni : a ∉ l) : fl l (R (setC a C c)) = fl l (R c) := by
  have h := hi c C
  generalize R c = X at h
  generalize R (setC a C c) = Y at h
  induction h with
  | nil => rfl
  | cons h _ ih =>
    rename_i r r' X Y _
    obtain ⟨hq, hr⟩ := h
    simp only [fl] at ih ⊢
    cases hm : memN r.q l
    · rw [List.filter_cons_of_neg (by simp [hq, hm]), List.filter_cons_of_neg (by simp [hm]), ih]
    · rw [List.filter_cons_of_pos (by simp [hq, hm]), List.filter_cons_of_pos (by simp [hm]), ih]
      rcases hr with hr | hr
      · exact absurd (clo_mem hc (fun q hq => by simp only [List.mem_singleton] at hq; rw [hq]; exact memN_iff.1 hm) _ (memN_iff.1 hr)) hni
      · rw [hr]

theorem AWP.drawC (e : Env cx P fn lo) (hm : P.follows .mixedOrders = true) {id M : Nat} {R : Caps → List Rec} (hg : GoodC cx all M tm hp R) (hchk : ∀ c, chkG all.toList nx M (R c) = true) (hlen : ∀ c, (R c).length = all.size) (hM : nx ≤ M) (hT : okT nx tm = true) (hH : okHR nx hp)
    (hind : ∀ a, a < all.size → IndepC all R a) (g : ∀ c, AWP cx k ⟨tmS (R c) tm, hpS (R c) hp, M⟩) : AWP cx (.code (.region id all true) :: k) ⟨tm, hp, nx⟩ := by
  refine AWP.grow hM ?_
  have hT' : ∀ t x, aget t tm = some x → SV.idsLt nx x = true := by
    clear g hg hlen hind hchk
    intro t x
    induction tm with
    | nil => intro h; simp [aget] at h
    | cons p tm ih =>
      obtain ⟨u, y⟩ := p
      simp only [okT, Bool.and_eq_true] at hT
      intro h
      rw [aget_cons] at h
      by_cases hu : t = u
      · rw [if_pos hu] at h; cases h; exact hT.1
      · rw [if_neg hu] at h; exact ih hT.2 h
  have hH' : ∀ i B, aget i hp = some B → i < nx ∧ B.okR nx := by
    clear g hg hlen hind hchk
    intro t x
    induction hp with
    | nil => intro h; simp [aget] at h
    | cons p hp ih =>
      obtain ⟨u, y⟩ := p
      intro h
      rw [aget_cons] at h
      by_cases hu : t = u
      · rw [if_pos hu] at h; cases h; subst hu; exact ⟨Nat.le_of_ble_eq_true hH.1, hH.2.1⟩
      · rw [if_neg hu] at h; exact ih hH.2.2 h
  have hops : ∀ c, ∀ r ∈ R c, ∃ o, all[r.q]? = some o := fun c r hr => by
    obtain ⟨A, B, hAB⟩ := List.append_of_mem hr
    obtain ⟨o, _, ho, _⟩ := hg.get c A r B hAB
    exact ⟨o, ho⟩
  have hxs : ∀ c, ∀ r ∈ R c, SV.idsLt M r.x = true ∧ effOk M r.eff := fun c r hr => by
    obtain ⟨A, B, hAB⟩ := List.append_of_mem hr
    obtain ⟨o, _, _, _, _, _, h1, h2, _⟩ := hg.get c A r B hAB
    exact ⟨h1, h2⟩
  have hlt : ∀ c, ∀ r ∈ R c, r.q < all.size := fun c r hr => by
    obtain ⟨o, ho⟩ := hops c r hr
    exact (Array.getElem?_eq_some_iff.1 ho).1
  have hfull : ∀ c, ∀ i, i < all.size → i ∈ (R c).map Rec.q := fun c => full_of (chkG_nodup (hchk c)) (fun i hi => by
    obtain ⟨r, hr, rfl⟩ := List.mem_map.1 hi
    exact hlt c r hr) (by simpa using hlen c)
  have claim : ∀ (n : Nat) (l : List Nat) (s : St) (c : Caps), l.Nodup → (∀ i ∈ l, i < all.size) → Closed all l → l.length + n = all.size → RelS tm hp M (R c) l s → AWPAny cx all l n k s := by
    intro n
    induction n with
    | zero =>
      intro l s c hl hlt' hc hn hrel
      have hin : ∀ i, i < all.size → i ∈ l := full_of hl hlt' (by omega)
      refine AWPAny.done ?_ ?_
      · refine List.eq_nil_iff_forall_not_mem.2 fun i hi => ?_
        obtain ⟨o, _, ho, hni, _⟩ := (rdy_iff _ _ _).1 hi
        rw [Nat.sub_zero, Array.getElem?_toList] at ho
        exact hni (hin i (Array.getElem?_eq_some_iff.1 ho).1)
      · have hf : fl l (R c) = R c := List.filter_eq_self.2 fun r hr => memN_iff.2 (hin _ (hlt c r hr))
        obtain ⟨tm0, hp0, nx0⟩ := s
        obtain ⟨h1, h2, h3⟩ := hrel
        simp only at h1 h2 h3
        subst h3
        refine AWP.ext (fun t => ?_) (fun i => ?_) (g c)
        · rw [tmS_look, h1 t, hf]
        · rw [hpS_look, h2 i, hf]
    | succ n ih =>
      intro l s c hl hlt' hc hn hrel
      have hsome : rdy l 0 all.toList ≠ [] := by
        intro hnil
        have hno : ∀ (B : List Rec), (∀ r ∈ B, r ∈ R c) → (∀ A r C, B = A ++ r :: C → ∀ o, all[r.q]? = some o → ∀ e ∈ o.after.toList, Region.binds .any e = true → e.on ∈ C.map Rec.q) → ∀ r ∈ B, r.q ∈ l := by
          intro B
          induction B with
          | nil => intro _ _ r hr; cases hr
          | cons b B ihB =>
            intro hs ha r hr
            have hB := ihB (fun r hr => hs r (by simp [hr])) fun A r C hC => ha (b :: A) r C (by rw [hC]; rfl)
            rcases List.mem_cons.1 hr with rfl | hr
            · by_cases hq : r.q ∈ l
              · exact hq
              · exfalso
                obtain ⟨o, ho⟩ := hops c r (hs r (by simp))
                have : r.q ∈ rdy l 0 all.toList := (rdy_iff _ _ _).2 ⟨o, Nat.zero_le _, by rw [Nat.sub_zero, Array.getElem?_toList]; exact ho, hq, fun e he hb => by
                  obtain ⟨c', hc1, hc2⟩ := List.mem_map.1 (ha [] r B rfl o ho e he hb)
                  rw [← hc2]
                  exact hB c' hc1⟩
                rw [hnil] at this
                cases this
            · exact hB r hr
        have hin := hno (R c) (fun _ h => h) fun A r C hC o ho e he hb => by
          have := hchk c
          rw [hC] at this
          exact (chkG_get this).2.2.1 o ho e he hb
        have : all.size ≤ l.length := by
          have := nodup_len ((R c).map Rec.q) l (chkG_nodup (hchk c)) fun i hi => by
            obtain ⟨r, hr, rfl⟩ := List.mem_map.1 hi
            exact hin r hr
          simpa [hlen c] using this
        omega
      refine AWPAny.step rfl hsome (StepAll.of fun i hi => ?_)
      obtain ⟨o, _, ho, hni, hri⟩ := (rdy_iff _ _ _).1 hi
      rw [Nat.sub_zero, Array.getElem?_toList] at ho
      have hilt := (Array.getElem?_eq_some_iff.1 ho).1
      refine ⟨o, ho, fun Φ next => ?_⟩
      obtain ⟨A, r, B, hR, rfl⟩ := split_at (hfull c i hilt)
      obtain ⟨o', rds, ho', hd, hrd, hrds, hx, heff, hstep⟩ := hg.get c A r B hR
      rw [ho] at ho'
      cases ho'
      have hchk' := hchk c
      have hops' := hops c
      have hxs' := hxs c
      rw [hR] at hchk' hops' hxs'
      have hrel' := hrel
      rw [hR] at hrel'
      obtain ⟨p1, p2, p3, p4⟩ := stepPre hT' hH' hM hops' hxs' hchk' hc hni ho hri hrel' hrd hrds
      have hs3 : s = ⟨s.tmps, s.heap, M⟩ := by rw [← hrel.n]
      have go : ∀ (c' : Caps) (s' : St), RelS tm hp M (R c') (r.q :: l) s' → AWP cx (.ops all [] :: .inv Φ :: k) s' := fun c' s' h => by
        have hnext := next s' (ih (r.q :: l) s' c' (List.nodup_cons.2 ⟨hni, hl⟩) (fun i hi => by
          rcases List.mem_cons.1 hi with rfl | hi
          · exact hilt
          · exact hlt' i hi) (fun i hi oi hoi e he hb => by
          rcases List.mem_cons.1 hi with rfl | hi
          · rw [ho] at hoi; cases hoi; exact List.mem_cons_of_mem _ (hri e he hb)
          · exact List.mem_cons_of_mem _ (hc i hi oi hoi e he hb)) (by simp; omega) h)
        exact fun a w hi => hnext a w hi
      rw [hs3]
      rcases hstep with hstep | ⟨x, eff, hstep, hx2⟩
      · refine hstep s.tmps s.heap (.inv Φ :: k) p1 p2 p3 p4 (go c _ ?_)
        have := stepPost hops' hchk' hc hni ho hrel'
        rw [← hR] at this
        exact this
      · refine hstep s.tmps s.heap (.inv Φ :: k) p1 p2 p3 p4 fun C => go (setC r.q C c) _ ?_
        obtain ⟨A', B', e1, _⟩ := hx2 C
        have hrel2 : RelS tm hp M (R (setC r.q C c)) l s := by
          have hf := indep_fl (C := C) (c := c) (hind r.q hilt) hc hni
          exact ⟨fun t => by rw [hf]; exact hrel.t t, fun i => by rw [hf]; exact hrel.h i, hrel.n⟩
        have hchk2 := hchk (setC r.q C c)
        have hops2 := hops (setC r.q C c)
        rw [e1] at hrel2 hchk2 hops2 ⊢
        exact stepPost (r := ⟨r.q, r.d, x C, r.rd, eff C, r.nw⟩) hops2 hchk2 hc hni ho hrel2
  refine AWP.any e hm all.size rfl (claim all.size [] ⟨tm, hp, M⟩ (fun _ => 0) List.nodup_nil (by simp) (fun i hi => by cases hi) (by simp) ⟨fun t => ?_, fun i => ?_, rfl⟩)
  · have : fl [] (R fun _ => 0) = [] := by simp [fl, memN]
    rw [this]; rfl
  · have : fl [] (R fun _ => 0) = [] := by simp [fl, memN]
    rw [this]; rfl

end
end Go.Sy
