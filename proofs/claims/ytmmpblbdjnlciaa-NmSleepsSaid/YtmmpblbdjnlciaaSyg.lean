/-
  SYMBOLIC STATES, over any program, part 16: rows that are written no more; regions that draw their order, where they only read.
-/
import Derived.Test.YtmmpblbdjnlciaaSyf
import Derived.Orders
namespace Go.Sy
open Go.RowKit

section
variable {cx : Cx} {P : Program} {fn : Func} {lo : Nat} {T : Tab} {k : List It} {s : St} {tm : List (Nat × SV)} {hp : List (Nat × Blk)} {nx : Nat}

/-! ### A row that is owned becomes one that is only read -/
def frz (id : Nat) (ys : List (List DV)) : SV → SV
  | .own i k lo n C => bif Nat.beq i id then .d (.sl k ((ys.drop lo).take n)) else .own i k lo n C
  | x => x

def frzT (id : Nat) (ys : List (List DV)) : List (Nat × SV) → Option (List (Nat × SV))
  | [] => some []
  | (t, x) :: l => match frzT id ys l with
    | some r => forceK (frz id ys x) fun x => some ((t, x) :: r)
    | none => none

theorem frzT_get (id : Nat) (ys : List (List DV)) : ∀ (l r : List (Nat × SV)), frzT id ys l = some r → ∀ t x, aget t r = some x → ∃ y, aget t l = some y ∧ x = frz id ys y := by
  intro l
  induction l with
  | nil => intro r h t x hx; simp [frzT] at h; subst h; simp [aget] at hx
  | cons p l ih =>
    obtain ⟨u, y⟩ := p
    intro r h t x hx
    simp only [frzT, forceK_eq] at h
    cases e : frzT id ys l with
    | none => rw [e] at h; cases h
    | some r1 =>
      rw [e] at h
      cases h
      rw [aget_cons] at hx ⊢
      by_cases ht : t = u
      · rw [if_pos ht] at hx ⊢
        cases hx
        exact ⟨y, rfl, rfl⟩
      · rw [if_neg ht] at hx ⊢
        exact ih r1 e t x hx

/-- In every slot the row (of elements that hang on nothing that is owned) is from here on only read. -/
theorem AWP.freeze {id m C : Nat} {te : TypeId} {fz : Bool} {ys : List (List DV)} (hrow : aget id hp = some (.row te fz m (ys.map (·.map SV.d)) C)) {tm' : List (Nat × SV)} {hp' : List (Nat × Blk)} (hT : frzT id ys tm = some tm') (hdel : adelO id hp = some hp')
    (hlen : ∀ t k lo n C', aget t tm = some (.own id k lo n C') → k = m ∧ lo + n ≤ ys.length) (g : AWP cx k ⟨tm', hp', nx⟩) : AWP cx k ⟨tm, hp, nx⟩ := fun a w hi => by
  obtain ⟨μ, ok, hi⟩ := hi.one
  have hget := adelO_get id hp hp' hdel
  have hold : ∀ i C, aget i hp' = some C → i ≠ id ∧ aget i hp = some C := fun i C hi => by
    rw [hget i] at hi
    by_cases e : i = id
    · rw [if_pos e] at hi; cases hi
    · rw [if_neg e] at hi; exact ⟨e, hi⟩
  let ok' : Nat → Prop := fun b => ok b ∨ μ id = some b
  have hsub : ∀ b, ok b → ok' b := fun b h => .inl h
  have hid := hi.heap.own id _ hrow
  refine g a w (Inv1.inv (μ := μ) (ok := ok') ⟨hi.defers, hi.size, ⟨hi.heap.mu, hi.heap.fresh, fun b h => .inl (hi.heap.sub b h), fun b hb => ?_, fun b hb => ?_, fun i B hB => ?_, fun i j C D b hC hD => hi.heap.inj i j C D b (hold i C hC).2 (hold j D hD).2, hi.heap.frame, hi.heap.size, hi.heap.os, hi.heap.tape, hi.heap.output⟩, fun t x hx => ?_⟩)
  · rcases hb with hb | hb
    · exact hi.heap.lt b hb
    · obtain ⟨_, hn⟩ | ⟨b', h1, h2, _⟩ := hid
      · rw [hn] at hb; cases hb
      · rw [hb] at h1; cases h1; exact h2
  · rcases hb with hb | hb
    · exact hi.heap.okNew b hb
    · obtain ⟨_, hn⟩ | ⟨b', h1, _, _, h4, _⟩ := hid
      · rw [hn] at hb; cases hb
      · rw [hb] at h1; cases h1; exact .inr h4
  · obtain ⟨e1, e2⟩ := hold i B hB
    obtain hg | ⟨b, h1, h2, h3, h4, h5⟩ := hi.heap.own i B e2
    · exact .inl hg
    · refine .inr ⟨b, h1, h2, fun hb => ?_, h4, h5.mono (fun _ _ h => h) hsub (fun _ _ => rfl) rfl⟩
      rcases hb with hb | hb
      · exact h3 hb
      · exact e1 (hi.heap.inj i id B _ b e2 hrow h1 hb)
  · obtain ⟨y, h1, rfl⟩ := frzT_get id ys tm tm' hT t x hx
    have hd := hi.tmps t y h1
    have keep : ∀ {z : SV} {v : Value}, Den μ ok w z v → Den μ ok' w z v := fun h => h.mono (fun _ _ h => h) hsub (fun _ _ => rfl)
    cases y with
    | own i k lo n C' =>
      simp only [frz]
      by_cases e : i = id
      · subst e
        simp only [Nat.beq_refl, cond_true]
        obtain ⟨rfl, hle⟩ := hlen t k lo n C' h1
        exact Cv.den (lend := [i]) (ok' := ok') hi.hh hsub (fun j hj B hB b hb => by simp at hj; subst hj; exact .inr hb) (.own hrow (by simp) hle) hd
      · rw [beq_ne e]
        exact keep hd
    | _ => exact keep hd

/-! ### Regions that draw their order -/
theorem Inv.same {tm1 tm2 : List (Nat × SV)} (h : ∀ t, aget t tm1 = aget t tm2) {a : Act} {w : World} (hi : Inv cx ⟨tm1, hp, nx⟩ a w) : Inv cx ⟨tm2, hp, nx⟩ a w := by
  obtain ⟨μ, ok, hi⟩ := hi.one
  exact (Inv1.inv (μ := μ) (ok := ok) ⟨hi.defers, hi.size, hi.heap, fun t x hx => hi.tmps t x (by rw [← hx]; exact h t)⟩)

/-- One operation's step, told by the slots that it looks at alone. -/
def VStep (cx : Cx) (all : Array Oper) (hp : List (Nat × Blk)) (nx : Nat) (o : Oper) (tm : List (Nat × SV)) (d : Nat) (x : SV) : Prop :=
  ∀ tm' k, (∀ t ∈ o.looksAt all, aget t tm' = aget t tm) → AWP cx (.ops all [] :: k) ⟨(d, x) :: tm', hp, nx⟩ → AWP cx (.ops all [o] :: k) ⟨tm', hp, nx⟩

inductive Good (cx : Cx) (all : Array Oper) (hp : List (Nat × Blk)) (nx : Nat) (tm : List (Nat × SV)) : Nat → List (Nat × SV) → Prop where
  | nil : Good cx all hp nx tm 0 []
  | step {i : Nat} {done : List (Nat × SV)} {o : Oper} {d : Nat} {x : SV} (h : Good cx all hp nx tm i done) (ho : all[i]? = some o) (hd : o.dst = some d) (hv : VStep cx all hp nx o (done ++ tm) d x) : Good cx all hp nx tm (i + 1) ((d, x) :: done)

theorem aget_append {α : Type} (t : Nat) (l m : List (Nat × α)) : aget t (l ++ m) = match aget t l with | some x => some x | none => aget t m := by
  induction l with
  | nil => rfl
  | cons p l ih =>
    obtain ⟨u, x⟩ := p
    rw [List.cons_append, aget_cons, aget_cons]
    by_cases h : t = u
    · rw [if_pos h, if_pos h]
    · rw [if_neg h, if_neg h, ih]

/-- What each operation of a region that is done has in its slot. -/
theorem Good.get {all : Array Oper} {n : Nat} {done : List (Nat × SV)} (h : Good cx all hp nx tm n done) : done.length = n ∧ ∀ i o, i < n → all[i]? = some o →
    ∃ d x tmi, o.dst = some d ∧ VStep cx all hp nx o tmi d x ∧ (∃ pre suf, done = pre ++ (d, x) :: suf ∧ suf.length = i ∧ tmi = suf ++ tm) := by
  induction h with
  | nil => exact ⟨rfl, fun i o hi => by omega⟩
  | step h ho hd hv ih =>
    rename_i i0 done o0 d0 x0
    refine ⟨by simp [ih.1], fun i o hi hoi => ?_⟩
    by_cases e : i = i0
    · subst e
      rw [ho] at hoi
      cases hoi
      exact ⟨d0, x0, done ++ tm, hd, hv, [], done, rfl, ih.1, rfl⟩
    · obtain ⟨d, x, tmi, h1, h2, pre, suf, h3, h4, h5⟩ := ih.2 i o (by omega) hoi
      exact ⟨d, x, tmi, h1, h2, (d0, x0) :: pre, suf, by rw [h3]; rfl, h4, h5⟩

def drawOk (all : Array Oper) : Bool :=
  all.toList.zipIdx.all fun (o, j) => o.dst.isSome && ((all.toList.zipIdx.all fun (o', i) => i == j || o'.dst != o.dst) &&
    (((o.looksAt all).all fun t => all.toList.zipIdx.all fun (o', i) => o'.dst != some t || (decide (i < j) && o.after.any fun e => e.on == i && Region.binds .any e)) && o.after.all fun e => !Region.binds .any e || decide (e.on < j)))

structure DrawOk (all : Array Oper) : Prop where
  dst : ∀ (j : Nat) (o : Oper), all[j]? = some o → o.dst.isSome = true
  one : ∀ (i j : Nat) (o o' : Oper), all[i]? = some o' → all[j]? = some o → o'.dst = o.dst → i = j
  dep : ∀ (j : Nat) (o : Oper) (t : Nat), all[j]? = some o → t ∈ o.looksAt all → ∀ (i : Nat) (o' : Oper), all[i]? = some o' → o'.dst = some t → i < j ∧ ∃ e ∈ o.after, e.on = i ∧ Region.binds .any e = true
  acyc : ∀ (j : Nat) (o : Oper), all[j]? = some o → ∀ e ∈ o.after, Region.binds .any e = true → e.on < j

theorem drawOk_ok {all : Array Oper} (h : drawOk all = true) : DrawOk all := by
  unfold drawOk at h
  rw [List.all_eq_true] at h
  have mem : ∀ j o, all[j]? = some o → (o, j) ∈ all.toList.zipIdx := fun j o ho => by
    rw [List.mk_mem_zipIdx_iff_getElem?, Array.getElem?_toList]
    exact ho
  have h' : ∀ j o, all[j]? = some o → _ := fun j o ho => h (o, j) (mem j o ho)
  simp only [Bool.and_eq_true] at h'
  refine ⟨fun j o ho => (h' j o ho).1, fun i j o o' hi hj e => ?_, fun j o t hj ht i o' hi e => ?_, fun j o hj e he hb => ?_⟩
  · have := (h' j o hj).2.1
    rw [List.all_eq_true] at this
    have := this (o', i) (mem i o' hi)
    simpa [e] using this
  · have := (h' j o hj).2.2.1
    rw [List.all_eq_true] at this
    have := this t ht
    rw [List.all_eq_true] at this
    have := this (o', i) (mem i o' hi)
    simp only [e, bne_self_eq_false, Bool.false_or, Bool.and_eq_true, decide_eq_true_eq, Array.any_eq_true] at this
    obtain ⟨h1, q, h2, h3⟩ := this
    exact ⟨h1, o.after[q], by simp, by simpa using h3.1, h3.2⟩
  · have := (h' j o hj).2.2.2
    rw [Array.all_eq_true_iff_forall_mem] at this
    have := this e he
    simpa [hb] using this

theorem upon_congrQ {o : Oper} {a : Act} {next : Act → World → Prop} {Q Q' : Exit → Act → World → Prop} (hp : ∀ c a w, Q (.panic c) a w → Q' (.panic c) a w) (ho : ∀ a w, Q .outgrown a w → Q' .outgrown a w) {r : Result Next} (h : o.upon P a next Q r) : o.upon P a next Q' r := by
  cases r with
  | ok n w =>
    cases n <;> first | exact h | skip
    refine Calls.mono h fun e w' he => ?_
    cases e with
    | returned v => exact he
    | panicked c => exact hp _ _ _ he
    | outgrown => obtain ⟨a, w, he⟩ := he; exact ⟨a, w, ho _ _ he⟩
  | halt x w => cases x <;> first | exact h | exact hp _ _ _ h

theorem pairs_there {D : Nat → Nat} {X : Nat → SV} {n : Nat} (hD : ∀ a b, a < n → b < n → D a = D b → a = b) : ∀ (l : List Nat), (∀ i ∈ l, i < n) → ∀ j ∈ l, aget (D j) (l.map fun i => (D i, X i)) = some (X j)
  | [], _, j, hj => by cases hj
  | i :: l, hl, j, hj => by
    rw [List.map_cons, aget_cons]
    by_cases e : D j = D i
    · rw [if_pos e]
      have : j = i := hD j i (hl j hj) (hl i (by simp)) e
      rw [this]
    · rw [if_neg e]
      rcases List.mem_cons.1 hj with rfl | hj
      · exact absurd rfl e
      · exact pairs_there hD l (fun i hi => hl i (by simp [hi])) j hj

theorem pairs_none {D : Nat → Nat} {X : Nat → SV} {t : Nat} : ∀ (l : List Nat), (∀ j ∈ l, D j ≠ t) → aget t (l.map fun i => (D i, X i)) = none
  | [], _ => rfl
  | i :: l, hl => by
    rw [List.map_cons, aget_cons, if_neg (fun e => hl i (by simp) e.symm)]
    exact pairs_none l fun j hj => hl j (by simp [hj])

theorem nodup_len : ∀ (l m : List Nat), l.Nodup → l ⊆ m → l.length ≤ m.length
  | [], _, _, _ => Nat.zero_le _
  | x :: l, m, hn, hs => by
    obtain ⟨h1, h2⟩ := List.nodup_cons.1 hn
    have hx : x ∈ m := hs (by simp)
    have := nodup_len l (m.erase x) h2 fun y hy => (List.mem_erase_of_ne (fun e => by subst e; exact h1 hy)).2 (hs (by simp [hy]))
    rw [List.length_erase_of_mem hx] at this
    have hpos : 0 < m.length := List.length_pos_of_mem hx
    simp
    omega

/-- A REGION THAT DRAWS ITS ORDER, and only reads: whatever the order, each slot has what the text's order gives it. -/
theorem AWP.draw (e : Env cx P fn lo) (hm : P.follows .mixedOrders = true) {id : Nat} {all : Array Oper} {done : List (Nat × SV)} (hchk : drawOk all = true) (hg : Good cx all hp nx tm all.size done) (g : AWP cx k ⟨done ++ tm, hp, nx⟩) :
    AWP cx (.code (.region id all true) :: k) ⟨tm, hp, nx⟩ := by
  obtain ⟨rfl, rfl, _⟩ := e
  have ck := drawOk_ok hchk
  obtain ⟨hlen, hget⟩ := hg.get
  generalize hn : all.size = n at *
  -- what each operation has in its slot
  let D : Nat → Nat := fun i => (done.getD (n - 1 - i) (0, undefS)).1
  let X : Nat → SV := fun i => (done.getD (n - 1 - i) (0, undefS)).2
  have hall : ∀ i, i < n → ∃ o, all[i]? = some o := fun i hi => ⟨all[i]'(by omega), by simp [hn, hi]⟩
  have hsuf : ∀ i, i ≤ n → done.drop (n - i) = (List.range i).reverse.map fun j => (D j, X j) := by
    intro i hi
    apply List.ext_getElem?
    intro q
    rw [List.getElem?_drop, List.getElem?_map]
    by_cases hq : q < i
    · rw [List.getElem?_reverse (by simpa using hq)]
      simp only [List.length_range]
      rw [List.getElem?_range (by omega)]
      have e1 : n - i + q = n - 1 - (i - 1 - q) := by omega
      have hlt : n - 1 - (i - 1 - q) < done.length := by omega
      simp only [Option.map_some, D, X, List.getD_eq_getElem?_getD]
      rw [e1, List.getElem?_eq_getElem hlt]
      rfl
    · rw [List.getElem?_eq_none (by omega), List.getElem?_eq_none (by simp; omega)]
      rfl
  have hop : ∀ i o, i < n → all[i]? = some o → o.dst = some (D i) ∧ VStep cx all hp nx o (((List.range i).reverse.map fun j => (D j, X j)) ++ tm) (D i) (X i) := by
    intro i o hi ho
    obtain ⟨d, x, tmi, h1, h2, pre, suf, h3, h4, h5⟩ := hget i o hi ho
    have hpre : pre.length = n - 1 - i := by
      have := congrArg List.length h3
      simp at this
      omega
    have hat : done[n - 1 - i]? = some (d, x) := by
      rw [h3, List.getElem?_append_right (by omega), hpre]
      simp
    have hDX : D i = d ∧ X i = x := by
      simp only [D, X, List.getD_eq_getElem?_getD, hat, Option.getD_some, and_self]
    have hs2 : suf = (List.range i).reverse.map fun j => (D j, X j) := by
      rw [← hsuf i (by omega), h3]
      have e1 : n - i = pre.length + 1 := by omega
      rw [e1, List.drop_append]
      simp
    rw [hDX.1, hDX.2, ← hs2, ← h5]
    exact ⟨h1, h2⟩
  have hD : ∀ a b, a < n → b < n → D a = D b → a = b := by
    intro a b ha hb hab
    obtain ⟨oa, hoa⟩ := hall a ha
    obtain ⟨ob, hob⟩ := hall b hb
    exact ck.one a b ob oa hoa hob (by rw [(hop a oa ha hoa).1, (hop b ob hb hob).1, hab])
  have hdone : done = (List.range n).reverse.map fun j => (D j, X j) := by
    have := hsuf n (Nat.le_refl _)
    rwa [Nat.sub_self, List.drop_zero] at this
  -- any order
  have key : ∀ (fuel : Nat) (listed : Array Bool) (l : List Nat) (a : Act) (w : World), listed.size = n → (∀ i, i < n → (listed.getD i true = true ↔ i ∈ l)) → l.Nodup → (∀ i ∈ l, i < n) → l.length + fuel = n →
      Inv cx ⟨(l.map fun j => (D j, X j)) ++ tm, hp, nx⟩ a w → wpAny cx.P .any all (K cx.P cx.R k) fuel listed a w := by
    intro fuel
    induction fuel with
    | zero =>
      intro listed l a w hs hl hnd hln hf hi
      have hmem : ∀ i, i < n → i ∈ l := by
        intro i hi
        refine Classical.byContradiction fun hni => ?_
        have := nodup_len (i :: l) (List.range n) (List.nodup_cons.2 ⟨hni, hnd⟩) fun j hj => by
          rcases List.mem_cons.1 hj with rfl | hj
          · simpa using hi
          · simpa using hln j hj
        simp at this
        omega
      refine ⟨?_, ?_⟩
      · unfold Region.ready
        rw [List.filter_eq_nil_iff]
        intro i hi
        have := (hl i (by simpa [hn] using hi)).2 (hmem i (by simpa [hn] using hi))
        simp [this]
      · refine g a w (Inv.same (fun t => ?_) hi)
        rw [aget_append, aget_append, hdone]
        by_cases ht : ∃ j, j < n ∧ D j = t
        · obtain ⟨j, hj, rfl⟩ := ht
          rw [pairs_there hD l hln j (hmem j hj), pairs_there hD (List.range n).reverse (fun i hi => by simpa using hi) j (by simpa using hj)]
        · rw [pairs_none l (fun j hj e => ht ⟨j, hln j hj, e⟩), pairs_none (List.range n).reverse (fun j hj e => ht ⟨j, by simpa using hj, e⟩)]
    | succ fuel ih =>
      intro listed l a w hs hl hnd hln hf hi
      have hready : ∀ i, i ∈ Region.ready .any all listed ↔ i < n ∧ i ∉ l ∧ ∀ o, all[i]? = some o → ∀ e ∈ o.after, Region.binds .any e = true → listed.getD e.on false = true := by
        intro i
        unfold Region.ready
        rw [List.mem_filter]
        simp only [List.mem_range, hn, Bool.and_eq_true]
        constructor
        · rintro ⟨h1, h2, h3⟩
          obtain ⟨o, ho⟩ := hall i h1
          refine ⟨h1, fun hm => ?_, fun o' ho' e he hb => ?_⟩
          · rw [(hl i h1).2 hm] at h2; cases h2
          · rw [ho'] at h3
            simp only [Option.map_some, Option.getD_some] at h3
            rw [Array.all_eq_true_iff_forall_mem] at h3
            have := h3 e he
            simpa [hb] using this
        · rintro ⟨h1, h2, h3⟩
          obtain ⟨o, ho⟩ := hall i h1
          refine ⟨h1, ?_, ?_⟩
          · cases hg : listed.getD i true with
            | false => rfl
            | true => exact absurd ((hl i h1).1 hg) h2
          · rw [ho]
            simp only [Option.map_some, Option.getD_some]
            rw [Array.all_eq_true_iff_forall_mem]
            intro e he
            cases hb : Region.binds .any e with
            | false => rfl
            | true => simpa [hb] using h3 o ho e he hb
      have hlisted : ∀ i, i < n → (listed.getD i false = true ↔ i ∈ l) := fun i hi => by
        have : listed.getD i false = listed.getD i true := by
          have : i < listed.size := by omega
          simp [this]
        rw [this]
        exact hl i hi
      refine ⟨fun h0 => ?_, fun i hi' => ?_⟩
      · -- something is ready
        exfalso
        have hex : ∃ i, i < n ∧ i ∉ l := by
          refine Classical.byContradiction fun hno => ?_
          have hsub : List.range n ⊆ l := fun j hj => Classical.byContradiction fun hjl => hno ⟨j, by simpa using hj, hjl⟩
          have := nodup_len _ _ List.nodup_range hsub
          simp at this
          omega
        obtain ⟨i, ⟨hi1, hi2⟩, hmin⟩ := exists_min (fun i => i < n ∧ i ∉ l) _ hex.choose_spec
        have : i ∈ Region.ready .any all listed := (hready i).2 ⟨hi1, hi2, fun o ho e he hb => by
          have hlt := ck.acyc i o ho e he hb
          refine (hlisted e.on (by omega)).2 (Classical.byContradiction fun hnl => ?_)
          have := hmin e.on ⟨by omega, hnl⟩
          omega⟩
        rw [h0] at this
        cases this
      · obtain ⟨h1, h2, h3⟩ := (hready i).1 hi'
        obtain ⟨o, ho⟩ := hall i h1
        obtain ⟨hdst, hv⟩ := hop i o h1 ho
        have hagree : ∀ t ∈ o.looksAt all, aget t ((l.map fun j => (D j, X j)) ++ tm) = aget t (((List.range i).reverse.map fun j => (D j, X j)) ++ tm) := by
          intro t ht
          rw [aget_append, aget_append]
          by_cases hex : ∃ j, j < n ∧ D j = t
          · obtain ⟨j, hj, rfl⟩ := hex
            obtain ⟨oj, hoj⟩ := hall j hj
            obtain ⟨hlt, e, he1, he2, he3⟩ := ck.dep i o _ ho ht j oj hoj (hop j oj hj hoj).1
            have hjl : j ∈ l := by
              have := h3 o ho e he1 he3
              rw [he2] at this
              exact (hlisted j hj).1 this
            rw [pairs_there hD l hln j hjl, pairs_there hD (List.range i).reverse (fun q hq => Nat.lt_trans (by simpa using hq) h1) j (by simpa using hlt)]
          · rw [pairs_none l (fun j hj e => hex ⟨j, hln j hj, e⟩), pairs_none (List.range i).reverse (fun j hj e => hex ⟨j, Nat.lt_trans (by simpa using hj) h1, e⟩)]
        let Φ : Act → World → Prop := wpAny cx.P .any all (K cx.P cx.R k) fuel (listed.setIfInBounds i true)
        have hstep := hv ((l.map fun j => (D j, X j)) ++ tm) (.inv Φ :: k) hagree (fun a' w' hi2 => by
          show Φ a' w'
          refine ih (listed.setIfInBounds i true) (i :: l) a' w' (by simpa using hs) (fun q hq => ?_) (List.nodup_cons.2 ⟨h2, hnd⟩) (fun q hq => ?_) (by simp; omega) hi2
          · by_cases e : q = i
            · subst e; simp [hs, hq]
            · have e' : ¬ i = q := fun h => e h.symm
              have := hl q hq
              simp only [Array.getD_eq_getD_getElem?] at this ⊢
              rw [Array.getElem?_setIfInBounds_ne e', this]
              simp [e]
          · rcases List.mem_cons.1 hq with rfl | hq
            · exact h1
            · exact hln q hq)
        have hw := hstep a w hi
        have hw : wpList cx.P all (K cx.P cx.R (.inv Φ :: k)) [o] a w := hw
        unfold wpOp
        simp only [ho]
        unfold wpList at hw
        by_cases hwant : Region.wanted o (yielded all a.tmps) = true
        · rw [if_pos hwant] at hw ⊢
          rcases hw with hw | ⟨ha, hlo⟩
          · exact .inl (upon_congrQ (Q := K cx.P cx.R (.inv Φ :: k)) (fun _ _ _ h => h) (fun _ _ h => h) hw)
          · obtain ⟨a0, w0, hlo⟩ := hlo
            exact .inr ⟨ha, a0, w0, hlo⟩
        · rw [if_neg hwant] at hw ⊢
          exact hw
  intro a w hi
  refine wp_region_any hm ?_
  rw [hn]
  refine key n (Array.replicate n false) [] a _ (by simp) (fun i hi => by simp [hi]) List.nodup_nil (by simp) (by simp) ?_
  obtain ⟨μ, ok, hi⟩ := hi.one
  exact hi.drew.inv

end
end Go.Sy
