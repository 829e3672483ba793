/-
  SYMBOLIC STATES, over any program, part 22: a region that draws its order, and writes: each order walked.
-/
import Derived.Test.YtmmpblbdjnlciaaSyl
namespace Go.Sy
open Go.RowKit

section
variable {cx : Cx} {P : Program} {fn : Func} {lo : Nat} {T : Tab} {k : List It} {tm : List (Nat × SV)} {hp : List (Nat × Blk)} {nx : Nat} {all : Array Oper}

def bindsA (e : Edge) : Bool := match e.ground with
  | .textOnly _ => false
  | .gcOnly _ => false
  | _ => true

theorem bindsA_eq (e : Edge) : Region.binds .any e = bindsA e := by
  unfold Region.binds bindsA
  cases e.ground <;> rfl

def allE (l : List Nat) : List Edge → Bool
  | [] => true
  | e :: es => (!bindsA e || memN e.on l) && allE l es

theorem allE_iff {l : List Nat} {es : List Edge} : allE l es = true ↔ ∀ e ∈ es, Region.binds .any e = true → e.on ∈ l := by
  induction es with
  | nil => simp [allE]
  | cons e es ih =>
    simp only [allE, Bool.and_eq_true, ih, List.mem_cons, forall_eq_or_imp, bindsA_eq, Bool.or_eq_true, memN_iff, Bool.not_eq_true']
    constructor
    · rintro ⟨h1, h2⟩
      exact ⟨fun hb => by rcases h1 with h1 | h1; · rw [hb] at h1; cases h1
                          · exact h1, h2⟩
    · rintro ⟨h1, h2⟩
      refine ⟨?_, h2⟩
      cases hb : bindsA e
      · exact .inl rfl
      · exact .inr (h1 hb)

def rdy (l : List Nat) : Nat → List Oper → List Nat
  | _, [] => []
  | i, o :: os => bif !memN i l && allE l o.after.toList then i :: rdy l (Nat.succ i) os else rdy l (Nat.succ i) os

theorem rdy_iff {l : List Nat} : ∀ (os : List Oper) (i j : Nat), j ∈ rdy l i os ↔ ∃ o, i ≤ j ∧ os[j - i]? = some o ∧ j ∉ l ∧ ∀ e ∈ o.after.toList, Region.binds .any e = true → e.on ∈ l
  | [], i, j => by simp [rdy]
  | o :: os, i, j => by
    have ih := rdy_iff (l := l) os (i + 1) j
    have hcons : (∃ o', i ≤ j ∧ (o :: os)[j - i]? = some o' ∧ j ∉ l ∧ ∀ e ∈ o'.after.toList, Region.binds .any e = true → e.on ∈ l) ↔
        (j = i ∧ j ∉ l ∧ ∀ e ∈ o.after.toList, Region.binds .any e = true → e.on ∈ l) ∨ ∃ o', i + 1 ≤ j ∧ os[j - (i + 1)]? = some o' ∧ j ∉ l ∧ ∀ e ∈ o'.after.toList, Region.binds .any e = true → e.on ∈ l := by
      constructor
      · rintro ⟨o', h1, h2, h3⟩
        by_cases e : j = i
        · subst e
          rw [Nat.sub_self] at h2
          cases h2
          exact .inl ⟨rfl, h3⟩
        · refine .inr ⟨o', by omega, ?_, h3⟩
          rw [show j - i = (j - (i + 1)) + 1 by omega, List.getElem?_cons_succ] at h2
          exact h2
      · rintro (⟨rfl, h3⟩ | ⟨o', h1, h2, h3⟩)
        · exact ⟨o, Nat.le_refl _, by simp, h3⟩
        · exact ⟨o', by omega, by rw [show j - i = (j - (i + 1)) + 1 by omega, List.getElem?_cons_succ]; exact h2, h3⟩
    rw [hcons, ← ih]
    rw [show rdy l i (o :: os) = bif !memN i l && allE l o.after.toList then i :: rdy l (i + 1) os else rdy l (i + 1) os from rfl]
    cases hb : (!memN i l && allE l o.after.toList)
    · rw [cond_false]
      constructor
      · exact .inr
      · rintro (⟨rfl, h1, h2⟩ | h)
        · exfalso
          have h3 : memN j l = false := by
            cases hm : memN j l
            · rfl
            · exact absurd (memN_iff.1 hm) h1
          have h4 := allE_iff.2 h2
          rw [h3, h4] at hb
          cases hb
        · exact h
    · rw [cond_true, List.mem_cons]
      simp only [Bool.and_eq_true, Bool.not_eq_true'] at hb
      constructor
      · rintro (rfl | h)
        · refine .inl ⟨rfl, fun hm => ?_, allE_iff.1 hb.2⟩
          rw [memN_iff.2 hm] at hb
          cases hb.1
        · exact .inr h
      · rintro (⟨rfl, _⟩ | h)
        · exact .inl rfl
        · exact .inr h

/-- What is left of such a region, when the operations of l are done. -/
def AWPAny (cx : Cx) (all : Array Oper) (l : List Nat) (fuel : Nat) (k : List It) (s : St) : Prop :=
  ∀ (listed : Array Bool) a w, listed.size = all.size → (∀ i, i < all.size → (listed.getD i true = true ↔ i ∈ l)) → (∀ i ∈ l, i < all.size) → Inv cx s a w → wpAny cx.P .any all (K cx.P cx.R k) fuel listed a w

theorem ready_rdy {l : List Nat} {listed : Array Bool} (hs : listed.size = all.size) (hl : ∀ i, i < all.size → (listed.getD i true = true ↔ i ∈ l)) (hlt : ∀ i ∈ l, i < all.size) (i : Nat) : i ∈ Region.ready .any all listed ↔ i ∈ rdy l 0 all.toList := by
  have hlisted : ∀ i, (listed.getD i false = true ↔ i ∈ l) := fun i => by
    by_cases hi : i < all.size
    · have : listed.getD i false = listed.getD i true := by
        have : i < listed.size := by omega
        simp [this]
      rw [this]
      exact hl i hi
    · constructor
      · intro h
        have : ¬ i < listed.size := by omega
        simp [this] at h
      · intro h; exact absurd (hlt i h) hi
  rw [rdy_iff]
  unfold Region.ready
  rw [List.mem_filter]
  simp only [List.mem_range, Bool.and_eq_true, Nat.zero_le, Nat.sub_zero, true_and, Array.getElem?_toList]
  constructor
  · rintro ⟨h1, h2, h3⟩
    obtain ⟨o, ho⟩ : ∃ o, all[i]? = some o := ⟨all[i], by simp [h1]⟩
    refine ⟨o, ho, fun hm => ?_, fun e he hb => ?_⟩
    · rw [(hl i h1).2 hm] at h2; cases h2
    · rw [ho] at h3
      simp only [Option.map_some, Option.getD_some] at h3
      rw [Array.all_eq_true_iff_forall_mem] at h3
      have := h3 e (Array.mem_toList_iff.1 he)
      exact (hlisted _).1 (by simpa [hb] using this)
  · rintro ⟨o, ho, h2, h3⟩
    have h1 : i < all.size := (Array.getElem?_eq_some_iff.1 ho).1
    refine ⟨h1, ?_, ?_⟩
    · cases hg : listed.getD i true with
      | false => rfl
      | true => exact absurd ((hl i h1).1 hg) h2
    · rw [ho]
      simp only [Option.map_some, Option.getD_some]
      rw [Array.all_eq_true_iff_forall_mem]
      intro e he
      cases hb : Region.binds .any e with
      | false => rfl
      | true => simpa [hb] using (hlisted _).2 (h3 e (Array.mem_toList_iff.2 he) hb)

def StepAll (cx : Cx) (all : Array Oper) (l : List Nat) (fuel : Nat) (k : List It) (s : St) : List Nat → Prop
  | [] => True
  | i :: rs => (∃ o, all[i]? = some o ∧ ∀ Φ : Act → World → Prop, (∀ s', AWPAny cx all (i :: l) fuel k s' → AWP cx (.inv Φ :: k) s') → AWP cx (.ops all [o] :: .inv Φ :: k) s) ∧ StepAll cx all l fuel k s rs

theorem StepAll.get {l : List Nat} {fuel : Nat} {s : St} : ∀ {rs : List Nat}, StepAll cx all l fuel k s rs → ∀ i ∈ rs, ∃ o, all[i]? = some o ∧ ∀ Φ : Act → World → Prop, (∀ s', AWPAny cx all (i :: l) fuel k s' → AWP cx (.inv Φ :: k) s') → AWP cx (.ops all [o] :: .inv Φ :: k) s
  | _ :: _, h, i, hi => by
    rcases List.mem_cons.1 hi with rfl | hi
    · exact h.1
    · exact StepAll.get h.2 i hi

theorem AWPAny.done {l : List Nat} {fuel : Nat} {s : St} (hr : rdy l 0 all.toList = []) (g : AWP cx k s) : AWPAny cx all l fuel k s := by
  intro listed a w hs hl hlt hi
  have hno : ∀ i, i ∉ Region.ready .any all listed := fun i h => by
    rw [ready_rdy hs hl hlt, hr] at h
    cases h
  cases fuel with
  | zero => exact ⟨List.eq_nil_iff_forall_not_mem.2 hno, g a w hi⟩
  | succ fuel => exact ⟨fun _ => g a w hi, fun i h => absurd h (hno i)⟩

theorem AWPAny.step {l : List Nat} {fuel : Nat} {s : St} {rs : List Nat} (hr : rdy l 0 all.toList = rs) (hne : rs ≠ []) (h : StepAll cx all l fuel k s rs) : AWPAny cx all l (fuel + 1) k s := by
  intro listed a w hs hl hlt hi
  refine ⟨fun h0 => ?_, fun i hi' => ?_⟩
  · exfalso
    obtain ⟨i, rs', rfl⟩ := List.exists_cons_of_ne_nil hne
    have := (ready_rdy hs hl hlt i).2 (by rw [hr]; exact List.mem_cons_self)
    rw [h0] at this
    cases this
  · have hi2 := (ready_rdy hs hl hlt i).1 hi'
    obtain ⟨o', _, ho', hnl, _⟩ := (rdy_iff _ _ _).1 hi2
    rw [Nat.sub_zero, Array.getElem?_toList] at ho'
    have h1 : i < all.size := (Array.getElem?_eq_some_iff.1 ho').1
    rw [hr] at hi2
    obtain ⟨o, ho, hstep⟩ := h.get i hi2
    let Φ : Act → World → Prop := wpAny cx.P .any all (K cx.P cx.R k) fuel (listed.setIfInBounds i true)
    have hstep := hstep Φ (fun s' hs' a' w' hi2 => by
      show Φ a' w'
      refine hs' (listed.setIfInBounds i true) a' w' (by simpa using hs) (fun q hq => ?_) (fun q hq => ?_) hi2
      · by_cases e : q = i
        · subst e; simp [hs, hq]
        · have e' : ¬ i = q := fun h => e h.symm
          have := hl q hq
          simp only [Array.getD_eq_getD_getElem?] at this ⊢
          rw [Array.getElem?_setIfInBounds_ne e', this]
          simp [e]
      · rcases List.mem_cons.1 hq with rfl | hq
        · exact h1
        · exact hlt q hq)
    have hw := hstep a w hi
    have hw : wpList cx.P all (K cx.P cx.R (.inv Φ :: k)) [o] a w := hw
    unfold wpOp
    simp only [ho]
    unfold wpList at hw
    by_cases hwant : Region.wanted o (yielded all a.tmps) = true
    · rw [if_pos hwant] at hw ⊢
      rcases hw with hw | ⟨ha, hlo⟩
      · exact .inl (upon_congrQ (Q := K cx.P cx.R (.inv Φ :: k)) (fun _ _ _ h => h) (fun _ _ h => h) hw)
      · obtain ⟨a0, w0, hlo⟩ := hlo
        exact .inr ⟨ha, a0, w0, hlo⟩
    · rw [if_neg hwant] at hw ⊢
      exact hw

/-- A REGION THAT DRAWS ITS ORDER: begin. -/
theorem AWP.any (e : Env cx P fn lo) (hm : P.follows .mixedOrders = true) {id : Nat} {s : St} (n : Nat) (hn : all.size = n) (h : AWPAny cx all [] n k s) : AWP cx (.code (.region id all true) :: k) s := by
  obtain ⟨rfl, rfl, _⟩ := e
  subst hn
  intro a w hi
  refine wp_region_any hm ?_
  refine h (Array.replicate all.size false) a _ (by simp) (fun i hi => by simp [hi]) (by simp) ?_
  obtain ⟨μ, ok, hi⟩ := hi.one
  exact hi.drew.inv

/-- The same: whatever the order, it ends in a state in which 'c' is known. -/
theorem AWP.anyC (e : Env cx P fn lo) (hm : P.follows .mixedOrders = true) (c : St) {id : Nat} {s : St} (n : Nat) (hn : all.size = n) (h : ∀ kk, AWP cx kk c → AWPAny cx all [] n kk s) (g : AWP cx k c) : AWP cx (.code (.region id all true) :: k) s :=
  AWP.any e hm n hn (h k g)

theorem AWPAny.go {l : List Nat} {fuel : Nat} {s : St} {i : Nat} {rs : List Nat} (hr : rdy l 0 all.toList = i :: rs) (h : StepAll cx all l fuel k s (i :: rs)) : AWPAny cx all l (fuel + 1) k s := AWPAny.step hr (by simp) h

def allN (l : List Nat) : Nat → Bool
  | 0 => true
  | n + 1 => memN n l && allN l n

theorem allN_get {l : List Nat} : ∀ {n : Nat}, allN l n = true → ∀ j, j < n → j ∈ l
  | n + 1, h, j, hj => by
    simp only [allN, Bool.and_eq_true] at h
    by_cases e : j = n
    · rw [e]; exact memN_iff.1 h.1
    · exact allN_get h.2 j (by omega)

def edgesOf : List Edge → List Nat
  | [] => []
  | e :: es => bif bindsA e then e.on :: edgesOf es else edgesOf es

theorem edgesOf_mem {es : List Edge} {j : Nat} (h : j ∈ edgesOf es) : ∃ e ∈ es, Region.binds .any e = true ∧ e.on = j := by
  induction es with
  | nil => cases h
  | cons e es ih =>
    unfold edgesOf at h
    cases hb : bindsA e
    · rw [hb, cond_false] at h
      obtain ⟨e', h1, h2⟩ := ih h
      exact ⟨e', List.mem_cons_of_mem _ h1, h2⟩
    · rw [hb, cond_true, List.mem_cons] at h
      rcases h with rfl | h
      · exact ⟨e, List.mem_cons_self, by rw [bindsA_eq]; exact hb, rfl⟩
      · obtain ⟨e', h1, h2⟩ := ih h
        exact ⟨e', List.mem_cons_of_mem _ h1, h2⟩

/-- The first n1 operations do not hang on one another but as the text has it; all others wait for all of them. -/
def waitOk (n1 : Nat) : List Oper → Bool
  | [] => true
  | o :: os => allN (edgesOf o.after.toList) n1 && waitOk n1 os

theorem waitOk_get {n1 : Nat} {l : List Oper} (h : waitOk n1 l = true) {o : Oper} (ho : o ∈ l) (j : Nat) (hj : j < n1) : ∃ e ∈ o.after.toList, Region.binds .any e = true ∧ e.on = j := by
  induction l with
  | nil => cases ho
  | cons x l ih =>
    simp only [waitOk, Bool.and_eq_true] at h
    rcases List.mem_cons.1 ho with rfl | ho
    · exact edgesOf_mem (allN_get h.1 j hj)
    · exact ih h.2 ho

def drawOkP (all : Array Oper) (n1 : Nat) : Bool :=
  (all.toList.take n1).zipIdx.all fun (o, j) => o.dst.isSome && (((all.toList.take n1).zipIdx.all fun (o', i) => i == j || o'.dst != o.dst) &&
    (((o.looksAt all).all fun t => (all.toList.take n1).zipIdx.all fun (o', i) => o'.dst != some t || (decide (i < j) && o.after.any fun e => e.on == i && Region.binds .any e)) && o.after.all fun e => !Region.binds .any e || decide (e.on < j)))

structure DrawOkP (all : Array Oper) (n1 : Nat) : Prop where
  dst : ∀ (j : Nat) (o : Oper), j < n1 → all[j]? = some o → o.dst.isSome = true
  one : ∀ (i j : Nat) (o o' : Oper), i < n1 → j < n1 → all[i]? = some o' → all[j]? = some o → o'.dst = o.dst → i = j
  dep : ∀ (j : Nat) (o : Oper) (t : Nat), j < n1 → all[j]? = some o → t ∈ o.looksAt all → ∀ (i : Nat) (o' : Oper), i < n1 → all[i]? = some o' → o'.dst = some t → i < j ∧ ∃ e ∈ o.after, e.on = i ∧ Region.binds .any e = true
  acyc : ∀ (j : Nat) (o : Oper), j < n1 → all[j]? = some o → ∀ e ∈ o.after, Region.binds .any e = true → e.on < j

theorem drawOkP_ok {all : Array Oper} {n1 : Nat} (h : drawOkP all n1 = true) : DrawOkP all n1 := by
  unfold drawOkP at h
  rw [List.all_eq_true] at h
  have mem : ∀ j o, j < n1 → all[j]? = some o → (o, j) ∈ (all.toList.take n1).zipIdx := fun j o hj ho => by
    rw [List.mk_mem_zipIdx_iff_getElem?, List.getElem?_take_of_lt hj, Array.getElem?_toList]
    exact ho
  have h' : ∀ j o, j < n1 → all[j]? = some o → _ := fun j o hj ho => h (o, j) (mem j o hj ho)
  simp only [Bool.and_eq_true] at h'
  refine ⟨fun j o hj ho => (h' j o hj ho).1, fun i j o o' hi1 hj1 hi hj e => ?_, fun j o t hj1 hj ht i o' hi1 hi e => ?_, fun j o hj1 hj e he hb => ?_⟩
  · have := (h' j o hj1 hj).2.1
    rw [List.all_eq_true] at this
    have := this (o', i) (mem i o' hi1 hi)
    simpa [e] using this
  · have := (h' j o hj1 hj).2.2.1
    rw [List.all_eq_true] at this
    have := this t ht
    rw [List.all_eq_true] at this
    have := this (o', i) (mem i o' hi1 hi)
    simp only [e, bne_self_eq_false, Bool.false_or, Bool.and_eq_true, decide_eq_true_eq, Array.any_eq_true] at this
    obtain ⟨h1, q, h2, h3⟩ := this
    exact ⟨h1, o.after[q], by simp, by simpa using h3.1, h3.2⟩
  · have := (h' j o hj1 hj).2.2.2
    rw [Array.all_eq_true_iff_forall_mem] at this
    have := this e he
    simpa [hb] using this

def downN : Nat → List Nat
  | 0 => []
  | n + 1 => n :: downN n

theorem downN_mem {n i : Nat} : i ∈ downN n ↔ i < n := by
  induction n with
  | zero => simp [downN]
  | succ n ih => simp only [downN, List.mem_cons, ih]; omega

theorem AWP.draw2 (e : Env cx P fn lo) (hm : P.follows .mixedOrders = true) {id : Nat} {all : Array Oper} {done : List (Nat × SV)} {n : Nat} (hchk : drawOkP all n = true) (hle : n ≤ all.size) (hwait : ∀ i o, n ≤ i → all[i]? = some o → ∀ j, j < n → ∃ e ∈ o.after.toList, Region.binds .any e = true ∧ e.on = j)
    (hg : Good cx all hp nx tm n done) (g : AWPAny cx all (downN n) (all.size - n) k ⟨done ++ tm, hp, nx⟩) :
    AWP cx (.code (.region id all true) :: k) ⟨tm, hp, nx⟩ := by
  obtain ⟨rfl, rfl, _⟩ := e
  have ck := drawOkP_ok hchk
  obtain ⟨hlen, hget⟩ := hg.get
  -- what each operation has in its slot
  let D : Nat → Nat := fun i => (done.getD (n - 1 - i) (0, undefS)).1
  let X : Nat → SV := fun i => (done.getD (n - 1 - i) (0, undefS)).2
  have hall : ∀ i, i < n → ∃ o, all[i]? = some o := fun i hi => ⟨all[i]'(by omega), by simp [show i < all.size by omega]⟩
  have hsuf : ∀ i, i ≤ n → done.drop (n - i) = (List.range i).reverse.map fun j => (D j, X j) := by
    intro i hi
    apply List.ext_getElem?
    intro q
    rw [List.getElem?_drop, List.getElem?_map]
    by_cases hq : q < i
    · rw [List.getElem?_reverse (by simpa using hq)]
      simp only [List.length_range]
      rw [List.getElem?_range (by omega)]
      have e1 : n - i + q = n - 1 - (i - 1 - q) := by omega
      have hlt : n - 1 - (i - 1 - q) < done.length := by omega
      simp only [Option.map_some, D, X, List.getD_eq_getElem?_getD]
      rw [e1, List.getElem?_eq_getElem hlt]
      rfl
    · rw [List.getElem?_eq_none (by omega), List.getElem?_eq_none (by simp; omega)]
      rfl
  have hop : ∀ i o, i < n → all[i]? = some o → o.dst = some (D i) ∧ VStep cx all hp nx o (((List.range i).reverse.map fun j => (D j, X j)) ++ tm) (D i) (X i) := by
    intro i o hi ho
    obtain ⟨d, x, tmi, h1, h2, pre, suf, h3, h4, h5⟩ := hget i o hi ho
    have hpre : pre.length = n - 1 - i := by
      have := congrArg List.length h3
      simp at this
      omega
    have hat : done[n - 1 - i]? = some (d, x) := by
      rw [h3, List.getElem?_append_right (by omega), hpre]
      simp
    have hDX : D i = d ∧ X i = x := by
      simp only [D, X, List.getD_eq_getElem?_getD, hat, Option.getD_some, and_self]
    have hs2 : suf = (List.range i).reverse.map fun j => (D j, X j) := by
      rw [← hsuf i (by omega), h3]
      have e1 : n - i = pre.length + 1 := by omega
      rw [e1, List.drop_append]
      simp
    rw [hDX.1, hDX.2, ← hs2, ← h5]
    exact ⟨h1, h2⟩
  have hD : ∀ a b, a < n → b < n → D a = D b → a = b := by
    intro a b ha hb hab
    obtain ⟨oa, hoa⟩ := hall a ha
    obtain ⟨ob, hob⟩ := hall b hb
    exact ck.one a b ob oa ha hb hoa hob (by rw [(hop a oa ha hoa).1, (hop b ob hb hob).1, hab])
  have hdone : done = (List.range n).reverse.map fun j => (D j, X j) := by
    have := hsuf n (Nat.le_refl _)
    rwa [Nat.sub_self, List.drop_zero] at this
  -- any order
  have key : ∀ (m : Nat) (listed : Array Bool) (l : List Nat) (a : Act) (w : World), listed.size = all.size → (∀ i, i < all.size → (listed.getD i true = true ↔ i ∈ l)) → l.Nodup → (∀ i ∈ l, i < n) → l.length + m = n →
      Inv cx ⟨(l.map fun j => (D j, X j)) ++ tm, hp, nx⟩ a w → wpAny cx.P .any all (K cx.P cx.R k) (m + (all.size - n)) listed a w := by
    intro m
    induction m with
    | zero =>
      intro listed l a w hs hl hnd hln hf hi
      have hmem : ∀ i, i < n → i ∈ l := by
        intro i hi
        refine Classical.byContradiction fun hni => ?_
        have := nodup_len (i :: l) (List.range n) (List.nodup_cons.2 ⟨hni, hnd⟩) fun j hj => by
          rcases List.mem_cons.1 hj with rfl | hj
          · simpa using hi
          · simpa using hln j hj
        simp at this
        omega
      rw [Nat.zero_add]
      refine g listed a w hs (fun i hi => (hl i hi).trans ⟨fun h => downN_mem.2 (hln i h), fun h => hmem i (downN_mem.1 h)⟩) (fun i hi => Nat.lt_of_lt_of_le (downN_mem.1 hi) hle) (Inv.same (fun t => ?_) hi)
      rw [aget_append, aget_append, hdone]
      by_cases ht : ∃ j, j < n ∧ D j = t
      · obtain ⟨j, hj, rfl⟩ := ht
        rw [pairs_there hD l hln j (hmem j hj), pairs_there hD (List.range n).reverse (fun i hi => by simpa using hi) j (by simpa using hj)]
      · rw [pairs_none l (fun j hj e => ht ⟨j, hln j hj, e⟩), pairs_none (List.range n).reverse (fun j hj e => ht ⟨j, by simpa using hj, e⟩)]
    | succ m ih =>
      intro listed l a w hs hl hnd hln hf hi
      rw [show m + 1 + (all.size - n) = (m + (all.size - n)) + 1 by omega]
      have hready := fun i => ready_rdy (all := all) hs hl (fun i hi => Nat.lt_of_lt_of_le (hln i hi) hle) i
      refine ⟨fun h0 => ?_, fun i hi' => ?_⟩
      · -- something is ready
        exfalso
        have hex : ∃ i, i < n ∧ i ∉ l := by
          refine Classical.byContradiction fun hno => ?_
          have hsub : List.range n ⊆ l := fun j hj => Classical.byContradiction fun hjl => hno ⟨j, by simpa using hj, hjl⟩
          have := nodup_len _ _ List.nodup_range hsub
          simp at this
          omega
        obtain ⟨i, ⟨hi1, hi2⟩, hmin⟩ := exists_min (fun i => i < n ∧ i ∉ l) _ hex.choose_spec
        obtain ⟨o, ho⟩ := hall i hi1
        have : i ∈ Region.ready .any all listed := (hready i).2 ((rdy_iff _ _ _).2 ⟨o, Nat.zero_le _, by rw [Nat.sub_zero, Array.getElem?_toList]; exact ho, hi2, fun e he hb => by
          have hlt := ck.acyc i o hi1 ho e (Array.mem_toList_iff.1 he) hb
          refine Classical.byContradiction fun hnl => ?_
          have := hmin e.on ⟨by omega, hnl⟩
          omega⟩)
        rw [h0] at this
        cases this
      · obtain ⟨o, _, ho, h2, h3⟩ := (rdy_iff _ _ _).1 ((hready i).1 hi')
        rw [Nat.sub_zero, Array.getElem?_toList] at ho
        have hisz : i < all.size := (Array.getElem?_eq_some_iff.1 ho).1
        have h1 : i < n := by
          refine Classical.byContradiction fun hge => ?_
          have hsub : List.range n ⊆ l := fun j hj => by
            obtain ⟨e, he, hb, hon⟩ := hwait i o (by omega) ho j (by simpa using hj)
            rw [← hon]
            exact h3 e he hb
          have := nodup_len _ _ List.nodup_range hsub
          simp at this
          omega
        obtain ⟨hdst, hv⟩ := hop i o h1 ho
        have hagree : ∀ t ∈ o.looksAt all, aget t ((l.map fun j => (D j, X j)) ++ tm) = aget t (((List.range i).reverse.map fun j => (D j, X j)) ++ tm) := by
          intro t ht
          rw [aget_append, aget_append]
          by_cases hex : ∃ j, j < n ∧ D j = t
          · obtain ⟨j, hj, rfl⟩ := hex
            obtain ⟨oj, hoj⟩ := hall j hj
            obtain ⟨hlt, e, he1, he2, he3⟩ := ck.dep i o _ h1 ho ht j oj hj hoj (hop j oj hj hoj).1
            have hjl : j ∈ l := by
              have := h3 e (Array.mem_toList_iff.2 he1) he3
              rwa [he2] at this
            rw [pairs_there hD l hln j hjl, pairs_there hD (List.range i).reverse (fun q hq => Nat.lt_trans (by simpa using hq) h1) j (by simpa using hlt)]
          · rw [pairs_none l (fun j hj e => hex ⟨j, hln j hj, e⟩), pairs_none (List.range i).reverse (fun j hj e => hex ⟨j, Nat.lt_trans (by simpa using hj) h1, e⟩)]
        let Φ : Act → World → Prop := wpAny cx.P .any all (K cx.P cx.R k) (m + (all.size - n)) (listed.setIfInBounds i true)
        have hstep := hv ((l.map fun j => (D j, X j)) ++ tm) (.inv Φ :: k) hagree (fun a' w' hi2 => by
          show Φ a' w'
          refine ih (listed.setIfInBounds i true) (i :: l) a' w' (by simpa using hs) (fun q hq => ?_) (List.nodup_cons.2 ⟨h2, hnd⟩) (fun q hq => ?_) (by simp; omega) hi2
          · by_cases e : q = i
            · subst e; simp [hs, hq]
            · have e' : ¬ i = q := fun h => e h.symm
              have := hl q hq
              simp only [Array.getD_eq_getD_getElem?] at this ⊢
              rw [Array.getElem?_setIfInBounds_ne e', this]
              simp [e]
          · rcases List.mem_cons.1 hq with rfl | hq
            · exact h1
            · exact hln q hq)
        have hw := hstep a w hi
        have hw : wpList cx.P all (K cx.P cx.R (.inv Φ :: k)) [o] a w := hw
        unfold wpOp
        simp only [ho]
        unfold wpList at hw
        by_cases hwant : Region.wanted o (yielded all a.tmps) = true
        · rw [if_pos hwant] at hw ⊢
          rcases hw with hw | ⟨ha, hlo⟩
          · exact .inl (upon_congrQ (Q := K cx.P cx.R (.inv Φ :: k)) (fun _ _ _ h => h) (fun _ _ h => h) hw)
          · obtain ⟨a0, w0, hlo⟩ := hlo
            exact .inr ⟨ha, a0, w0, hlo⟩
        · rw [if_neg hwant] at hw ⊢
          exact hw
  intro a w hi
  refine wp_region_any hm ?_
  have := key n (Array.replicate all.size false) [] a { w with drawn := w.drawn + 1 } (by simp) (fun i hi => by simp [hi]) List.nodup_nil (by simp) (by simp) (by
    obtain ⟨μ, ok, hi⟩ := hi.one
    exact hi.drew.inv)
  rwa [show n + (all.size - n) = all.size by omega] at this

theorem Dr.fin2 (e : Env cx P fn lo) (hm : P.follows .mixedOrders = true) (c : St) {id i : Nat} {rest : List Oper} {done : List (Nat × SV)} (hchk : drawOkP all i = true) (hle : Nat.ble i all.size = true) (hwait : waitOk i rest = true)
    (h : ∀ kk, AWP cx kk c → AWPAny cx all (downN i) (all.size - i) kk ⟨done ++ tm, hp, nx⟩) (g : AWP cx k c) : Dr cx all id k hp nx tm i rest done := by
  rintro ⟨h1, h2⟩
  refine AWP.draw2 e hm hchk (Nat.le_of_ble_eq_true hle) (fun q o hq ho j hj => ?_) h1 (h k g)
  refine waitOk_get hwait (o := o) ?_ j hj
  rw [← h2]
  refine List.mem_of_getElem? (i := q - i) ?_
  rw [List.getElem?_drop, show i + (q - i) = q by omega, Array.getElem?_toList]
  exact ho

/-! ### The same, the reading operations told by their numbers -/
inductive GoodX (cx : Cx) (all : Array Oper) (hp : List (Nat × Blk)) (nx : Nat) (tm : List (Nat × SV)) : List Nat → List (Nat × SV) → Prop where
  | nil : GoodX cx all hp nx tm [] []
  | step {ix : List Nat} {q : Nat} {done : List (Nat × SV)} {o : Oper} {d : Nat} {x : SV} (h : GoodX cx all hp nx tm ix done) (ho : all[q]? = some o) (hd : o.dst = some d) (hv : VStep cx all hp nx o (done ++ tm) d x) : GoodX cx all hp nx tm (ix ++ [q]) ((d, x) :: done)

theorem GoodX.get {all : Array Oper} {ix : List Nat} {done : List (Nat × SV)} (h : GoodX cx all hp nx tm ix done) : done.length = ix.length ∧ ∀ p o, p < ix.length → all[ix.getD p 0]? = some o →
    ∃ d x tmi, o.dst = some d ∧ VStep cx all hp nx o tmi d x ∧ (∃ pre suf, done = pre ++ (d, x) :: suf ∧ suf.length = p ∧ tmi = suf ++ tm) := by
  induction h with
  | nil => exact ⟨rfl, fun p o hp => by simp at hp⟩
  | step h ho hd hv ih =>
    rename_i ix0 q0 done o0 d0 x0
    refine ⟨by simp [ih.1], fun p o hp hoi => ?_⟩
    simp only [List.length_append, List.length_cons, List.length_nil] at hp
    by_cases e : p = ix0.length
    · subst e
      rw [List.getD_eq_getElem?_getD, List.getElem?_append_right (Nat.le_refl _), Nat.sub_self] at hoi
      have hoi : all[q0]? = some o := hoi
      rw [ho] at hoi
      cases hoi
      exact ⟨d0, x0, done ++ tm, hd, hv, [], done, rfl, ih.1, rfl⟩
    · have hlt : p < ix0.length := by omega
      rw [List.getD_eq_getElem?_getD, List.getElem?_append_left hlt, ← List.getD_eq_getElem?_getD] at hoi
      obtain ⟨d, x, tmi, h1, h2, pre, suf, h3, h4, h5⟩ := ih.2 p o hlt hoi
      exact ⟨d, x, tmi, h1, h2, (d0, x0) :: pre, suf, by rw [h3]; rfl, h4, h5⟩

def opsAt (all : List Oper) : List Nat → List (Option Oper)
  | [] => []
  | q :: ix => all[q]? :: opsAt all ix

theorem opsAt_get {all : List Oper} : ∀ {ix : List Nat} {p : Nat}, p < ix.length → (opsAt all ix)[p]? = some (all[ix.getD p 0]?)
  | q :: ix, 0, _ => rfl
  | q :: ix, p + 1, h => by
    have := opsAt_get (all := all) (ix := ix) (p := p) (by simpa using h)
    simpa [opsAt] using this

def drawOkX (all : Array Oper) (ix : List Nat) : Bool :=
  Nat.ble ix.length all.size && (nodupN ix && ((ix.all fun q => Nat.blt q all.size) && (opsAt all.toList ix).zipIdx.all fun (o?, j) => match o? with
    | none => false
    | some o => o.dst.isSome && (((opsAt all.toList ix).zipIdx.all fun (o'?, i) => match o'? with | none => false | some o' => i == j || o'.dst != o.dst) &&
      (((o.looksAt all).all fun t => (opsAt all.toList ix).zipIdx.all fun (o'?, i) => match o'? with | none => false | some o' => o'.dst != some t || (decide (i < j) && o.after.any fun e => e.on == ix.getD i 0 && Region.binds .any e)) && o.after.all fun e => !Region.binds .any e || memN e.on (ix.take j)))))

structure DrawOkX (all : Array Oper) (ix : List Nat) : Prop where
  len : ix.length ≤ all.size
  inj : ∀ i j, i < ix.length → j < ix.length → ix.getD i 0 = ix.getD j 0 → i = j
  lt : ∀ i, i < ix.length → ix.getD i 0 < all.size
  one : ∀ (i j : Nat) (o o' : Oper), i < ix.length → j < ix.length → all[ix.getD i 0]? = some o' → all[ix.getD j 0]? = some o → o'.dst = o.dst → i = j
  dep : ∀ (j : Nat) (o : Oper) (t : Nat), j < ix.length → all[ix.getD j 0]? = some o → t ∈ o.looksAt all → ∀ (i : Nat) (o' : Oper), i < ix.length → all[ix.getD i 0]? = some o' → o'.dst = some t → i < j ∧ ∃ e ∈ o.after, e.on = ix.getD i 0 ∧ Region.binds .any e = true
  acyc : ∀ (j : Nat) (o : Oper), j < ix.length → all[ix.getD j 0]? = some o → ∀ e ∈ o.after, Region.binds .any e = true → ∃ i, i < j ∧ ix.getD i 0 = e.on

theorem nodupN_inj : ∀ {l : List Nat}, nodupN l = true → ∀ i j, i < l.length → j < l.length → l.getD i 0 = l.getD j 0 → i = j
  | x :: l, h, i, j, hi, hj, e => by
    simp only [nodupN, Bool.and_eq_true, Bool.not_eq_true'] at h
    have no : ∀ q, q < l.length → x ≠ l.getD q 0 := fun q hq hn => by
      have : x ∈ l := by rw [hn, List.getD_eq_getElem?_getD, List.getElem?_eq_getElem hq]; exact List.getElem_mem hq
      have := memN_iff.2 this
      rw [h.1] at this
      cases this
    cases i with
    | zero => cases j with
      | zero => rfl
      | succ j => exact absurd e (no j (by simpa using hj))
    | succ i => cases j with
      | zero => exact absurd e.symm (no i (by simpa using hi))
      | succ j => rw [nodupN_inj h.2 i j (by simpa using hi) (by simpa using hj) e]

theorem drawOkX_ok {all : Array Oper} {ix : List Nat} (h : drawOkX all ix = true) : DrawOkX all ix := by
  unfold drawOkX at h
  simp only [Bool.and_eq_true] at h
  obtain ⟨hlen, hnd, hlt, h⟩ := h
  rw [List.all_eq_true] at h
  have mem : ∀ j o, j < ix.length → all[ix.getD j 0]? = some o → (some o, j) ∈ (opsAt all.toList ix).zipIdx := fun j o hj ho => by
    rw [List.mk_mem_zipIdx_iff_getElem?, opsAt_get hj, Array.getElem?_toList, ho]
  have h' : ∀ j o, j < ix.length → all[ix.getD j 0]? = some o → _ := fun j o hj ho => h (some o, j) (mem j o hj ho)
  simp only [Bool.and_eq_true] at h'
  refine ⟨Nat.le_of_ble_eq_true hlen, nodupN_inj hnd, fun i hi => ?_, fun i j o o' hi1 hj1 hi hj e => ?_, fun j o t hj1 hj ht i o' hi1 hi e => ?_, fun j o hj1 hj e he hb => ?_⟩
  · rw [List.all_eq_true] at hlt
    rw [List.getD_eq_getElem?_getD, List.getElem?_eq_getElem hi]
    exact Nat.le_of_ble_eq_true (hlt _ (List.getElem_mem hi))
  · have := (h' j o hj1 hj).2.1
    rw [List.all_eq_true] at this
    have := this (some o', i) (mem i o' hi1 hi)
    simpa [e] using this
  · have := (h' j o hj1 hj).2.2.1
    rw [List.all_eq_true] at this
    have := this t ht
    rw [List.all_eq_true] at this
    have := this (some o', i) (mem i o' hi1 hi)
    simp only [e, bne_self_eq_false, Bool.false_or, Bool.and_eq_true, decide_eq_true_eq, Array.any_eq_true] at this
    obtain ⟨h1, q, h2, h3⟩ := this
    exact ⟨h1, o.after[q], by simp, by simpa using h3.1, h3.2⟩
  · have := (h' j o hj1 hj).2.2.2
    rw [Array.all_eq_true_iff_forall_mem] at this
    have := this e he
    rw [hb, Bool.not_true, Bool.false_or, memN_iff] at this
    obtain ⟨i, hi, hi2⟩ := List.getElem_of_mem this
    rw [List.length_take] at hi
    refine ⟨i, by omega, ?_⟩
    rw [List.getElem_take] at hi2
    rw [List.getD_eq_getElem?_getD, List.getElem?_eq_getElem (by omega), hi2]
    rfl

theorem AWP.drawX (e : Env cx P fn lo) (hm : P.follows .mixedOrders = true) {id : Nat} {all : Array Oper} {done : List (Nat × SV)} {ix : List Nat} (hchk : drawOkX all ix = true) (hwait : ∀ i o, i ∉ ix → all[i]? = some o → ∀ j, j < ix.length → ∃ e ∈ o.after.toList, Region.binds .any e = true ∧ e.on = ix.getD j 0)
    (hg : GoodX cx all hp nx tm ix done) (g : AWPAny cx all ix (all.size - ix.length) k ⟨done ++ tm, hp, nx⟩) :
    AWP cx (.code (.region id all true) :: k) ⟨tm, hp, nx⟩ := by
  obtain ⟨rfl, rfl, _⟩ := e
  have ck := drawOkX_ok hchk
  obtain ⟨hlen, hget⟩ := hg.get
  obtain ⟨n, hn⟩ : ∃ n, n = ix.length := ⟨_, rfl⟩
  rw [← hn] at hlen hget
  have hle : n ≤ all.size := hn ▸ ck.len
  let σ : Nat → Nat := fun p => ix.getD p 0
  have hσ : ∀ i j, i < n → j < n → σ i = σ j → i = j := fun i j hi hj => ck.inj i j (hn ▸ hi) (hn ▸ hj)
  -- what each operation has in its slot
  let D : Nat → Nat := fun i => (done.getD (n - 1 - i) (0, undefS)).1
  let X : Nat → SV := fun i => (done.getD (n - 1 - i) (0, undefS)).2
  have hall : ∀ i, i < n → ∃ o, all[σ i]? = some o := fun i hi => ⟨all[σ i]'(ck.lt i (hn ▸ hi)), Array.getElem?_eq_getElem (ck.lt i (hn ▸ hi))⟩
  have hsuf : ∀ i, i ≤ n → done.drop (n - i) = (List.range i).reverse.map fun j => (D j, X j) := by
    intro i hi
    apply List.ext_getElem?
    intro q
    rw [List.getElem?_drop, List.getElem?_map]
    by_cases hq : q < i
    · rw [List.getElem?_reverse (by simpa using hq)]
      simp only [List.length_range]
      rw [List.getElem?_range (by omega)]
      have e1 : n - i + q = n - 1 - (i - 1 - q) := by omega
      have hlt : n - 1 - (i - 1 - q) < done.length := by omega
      simp only [Option.map_some, D, X, List.getD_eq_getElem?_getD]
      rw [e1, List.getElem?_eq_getElem hlt]
      rfl
    · rw [List.getElem?_eq_none (by omega), List.getElem?_eq_none (by simp; omega)]
      rfl
  have hop : ∀ i o, i < n → all[σ i]? = some o → o.dst = some (D i) ∧ VStep cx all hp nx o (((List.range i).reverse.map fun j => (D j, X j)) ++ tm) (D i) (X i) := by
    intro i o hi ho
    obtain ⟨d, x, tmi, h1, h2, pre, suf, h3, h4, h5⟩ := hget i o hi ho
    have hpre : pre.length = n - 1 - i := by
      have := congrArg List.length h3
      simp at this
      omega
    have hat : done[n - 1 - i]? = some (d, x) := by
      rw [h3, List.getElem?_append_right (by omega), hpre]
      simp
    have hDX : D i = d ∧ X i = x := by
      simp only [D, X, List.getD_eq_getElem?_getD, hat, Option.getD_some, and_self]
    have hs2 : suf = (List.range i).reverse.map fun j => (D j, X j) := by
      rw [← hsuf i (by omega), h3]
      have e1 : n - i = pre.length + 1 := by omega
      rw [e1, List.drop_append]
      simp
    rw [hDX.1, hDX.2, ← hs2, ← h5]
    exact ⟨h1, h2⟩
  have hD : ∀ a b, a < n → b < n → D a = D b → a = b := by
    intro a b ha hb hab
    obtain ⟨oa, hoa⟩ := hall a ha
    obtain ⟨ob, hob⟩ := hall b hb
    exact ck.one a b ob oa (hn ▸ ha) (hn ▸ hb) hoa hob (by rw [(hop a oa ha hoa).1, (hop b ob hb hob).1, hab])
  have hdone : done = (List.range n).reverse.map fun j => (D j, X j) := by
    have := hsuf n (Nat.le_refl _)
    rwa [Nat.sub_self, List.drop_zero] at this
  -- any order
  have key : ∀ (m : Nat) (listed : Array Bool) (l : List Nat) (a : Act) (w : World), listed.size = all.size → (∀ i, i < all.size → (listed.getD i true = true ↔ i ∈ l.map σ)) → l.Nodup → (∀ i ∈ l, i < n) → l.length + m = n →
      Inv cx ⟨(l.map fun j => (D j, X j)) ++ tm, hp, nx⟩ a w → wpAny cx.P .any all (K cx.P cx.R k) (m + (all.size - n)) listed a w := by
    intro m
    induction m with
    | zero =>
      intro listed l a w hs hl hnd hln hf hi
      have hmem : ∀ i, i < n → i ∈ l := by
        intro i hi
        refine Classical.byContradiction fun hni => ?_
        have := nodup_len (i :: l) (List.range n) (List.nodup_cons.2 ⟨hni, hnd⟩) fun j hj => by
          rcases List.mem_cons.1 hj with rfl | hj
          · simpa using hi
          · simpa using hln j hj
        simp at this
        omega
      rw [Nat.zero_add]
      rw [hn]
      refine g listed a w hs (fun i hi => (hl i hi).trans ⟨fun h => ?_, fun h => ?_⟩) (fun i hi => ?_) (Inv.same (fun t => ?_) hi)
      · obtain ⟨p, hp1, rfl⟩ := List.mem_map.1 h
        have := hln p hp1
        show ix.getD p 0 ∈ ix
        rw [List.getD_eq_getElem?_getD, List.getElem?_eq_getElem (by omega)]
        exact List.getElem_mem _
      · obtain ⟨p, hp1, rfl⟩ := List.getElem_of_mem h
        refine List.mem_map.2 ⟨p, hmem p (by omega), ?_⟩
        show ix.getD p 0 = ix[p]
        rw [List.getD_eq_getElem?_getD, List.getElem?_eq_getElem hp1]
        rfl
      · obtain ⟨p, hp1, rfl⟩ := List.getElem_of_mem hi
        have := ck.lt p hp1
        rwa [List.getD_eq_getElem?_getD, List.getElem?_eq_getElem hp1] at this
      rw [aget_append, aget_append, hdone]
      by_cases ht : ∃ j, j < n ∧ D j = t
      · obtain ⟨j, hj, rfl⟩ := ht
        rw [pairs_there hD l hln j (hmem j hj), pairs_there hD (List.range n).reverse (fun i hi => by simpa using hi) j (by simpa using hj)]
      · rw [pairs_none l (fun j hj e => ht ⟨j, hln j hj, e⟩), pairs_none (List.range n).reverse (fun j hj e => ht ⟨j, by simpa using hj, e⟩)]
    | succ m ih =>
      intro listed l a w hs hl hnd hln hf hi
      rw [show m + 1 + (all.size - n) = (m + (all.size - n)) + 1 by omega]
      have hready := fun i => ready_rdy (all := all) (l := l.map σ) hs hl (fun i hi => by obtain ⟨p, hp1, rfl⟩ := List.mem_map.1 hi; exact ck.lt p (hn ▸ hln p hp1)) i
      have hmap : ∀ p, p < n → (σ p ∈ l.map σ ↔ p ∈ l) := fun p hp1 => ⟨fun h => by obtain ⟨q, hq, e⟩ := List.mem_map.1 h; rwa [← hσ q p (hln q hq) hp1 e], fun h => List.mem_map.2 ⟨p, h, rfl⟩⟩
      refine ⟨fun h0 => ?_, fun i hi' => ?_⟩
      · -- something is ready
        exfalso
        have hex : ∃ i, i < n ∧ i ∉ l := by
          refine Classical.byContradiction fun hno => ?_
          have hsub : List.range n ⊆ l := fun j hj => Classical.byContradiction fun hjl => hno ⟨j, by simpa using hj, hjl⟩
          have := nodup_len _ _ List.nodup_range hsub
          simp at this
          omega
        obtain ⟨i, ⟨hi1, hi2⟩, hmin⟩ := exists_min (fun i => i < n ∧ i ∉ l) _ hex.choose_spec
        obtain ⟨o, ho⟩ := hall i hi1
        have : σ i ∈ Region.ready .any all listed := (hready (σ i)).2 ((rdy_iff _ _ _).2 ⟨o, Nat.zero_le _, by rw [Nat.sub_zero, Array.getElem?_toList]; exact ho, fun h => hi2 ((hmap i hi1).1 h), fun e he hb => by
          obtain ⟨q, hq, hon⟩ := ck.acyc i o (hn ▸ hi1) ho e (Array.mem_toList_iff.1 he) hb
          rw [← hon]
          refine (hmap q (by omega)).2 (Classical.byContradiction fun hnl => ?_)
          have := hmin q ⟨by omega, hnl⟩
          omega⟩)
        rw [h0] at this
        cases this
      · obtain ⟨o, _, ho, h2, h3⟩ := (rdy_iff _ _ _).1 ((hready i).1 hi')
        rw [Nat.sub_zero, Array.getElem?_toList] at ho
        have hisz : i < all.size := (Array.getElem?_eq_some_iff.1 ho).1
        have hex : i ∈ ix := by
          refine Classical.byContradiction fun hge => ?_
          have hsub : List.range n ⊆ l := fun j hj => by
            have hj : j < n := by simpa using hj
            obtain ⟨e, he, hb, hon⟩ := hwait i o hge ho j (hn ▸ hj)
            have h4 := h3 e he hb
            rw [hon] at h4
            exact (hmap j hj).1 h4
          have := nodup_len _ _ List.nodup_range hsub
          simp at this
          omega
        obtain ⟨p, hp1, hpi⟩ := List.getElem_of_mem hex
        have h1 : p < n := by omega
        have hpi : σ p = i := by
          show ix.getD p 0 = i
          rw [List.getD_eq_getElem?_getD, List.getElem?_eq_getElem hp1, ← hpi]
          rfl
        have h2 : p ∉ l := fun h => h2 (by rw [← hpi]; exact (hmap p h1).2 h)
        have ho' : all[σ p]? = some o := by rw [hpi]; exact ho
        obtain ⟨hdst, hv⟩ := hop p o h1 ho'
        have hagree : ∀ t ∈ o.looksAt all, aget t ((l.map fun j => (D j, X j)) ++ tm) = aget t (((List.range p).reverse.map fun j => (D j, X j)) ++ tm) := by
          intro t ht
          rw [aget_append, aget_append]
          by_cases hex : ∃ j, j < n ∧ D j = t
          · obtain ⟨j, hj, rfl⟩ := hex
            obtain ⟨oj, hoj⟩ := hall j hj
            obtain ⟨hlt, e, he1, he2, he3⟩ := ck.dep p o _ (hn ▸ h1) ho' ht j oj (hn ▸ hj) hoj (hop j oj hj hoj).1
            have hjl : j ∈ l := by
              have := h3 e (Array.mem_toList_iff.2 he1) he3
              rw [he2] at this
              exact (hmap j hj).1 this
            rw [pairs_there hD l hln j hjl, pairs_there hD (List.range p).reverse (fun q hq => Nat.lt_trans (by simpa using hq) h1) j (by simpa using hlt)]
          · rw [pairs_none l (fun j hj e => hex ⟨j, hln j hj, e⟩), pairs_none (List.range p).reverse (fun j hj e => hex ⟨j, Nat.lt_trans (by simpa using hj) h1, e⟩)]
        let Φ : Act → World → Prop := wpAny cx.P .any all (K cx.P cx.R k) (m + (all.size - n)) (listed.setIfInBounds i true)
        have hstep := hv ((l.map fun j => (D j, X j)) ++ tm) (.inv Φ :: k) hagree (fun a' w' hi2 => by
          show Φ a' w'
          refine ih (listed.setIfInBounds i true) (p :: l) a' w' (by simpa using hs) (fun q hq => ?_) (List.nodup_cons.2 ⟨h2, hnd⟩) (fun q hq => ?_) (by simp; omega) hi2
          · by_cases e : q = i
            · subst e; simp [hs, hq, hpi]
            · have e' : ¬ i = q := fun h => e h.symm
              have := hl q hq
              simp only [Array.getD_eq_getD_getElem?] at this ⊢
              rw [Array.getElem?_setIfInBounds_ne e', this, List.map_cons, List.mem_cons, hpi]
              simp [e]
          · rcases List.mem_cons.1 hq with rfl | hq
            · exact h1
            · exact hln q hq)
        have hw := hstep a w hi
        have hw : wpList cx.P all (K cx.P cx.R (.inv Φ :: k)) [o] a w := hw
        unfold wpOp
        simp only [ho]
        unfold wpList at hw
        by_cases hwant : Region.wanted o (yielded all a.tmps) = true
        · rw [if_pos hwant] at hw ⊢
          rcases hw with hw | ⟨ha, hlo⟩
          · exact .inl (upon_congrQ (Q := K cx.P cx.R (.inv Φ :: k)) (fun _ _ _ h => h) (fun _ _ h => h) hw)
          · obtain ⟨a0, w0, hlo⟩ := hlo
            exact .inr ⟨ha, a0, w0, hlo⟩
        · rw [if_neg hwant] at hw ⊢
          exact hw
  intro a w hi
  refine wp_region_any hm ?_
  have := key n (Array.replicate all.size false) [] a { w with drawn := w.drawn + 1 } (by simp) (fun i hi => by simp [hi]) List.nodup_nil (by simp) (by simp) (by
    obtain ⟨μ, ok, hi⟩ := hi.one
    exact hi.drew.inv)
  rwa [show n + (all.size - n) = all.size by omega] at this


/-- A walk over such a region. -/
def DrX (cx : Cx) (all : Array Oper) (id : Nat) (k : List It) (hp : List (Nat × Blk)) (nx : Nat) (tm : List (Nat × SV)) (ix : List Nat) (done : List (Nat × SV)) : Prop :=
  GoodX cx all hp nx tm ix done → AWP cx (.code (.region id all true) :: k) ⟨tm, hp, nx⟩

theorem AWP.drx {id : Nat} (h : DrX cx all id k hp nx tm [] []) : AWP cx (.code (.region id all true) :: k) ⟨tm, hp, nx⟩ := h .nil

theorem DrX.step (q : Nat) {id d : Nat} {ix : List Nat} {done : List (Nat × SV)} {o : Oper} {x : SV} (ho : all.toList[q]? = some o) (hd : o.dst = some d) (hv : VStep cx all hp nx o (done ++ tm) d x) (h : DrX cx all id k hp nx tm (ix ++ [q]) ((d, x) :: done)) : DrX cx all id k hp nx tm ix done :=
  fun h1 => h (h1.step (by rwa [Array.getElem?_toList] at ho) hd hv)

def waitX (ix : List Nat) : Nat → List Oper → Bool
  | _, [] => true
  | i, o :: os => (memN i ix || ix.all fun q => memN q (edgesOf o.after.toList)) && waitX ix (Nat.succ i) os

theorem waitX_get {ix : List Nat} {os : List Oper} : ∀ {s : Nat}, waitX ix s os = true → ∀ i o, os[i]? = some o → s + i ∉ ix → ∀ q, q ∈ ix → ∃ e ∈ o.after.toList, Region.binds .any e = true ∧ e.on = q := by
  induction os with
  | nil => intro s h i o ho; simp at ho
  | cons x os ih =>
    intro s h i o ho hni q hq
    simp only [waitX, Bool.and_eq_true, Bool.or_eq_true] at h
    cases i with
    | zero =>
      cases ho
      rcases h.1 with h1 | h1
      · exact absurd (memN_iff.1 h1) hni
      · rw [List.all_eq_true] at h1
        exact edgesOf_mem (memN_iff.1 (h1 q hq))
    | succ i => exact ih h.2 i o (by simpa using ho) (by rw [show Nat.succ s + i = s + (i + 1) by omega]; exact hni) q hq

theorem DrX.fin (e : Env cx P fn lo) (hm : P.follows .mixedOrders = true) (c : St) {id : Nat} {ix : List Nat} {done : List (Nat × SV)} (hchk : drawOkX all ix = true) (hwait : waitX ix 0 all.toList = true)
    (h : ∀ kk, AWP cx kk c → AWPAny cx all ix (all.size - ix.length) kk ⟨done ++ tm, hp, nx⟩) (g : AWP cx k c) : DrX cx all id k hp nx tm ix done := by
  intro h1
  refine AWP.drawX e hm hchk (fun i o hni ho j hj => ?_) h1 (h k g)
  refine waitX_get (s := 0) hwait i o (by rw [Array.getElem?_toList]; exact ho) (by rw [Nat.zero_add]; exact hni) _ ?_
  rw [List.getD_eq_getElem?_getD, List.getElem?_eq_getElem hj]
  exact List.getElem_mem hj

theorem AWPAny.go2 {l : List Nat} {fuel n : Nat} {s : St} {i : Nat} {rs : List Nat} (hn : n = fuel + 1) (hr : rdy l 0 all.toList = i :: rs) (h : StepAll cx all l fuel k s (i :: rs)) : AWPAny cx all l n k s := by
  subst hn
  exact AWPAny.go hr h

end
end Go.Sy
