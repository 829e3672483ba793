/-
  SYMBOLIC STATES, over any program, part 39: the check of a region that draws its order, made in few steps (what must be done ahead of what, and what each looks at, is worked out once).
-/
import Derived.Test.YtmmpblbdjnlciaaSyC
namespace Go.Sy
open Go.RowKit

def forceL {R : Type} : List Nat → (List Nat → R) → R
  | [], k => k []
  | x :: l, k => forceL l fun l' => k (x :: l')
theorem forceL_eq {R : Type} : ∀ (l : List Nat) (k : List Nat → R), forceL l k = k l
  | [], _ => rfl
  | x :: l, k => by simp only [forceL, forceL_eq l]

def insN (x : Nat) (l : List Nat) : List Nat := bif memN x l then l else x :: l
def unN : List Nat → List Nat → List Nat
  | [], m => m
  | x :: l, m => unN l (insN x m)
theorem insN_mem {x y : Nat} {l : List Nat} (h : y ∈ insN x l) : y = x ∨ y ∈ l := by
  unfold insN at h
  cases hm : memN x l
  · rw [hm] at h; simpa using h
  · rw [hm] at h; exact .inr h
theorem unN_mem {y : Nat} : ∀ {l m : List Nat}, y ∈ unN l m → y ∈ l ∨ y ∈ m
  | [], _, h => .inr h
  | x :: l, m, h => by
    rcases unN_mem (l := l) h with h | h
    · exact .inl (List.mem_cons_of_mem _ h)
    · rcases insN_mem h with rfl | h
      · exact .inl List.mem_cons_self
      · exact .inr h

def rowAt (n : Nat) (T : List (List Nat)) (j : Nat) : List Nat := bif Nat.blt j n then (match nth T (n - 1 - j) with | some r => r | none => []) else []
def ancE (n : Nat) (T : List (List Nat)) : List Nat → List Nat
  | [] => []
  | j :: js => insN j (unN (rowAt n T j) (ancE n T js))
theorem ancE_mem {n x : Nat} {T : List (List Nat)} : ∀ {js : List Nat}, x ∈ ancE n T js → ∃ j ∈ js, x = j ∨ x ∈ rowAt n T j
  | [], h => by simp [ancE] at h
  | j :: js, h => by
    rcases insN_mem h with rfl | h
    · exact ⟨_, List.mem_cons_self, .inl rfl⟩
    · rcases unN_mem h with h | h
      · exact ⟨j, List.mem_cons_self, .inr h⟩
      · obtain ⟨j', h1, h2⟩ := ancE_mem h
        exact ⟨j', List.mem_cons_of_mem _ h1, h2⟩

theorem pre_iff {all : List Oper} {x : Nat} : ∀ {l : List Nat}, x ∈ clo.pre all l ↔ ∃ q ∈ l, ∃ o, nth all q = some o ∧ x ∈ edgesOf o.after.toList
  | [] => by simp [clo.pre]
  | q :: l => by
    simp only [clo.pre, List.mem_append, pre_iff (l := l)]
    constructor
    · rintro (h | ⟨q', h1, h2⟩)
      · cases ho : nth all q with
        | none => rw [ho] at h; simp at h
        | some o => rw [ho] at h; exact ⟨q, List.mem_cons_self, o, ho, h⟩
      · exact ⟨q', List.mem_cons_of_mem _ h1, h2⟩
    · rintro ⟨q', h1, o, ho, hx⟩
      rcases List.mem_cons.1 h1 with rfl | h1
      · left; rw [ho]; exact hx
      · exact .inr ⟨q', h1, o, ho, hx⟩
theorem clo_sub {all : List Oper} {x : Nat} : ∀ {m : Nat} {l l' : List Nat}, (∀ y ∈ l, y ∈ l') → x ∈ clo all m l → x ∈ clo all m l'
  | 0, l, l', h, hx => h x hx
  | m + 1, l, l', h, hx => by
    simp only [clo, List.mem_append] at hx ⊢
    rcases hx with hx | hx
    · exact .inl (h x hx)
    · refine .inr (clo_sub (fun y hy => ?_) hx)
      obtain ⟨q, h1, h2⟩ := pre_iff.1 hy
      exact pre_iff.2 ⟨q, h q h1, h2⟩
theorem clo_up {all : List Oper} {x : Nat} : ∀ {m : Nat} {l : List Nat}, x ∈ clo all m l → x ∈ clo all (m + 1) l
  | 0, l, h => by simp only [clo, List.mem_append]; exact .inl h
  | m + 1, l, h => by
    simp only [clo, List.mem_append] at h
    rcases h with h | h
    · simp only [clo, List.mem_append]; exact .inl h
    · have := clo_up h
      rw [clo, List.mem_append]
      exact .inr this
theorem clo_le {all : List Oper} {x m m' : Nat} {l : List Nat} (hm : m ≤ m') (h : x ∈ clo all m l) : x ∈ clo all m' l := by
  induction hm with
  | refl => exact h
  | step _ ih => exact clo_up ih
theorem clo_self {all : List Oper} {x m : Nat} {l : List Nat} (h : x ∈ l) : x ∈ clo all m l := by
  cases m with
  | zero => exact h
  | succ m => simp only [clo, List.mem_append]; exact .inl h
theorem clo_edge {all : List Oper} {x m i j : Nat} {o : Oper} (ho : nth all i = some o) (hj : j ∈ edgesOf o.after.toList) (h : x ∈ clo all m [j]) : x ∈ clo all (m + 1) [i] := by
  simp only [clo, List.mem_append]
  refine .inr (clo_sub (fun y hy => ?_) h)
  simp only [List.mem_singleton] at hy
  subst hy
  exact pre_iff.2 ⟨i, by simp, o, ho, hj⟩

def AncOk (all : List Oper) (n : Nat) (T : List (List Nat)) : Prop := ∀ i x, i < n → x ∈ rowAt n T i → x ∈ clo all (i + 1) [i]
def ancK {R : Type} : List Oper → Nat → List (List Nat) → (List (List Nat) → R) → R
  | [], _, T, k => k T
  | o :: os, n, T, k => forceL (ancE n T (edgesOf o.after.toList)) fun row => ancK os (Nat.succ n) (row :: T) k
theorem rowAt_cons {n i : Nat} {row : List Nat} {T : List (List Nat)} (h : i < n) : rowAt (n + 1) (row :: T) i = rowAt n T i := by
  unfold rowAt
  have h1 : Nat.blt i (n + 1) = true := Nat.ble_eq_true_of_le (by omega)
  have h2 : Nat.blt i n = true := Nat.ble_eq_true_of_le (by omega)
  rw [h1, h2, show n + 1 - 1 - i = (n - 1 - i) + 1 by omega]
  rfl
theorem rowAt_head {n : Nat} {row : List Nat} {T : List (List Nat)} : rowAt (n + 1) (row :: T) n = row := by
  unfold rowAt
  have h1 : Nat.blt n (n + 1) = true := Nat.ble_eq_true_of_le (by omega)
  rw [h1, show n + 1 - 1 - n = 0 by omega]
  rfl
theorem ancK_ok {R : Type} (all : List Oper) (k : List (List Nat) → R) (p : R → Prop) : ∀ (os : List Oper) (n : Nat) (T : List (List Nat)), all.drop n = os → n ≤ all.length → AncOk all n T → p (ancK os n T k) → ∃ T', AncOk all all.length T' ∧ p (k T')
  | [], n, T, hd, hn, hT, hp => by
    have : n = all.length := by
      have := congrArg List.length hd
      simp at this
      omega
    subst this
    exact ⟨T, hT, hp⟩
  | o :: os, n, T, hd, hn, hT, hp => by
    have hlt : n < all.length := by
      have := congrArg List.length hd
      simp at this
      omega
    have ho : nth all n = some o := by
      have := congrArg (·[0]?) hd
      rw [nth_eq]
      simpa using this
    simp only [ancK, forceL_eq] at hp
    refine ancK_ok all k p os (n + 1) _ ?_ hlt (fun i x hi hx => ?_) hp
    · rw [← List.drop_drop, hd]; rfl
    · by_cases e : i = n
      · subst e
        rw [rowAt_head] at hx
        obtain ⟨j, hj, hx⟩ := ancE_mem hx
        rcases hx with rfl | hx
        · exact clo_edge ho hj (clo_self (by simp))
        · have hjn : j < i := by
            rcases Nat.lt_or_ge j i with h | h
            · exact h
            · exfalso
              unfold rowAt at hx
              have : Nat.blt j i = false := by
                cases hb : Nat.blt j i
                · rfl
                · have := Nat.le_of_ble_eq_true hb; omega
              rw [this] at hx
              simp at hx
          exact clo_le (by omega) (clo_edge ho hj (hT j x hjn hx))
      · rw [rowAt_cons (by omega)] at hx
        exact hT i x (by omega) hx

/-! ### The check -/
def lkK {R : Type} (all : Array Oper) : List Oper → (List (List Nat) → R) → R
  | [], k => k []
  | o :: os, k => forceL (o.looksAt all) fun row => lkK all os fun l => k (row :: l)
theorem lkK_eq {R : Type} (all : Array Oper) : ∀ (os : List Oper) (k : List (List Nat) → R), lkK all os k = k (os.map fun o => o.looksAt all)
  | [], _ => rfl
  | o :: os, k => by simp only [lkK, forceL_eq, lkK_eq all os, List.map_cons]
def lkOf (lk : List (List Nat)) (q : Nat) : List Nat := match nth lk q with | some l => l | none => []
theorem lkOf_eq (all : List Oper) (a : Array Oper) (q : Nat) : lkOf (all.map fun o => o.looksAt a) q = (match nth all q with | some o => o.looksAt a | none => []) := by
  unfold lkOf
  rw [nth_eq, nth_eq, List.getElem?_map]
  cases all[q]? <;> rfl
def clash2 (lk : List (List Nat)) (r s : Rec) : Bool :=
  interN (optL s.d) (lkOf lk r.q ++ optL r.d) || interN (optL r.d) (lkOf lk s.q) ||
  interN (s.eff.map Prod.fst) (r.rd ++ r.eff.map Prod.fst) || interN (r.eff.map Prod.fst) s.rd || !recFree r s.nw
theorem clash2_eq (all : List Oper) (r s : Rec) : clash2 (all.map fun o => o.looksAt all.toArray) r s = clash all r s := by
  unfold clash2 clash
  rw [lkOf_eq, lkOf_eq]
  rfl
def chkOne2 (lk : List (List Nat)) (r : Rec) (before : List Nat) : List Rec → Bool
  | [] => true
  | s :: R => (memN s.q before || !clash2 lk r s) && recFree s r.nw && chkOne2 lk r before R
theorem chkOne2_ok {all : List Oper} {r : Rec} {before before' : List Nat} (hb : ∀ x ∈ before, x ∈ before') : ∀ {R : List Rec}, chkOne2 (all.map fun o => o.looksAt all.toArray) r before R = true → chkOne all r before' R = true
  | [], _ => rfl
  | s :: R, h => by
    simp only [chkOne2, chkOne, Bool.and_eq_true, Bool.or_eq_true, clash2_eq] at h ⊢
    exact ⟨⟨h.1.1.imp (fun h => memN_iff.2 (hb _ (memN_iff.1 h))) id, h.1.2⟩, chkOne2_ok hb h.2⟩
def chkG2 (all : List Oper) (lk : List (List Nat)) (n : Nat) (T : List (List Nat)) (nx : Nat) : List Rec → Bool
  | [] => true
  | r :: R => !memN r.q (R.map Rec.q) && chkOne2 lk r (rowAt n T r.q) R && (match nth all r.q with | some o => allE (R.map Rec.q) o.after.toList | none => false) && (r.nw.all fun N => Nat.ble nx N) && chkG2 all lk n T nx R
theorem chkG2_ok {all : List Oper} {T : List (List Nat)} (hT : AncOk all all.length T) {nx M : Nat} : ∀ {R : List Rec}, chkG2 all (all.map fun o => o.looksAt all.toArray) all.length T nx R = true → chkG all nx M R = true
  | [], _ => rfl
  | r :: R, h => by
    simp only [chkG2, chkG, Bool.and_eq_true] at h ⊢
    refine ⟨⟨⟨⟨h.1.1.1.1, chkOne2_ok (fun x hx => ?_) h.1.1.1.2⟩, h.1.1.2⟩, h.1.2⟩, chkG2_ok hT h.2⟩
    have hlt : r.q < all.length := by
      rcases Nat.lt_or_ge r.q all.length with h | h
      · exact h
      · exfalso
        unfold rowAt at hx
        have : Nat.blt r.q all.length = false := by
          cases hb : Nat.blt r.q all.length
          · rfl
          · have := Nat.le_of_ble_eq_true hb; omega
        rw [this] at hx
        simp at hx
    rw [lenK_eq]
    exact clo_le hlt (hT r.q x hlt hx)
def chkGK (all : Array Oper) (nx : Nat) (R : List Rec) : Bool :=
  lkK all all.toList fun lk => ancK all.toList 0 [] fun T => chkG2 all.toList lk (lenK all.toList) T nx R
theorem chkGK_ok {all : Array Oper} {nx M : Nat} {R : List Rec} (h : chkGK all nx R = true) : chkG all.toList nx M R = true := by
  unfold chkGK at h
  rw [lkK_eq] at h
  obtain ⟨T, h1, h2⟩ := ancK_ok all.toList _ (fun b => b = true) all.toList 0 [] rfl (Nat.zero_le _) (fun i x hi _ => by omega) h
  rw [lenK_eq] at h2
  exact chkG2_ok h1 h2
section
variable {cx : Cx} {P : Program} {fn : Func} {lo : Nat} {T : Tab} {k : List It} {tm : List (Nat × SV)} {hp : List (Nat × Blk)} {nx M : Nat} {all : Array Oper} {R : List Rec} {id : Nat}
theorem DrG.finK (e : Env cx P fn lo) (hm : P.follows .mixedOrders = true) (hchk : chkGK all nx R = true) (hlen : Nat.beq (lenK R) (lenK all.toList) = true) (hM : Nat.ble nx M = true) (hT : okT nx tm = true) (hH : okHR nx hp)
    (g : AWP cx k ⟨tmS R tm, hpS R hp, M⟩) {q : Nat} : DrG cx all id k tm hp nx M q [] R :=
  DrG.fin e hm (chkGK_ok hchk) hlen hM hT hH g
end
end Go.Sy
