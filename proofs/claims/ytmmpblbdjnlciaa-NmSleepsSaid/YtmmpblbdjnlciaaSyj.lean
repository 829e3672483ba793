/-
  SYMBOLIC STATES, over any program, part 19: variables that are written no more; indexing of arrays and texts; structs compared.
-/
import Derived.Test.YtmmpblbdjnlciaaSyi
namespace Go.Sy
open Go.RowKit

section
variable {cx : Cx} {P : Program} {fn : Func} {lo : Nat} {T : Tab} {k : List It} {tm : List (Nat × SV)} {hp : List (Nat × Blk)} {nx : Nat} {all : Array Oper} {rest : List Oper} {d : Nat} {ty : TypeId} {pos : String} {after : Array Edge}
variable {μ : Nat → Option Nat} {ok : Nat → Prop} {w : World}

/-! ### A variable that is written no more -/
def toDV : SV → Option DV
  | .d x => some x
  | .fn f [] [] => some (.v (.func f #[] #[]))
  | .lit b => some (.v (.bool b))
  | _ => none

theorem toDV_den {x : SV} {y : DV} {u : Value} (h : Den μ ok w x u) (hx : toDV x = some y) : DDen ok w y u := by
  unfold toDV at hx
  split at hx <;> first | (cases hx; done) | skip
  · cases hx; cases h with | d h => exact h
  · cases hx
    cases h with
    | fn vs us h1 _ h2 _ =>
      have e1 : vs = #[] := Array.eq_empty_of_size_eq_zero h1
      have e2 : us = #[] := Array.eq_empty_of_size_eq_zero h2
      rw [e1, e2]
      exact .v _
  · cases hx; cases h; exact .v _

def toDVs : List SV → Option (List DV)
  | [] => some []
  | x :: l => match toDV x, toDVs l with
    | some y, some m => some (y :: m)
    | _, _ => none

theorem toDVs_get : ∀ {l : List SV} {m : List DV}, toDVs l = some m → m.length = l.length ∧ ∀ (j : Nat) y, m[j]? = some y → ∃ x, l[j]? = some x ∧ toDV x = some y
  | [], m, h => by simp only [toDVs, Option.some.injEq] at h; subst h; simp
  | x :: l, m, h => by
    simp only [toDVs] at h
    split at h
    · rename_i y m' hy hm
      cases h
      obtain ⟨h1, h2⟩ := toDVs_get hm
      refine ⟨by simp [h1], fun j z hz => ?_⟩
      cases j with
      | zero => cases hz; exact ⟨x, rfl, hy⟩
      | succ j => exact h2 j z (by simpa using hz)
    · cases h

def frzB (id : Nat) (ds : List DV) : SV → SV
  | .ptr i j => bif Nat.beq i id then dropK j ds (fun o => match o with | some l => .ip l | none => .ptr i j) else .ptr i j
  | .agg cs => go id ds cs fun l => .agg l
  | .tup cs => go id ds cs fun l => .tup l
  | .fn f a b => go id ds a fun l => go id ds b fun m => .fn f l m
  | x => x
where go (id : Nat) (ds : List DV) : List SV → (List SV → SV) → SV
  | [], k => k []
  | x :: l, k => go id ds l fun m => k (frzB id ds x :: m)

theorem frzB_go (id : Nat) (ds : List DV) (l : List SV) (k : List SV → SV) : frzB.go id ds l k = k (l.map (frzB id ds)) := by
  induction l generalizing k with
  | nil => rfl
  | cons x l ih => simp only [frzB.go, ih, List.map_cons]

theorem frzB_den {ok' : Nat → Prop} {id b : Nat} {ds : List DV} (hb : μ id = some b) (hok : ∀ b, ok b → ok' b) (hd : ∀ (j : Nat) c, ds[j]? = some c → ok' b ∧ ∃ u, w.cell? ⟨b, j, none⟩ = some u ∧ DDen ok' w c u) {x : SV} {y : Value} (h : Den μ ok w x y) :
    Den μ ok' w (frzB id ds x) y := by
  have many : ∀ {cs : List SV} {vs : Array Value}, (∀ (j : Nat) c u, cs[j]? = some c → vs[j]? = some u → Den μ ok' w (frzB id ds c) u) → ∀ (j : Nat) c u, (cs.map (frzB id ds))[j]? = some c → vs[j]? = some u → Den μ ok' w c u := by
    intro cs vs h j c u hc hu
    rw [List.getElem?_map] at hc
    cases e : cs[j]? with
    | none => rw [e] at hc; cases hc
    | some c0 => rw [e] at hc; cases hc; exact h j c0 u e hu
  induction h with
  | ptr h =>
    rename_i i j b'
    simp only [frzB]
    by_cases e : i = id
    · subst e
      rw [hb] at h
      cases h
      simp only [Nat.beq_refl, cond_true, dropK_eq, dk]
      split
      · rename_i l hl
        split at hl
        · cases hl
          refine .ip _ fun q c hc => ?_
          rw [List.getElem?_drop] at hc
          obtain ⟨h1, u, h2, h3⟩ := hd _ c hc
          exact ⟨h1, u, by rw [add_add']; exact h2, h3⟩
        · cases hl
      · exact .ptr hb
    · rw [beq_ne e]
      exact .ptr h
  | agg vs h h1 ih => simp only [frzB, frzB_go]; exact .agg vs (by simpa using h) (many ih)
  | tup vs h h1 ih => simp only [frzB, frzB_go]; exact .tup vs (by simpa using h) (many ih)
  | fn vs us h h1 h2 h3 ih1 ih2 => simp only [frzB, frzB_go]; exact .fn vs us (by simpa using h) (many ih1) (by simpa using h2) (many ih2)
  | d h => exact .d (h.mono hok (fun _ _ => rfl))
  | pel h => exact .pel h
  | own h h1 h2 => exact .own h h1 h2
  | ip a h4 => exact Den.mono (fun _ _ h => h) hok (fun _ _ => rfl) (.ip a h4)
  | lit b => exact .lit b
  | ownNil a id k lo => exact .ownNil a id k lo

def frzBT (id : Nat) (ds : List DV) : List (Nat × SV) → Option (List (Nat × SV))
  | [] => some []
  | (t, x) :: l => match frzBT id ds l with
    | some r => forceK (frzB id ds x) fun x => some ((t, x) :: r)
    | none => none

theorem frzBT_get (id : Nat) (ds : List DV) : ∀ (l r : List (Nat × SV)), frzBT id ds l = some r → ∀ t x, aget t r = some x → ∃ y, aget t l = some y ∧ x = frzB id ds y := by
  intro l
  induction l with
  | nil => intro r h t x hx; simp [frzBT] at h; subst h; simp [aget] at hx
  | cons p l ih =>
    obtain ⟨u, y⟩ := p
    intro r h t x hx
    simp only [frzBT, forceK_eq] at h
    cases e : frzBT id ds l with
    | none => rw [e] at h; cases h
    | some r1 =>
      rw [e] at h
      cases h
      rw [aget_cons] at hx ⊢
      by_cases ht : t = u
      · rw [if_pos ht] at hx ⊢
        cases hx
        exact ⟨y, rfl, rfl⟩
      · rw [if_neg ht] at hx ⊢
        exact ih r1 e t x hx

def frzBH (id : Nat) (ds : List DV) : List (Nat × Blk) → Option (List (Nat × Blk))
  | [] => some []
  | (i, B) :: l => match frzBH id ds l with
    | some r => bif Nat.beq i id then some r else (match B with
      | .box cs => mapK (frzB id ds) cs fun cs => some ((i, .box cs) :: r)
      | .row e fz k xs C => some ((i, .row e fz k xs C) :: r))
    | none => none

theorem frzBH_get (id : Nat) (ds : List DV) : ∀ (l r : List (Nat × Blk)), frzBH id ds l = some r → ∀ i B, aget i r = some B → i ≠ id ∧ ∃ B0, aget i l = some B0 ∧ ((∃ cs, B0 = .box cs ∧ B = .box (cs.map (frzB id ds))) ∨ B = B0) := by
  intro l
  induction l with
  | nil => intro r h t x hx; simp [frzBH] at h; subst h; simp [aget] at hx
  | cons p l ih =>
    obtain ⟨u, C⟩ := p
    intro r h i B hB
    simp only [frzBH] at h
    cases e : frzBH id ds l with
    | none => rw [e] at h; cases h
    | some r1 =>
      rw [e] at h
      simp only at h
      by_cases hu : u = id
      · subst hu
        simp only [Nat.beq_refl, cond_true, Option.some.injEq] at h
        subst h
        obtain ⟨h1, B0, h2, h3⟩ := ih r1 e i B hB
        exact ⟨h1, B0, by rw [aget_cons, if_neg h1]; exact h2, h3⟩
      · rw [beq_ne hu] at h
        simp only [cond_false] at h
        have key : ∃ C', r = (u, C') :: r1 ∧ ((∃ cs, C = .box cs ∧ C' = .box (cs.map (frzB id ds))) ∨ C' = C) := by
          cases C with
          | box cs => simp only [mapK_eq, Option.some.injEq] at h; exact ⟨_, h.symm, .inl ⟨cs, rfl, rfl⟩⟩
          | row e fz k xs C => simp only [Option.some.injEq] at h; exact ⟨_, h.symm, .inr rfl⟩
        obtain ⟨C', rfl, hC⟩ := key
        rw [aget_cons] at hB
        by_cases hi : i = u
        · rw [if_pos hi] at hB
          cases hB
          subst hi
          exact ⟨hu, C, by rw [aget_cons, if_pos rfl], hC⟩
        · rw [if_neg hi] at hB
          obtain ⟨h1, B0, h2, h3⟩ := ih r1 e i B hB
          exact ⟨h1, B0, by rw [aget_cons, if_neg hi]; exact h2, h3⟩

/-- A variable from here on is only read: what points to it is a pointer to what it holds. -/
theorem AWP.freezeB {id : Nat} {cs : List SV} {ds : List DV} (hbox : aget id hp = some (.box cs)) (hds : toDVs cs = some ds) {tm' : List (Nat × SV)} {hp' : List (Nat × Blk)} (hT : frzBT id ds tm = some tm') (hH : frzBH id ds hp = some hp') (g : AWP cx k ⟨tm', hp', nx⟩) : AWP cx k ⟨tm, hp, nx⟩ := fun a w hi => by
  obtain ⟨μ, ok, hi⟩ := hi.one
  obtain ⟨h, _⟩ | ⟨b, h1, h2, h3, h4, h5⟩ := hi.heap.own id _ hbox
  · exact h.elim
  let ok' : Nat → Prop := fun q => ok q ∨ q = b
  have hsub : ∀ q, ok q → ok' q := fun q h => .inl h
  obtain ⟨d1, d2⟩ := toDVs_get hds
  have hd : ∀ (j : Nat) c, ds[j]? = some c → ok' b ∧ ∃ u, w.cell? ⟨b, j, none⟩ = some u ∧ DDen ok' w c u := by
    intro j c hc
    obtain ⟨x, hx, hxc⟩ := d2 j c hc
    obtain ⟨C, T, z, q1, q2, q3, q4⟩ := h5
    have hlt : j < C.size := by rw [q3]; exact (List.getElem?_eq_some_iff.1 hx).1
    exact ⟨.inr rfl, C[j], by rw [cell_at q1]; simp [hlt], (toDV_den (q4 j x _ hx (by simp [hlt])) hxc).mono hsub (fun _ _ => rfl)⟩
  have hH' := frzBH_get id ds hp hp' hH
  refine g a w (Inv1.inv (μ := μ) (ok := ok') ⟨hi.defers, hi.size, ⟨hi.heap.mu, hi.heap.fresh, fun q h => .inl (hi.heap.sub q h), fun q hq => ?_, fun q hq => ?_, fun i B hB => ?_, fun i j C D q hC hD hi' hj' => ?_, hi.heap.frame, hi.heap.size, hi.heap.os, hi.heap.tape, hi.heap.output⟩, fun t x hx => ?_⟩)
  · rcases hq with hq | rfl
    · exact hi.heap.lt q hq
    · exact h2
  · rcases hq with hq | rfl
    · exact hi.heap.okNew q hq
    · exact .inr h4
  · obtain ⟨e1, B0, e2, e3⟩ := hH' i B hB
    obtain ⟨q1, q2⟩ | ⟨c, q1, q2, q3, q4, q5⟩ := hi.heap.own i B0 e2
    · refine .inl ⟨?_, q2⟩
      rcases e3 with ⟨cs, rfl, rfl⟩ | rfl
      · exact q1.elim
      · exact q1
    · refine .inr ⟨c, q1, q2, ?_, q4, ?_⟩
      · rintro (hc | rfl)
        · exact q3 hc
        · exact e1 (hi.heap.inj i id B0 _ c e2 hbox q1 h1)
      · rcases e3 with ⟨cs', rfl, rfl⟩ | rfl
        · obtain ⟨C, T, z, r1, r2, r3, r4⟩ := q5
          refine ⟨C, T, z, r1, r2, by simpa using r3, fun j x u hx hu => ?_⟩
          rw [List.getElem?_map] at hx
          cases e : cs'[j]? with
          | none => rw [e] at hx; cases hx
          | some x0 => rw [e] at hx; cases hx; exact frzB_den h1 hsub hd (r4 j x0 u e hu)
        · exact q5.mono (fun _ _ h => h) hsub (fun _ _ => rfl) rfl
  · obtain ⟨_, C0, c1, _⟩ := hH' i C hC
    obtain ⟨_, D0, c2, _⟩ := hH' j D hD
    exact hi.heap.inj i j C0 D0 q c1 c2 hi' hj'
  · obtain ⟨y, q1, rfl⟩ := frzBT_get id ds tm tm' hT t x hx
    exact frzB_den h1 hsub hd (hi.tmps t y q1)

end
end Go.Sy
