/-
  SYMBOLIC STATES, over any program, part 32: a row that is written no more, all of it, wherever it is held.
-/
import Derived.Test.YtmmpblbdjnlciaaSyv
namespace Go.Sy
open Go.RowKit

section
variable {cx : Cx} {P : Program} {fn : Func} {lo : Nat} {T : Tab} {k : List It} {s : St} {tm : List (Nat × SV)} {hp : List (Nat × Blk)} {nx : Nat}
variable {all : Array Oper} {rest : List Oper} {d : Nat} {ty : TypeId} {pos : String} {after : Array Edge}
variable {μ : Nat → Option Nat} {ok : Nat → Prop} {w : World}

def frzF (id : Nat) (ys : List (List DV)) : SV → SV
  | .own i k lo n C => bif Nat.beq i id then .d (.sl k ys) else .own i k lo n C
  | .agg cs => go id ys cs fun l => .agg l
  | .tup cs => go id ys cs fun l => .tup l
  | .fn f a b => go id ys a fun l => go id ys b fun m => .fn f l m
  | x => x
where go (id : Nat) (ys : List (List DV)) : List SV → (List SV → SV) → SV
  | [], k => k []
  | x :: l, k => go id ys l fun m => k (frzF id ys x :: m)

theorem frzF_go (id : Nat) (ys : List (List DV)) (l : List SV) (k : List SV → SV) : frzF.go id ys l k = k (l.map (frzF id ys)) := by
  induction l generalizing k with
  | nil => rfl
  | cons x l ih => simp only [frzF.go, ih, List.map_cons]

def lenF (id m n : Nat) : SV → Prop
  | .own i k lo q _ => i = id → k = m ∧ lo = 0 ∧ q = n
  | .agg cs => go id m n cs
  | .tup cs => go id m n cs
  | .fn _ a b => go id m n a ∧ go id m n b
  | _ => True
where go (id m n : Nat) : List SV → Prop
  | [] => True
  | x :: l => lenF id m n x ∧ go id m n l

theorem lenF_go {id m n : Nat} : ∀ {l : List SV}, lenF.go id m n l → ∀ (j : Nat) c, l[j]? = some c → lenF id m n c
  | [], _, j, c, h => by simp at h
  | x :: l, hl, j, c, h => by
    cases j with
    | zero => cases h; exact hl.1
    | succ j => exact lenF_go hl.2 j c (by simpa using h)

theorem frzF_den {ok' : Nat → Prop} {id m C0 : Nat} {te : TypeId} {fz : Bool} {ys : List (List DV)} (hh : ∀ i B, aget i hp = some B → (B.ghost ∧ μ i = none) ∨ ∃ b, μ i = some b ∧ ¬ ok b ∧ DenB μ ok w b B) (hok : ∀ b, ok b → ok' b)
    (hrow : aget id hp = some (.row te fz m (ys.map (·.map SV.d)) C0)) (hid : ∀ b, μ id = some b → ok' b) {x : SV} {y : Value} (h : Den μ ok w x y) : lenF id m ys.length x → Den μ ok' w (frzF id ys x) y := by
  have keep : ∀ {z : SV} {v : Value}, Den μ ok w z v → Den μ ok' w z v := fun h => h.mono (fun _ _ h => h) hok (fun _ _ => rfl)
  have many : ∀ {cs : List SV} {vs : Array Value}, (∀ (j : Nat) c u, cs[j]? = some c → vs[j]? = some u → lenF id m ys.length c → Den μ ok' w (frzF id ys c) u) → lenF.go id m ys.length cs → ∀ (j : Nat) c u, (cs.map (frzF id ys))[j]? = some c → vs[j]? = some u → Den μ ok' w c u := by
    intro cs vs h hl j c u hc hu
    rw [List.getElem?_map] at hc
    cases e : cs[j]? with
    | none => rw [e] at hc; cases hc
    | some c0 => rw [e] at hc; cases hc; exact h j c0 u e hu (lenF_go hl j c0 e)
  have own : ∀ {i k lo n C : Nat} {v : Value}, Den μ ok w (.own i k lo n C) v → lenF id m ys.length (.own i k lo n C) → Den μ ok' w (frzF id ys (.own i k lo n C)) v := by
    intro i k lo n C v hd hl
    simp only [frzF]
    by_cases e : i = id
    · subst e
      simp only [Nat.beq_refl, cond_true]
      obtain ⟨rfl, rfl, rfl⟩ := hl rfl
      have := Cv.den (lend := [i]) (ok' := ok') hh hok (fun j hj B hB b hb => by simp at hj; subst hj; exact hid b hb) (.own (lo := 0) (n := ys.length) (C := C) hrow (by simp) (by omega)) hd
      rwa [List.drop_zero, List.take_length] at this
    · rw [beq_ne e]
      exact keep hd
  induction h with
  | own h h1 h2 => exact own (.own h h1 h2)
  | ownNil a id k lo => exact own (.ownNil a id k lo)
  | agg vs h h1 ih => intro hl; simp only [frzF, frzF_go]; exact .agg vs (by simpa using h) (many ih hl)
  | tup vs h h1 ih => intro hl; simp only [frzF, frzF_go]; exact .tup vs (by simpa using h) (many ih hl)
  | fn vs us h h1 h2 h3 ih1 ih2 => intro hl; simp only [frzF, frzF_go]; exact .fn vs us (by simpa using h) (many ih1 hl.1) (by simpa using h2) (many ih2 hl.2)
  | d h => exact fun _ => .d (h.mono hok (fun _ _ => rfl))
  | ptr h => exact fun _ => .ptr h
  | pel h => exact fun _ => .pel h
  | ip a h4 => exact fun _ => keep (.ip a h4)
  | lit b => exact fun _ => .lit b

def frzFT (id : Nat) (ys : List (List DV)) : List (Nat × SV) → Option (List (Nat × SV))
  | [] => some []
  | (t, x) :: l => match frzFT id ys l with
    | some r => forceK (frzF id ys x) fun x => some ((t, x) :: r)
    | none => none

theorem frzFT_get (id : Nat) (ys : List (List DV)) : ∀ (l r : List (Nat × SV)), frzFT id ys l = some r → ∀ t x, aget t r = some x → ∃ y, aget t l = some y ∧ x = frzF id ys y := by
  intro l
  induction l with
  | nil => intro r h t x hx; simp [frzFT] at h; subst h; simp [aget] at hx
  | cons p l ih =>
    obtain ⟨u, y⟩ := p
    intro r h t x hx
    simp only [frzFT, forceK_eq] at h
    cases e : frzFT id ys l with
    | none => rw [e] at h; cases h
    | some r1 =>
      rw [e] at h
      cases h
      rw [aget_cons] at hx ⊢
      by_cases ht : t = u
      · rw [if_pos ht] at hx ⊢
        cases hx
        exact ⟨y, rfl, rfl⟩
      · rw [if_neg ht] at hx ⊢
        exact ih r1 e t x hx

def frzFH (id : Nat) (ys : List (List DV)) : List (Nat × Blk) → Option (List (Nat × Blk))
  | [] => some []
  | (i, B) :: l => match frzFH id ys l with
    | some r => bif Nat.beq i id then some r else (match B with
      | .box cs => mapK (frzF id ys) cs fun cs => some ((i, .box cs) :: r)
      | .row e fz k xs C => some ((i, .row e fz k xs C) :: r))
    | none => none

theorem frzFH_get (id : Nat) (ys : List (List DV)) : ∀ (l r : List (Nat × Blk)), frzFH id ys l = some r → ∀ i B, aget i r = some B → i ≠ id ∧ ∃ B0, aget i l = some B0 ∧ ((∃ cs, B0 = .box cs ∧ B = .box (cs.map (frzF id ys))) ∨ B = B0) := by
  intro l
  induction l with
  | nil => intro r h t x hx; simp [frzFH] at h; subst h; simp [aget] at hx
  | cons p l ih =>
    obtain ⟨u, C⟩ := p
    intro r h i B hB
    simp only [frzFH] at h
    cases e : frzFH id ys l with
    | none => rw [e] at h; cases h
    | some r1 =>
      rw [e] at h
      simp only at h
      by_cases hu : u = id
      · subst hu
        simp only [Nat.beq_refl, cond_true, Option.some.injEq] at h
        subst h
        obtain ⟨h1, B0, h2, h3⟩ := ih r1 e i B hB
        exact ⟨h1, B0, by rw [aget_cons, if_neg h1]; exact h2, h3⟩
      · rw [beq_ne hu] at h
        simp only [cond_false] at h
        have key : ∃ C', r = (u, C') :: r1 ∧ ((∃ cs, C = .box cs ∧ C' = .box (cs.map (frzF id ys))) ∨ C' = C) := by
          cases C with
          | box cs => simp only [mapK_eq, Option.some.injEq] at h; exact ⟨_, h.symm, .inl ⟨cs, rfl, rfl⟩⟩
          | row e fz k xs C => simp only [Option.some.injEq] at h; exact ⟨_, h.symm, .inr rfl⟩
        obtain ⟨C', rfl, hC⟩ := key
        rw [aget_cons] at hB
        by_cases hi : i = u
        · rw [if_pos hi] at hB
          cases hB
          subst hi
          exact ⟨hu, C, by rw [aget_cons, if_pos rfl], hC⟩
        · rw [if_neg hi] at hB
          obtain ⟨h1, B0, h2, h3⟩ := ih r1 e i B hB
          exact ⟨h1, B0, by rw [aget_cons, if_neg hi]; exact h2, h3⟩

def lenFT (id m n : Nat) : List (Nat × SV) → Prop
  | [] => True
  | (_, x) :: l => lenF id m n x ∧ lenFT id m n l
def lenFH (id m n : Nat) : List (Nat × Blk) → Prop
  | [] => True
  | (_, .box cs) :: l => lenF.go id m n cs ∧ lenFH id m n l
  | _ :: l => lenFH id m n l

theorem lenFT_get {id m n : Nat} : ∀ {l : List (Nat × SV)}, lenFT id m n l → ∀ t x, aget t l = some x → lenF id m n x
  | [], _, t, x, h => by simp [aget] at h
  | (u, y) :: l, hl, t, x, h => by
    rw [aget_cons] at h
    by_cases e : t = u
    · rw [if_pos e] at h; cases h; exact hl.1
    · rw [if_neg e] at h; exact lenFT_get hl.2 t x h
theorem lenFH_get {id m n : Nat} : ∀ {l : List (Nat × Blk)}, lenFH id m n l → ∀ t cs, aget t l = some (.box cs) → lenF.go id m n cs
  | [], _, t, x, h => by simp [aget] at h
  | (u, y) :: l, hl, t, x, h => by
    rw [aget_cons] at h
    by_cases e : t = u
    · rw [if_pos e] at h; cases h; exact hl.1
    · rw [if_neg e] at h
      refine lenFH_get (l := l) ?_ t x h
      cases y with
      | box cs => exact hl.2
      | row _ _ _ _ _ => exact hl

/-- The row is from here on only read, wherever it is held. -/
theorem AWP.freezeF {id m C : Nat} {te : TypeId} {fz : Bool} {xs : List (List SV)} (ys : List (List DV)) (hrow : aget id hp = some (.row te fz m xs C)) (hxs : xs = ys.map (·.map SV.d)) {tm' : List (Nat × SV)} {hp' : List (Nat × Blk)} (hT : frzFT id ys tm = some tm') (hH : frzFH id ys hp = some hp')
    (hl1 : lenFT id m ys.length tm) (hl2 : lenFH id m ys.length hp) (g : AWP cx k ⟨tm', hp', nx⟩) : AWP cx k ⟨tm, hp, nx⟩ := fun a w hi => by
  subst hxs
  obtain ⟨μ, ok, hi⟩ := hi.one
  let ok' : Nat → Prop := fun b => ok b ∨ μ id = some b
  have hsub : ∀ b, ok b → ok' b := fun b h => .inl h
  have hid := hi.heap.own id _ hrow
  have hH' := frzFH_get id ys hp hp' hH
  have hden : ∀ {x : SV} {y : Value}, Den μ ok w x y → lenF id m ys.length x → Den μ ok' w (frzF id ys x) y := fun h hl => frzF_den hi.hh hsub hrow (fun b hb => .inr hb) h hl
  refine g a w (Inv1.inv (μ := μ) (ok := ok') ⟨hi.defers, hi.size, ⟨hi.heap.mu, hi.heap.fresh, fun b h => .inl (hi.heap.sub b h), fun b hb => ?_, fun b hb => ?_, fun i B hB => ?_, fun i j C D q hC hD hi' hj' => ?_, hi.heap.frame, hi.heap.size, hi.heap.os, hi.heap.tape, hi.heap.output⟩, fun t x hx => ?_⟩)
  · rcases hb with hb | hb
    · exact hi.heap.lt b hb
    · obtain ⟨_, hn⟩ | ⟨b', h1, h2, _⟩ := hid
      · rw [hn] at hb; cases hb
      · rw [hb] at h1; cases h1; exact h2
  · rcases hb with hb | hb
    · exact hi.heap.okNew b hb
    · obtain ⟨_, hn⟩ | ⟨b', h1, _, _, h4, _⟩ := hid
      · rw [hn] at hb; cases hb
      · rw [hb] at h1; cases h1; exact .inr h4
  · obtain ⟨e1, B0, e2, e3⟩ := hH' i B hB
    obtain ⟨q1, q2⟩ | ⟨c, q1, q2, q3, q4, q5⟩ := hi.heap.own i B0 e2
    · refine .inl ⟨?_, q2⟩
      rcases e3 with ⟨cs, rfl, rfl⟩ | rfl
      · exact q1.elim
      · exact q1
    · refine .inr ⟨c, q1, q2, ?_, q4, ?_⟩
      · rintro (hc | hc)
        · exact q3 hc
        · exact e1 (hi.heap.inj i id B0 _ c e2 hrow q1 hc)
      · rcases e3 with ⟨cs', rfl, rfl⟩ | rfl
        · obtain ⟨C, T, z, r1, r2, r3, r4⟩ := q5
          refine ⟨C, T, z, r1, r2, by simpa using r3, fun j x u hx hu => ?_⟩
          rw [List.getElem?_map] at hx
          cases e : cs'[j]? with
          | none => rw [e] at hx; cases hx
          | some x0 => rw [e] at hx; cases hx; exact hden (r4 j x0 u e hu) (lenF_go (lenFH_get hl2 i cs' e2) j x0 e)
        · exact q5.mono (fun _ _ h => h) hsub (fun _ _ => rfl) rfl
  · obtain ⟨_, C0, c1, _⟩ := hH' i C hC
    obtain ⟨_, D0, c2, _⟩ := hH' j D hD
    exact hi.heap.inj i j C0 D0 q c1 c2 hi' hj'
  · obtain ⟨y, q1, rfl⟩ := frzFT_get id ys tm tm' hT t x hx
    exact hden (hi.tmps t y q1) (lenFT_get hl1 t y q1)

end
end Go.Sy
