/-
  SYMBOLIC STATES, over any program, part 10: loops, ends, contracts, calls.
-/
import Derived.Test.YtmmpblbdjnlciaaSy9
namespace Go.Sy
open Go.RowKit

section
variable {cx : Cx} {P : Program} {fn : Func} {lo : Nat} {T : Tab} {k : List It} {s : St} {tm : List (Nat × SV)} {hp : List (Nat × Blk)} {nx : Nat}

theorem exists_min (p : Nat → Prop) : ∀ n, p n → ∃ n, p n ∧ ∀ m, p m → n ≤ m := by
  intro n
  induction n using Nat.strongRecOn with
  | _ n ih =>
    intro h
    by_cases hm : ∃ m, m < n ∧ p m
    · obtain ⟨m, h1, h2⟩ := hm
      exact ih m h1 h2
    · exact ⟨n, h, fun m hp => Nat.le_of_not_lt fun hlt => hm ⟨m, hlt, hp⟩⟩

/-- A LOOP: a family of states, a measure, one round from any of them. -/
theorem AWP.loop {ι : Type} (S : ι → St) (I : ι → Prop) (m : ι → Nat) (i0 : ι) (hI : I i0) {c : Code}
    (start : AWP cx (.code (.loop c) :: k) (S i0) → AWP cx (.code (.loop c) :: k) s)
    (round : ∀ i Φ, I i → (∀ j, I j → m j < m i → AWP cx (.inv Φ :: k) (S j)) → AWP cx (.code c :: .inv Φ :: k) (S i)) : AWP cx (.code (.loop c) :: k) s := by
  refine start fun a w hi => ?_
  let good : Act → World → Nat → Prop := fun a w n => ∃ i, I i ∧ m i = n ∧ Inv cx (S i) a w
  show (Code.loop c).wp cx.P (K cx.P cx.R k) a w
  have hex : ∃ n, good a w n := ⟨_, i0, hI, rfl, hi⟩
  have hmin : ∀ a w, (∃ n, good a w n) → ∃ n, good a w n ∧ ∀ m, good a w m → n ≤ m := fun a w ⟨n, h⟩ => exists_min _ n h
  classical
  let μ : Act → World → Nat := fun a w => if h : ∃ n, good a w n then Classical.choose (hmin a w h) else 0
  have hspec : ∀ a w (h : ∃ n, good a w n), good a w (μ a w) ∧ ∀ m, good a w m → μ a w ≤ m := by
    intro a w h
    simp only [μ, dif_pos h]
    exact Classical.choose_spec (hmin a w h)
  refine wp_loop (fun a w => ∃ n, good a w n) μ hex fun a w hg => ?_
  obtain ⟨⟨i, hi1, hi2, hi3⟩, _⟩ := hspec a w hg
  have := round i (fun a' w' => (∃ n, good a' w' n) ∧ μ a' w' < μ a w) hi1 (fun j hj hlt a' w' hinv => by
    have h1 : good a' w' (m j) := ⟨j, hj, rfl, hinv⟩
    refine ⟨⟨_, h1⟩, ?_⟩
    have h3 : μ a' w' ≤ m j := (hspec a' w' ⟨_, h1⟩).2 _ h1
    omega)
  have h := this a w hi3
  refine Code.wp_mono (fun e a' w' q => ?_) h
  cases e <;> exact q

/-! ### Ends -/
def aresults (T : Tab) (s : St) : List ResultVar → Option (List SV)
  | [] => some []
  | .tmp t :: l => match aget t s.tmps, aresults T s l with
    | some x, some r => some (strip x :: r)
    | _, _ => none
  | .cell a t :: l => match aget a s.tmps with
    | some p => match evLoad T s t p, aresults T s l with
      | .val x _, some r => some (x :: r)
      | _, _ => none
    | none => none

def aret (T : Tab) (s : St) (rs : List ResultVar) : Option SV :=
  match aresults T s rs with
  | some [x] => some x
  | some r => some (.tup r)
  | none => none

theorem evLoad_val {t : TypeId} {p x : SV} {q : Prop} (h : evLoad T s t p = .val x q) : q := by
  unfold evLoad at h
  split at h
  · split at h
    · split at h
      · rcases part1_spec _ _ _ _ with e | ⟨_, _, e⟩ | ⟨_, _, _, e⟩ <;> rw [e] at h <;> cases h <;> trivial
      · cases h
    · rw [mapK_eq] at h
      rcases part1_spec _ _ _ _ with e | ⟨_, _, e⟩ | ⟨_, _, _, e⟩ <;> rw [e] at h <;> cases h <;> trivial
    · cases h
  · cases h

theorem aresults_ok (hT : TabOk cx.P T) {μ : Nat → Option Nat} {ok : Nat → Prop} {a : Act} {w : World} (hi : Inv1 cx μ ok s a w) : ∀ (rs : List ResultVar) (l : List SV), aresults T s rs = some l →
    ∃ vs : List Value, (rs.mapM (m := Sem) fun | .tmp t => pure (a.tmps.getD t undef) | .cell ad t => do loadVar t (← asAddr (a.tmps.getD ad undef))).run cx.P w = .ok vs w ∧ vs.length = l.length ∧ ∀ (j : Nat) c u, l[j]? = some c → vs[j]? = some u → Den μ ok w c u
  | [], l, h => by
    simp only [aresults, Option.some.injEq] at h
    subst h
    exact ⟨[], rfl, rfl, by simp⟩
  | r :: rs, l, h => by
    cases r with
    | tmp t =>
      simp only [aresults] at h
      split at h
      · rename_i x l' hx hl
        cases h
        obtain ⟨vs, h1, h2, h3⟩ := aresults_ok hT hi rs l' hl
        refine ⟨a.tmps.getD t undef :: vs, ?_, by simp [h2], fun j c u hc hu => ?_⟩
        · simp only [List.mapM_cons, Sem.run_bind, Sem.run_pure, Result.andThen_ok, h1]
        · cases j with
          | zero => cases hc; cases hu; exact strip_den (hi.tmps t x hx)
          | succ j => exact h3 j c u (by simpa using hc) (by simpa using hu)
      · cases h
    | cell ad t =>
      simp only [aresults] at h
      split at h
      · rename_i p hp
        split at h
        · rename_i x q l' hx hl
          cases h
          obtain ⟨vs, h1, h2, h3⟩ := aresults_ok hT hi rs l' hl
          have h4 := evLoad_ok hT hi.hh t p _ (hi.tmps ad p hp)
          rw [hx] at h4
          obtain ⟨y, h5, h6⟩ := h4 (evLoad_val hx)
          have h7 : (do loadVar t (← asAddr (a.tmps.getD ad undef)) : Sem Value).run cx.P w = .ok y w := by
            have hd := hi.tmps ad p hp
            simp only [Instr.loadAt, Sem.run_bind] at h5
            simp only [Sem.run_bind]
            generalize a.tmps.getD ad undef = z at hd h5
            cases z with
            | pointer o =>
              cases o with
              | none => simp [Instr.sureAddr] at h5
              | some b => simpa [Instr.sureAddr, asAddr] using h5
            | _ => simp [Instr.sureAddr] at h5
          refine ⟨y :: vs, ?_, by simp [h2], fun j c u hc hu => ?_⟩
          · simp only [List.mapM_cons, Sem.run_bind] at h7 ⊢
            rw [h7]
            simp only [Result.andThen_ok, h1, Sem.run_pure]
          · cases j with
            | zero => cases hc; cases hu; exact h6
            | succ j => exact h3 j c u (by simpa using hc) (by simpa using hu)
        · cases h
      · cases h

theorem aret_ok (hT : TabOk cx.P T) {μ : Nat → Option Nat} {ok : Nat → Prop} {a : Act} {w : World} (hi : Inv1 cx μ ok s a w) {fn : Func} {r : SV} (h : aret T s fn.results.toList = some r) :
    ∃ y, (results fn a.tmps).run cx.P w = .ok y w ∧ Den μ ok w r y := by
  unfold aret at h
  have key : ∀ l, aresults T s fn.results.toList = some l → ∃ vs : List Value, (results fn a.tmps).run cx.P w = .ok (if h : vs.toArray.size = 1 then vs.toArray[0] else .tuple vs.toArray) w ∧ vs.length = l.length ∧ ∀ (j : Nat) c u, l[j]? = some c → vs[j]? = some u → Den μ ok w c u := by
    intro l hl
    obtain ⟨vs, h1, h2, h3⟩ := aresults_ok hT hi _ l hl
    refine ⟨vs, ?_, h2, h3⟩
    simp only [results, Sem.run_bind]
    rw [Array.mapM_eq_mapM_toList, Sem.run_map]
    refine (congrArg (fun r => (Result.andThen (Result.andThen r _) _)) h1).trans ?_
    rfl
  split at h
  · rename_i x hl
    cases h
    obtain ⟨vs, h1, h2, h3⟩ := key _ hl
    match vs, h2 with
    | [v], _ => exact ⟨v, h1, h3 0 r v rfl rfl⟩
  · rename_i l hne hl
    cases h
    obtain ⟨vs, h1, h2, h3⟩ := key _ hl
    have hn : ¬ vs.toArray.size = 1 := by
      intro e
      have e2 : l.length = 1 := by simp at e; omega
      match l, hne, e2 with
      | [x], hne, _ => exact hne x rfl
    rw [dif_neg hn] at h1
    exact ⟨_, h1, .tup _ (by simp [h2]) fun j c u hc hu => h3 j c u hc (by simpa using hu)⟩
  · cases h

theorem AWP.ret (e : Env cx P fn lo) (hT : TabOk P T) {r : SV} (h : aret T ⟨tm, hp, nx⟩ fn.results.toList = some r) (hp' : cx.Post r hp nx) : AWP cx (.code .ret :: k) ⟨tm, hp, nx⟩ := fun a w hi => by
  obtain ⟨rfl, rfl, _⟩ := e
  obtain ⟨μ, ok, hi⟩ := hi.one
  obtain ⟨y, h1, h2⟩ := aret_ok hT hi h
  exact wp_ret (K_ret _ _ _ _ _ ⟨.inr rfl, hi.defers, μ, ok, r, hp, nx, y, hi.heap, h1, h2, hp'⟩)

theorem AWP.fin (e : Env cx P fn lo) (hT : TabOk P T) {r : SV} (h : aret T ⟨tm, hp, nx⟩ fn.results.toList = some r) (hp' : cx.Post r hp nx) : AWP cx [] ⟨tm, hp, nx⟩ := fun a w hi => by
  obtain ⟨rfl, rfl, _⟩ := e
  obtain ⟨μ, ok, hi⟩ := hi.one
  obtain ⟨y, h1, h2⟩ := aret_ok hT hi h
  exact ⟨.inl rfl, hi.defers, μ, ok, r, hp, nx, y, hi.heap, h1, h2, hp'⟩

/-! ### Contracts -/
def argT : Nat → List SV → List (Nat × SV)
  | _, [] => []
  | n, x :: l => (n, x) :: argT (n + 1) l

theorem argT_get (l : List SV) : ∀ (n t : Nat) (x : SV), aget t (argT n l) = some x → n ≤ t ∧ l[t - n]? = some x := by
  induction l with
  | nil => intro n t x h; simp [argT, aget] at h
  | cons y l ih =>
    intro n t x h
    simp only [argT, aget_cons] at h
    by_cases e : t = n
    · rw [if_pos e] at h
      cases h
      subst e
      exact ⟨Nat.le_refl _, by simp⟩
    · rw [if_neg e] at h
      obtain ⟨h1, h2⟩ := ih (n + 1) t x h
      refine ⟨by omega, ?_⟩
      have : t - n = (t - (n + 1)) + 1 := by omega
      rw [this, List.getElem?_cons_succ]
      exact h2

/-- Where a call of f ends, from any world in which the arguments are such, and the blocks pre may be written. -/
def Eff (P : Program) (f : FuncId) (args : List SV) (pre : List (Nat × Blk)) (n : Nat) (Post : SV → List (Nat × Blk) → Nat → Prop) : Prop :=
  (∀ (vs : Array Value) (w : World), (callFunc f vs).run P w = .ok (.enter f vs) w) ∧
  ∀ (cx : Cx) (vs : Array Value), cx.P = P → (∀ b, cx.F b ↔ ∃ i B, aget i pre = some B ∧ cx.μ0 i = some b) → HInv cx cx.μ0 cx.ok0 pre n cx.w0 → vs.size = args.length →
    (∀ (j : Nat) c u, args[j]? = some c → vs[j]? = some u → Den cx.μ0 cx.ok0 cx.w0 c u) →
    Calls P f vs cx.w0 fun e w' => ∃ v μ ok r h n', e = .returned v ∧ HInv cx μ ok h n' w' ∧ Den μ ok w' r v ∧ Post r h n'

theorem enters {f : FuncId} {fn : Func} (hf : P.funcs[f]? = some fn) (hn : (fn.name == "runtime.NumGoroutine") = false) (hb : fn.body.isNone = false) (vs : Array Value) (w : World) : (callFunc f vs).run P w = .ok (.enter f vs) w := by
  simp only [callFunc, Sem.run_bind, run_program, Result.andThen_ok, hf, hn, hb, Bool.false_eq_true, if_false]
  rfl

theorem eff_of {f : FuncId} {args : List SV} {pre : List (Nat × Blk)} {n : Nat} {Post : SV → List (Nat × Blk) → Nat → Prop} {c : Code} (hf : P.funcs[f]? = some fn) (hn : (fn.name == "runtime.NumGoroutine") = false) (hb : fn.body = some c)
    (hl : Nat.ble (lenK args) fn.ntmps = true) (h : ∀ cx, Env cx P fn n → cx.Post = Post → AWP cx [.code c] ⟨argT 0 args, pre, n⟩) : Eff P f args pre n Post := by
  refine ⟨enters hf hn (by rw [hb]; rfl), fun cx vs hP hF hH hs hd => ?_⟩
  let cx' : Cx := { cx with fn := fn, Post := Post }
  have hH' : HInv cx' cx'.μ0 cx'.ok0 pre n cx'.w0 := ⟨hH.mu, hH.fresh, hH.sub, hH.lt, hH.okNew, hH.own, hH.inj, hH.frame, hH.size, hH.os, hH.tape, hH.output⟩
  have e : Env cx' P fn n := ⟨hP, rfl, fun i b hi => by
    rcases Nat.lt_or_ge i n with h | h
    · exact h
    · rw [hH.fresh i h] at hi; cases hi⟩
  have hl := Nat.le_of_ble_eq_true hl
  rw [lenK_eq] at hl
  have hw := h cx' e rfl { tmps := vs ++ Array.replicate (fn.ntmps - vs.size) undef, defers := [] } cx.w0
    ⟨rfl, by show _ = fn.ntmps; simp; omega, cx.μ0, cx.ok0, hH', fun t x hx => by
      obtain ⟨_, h2⟩ := argT_get args 0 t x hx
      rw [Nat.sub_zero] at h2
      have hlt : t < vs.size := by have := (List.getElem?_eq_some_iff.1 h2).1; omega
      have := hd t x vs[t] h2 (by simp [hlt])
      have e2 : (vs ++ Array.replicate (fn.ntmps - vs.size) undef).getD t undef = vs[t] := by
        rw [Array.getD_eq_getD_getElem?, Array.getElem?_append_left hlt]
        simp [hlt]
      rw [e2]
      exact this⟩
  refine calls_of_wp hf hb ?_
  have hw' : c.wp P (K P cx'.R []) { tmps := vs ++ Array.replicate (fn.ntmps - vs.size) undef, defers := [] } cx.w0 := by
    have h1 : c.wp cx'.P (K cx'.P cx'.R []) { tmps := vs ++ Array.replicate (fn.ntmps - vs.size) undef, defers := [] } cx.w0 := hw
    rw [e.P] at h1
    exact h1
  refine Code.wp_mono (fun e a w q => ?_) hw'
  have q' : cx'.R e a w := q
  obtain ⟨he, hdf, μ, ok, r, hh, n', y, g1, g2, g3, g4⟩ := q'
  have g2 : (results fn a.tmps).run P w = .ok y w := by
    have : (results fn a.tmps).run cx'.P w = .ok y w := g2
    rw [show cx'.P = P from hP] at this
    exact this
  have g1' : HInv cx μ ok hh n' w := ⟨g1.mu, g1.fresh, g1.sub, g1.lt, g1.okNew, g1.own, g1.inj, g1.frame, g1.size, g1.os, g1.tape, g1.output⟩
  rcases he with rfl | rfl
  · exact ⟨hdf, y, g2, y, μ, ok, r, hh, n', rfl, g1', g3, g4⟩
  · exact ⟨hdf, y, g2, y, μ, ok, r, hh, n', rfl, g1', g3, g4⟩

end
end Go.Sy
