/-
  SYMBOLIC STATES, over any program, part 4: 'ev' tells the truth.
-/
import Derived.Test.YtmmpblbdjnlciaaSy3
namespace Go.Sy
open Go.RowKit

section
variable {P : Program} {T : Tab} {μ : Nat → Option Nat} {ok : Nat → Prop} {s : St} {a : Act} {w : World}

def VOk (P : Program) (μ : Nat → Option Nat) (ok : Nat → Prop) (w : World) (m : Sem Value) : EvR → Prop
  | .val x p => p → ∃ y, m.run P w = .ok y w ∧ Den μ ok w x y
  | .stop => True
  | _ => False

theorem VOk.lit {m : Sem Value} {x : Value} {p : Prop} (h : p → m.run P w = .ok x w) : VOk P μ ok w m (.val (.d (.v x)) p) := fun hp => ⟨x, h hp, .d (.v x)⟩

theorem cstCell_den (x : Value) : Den μ ok w (cstCell x) x := by
  unfold cstCell
  split
  · exact .d .nil
  · split
    · rename_i h1 h2
      obtain ⟨l⟩ := ‹Array Value›
      obtain ⟨m⟩ := ‹Array Value›
      simp at h1 h2
      subst h1 h2
      exact .fn #[] #[] rfl (by simp) rfl (by simp)
    · exact .d (.v _)
  · exact .d (.v _)

theorem sd_den {x : DV} {y : Value} (h : DDen ok w x y) : Den μ ok w (sd x) y := by
  unfold sd
  split
  · cases h; exact cstCell_den _
  · exact .d h

theorem cst_den (x : Value) : Den μ ok w (cst x) x := by
  unfold cst
  split
  · rename_i cs
    rw [mapK_eq]
    refine .agg cs (by simp) fun j c u hc hu => ?_
    rw [List.getElem?_map, Array.getElem?_toList, hu] at hc
    simp at hc
    subst hc
    exact cstCell_den u
  · exact cstCell_den _

theorem strip_den {x : SV} {y : Value} (h : Den μ ok w x y) : Den μ ok w (strip x) y := by
  unfold strip
  split
  · cases h; exact .d (.v _)
  · exact h

theorem opd_den (hd : ∀ t x, aget t s.tmps = some x → Den μ ok w x (a.tmps.getD t undef)) {x : Operand} {v : SV} (h : opd s x = some v) : Den μ ok w v (a.eval x) := by
  cases x with
  | tmp t =>
    simp only [opd] at h
    cases e : aget t s.tmps with
    | none => rw [e] at h; cases h
    | some y =>
      rw [e] at h
      cases h
      exact strip_den (hd t y e)
  | const c => simp only [opd, Option.some.injEq] at h; subst h; exact cst_den c
  | global g => simp [opd] at h
  | func f => simp only [opd, Option.some.injEq] at h; subst h; exact .fn #[] #[] rfl (by simp) rfl (by simp)

theorem opdR_den (hd : ∀ t x, aget t s.tmps = some x → Den μ ok w x (a.tmps.getD t undef)) {x : Operand} {v : SV} (h : opdR s x = some v) : Den μ ok w v (a.eval x) := by
  unfold opdR at h
  split at h
  · exact hd _ v h
  · cases h; exact .lit _
  · exact opd_den hd h

/-! inversion -/
theorem Den.int {k : IntKind} {n : Int} {y : Value} (h : Den μ ok w (.d (.v (.int k n))) y) : y = .int k n := by
  cases h with | d h => cases h; rfl
theorem Den.vv {x y : Value} (h : Den μ ok w (.d (.v x)) y) : y = x := by
  cases h with | d h => cases h; rfl
theorem Den.nil' {y : Value} (h : Den μ ok w (.d .nil) y) : y = .slice none 0 0 := by
  cases h with | d h => cases h; rfl

theorem run_eqGuard_none (op : BinOp) (t : TypeId) (x y : Operand) (u v : Value) (hu : ∀ cs, u ≠ .agg cs) (hn : u ≠ .nilIface) : (eqGuard op t x y u v).run P w = .ok () w := by
  unfold eqGuard
  cases op <;> (simp only [Bool.not_true, Bool.not_false, if_true, Bool.false_eq_true, if_false]; first | rfl | (split <;> first | exact absurd rfl hn | exact absurd rfl (hu _) | rfl))

theorem evShift_ok (op : BinOp) (t : TypeId) (k k' : IntKind) (x y : Int) (hk : isShift op = true) : VOk P μ ok w (binOp op t (.int k x) (.int k' y)) (evInt op k x y) := by
  cases op <;> first | (cases hk; done) | skip
  all_goals
    refine fun hp => ⟨_, ?_, .d (.v _)⟩
    simp only [binOp, Op.shift, if_neg (Int.not_lt.2 hp), Sem.run_pure]

theorem evInt_ok (op : BinOp) (t : TypeId) (k k' : IntKind) (x y : Int) (hk : k = k') : VOk P μ ok w (binOp op t (.int k x) (.int k' y)) (evInt op k x y) := by
  subst hk
  cases op <;> simp only [evInt]
  all_goals first
    | (cases k <;> first
        | (refine fun hp => ⟨_, ?_, .d (.v _)⟩; simp only [binOp, ne_eq, not_true_eq_false, if_false, Op.intArith, Sem.run_pure, IntWalk.i64_in _ hp]; done)
        | (refine fun hp => ⟨_, ?_, .d (.v _)⟩; simp only [binOp, ne_eq, not_true_eq_false, if_false, Op.intArith, Sem.run_pure]; done)
        | (refine fun hp => ⟨_, ?_, .d (.v _)⟩; simp only [binOp, ne_eq, not_true_eq_false, if_false, Op.intDiv, if_neg hp.1, Sem.run_pure, IntWalk.i64_in _ hp.2]; done)
        | (refine fun hp => ⟨_, ?_, .d (.v _)⟩; simp only [binOp, ne_eq, not_true_eq_false, if_false, Op.intDiv, if_neg hp, Sem.run_pure]; done))
    | (refine fun hp => ⟨_, ?_, .d (.v _)⟩; simp only [binOp, ne_eq, not_true_eq_false, if_false, Op.intDiv, if_neg hp, Sem.run_pure]; done)
    | (refine fun hp => ⟨_, ?_, .d (.v _)⟩; simp only [binOp, ne_eq, not_true_eq_false, if_false, Op.intBits, Sem.run_pure]; done)
    | (refine fun hp => ⟨_, ?_, .d (.v _)⟩; simp only [binOp, ne_eq, not_true_eq_false, if_false, Op.intCmp, Sem.run_pure]; done)
    | (refine fun hp => ⟨_, ?_, .d (.v _)⟩; simp only [binOp, Op.shift, if_neg (Int.not_lt.2 hp), Sem.run_pure]; done)

theorem evStr_ok (op : BinOp) (t : TypeId) (x y : ByteArray) : VOk P μ ok w (binOp op t (.string x) (.string y)) (evStr op x y) := by
  cases op <;> simp only [evStr] <;> first | trivial | skip
  · refine fun hp => ⟨_, ?_, .d (.v _)⟩
    have h : ¬ ((x.size + y.size : Nat) : Int) > IntKind.i64.max := by
      have : IntKind.i64.max = 9223372036854775807 := by decide
      rw [this]; omega
    simp only [binOp, Op.stringOp, if_neg h, Sem.run_pure]
  all_goals
    refine fun hp => ⟨_, ?_, .d (.v _)⟩
    simp only [binOp, Op.stringOp, Sem.run_pure]

theorem slOf {k : Nat} {xs : List (List DV)} {y : Value} (h : DDen ok w (.sl k xs) y) : (xs = [] ∧ y = .slice none 0 0) ∨
    ∃ a cap, y = .slice (some a) xs.length cap ∧ xs.length ≤ cap ∧ cap ≤ maxLen ∧ (∀ (i : Nat) (e : List DV), xs[i]? = some e → e.length = k) ∧
      (∀ (i : Nat) (e : List DV) (j : Nat) (c : DV), xs[i]? = some e → e[j]? = some c → ok a.block ∧ ∃ u, w.cell? (a.add (i * k + j)) = some u ∧ DDen ok w c u) := by
  cases h with
  | slNil => exact .inl ⟨rfl, rfl⟩
  | sl _ _ a cap h1 h2 h3 h4 h5 =>
    refine .inr ⟨a, cap, rfl, h1, h2, h3, fun i e j c he hj => ?_⟩
    obtain ⟨ho, u, hu⟩ := h4 i e j c he hj
    exact ⟨ho, u, hu, h5 i e j c u he hj hu⟩

theorem kn_inj {k k' : IntKind} (h : Nat.beq (kn k) (kn k') = true) : k = k' := by
  cases k <;> cases k' <;> first | rfl | cases h

theorem evBin_ok (hT : TabOk P T) (op : BinOp) (t : TypeId) (x y : SV) (u v : Value) (hx : Den μ ok w x u) (hy : Den μ ok w y v) (p q : Operand) :
    VOk P μ ok w (do eqGuard op t p q u v; binOp op t u v) (evBin T op t x y) := by
  have key : ∀ r, VOk P μ ok w (binOp op t u v) r → (∀ cs, u ≠ .agg cs) → u ≠ .nilIface → VOk P μ ok w (do eqGuard op t p q u v; binOp op t u v) r := by
    intro r hr h1 h2
    cases r with
    | val x p =>
      intro hp
      obtain ⟨y, h3, h4⟩ := hr hp
      exact ⟨y, by rw [Sem.run_bind, run_eqGuard_none _ _ _ _ _ _ h1 h2]; exact h3, h4⟩
    | _ => exact hr
  unfold evBin
  split
  · rename_i k a k' b
    obtain rfl := hx.int
    obtain rfl := hy.int
    refine key _ ?_ (by simp) (by simp)
    cases h1 : (isShift op || Nat.beq (kn k) (kn k'))
    · trivial
    · simp only [Bool.or_eq_true] at h1
      rcases h1 with h1 | h1
      · exact evShift_ok _ _ _ _ _ _ h1
      · exact evInt_ok _ _ _ _ _ _ (kn_inj h1)
  · obtain rfl := hx.vv
    obtain rfl := hy.vv
    exact key _ (evStr_ok _ _ _ _) (by simp) (by simp)
  · obtain rfl := hx.vv
    obtain rfl := hy.vv
    refine key _ ?_ (by simp) (by simp)
    split
    · rename_i ht
      have hb : P.underlying t = some .bool := (hT _ _ ht).td
      split
      · exact VOk.lit fun _ => by simp [binOp, Op.equal, Op.maxDepth, run_equalIn_bool' w _ _ _ _ hb]
      · exact VOk.lit fun _ => by simp [binOp, Op.equal, Op.maxDepth, run_equalIn_bool' w _ _ _ _ hb]
      · trivial
    · trivial
  · obtain rfl := hy.nil'
    split
    · rename_i e _ _ _ ht
      have hb : P.underlying t = some (.slice e) := (hT _ _ ht).td
      split
      · obtain rfl := hx.nil'
        refine key _ ?_ (by simp) (by simp)
        split
        · exact VOk.lit fun _ => by simp [Lib.run_eql_slice_nil w _ _ none 0 0 0 0 hb]
        · exact VOk.lit fun _ => by simp [run_neq_slice_nil_any w _ _ none 0 0 0 0 hb]
        · trivial
      · cases hx with | d hx =>
        rcases slOf hx with ⟨rfl, rfl⟩ | ⟨a, cap, rfl, _⟩
        · refine key _ ?_ (by simp) (by simp)
          split
          · exact fun h => absurd rfl h
          · exact fun h => absurd rfl h
          · trivial
        · refine key _ ?_ (by simp) (by simp)
          split
          · exact VOk.lit fun _ => by simp [Lib.run_eql_slice_nil w _ _ (some a) _ _ 0 0 hb]
          · exact VOk.lit fun _ => by simp [run_neq_slice_nil_any w _ _ (some a) _ _ 0 0 hb]
          · trivial
      · cases hx with
        | own h h1 h2 =>
          refine key _ ?_ (by simp) (by simp)
          split
          · exact VOk.lit fun _ => by simp [Lib.run_eql_slice_nil w _ _ (some _) _ _ 0 0 hb]
          · exact VOk.lit fun _ => by simp [run_neq_slice_nil_any w _ _ (some _) _ _ 0 0 hb]
          · trivial
        | ownNil _ _ _ _ =>
          refine key _ ?_ (by simp) (by simp)
          split
          · exact fun h => absurd rfl h
          · exact fun h => absurd rfl h
          · trivial
      · trivial
    · trivial
  · trivial

theorem evUn_ok (op : UnOp) (x : SV) (u : Value) (hx : Den μ ok w x u) : VOk P μ ok w (Op.unary op u) (evUn op x) := by
  unfold evUn
  split
  · rename_i k n
    obtain rfl := hx.int
    have := evInt_ok (P := P) (μ := μ) (ok := ok) (w := w) .sub 0 k k 0 n rfl
    simpa only [binOp, Op.unary, ne_eq, not_true_eq_false, if_false] using this
  · rename_i k n
    obtain rfl := hx.int
    have := evInt_ok (P := P) (μ := μ) (ok := ok) (w := w) .xor 0 k k (if k.signed then -1 else k.max) n rfl
    simpa only [binOp, Op.unary, ne_eq, not_true_eq_false, if_false] using this
  · obtain rfl := hx.vv
    exact VOk.lit fun _ => by simp [Op.unary]
  · trivial

theorem TyOk.und {t : TypeId} {y : Ty} (h : TyOk P t y) : ∃ D, P.underlying t = some D := by
  have := h.td
  cases e : y.td <;> rw [e] at this <;> simp only at this
  all_goals first
    | exact ⟨_, this⟩
    | (obtain ⟨F, hF, _⟩ := this; exact ⟨_, hF⟩)

theorem evConv_ok (hT : TabOk P T) (src dst : TypeId) (x : SV) (u : Value) (hx : Den μ ok w x u) : VOk P μ ok w (convert src dst u) (evConv T src dst x) := by
  unfold evConv
  split
  · trivial
  · rename_i y1 h1
    obtain ⟨D, hD⟩ := (hT _ _ h1).und
    split
    · rename_i k _ _ _ _ a ht
      have hb : P.underlying dst = some (.int k) := (hT _ _ ht).td
      obtain rfl := hx.int
      have e : ∀ n k', (convert src dst (.int k' n)).run P w = .ok (.int k (k.wrap n)) w := fun n k' => by
        simp only [convert, Sem.run_bind, run_underlying hD, run_underlying hb, Result.andThen_ok]
        cases D <;> simp [Conv.intToInt]
      split
      · refine fun hp => ⟨_, e _ _, ?_⟩
        rw [IntWalk.i64_in _ hp]
        exact .d (.v _)
      · exact VOk.lit fun _ => e _ _
    · rename_i ht
      have hb : P.underlying dst = some .string := (hT _ _ ht).td
      obtain rfl := hx.vv
      exact VOk.lit fun _ => by
        simp only [convert, Sem.run_bind, run_underlying hD, run_underlying hb, Result.andThen_ok]
        cases D <;> simp
    · trivial

/-! slicing -/
def IsI (o : Option Value) (l : Option Int) : Prop := (o = none ∧ l = none) ∨ ∃ k n, o = some (.int k n) ∧ l = some n

theorem optI_is (hd : ∀ t x, aget t s.tmps = some x → Den μ ok w x (a.tmps.getD t undef)) {o : Option Operand} {l : Option Int} (h : optI s o = some l) : IsI (o.map a.eval) l := by
  cases o with
  | none => simp only [optI, Option.some.injEq] at h; exact .inl ⟨rfl, h.symm⟩
  | some o =>
    simp only [optI] at h
    split at h
    · rename_i k n ho
      simp at h
      exact .inr ⟨k, n, by rw [Option.map_some, (opd_den hd ho).int], h.symm⟩
    · cases h

theorem run_bound (k : IntKind) (i : Int) (y : Nat) (code : BoundsCode) (h0 : 0 ≤ i) (h1 : i ≤ y) : (Instr.sliceBound (.int k i) y code).run P w = .ok i.toNat w := by
  simp only [Instr.sliceBound, asIntOf, Sem.run_bind, Sem.run_pure, Result.andThen_ok]
  rw [if_pos ⟨h0, h1⟩]
  rfl

theorem bounds_ok (isSlice : Bool) (len cap : Nat) (hle : len ≤ cap) (lo hi : Option Value) (l h : Option Int) (hl : IsI lo l) (hh : IsI hi h) (h0 : 0 ≤ l.getD 0) (h1 : l.getD 0 ≤ h.getD len) (h2 : h.getD len ≤ len) :
    (Instr.sliceBounds isSlice len cap lo hi none).run P w = .ok ((l.getD 0).toNat, (h.getD len).toNat, cap) w := by
  rcases hl with ⟨rfl, rfl⟩ | ⟨k, n, rfl, rfl⟩ <;> rcases hh with ⟨rfl, rfl⟩ | ⟨k', m, rfl, rfl⟩ <;> simp only [Option.getD_none, Option.getD_some] at h0 h1 h2 ⊢
  · simp [Instr.sliceBounds]
  · simp only [Instr.sliceBounds, Sem.run_bind, Sem.run_pure, Result.andThen_ok]
    rw [run_bound _ _ _ _ (by omega) (by omega)]
    simp
  · simp only [Instr.sliceBounds, Sem.run_bind, Sem.run_pure, Result.andThen_ok]
    rw [run_bound _ _ _ _ (by omega) (by omega)]
    simp
  · simp only [Instr.sliceBounds, Sem.run_bind, Sem.run_pure, Result.andThen_ok]
    rw [run_bound _ _ _ _ (by omega) (by omega)]
    simp only [Result.andThen_ok]
    rw [run_bound _ _ _ _ (by omega) (by omega)]
    simp

theorem run_sliceAt_str (t : TypeId) (hb : P.underlying t = some .string) (x : ByteArray) (lo hi : Option Value) (l h : Option Int) (hl : IsI lo l) (hh : IsI hi h) (h0 : 0 ≤ l.getD 0) (h1 : l.getD 0 ≤ h.getD x.size) (h2 : h.getD x.size ≤ x.size) :
    (Instr.sliceAt t (.string x) lo hi none).run P w = .ok (.string (x.extract (l.getD 0).toNat (h.getD x.size).toNat)) w := by
  simp only [Instr.sliceAt, Instr.slice, Sem.run_bind, run_underlying hb, Result.andThen_ok]
  simp only [Option.isSome_none, Bool.false_eq_true, if_false, Sem.run_bind, Sem.run_pure, Result.andThen_ok, bounds_ok false x.size x.size (Nat.le_refl _) lo hi l h hl hh h0 h1 h2]

theorem run_sliceAt_sl (hT : TabOk P T) (t e : TypeId) (y : Ty) (hb : P.underlying t = some (.slice e)) (he : aget e T = some y) (a0 : Option Addr) (len cap : Nat) (hle : len ≤ cap) (lo hi : Option Value) (l h : Option Int) (hl : IsI lo l) (hh : IsI hi h)
    (h0 : 0 ≤ l.getD 0) (h1 : l.getD 0 ≤ h.getD len) (h2 : h.getD len ≤ len) :
    (Instr.sliceAt t (.slice a0 len cap) lo hi none).run P w = .ok (.slice (if cap = (l.getD 0).toNat then a0 else a0.map (·.add ((l.getD 0).toNat * y.size))) ((h.getD len).toNat - (l.getD 0).toNat) (cap - (l.getD 0).toNat)) w := by
  simp only [Instr.sliceAt, Instr.slice, Sem.run_bind, run_underlying hb, Result.andThen_ok]
  simp only [Sem.run_bind, Sem.run_pure, Result.andThen_ok, bounds_ok true len cap hle lo hi l h hl hh h0 h1 h2, (hT _ _ he).sizeOf]

theorem sl_cut {k : Nat} {xs : List (List DV)} {a : Addr} {cap : Nat} (h1 : xs.length ≤ cap) (h2 : cap ≤ maxLen) (h3 : ∀ (i : Nat) (e : List DV), xs[i]? = some e → e.length = k)
    (h4 : ∀ (i : Nat) (e : List DV) (j : Nat) (c : DV), xs[i]? = some e → e[j]? = some c → ok a.block ∧ ∃ u, w.cell? (a.add (i * k + j)) = some u ∧ DDen ok w c u) (l h : Nat) (hl : l ≤ h) (hh : h ≤ xs.length) :
    DDen ok w (.sl k ((xs.take h).drop l)) (.slice (if cap = l then some a else (some a).map (·.add (l * k))) (h - l) (cap - l)) := by
  have hlen : ((xs.take h).drop l).length = h - l := by simp; omega
  by_cases hc : cap = l
  · rw [if_pos hc]
    have e : (xs.take h).drop l = [] := List.eq_nil_of_length_eq_zero (by omega)
    rw [e]
    have := DDen.sl (ok := ok) (w := w) k [] a (cap - l) (by simp) (by omega) (by simp) (by simp) (by simp)
    have e2 : h - l = 0 := by omega
    rw [e2]
    exact this
  · rw [if_neg hc, Option.map_some]
    have key : ∀ (i : Nat) (e : List DV), ((xs.take h).drop l)[i]? = some e → xs[l + i]? = some e := by
      intro i e he
      rw [List.getElem?_drop, List.getElem?_take] at he
      split at he
      · exact he
      · cases he
    have hadd : ∀ i j, (a.add (l * k)).add (i * k + j) = a.add ((l + i) * k + j) := by
      intro i j
      rw [Addr.add_add, Nat.add_mul, Nat.add_assoc]
    have := DDen.sl (ok := ok) (w := w) k ((xs.take h).drop l) (a.add (l * k)) (cap - l) (by omega) (by omega) (fun i e he => h3 _ e (key i e he))
      (fun i e j c he hj => by
        obtain ⟨ho, u, hu, _⟩ := h4 _ e j c (key i e he) hj
        exact ⟨by rw [add_block]; exact ho, u, by rw [hadd]; exact hu⟩)
      (fun i e j c u he hj hu => by
        obtain ⟨_, u', hu', hd'⟩ := h4 _ e j c (key i e he) hj
        rw [hadd, hu'] at hu
        cases hu
        exact hd')
    rw [hlen] at this
    exact this

theorem evSlice_ok (hT : TabOk P T) (hd : ∀ t x, aget t s.tmps = some x → Den μ ok w x (a.tmps.getD t undef)) (t : TypeId) (x : SV) (u : Value) (hx : Den μ ok w x u) (lo hi mx : Option Operand) :
    VOk P μ ok w (Instr.sliceAt t u (lo.map a.eval) (hi.map a.eval) (mx.map a.eval)) (evSlice T s t x lo hi mx) := by
  unfold evSlice
  split
  · trivial
  · split
    · rename_i l h hl hh
      have Hl := optI_is hd hl
      have Hh := optI_is hd hh
      split
      · obtain rfl := hx.vv
        split
        · rename_i ht
          exact VOk.lit fun hp => run_sliceAt_str t (hT _ _ ht).td _ _ _ _ _ Hl Hh hp.1 hp.2.1 hp.2.2
        · trivial
      · rename_i k xs
        split
        · rename_i e _ _ _ ht
          split
          · rename_i y he
            cases hk : Nat.beq k y.size
            · trivial
            · obtain rfl := Nat.eq_of_beq_eq_true hk
              refine fun hp => ?_
              cases hx with | d hx =>
              rcases slOf hx with ⟨rfl, rfl⟩ | ⟨a0, cap, rfl, h1, h2, h3, h4⟩
              · have e1 : (l.getD 0).toNat = 0 := by have := hp.1; have := hp.2.1; have := hp.2.2; simp at *; omega
                have h3 : h.getD ((0 : Nat) : Int) ≤ ((0 : Nat) : Int) := hp.2.2
                have e2 : (h.getD ((0 : Nat) : Int)).toNat = 0 := by omega
                refine ⟨_, run_sliceAt_sl hT t e y (hT _ _ ht).td he none 0 0 (Nat.le_refl _) _ _ _ _ Hl Hh hp.1 (by simpa using hp.2.1) (by simpa using hp.2.2), .d ?_⟩
                rw [e1, e2]
                simp
                exact .slNil _
              · refine ⟨_, run_sliceAt_sl hT t e y (hT _ _ ht).td he (some a0) xs.length cap h1 _ _ _ _ Hl Hh hp.1 hp.2.1 hp.2.2, .d ?_⟩
                exact sl_cut h1 h2 h3 h4 _ _ (by have := hp.1; have := hp.2.1; omega) (by have := hp.2.2; omega)
          · trivial
        · trivial
      · split
        · rename_i e _ _ _ ht
          split
          · rename_i y he
            obtain rfl := hx.nil'
            refine fun hp => ⟨_, run_sliceAt_sl hT t e y (hT _ _ ht).td he none 0 0 (Nat.le_refl _) _ _ _ _ Hl Hh (by rw [hp.1]; exact Int.le_refl 0) (by rw [hp.1]; have := hp.2; simp at this ⊢; omega) (by have := hp.2; simp at this ⊢; omega), .d ?_⟩
            have e1 : (l.getD 0).toNat = 0 := by rw [hp.1]; rfl
            have e2 : (h.getD (0 : Nat)).toNat = 0 := by have := hp.2; simp at this ⊢; omega
            rw [e1, e2]
            simp
            exact .nil
          · trivial
        · trivial
      · rename_i id k lo0 n C
        split
        · rename_i e _ _ _ ht
          split
          · rename_i y he
            cases hk : Nat.beq k y.size
            · trivial
            · obtain rfl := Nat.eq_of_beq_eq_true hk
              refine fun hp => ?_
              cases hx with
              | own hb g1 g2 =>
                rename_i b
                refine ⟨_, run_sliceAt_sl hT t e y (hT _ _ ht).td he (some ⟨b, lo0 * y.size, none⟩) n (C - lo0) (by omega) _ _ _ _ Hl Hh hp.1 hp.2.1 hp.2.2, ?_⟩
                have p1 := hp.1
                have p2 := hp.2.1
                have p3 := hp.2.2
                generalize l.getD 0 = L at p1 p2 ⊢
                generalize h.getD (n : Int) = H at p2 p3 ⊢
                by_cases hc : C - lo0 = L.toNat
                · rw [if_pos hc]
                  have e1 : H.toNat - L.toNat = 0 := by omega
                  have e2 : C = lo0 + L.toNat := by omega
                  rw [e1, hc, Nat.sub_self]
                  subst e2
                  exact .ownNil _ _ _ _
                · rw [if_neg hc, Option.map_some, add_add']
                  have := Den.own (μ := μ) (ok := ok) (w := w) (id := id) (k := y.size) (lo := lo0 + L.toNat) (n := H.toNat - L.toNat) (C := C) (b := b) hb (by omega) g2
                  rw [Nat.add_mul, show C - (lo0 + L.toNat) = C - lo0 - L.toNat by omega] at this
                  exact this
              | ownNil a0 _ _ _ =>
                refine ⟨_, run_sliceAt_sl hT t e y (hT _ _ ht).td he a0 0 0 (by omega) _ _ _ _ Hl Hh hp.1 (by simpa using hp.2.1) (by simpa using hp.2.2), ?_⟩
                have p1 := hp.1
                have p2 := hp.2.1
                have p3 := hp.2.2
                have e1 : (l.getD 0).toNat = 0 := by omega
                have e2 : (h.getD ((0 : Nat) : Int)).toNat = 0 := by omega
                rw [e1, e2]
                simp
                exact .ownNil _ _ _ _
          · trivial
        · trivial
      · trivial
    · trivial

/-! parts of aggregates -/
theorem part1_spec (agg : Bool) (size off : Nat) (cs : List SV) : part1 agg size off cs = .stop ∨ (agg = true ∧ off + size ≤ cs.length ∧ part1 agg size off cs = .val (.agg ((cs.drop off).take size)) True) ∨
    (agg = false ∧ ∃ x, cs[off]? = some x ∧ part1 agg size off cs = .val x True) := by
  cases agg with
  | true =>
    have e : part1 true size off cs = match dk off cs with | some l => (match tk size l with | some l => EvR.val (.agg l) True | none => .stop) | none => .stop := by simp only [part1, dropK_eq, takeK_eq]; rfl
    rw [e]
    unfold dk tk
    by_cases h1 : off ≤ cs.length
    · rw [if_pos h1]
      by_cases h2 : size ≤ (cs.drop off).length
      · right; left
        refine ⟨rfl, by simp at h2; omega, ?_⟩
        simp only [if_pos h2]
      · left
        simp only [if_neg h2]
    · left
      rw [if_neg h1]
  | false =>
    have e : part1 false size off cs = match cs[off]? with | some x => .val x True | none => .stop := by simp only [part1, nth_eq]; rfl
    rw [e]
    cases h : cs[off]? with
    | none => exact .inl rfl
    | some x => exact .inr (.inr ⟨rfl, x, rfl, rfl⟩)

def Cells (μ : Nat → Option Nat) (ok : Nat → Prop) (w : World) (cs : List SV) (vs : Array Value) : Prop :=
  vs.size = cs.length ∧ ∀ (j : Nat) c u, cs[j]? = some c → vs[j]? = some u → Den μ ok w c u

theorem Cells.sub {cs : List SV} {vs : Array Value} (h : Cells μ ok w cs vs) (off size : Nat) (hl : off + size ≤ cs.length) : Cells μ ok w ((cs.drop off).take size) (vs.extract off (off + size)) := by
  obtain ⟨h1, h2⟩ := h
  refine ⟨by simp; omega, fun j c u hc hu => ?_⟩
  rw [List.getElem?_take] at hc
  split at hc
  · rename_i hj
    rw [List.getElem?_drop] at hc
    rw [Array.getElem?_extract] at hu
    split at hu
    · exact h2 _ c u hc hu
    · cases hu
  · cases hc

theorem part1_ok {f : TypeId} {y : Ty} (hy : TyOk P f y) {cs : List SV} {vs : Array Value} (h : Cells μ ok w cs vs) (off : Nat) : VOk P μ ok w (part f vs off) (part1 y.td.agg y.size off cs) := by
  rcases part1_spec y.td.agg y.size off cs with e | ⟨e1, e2, e⟩ | ⟨e1, x, e2, e⟩ <;> rw [e]
  · trivial
  · refine fun _ => ⟨.agg (vs.extract off (off + y.size)), ?_, ?_⟩
    · simp only [part, Sem.run_bind, hy.isAgg, Result.andThen_ok, e1, if_true, hy.sizeOf, Sem.run_pure]
    · have := h.sub off y.size e2
      exact .agg _ this.1 this.2
  · have hlt : off < vs.size := by
      have := (List.getElem?_eq_some_iff.1 e2).1
      rw [h.1]; exact this
    refine fun _ => ⟨vs[off], ?_, h.2 off x _ e2 (by simp [hlt])⟩
    simp only [part, Sem.run_bind, hy.isAgg, Result.andThen_ok, e1, Bool.false_eq_true, if_false]
    simp [hlt]

theorem field_at (hT : TabOk P T) {t : TypeId} {fs : List (TypeId × Nat)} {z : Ty} (hz : z.td = .struct fs) (ht : aget t T = some z) (f : Nat) (ft off : Nat) (hf : nth fs f = some (ft, off)) :
    ∃ F fd, P.underlying t = some (.struct F) ∧ F[f]? = some fd ∧ fd.type = ft ∧ fd.offset = off := by
  have := (hT _ _ ht).td
  rw [hz] at this
  obtain ⟨F, hF, hm, _⟩ := this
  rw [nth_eq, ← hm, List.getElem?_map, Array.getElem?_toList] at hf
  cases e : F[f]? with
  | none => rw [e] at hf; cases hf
  | some fd =>
    rw [e] at hf
    simp at hf
    exact ⟨F, fd, hF, e, hf.1, hf.2⟩

theorem evField_cases (T : Tab) (t : TypeId) (f : Nat) (k : Nat → Nat → Bool → EvR) : evField T t f k = .stop ∨
    ∃ fs z ft off y, z.td = .struct fs ∧ aget t T = some z ∧ nth fs f = some (ft, off) ∧ aget ft T = some y ∧ evField T t f k = k off y.size y.td.agg := by
  unfold evField
  split
  · rename_i fs a b c ht
    split
    · rename_i ft off hf
      split
      · rename_i y hy
        exact .inr ⟨fs, _, ft, off, y, rfl, ht, hf, hy, rfl⟩
      · exact .inl rfl
    · exact .inl rfl
  · exact .inl rfl

theorem evFieldV_ok (hT : TabOk P T) (t : TypeId) (f : Nat) (cs : List SV) (u : Value) (hx : Den μ ok w (.agg cs) u) : VOk P μ ok w (Instr.field t u f) (evField T t f fun off size agg => part1 agg size off cs) := by
  rcases evField_cases T t f (fun off size agg => part1 agg size off cs) with e | ⟨fs, z, ft, off, y, hz, ht, hf, hy, e⟩ <;> rw [e]
  · trivial
  · obtain ⟨F, fd, h1, h2, rfl, rfl⟩ := field_at hT hz ht f ft off hf
    cases hx with | agg vs h hs =>
    have := part1_ok (hT _ _ hy) ⟨h, hs⟩ fd.offset
    revert this
    generalize part1 y.td.agg y.size fd.offset cs = r
    cases r with
    | val x p =>
      intro this hp
      obtain ⟨v, hv1, hv2⟩ := this hp
      exact ⟨v, by simp only [Instr.field, Sem.run_bind, run_underlying h1, Result.andThen_ok, h2, asAgg, Sem.run_pure]; exact hv1, hv2⟩
    | _ => exact id

theorem run_fieldAt (hT : TabOk P T) {t : TypeId} {fs : List (TypeId × Nat)} {z : Ty} (hz : z.td = .struct fs) (ht : aget t T = some z) (f : Nat) (ft off : Nat) (hf : nth fs f = some (ft, off)) {y : Ty} (hy : aget ft T = some y) (hs : y.size ≠ 0) (a : Addr) :
    (Instr.fieldAt t (.pointer (some a)) f).run P w = .ok (.pointer (some (a.add off))) w := by
  obtain ⟨F, fd, h1, h2, rfl, rfl⟩ := field_at hT hz ht f ft off hf
  simp only [Instr.fieldAt, Sem.run_bind, run_underlying h1, Result.andThen_ok, h2, Instr.sureAddr, Sem.run_pure, fieldPlace, (hT _ _ hy).sizeOf, if_neg hs]

theorem evFieldA_ok (hT : TabOk P T) (t : TypeId) (f : Nat) (x : SV) (u : Value) (hx : Den μ ok w x u) : VOk P μ ok w (Instr.fieldAt t u f)
    (match (some x : Option SV) with
    | some (.ptr id j) => evField T t f fun off size _ => match size with | 0 => .stop | _ + 1 => .val (.ptr id (j + off)) True
    | some (.pel id k i j) => evField T t f fun off size _ => match size with | 0 => .stop | _ + 1 => .val (.pel id k i (j + off)) True
    | some (.ip cs) => evField T t f fun off size _ => match size with | 0 => .stop | _ + 1 => dropK off cs fun o => match o with | some cs' => .val (.ip cs') True | none => .stop
    | _ => .stop) := by
  cases x with
  | ptr id j =>
    cases hx with | ptr hb =>
    rename_i b
    simp only
    rcases evField_cases T t f (fun off size _ => match size with | 0 => EvR.stop | _ + 1 => .val (.ptr id (j + off)) True) with e | ⟨fs, z, ft, off, y, hz, ht, hf, hy, e⟩ <;> rw [e]
    · trivial
    · cases hs : y.size with
      | zero => trivial
      | succ n => exact fun _ => ⟨_, run_fieldAt hT hz ht f ft off hf hy (by omega) _, by rw [add_add']; exact .ptr hb⟩
  | pel id k i j =>
    cases hx with | pel hb =>
    rename_i b
    simp only
    rcases evField_cases T t f (fun off size _ => match size with | 0 => EvR.stop | _ + 1 => .val (.pel id k i (j + off)) True) with e | ⟨fs, z, ft, off, y, hz, ht, hf, hy, e⟩ <;> rw [e]
    · trivial
    · cases hs : y.size with
      | zero => trivial
      | succ n => exact fun _ => ⟨_, run_fieldAt hT hz ht f ft off hf hy (by omega) _, by rw [add_add', Nat.add_assoc]; exact .pel hb⟩
  | ip cs =>
    cases hx with | ip a h4 =>
    simp only
    rcases evField_cases T t f (fun off size _ => match size with | 0 => EvR.stop | _ + 1 => dropK off cs fun o => match o with | some cs' => .val (.ip cs') True | none => .stop) with e | ⟨fs, z, ft, off, y, hz, ht, hf, hy, e⟩ <;> rw [e]
    · trivial
    · cases hs : y.size with
      | zero => trivial
      | succ n =>
        simp only [dropK_eq, dk]
        by_cases hl : off ≤ cs.length
        · simp only [if_pos hl]
          refine fun _ => ⟨_, run_fieldAt hT hz ht f ft off hf hy (by omega) _, .ip _ fun j c hj => ?_⟩
          rw [List.getElem?_drop] at hj
          obtain ⟨ho, u, hu, hd⟩ := h4 _ c hj
          exact ⟨by rw [add_block]; exact ho, u, by rw [Addr.add_add]; exact hu, hd⟩
        · simp only [if_neg hl]
          trivial
  | _ => trivial

end
end Go.Sy
