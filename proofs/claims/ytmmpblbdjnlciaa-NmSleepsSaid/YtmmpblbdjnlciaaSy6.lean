/-
  SYMBOLIC STATES, over any program, part 6: 'ev' tells the truth, for every operation.
-/
import Derived.Test.YtmmpblbdjnlciaaSy5
namespace Go.Sy
open Go.RowKit

section
variable {P : Program} {T : Tab} {μ : Nat → Option Nat} {ok : Nat → Prop} {s : St} {a : Act} {w : World}

theorem cell_at {b j : Nat} {c : Array Value} {t : TypeId} {z : Nat × Nat} (h : w.heap[b]? = some (.cells c t z)) : w.cell? ⟨b, j, none⟩ = c[j]? := by
  simp [World.cell?, h]

theorem evLoad_ok (hT : TabOk P T) (hh : ∀ i B, aget i s.heap = some B → (B.ghost ∧ μ i = none) ∨ ∃ b, μ i = some b ∧ ¬ ok b ∧ DenB μ ok w b B) (t : TypeId) (x : SV) (u : Value) (hx : Den μ ok w x u) :
    VOk P μ ok w (Instr.loadAt t u) (evLoad T s t x) := by
  unfold evLoad
  split
  · rename_i y ht
    have hty := hT _ _ ht
    split
    · rename_i id j
      cases hx with | ptr hb =>
      rename_i b
      split
      · rename_i cs hcs
        obtain ⟨h, _⟩ | ⟨b', h1, h2, c, T', z, h3, h4, h5, h6⟩ := hh _ _ hcs
        · exact h.elim
        rw [hb] at h1
        cases h1
        rcases part1_spec y.td.agg y.size j cs with e | ⟨e1, e2, e⟩ | ⟨e1, v, e2, e⟩ <;> rw [e]
        · trivial
        · have hs : Cells μ ok w ((cs.drop j).take y.size) (c.extract j (j + y.size)) := Cells.sub ⟨h5, h6⟩ j y.size e2
          refine fun _ => ⟨.agg (c.extract j (j + y.size)), ?_, .agg _ hs.1 hs.2⟩
          simp only [Instr.loadAt, Instr.sureAddr, Sem.run_bind, Sem.run_pure, Result.andThen_ok]
          have := run_loadVar (w := w) hty ⟨b, j, none⟩ (c.extract j (j + y.size)).toList (by simp; omega) (fun k v hv => by
            rw [add_add', cell_at h3]
            rw [Array.getElem?_toList, Array.getElem?_extract] at hv
            split at hv
            · exact hv
            · cases hv) e1
          rw [this]
        · have hlt : j < c.size := by have := (List.getElem?_eq_some_iff.1 e2).1; omega
          refine fun _ => ⟨c[j], ?_, h6 j v _ e2 (by simp [hlt])⟩
          simp only [Instr.loadAt, Instr.sureAddr, Sem.run_bind, Sem.run_pure, Result.andThen_ok]
          exact run_loadVar1 hty _ _ (by rw [cell_at h3]; simp [hlt]) e1
      · trivial
    · rename_i cs
      cases hx with | ip a0 h4 =>
      rw [mapK_eq]
      rcases part1_spec y.td.agg y.size 0 (cs.map sd) with e | ⟨e1, e2, e⟩ | ⟨e1, v, e2, e⟩ <;> rw [e]
      · trivial
      · simp only [List.length_map, Nat.zero_add] at e2
        -- the cells that lie there
        have hv : ∃ vs : List Value, vs.length = y.size ∧ ∀ (j : Nat) v, vs[j]? = some v → w.cell? (a0.add j) = some v := by
          refine ⟨(List.range y.size).map fun j => (w.cell? (a0.add j)).getD undef, by simp, fun j v hv => ?_⟩
          rw [List.getElem?_map] at hv
          by_cases hj : j < y.size
          · rw [List.getElem?_range hj] at hv
            obtain ⟨_, u, hu, _⟩ := h4 j cs[j] (by simp)
            simp [hu] at hv
            first | rw [hu, hv] | rw [hu] | exact hv
          · rw [List.getElem?_eq_none (by simpa using hj)] at hv; cases hv
        obtain ⟨vs, hv1, hv2⟩ := hv
        refine fun _ => ⟨.agg vs.toArray, ?_, .agg _ (by simp; omega) fun j c u hc hu => ?_⟩
        · simp only [Instr.loadAt, Instr.sureAddr, Sem.run_bind, Sem.run_pure, Result.andThen_ok]
          rw [run_loadVar hty a0 vs hv1 hv2 e1]
        · simp only [List.drop_zero] at hc
          rw [List.getElem?_take] at hc
          split at hc
          · rw [List.getElem?_map] at hc
            cases e3 : cs[j]? with
            | none => rw [e3] at hc; cases hc
            | some c' =>
              rw [e3] at hc
              simp at hc
              subst hc
              obtain ⟨_, u', hu', hd'⟩ := h4 j c' e3
              have := hv2 j u (by simpa using hu)
              rw [this] at hu'
              cases hu'
              exact sd_den hd'
          · cases hc
      · rw [List.getElem?_map] at e2
        cases e3 : cs[0]? with
        | none => rw [e3] at e2; cases e2
        | some c' =>
          rw [e3] at e2
          simp at e2
          subst e2
          obtain ⟨_, u', hu', hd'⟩ := h4 0 c' e3
          refine fun _ => ⟨u', ?_, sd_den hd'⟩
          simp only [Instr.loadAt, Instr.sureAddr, Sem.run_bind, Sem.run_pure, Result.andThen_ok]
          exact run_loadVar1 hty _ _ (by simpa [Addr.add] using hu') e1
    · trivial
  · trivial

theorem evStore_cases (T : Tab) (s : St) (t : TypeId) (x v : SV) : evStore T s t x v = .stop ∨
    ∃ yt id j vs cs cs1, x = .ptr id j ∧ aget t T = some yt ∧ cellsOf v = some vs ∧ vs.length = yt.size ∧ allCells vs = true ∧ aget id s.heap = some (.box cs) ∧ laid j vs cs = some cs1 ∧ evStore T s t x v = .set id cs1 := by
  cases e : evStore T s t x v with
  | stop => exact .inl rfl
  | _ =>
    unfold evStore at e
    cases ht : aget t T with
    | none => rw [ht] at e; cases e
    | some yt =>
      rw [ht] at e
      simp only at e
      cases hv : cellsOf v with
      | none => rw [hv] at e; cases x <;> cases e
      | some vs =>
        rw [hv] at e
        cases x with
        | ptr id j =>
          simp only [lenK_eq, beq_iff] at e
          cases hl : decide (vs.length = yt.size)
          · rw [hl] at e; cases e
          · rw [hl] at e
            simp only [cond_true] at e
            cases ha : allCells vs
            · rw [ha] at e; cases e
            · rw [ha] at e
              simp only [cond_true] at e
              cases hg : aget id s.heap with
              | none => rw [hg] at e; cases e
              | some B =>
                rw [hg] at e
                cases B with
                | row _ _ _ => cases e
                | box cs =>
                  simp only [putK_eq] at e
                  cases hla : laid j vs cs with
                  | none => rw [hla] at e; cases e
                  | some cs1 =>
                    rw [hla] at e
                    simp only [EvR.set.injEq, reduceCtorEq] at e
                    try (
                      obtain ⟨rfl, rfl⟩ := e
                      exact .inr ⟨yt, id, j, vs, cs, cs1, rfl, rfl, rfl, by simpa using hl, ha, hg, hla, rfl⟩)
        | _ => cases e

/-- A store's effect on what a box holds. -/
theorem evStore_ok (hT : TabOk P T) (hh : ∀ i B, aget i s.heap = some B → (B.ghost ∧ μ i = none) ∨ ∃ b, μ i = some b ∧ ¬ ok b ∧ DenB μ ok w b B) (t : TypeId) (x v : SV) (u y : Value) (hx : Den μ ok w x u) (hv : Den μ ok w v y)
    {id : Nat} {cs1 : List SV} (he : evStore T s t x v = .set id cs1) :
    ∃ b w', (Instr.storeAt t u y).run P w = .ok () w' ∧ μ id = some b ∧ ¬ ok b ∧ Upd w w' b ∧ DenB μ ok w' b (.box cs1) ∧ ∃ B0, aget id s.heap = some B0 := by
  rcases evStore_cases T s t x v with e | ⟨yt, id', j, vs, cs, cs1', rfl, ht, hvs, hl, ha, hcs, hla, e⟩
  · rw [e] at he; cases he
  · rw [e] at he
    simp only [EvR.set.injEq] at he
    obtain ⟨rfl, rfl⟩ := he
    cases hx with | ptr hb =>
    rename_i b
    obtain ⟨h, _⟩ | ⟨b', h1, h2, c, T', z, h3, h4, h5, h6⟩ := hh _ _ hcs
    · exact h.elim
    rw [hb] at h1
    cases h1
    have hc := cellsOf_ok hv hvs
    obtain ⟨l1, l2, l3⟩ := laid_spec j vs cs cs1' hla
    obtain ⟨w', c', r1, r2, r3, r4, r5⟩ := run_storeVar (w := w) (hT _ _ ht) (j := j) y h3 h4 (by rw [hc.1, hl]) (by omega) (hc.one ha)
    have hw : ∀ q, ok q → w'.heap[q]? = w.heap[q]? := fun q hq => r4.other q (fun e => h2 (e ▸ hq))
    have hcells : Cells μ ok w cs1' c' := Cells.laid ⟨h5, h6⟩ hc hla r3 (fun m => by
      rw [r5 m]
      have hcs := hc.1
      by_cases a1 : m < j
      · rw [if_pos a1, if_neg (by omega)]
      · rw [if_neg a1]
        by_cases a2 : m < j + yt.size
        · rw [if_pos a2]
          rw [if_pos ⟨by omega, by omega, by omega⟩]
        · rw [if_neg a2, if_neg (by omega)])
    refine ⟨b, w', ?_, hb, h2, r4, ⟨c', T', z, r2, by rw [r3]; exact h4, by rw [hcells.1], fun q x u hx hu => (hcells.2 q x u hx hu).mono (fun _ _ h => h) (fun _ h => h) hw⟩, _, hcs⟩
    simp only [Instr.storeAt, Instr.sureAddr, Sem.run_bind, Sem.run_pure, Result.andThen_ok]
    exact r1

/-! the rest -/
theorem opsK_eq (s : St) (l : List Operand) (k : Option (List SV) → EvR) : opsK s l k = k (l.mapM (opd s)) := by
  induction l generalizing k with
  | nil => rfl
  | cons o l ih =>
    simp only [opsK, List.mapM_cons]
    cases opd s o with
    | none => rfl
    | some x =>
      simp only [ih]
      cases l.mapM (opd s) <;> rfl

theorem mapM_den (hd : ∀ t x, aget t s.tmps = some x → Den μ ok w x (a.tmps.getD t undef)) : ∀ (l : List Operand) (xs : List SV), l.mapM (opd s) = some xs → xs.length = l.length ∧ ∀ (j : Nat) c u, xs[j]? = some c → (l.map a.eval)[j]? = some u → Den μ ok w c u
  | [], xs, h => by simp at h; subst h; simp
  | o :: l, xs, h => by
    simp only [List.mapM_cons] at h
    cases ho : opd s o with
    | none => rw [ho] at h; cases h
    | some x =>
      rw [ho] at h
      cases hl : l.mapM (opd s) with
      | none => rw [hl] at h; cases h
      | some xs' =>
        rw [hl] at h
        simp at h
        subst h
        obtain ⟨h1, h2⟩ := mapM_den hd l xs' hl
        refine ⟨by simp [h1], fun j c u hc hu => ?_⟩
        cases j with
        | zero => simp at hc hu; subst hc hu; exact opd_den hd ho
        | succ j => exact h2 j c u (by simpa using hc) (by simpa using hu)

theorem evFn_ok (hd : ∀ t x, aget t s.tmps = some x → Den μ ok w x (a.tmps.getD t undef)) (f : Fn) (x y : Array Operand) :
    VOk P μ ok w (Instr.makeFunc f (x.map a.eval) (y.map a.eval)) (opsK s x.toList fun r => match r with
    | some l => opsK s y.toList fun r => match r with | some m => .val (.fn f l m) True | none => .stop
    | none => .stop) := by
  rw [opsK_eq]
  cases hx : x.toList.mapM (opd s) with
  | none => trivial
  | some l =>
    simp only [opsK_eq]
    cases hy : y.toList.mapM (opd s) with
    | none => trivial
    | some m =>
      obtain ⟨h1, h2⟩ := mapM_den hd _ _ hx
      obtain ⟨h3, h4⟩ := mapM_den hd _ _ hy
      refine fun _ => ⟨_, rfl, .fn _ _ (by simp [h1]) (fun j c u hc hu => h2 j c u hc ?_) (by simp [h3]) (fun j c u hc hu => h4 j c u hc ?_)⟩
      · simpa using hu
      · simpa using hu

theorem evLen_ok (hT : TabOk P T) (t : TypeId) (x : SV) (u : Value) (hx : Den μ ok w x u) (ty : TypeId) : VOk P μ ok w (Builtin.len_ #[t] ty #[u]) (evLen T t x) := by
  unfold evLen
  split
  · rename_i ht
    split
    · obtain rfl := hx.vv
      exact VOk.lit fun _ => by simp [Builtin.len_, run_underlying (hT _ _ ht).td, goInt]
    · trivial
  · rename_i ht
    split
    · cases hx with | d hx =>
      rcases slOf hx with ⟨rfl, rfl⟩ | ⟨a, cap, rfl, _⟩
      · exact VOk.lit fun _ => by simp [Builtin.len_, run_underlying (hT _ _ ht).td, goInt]
      · exact VOk.lit fun _ => by simp [Builtin.len_, run_underlying (hT _ _ ht).td, goInt]
    · obtain rfl := hx.nil'
      exact VOk.lit fun _ => by simp [Builtin.len_, run_underlying (hT _ _ ht).td, goInt]
    · cases hx with
      | own h h1 h2 => exact VOk.lit fun _ => by simp [Builtin.len_, run_underlying (hT _ _ ht).td, goInt]
      | ownNil a _ _ _ => exact VOk.lit fun _ => by simp [Builtin.len_, run_underlying (hT _ _ ht).td, goInt]
    · trivial
  · rename_i ht
    exact VOk.lit fun _ => by
      simp only [Builtin.len_]
      simp only [List.getElem?_toArray, List.getElem?_cons_zero, Sem.run_bind, run_underlying (hT _ _ ht).td, Result.andThen_ok]
      cases u <;> simp [goInt]
  · trivial

theorem evCall_ok (hT : TabOk P T) (hd : ∀ t x, aget t s.tmps = some x → Den μ ok w x (a.tmps.getD t undef)) (o : Oper) (c : Call) (ho : o.op = .call c) : EvOk P μ ok s a w o (evCall T s c) := by
  unfold evCall
  obtain ⟨cal, args, at_⟩ := c
  obtain ⟨args⟩ := args
  obtain ⟨at_⟩ := at_
  cases cal with
  | value f => trivial
  | invoke r m => trivial
  | builtin b =>
    have key : ∀ (m : Sem Value) r, VOk P μ ok w m r → execOp a.eval o = (do pure (.value (← m))) → EvOk P μ ok s a w o r := fun m r h e => h.ev e
    simp only
    split
    · -- len
      rename_i x
      split
      · rename_i t v hv
        refine key (Builtin.len_ #[t] o.type #[a.eval x]) _ (evLen_ok hT t v _ (opd_den hd hv) _) ?_
        simp only [execOp, ho, resolve, List.map_toArray, List.map_cons, List.map_nil]
        rfl
      · trivial
    · rename_i x y
      split
      · rename_i v u hv hu
        have h1 := opd_den hd hv
        have h2 := opd_den hd hu
        refine key (Builtin.min_ #[] o.type #[a.eval x, a.eval y]) _ ?_ ?_
        · unfold evMin
          split
          · obtain e1 := h1.int
            obtain e2 := h2.int
            exact VOk.lit fun _ => by rw [e1, e2]; simp [Builtin.min_, Builtin.min2]
          · trivial
        · simp only [execOp, ho, resolve, List.map_toArray, List.map_cons, List.map_nil]
          rfl
      · trivial
    · rename_i x y
      split
      · rename_i v u hv hu
        have h1 := opd_den hd hv
        have h2 := opd_den hd hu
        refine key (Builtin.max_ #[] o.type #[a.eval x, a.eval y]) _ ?_ ?_
        · unfold evMax
          split
          · obtain e1 := h1.int
            obtain e2 := h2.int
            exact VOk.lit fun _ => by rw [e1, e2]; simp [Builtin.max_, Builtin.max2]
          · trivial
        · simp only [execOp, ho, resolve, List.map_toArray, List.map_cons, List.map_nil]
          rfl
      · trivial
    · trivial

theorem ev_ok (hT : TabOk P T) (hd : ∀ t x, aget t s.tmps = some x → Den μ ok w x (a.tmps.getD t undef)) (hh : ∀ i B, aget i s.heap = some B → (B.ghost ∧ μ i = none) ∨ ∃ b, μ i = some b ∧ ¬ ok b ∧ DenB μ ok w b B) (o : Oper) :
    EvOk P μ ok s a w o (ev T s o.op) := by
  have hval : ∀ (x : Operand), o.op = .move x ∨ o.op = .assign x → EvOk P μ ok s a w o (match opdR s x with | some v => .val v True | none => .stop) := by
    intro x hx
    cases hv : opdR s x with
    | none => trivial
    | some v => 
      refine fun _ => ⟨a.eval x, ?_, opdR_den hd hv⟩
      rcases hx with h | h <;> simp [execOp, h]
  cases ho : o.op with
  | move x => exact hval x (.inl ho)
  | assign x => exact hval x (.inr ho)
  | pick c x y =>
    cases c with
    | tmp t =>
      simp only [ev]
      split
      · rename_i hc
        have h1 := hd t _ hc
        have e1 : a.eval (.tmp t) = .bool true := by
          show a.tmps.getD t undef = _
          generalize a.tmps.getD t undef = z at h1 ⊢
          cases h1; rfl
        cases hv : opdR s x with
        | none => trivial
        | some v => exact fun _ => ⟨a.eval x, by simp [execOp, ho, e1, asBool], opdR_den hd hv⟩
      · rename_i hc
        have h1 := hd t _ hc
        have e1 : a.eval (.tmp t) = .bool false := by
          show a.tmps.getD t undef = _
          generalize a.tmps.getD t undef = z at h1 ⊢
          cases h1; rfl
        cases hv : opdR s y with
        | none => trivial
        | some v => exact fun _ => ⟨a.eval y, by simp [execOp, ho, e1, asBool], opdR_den hd hv⟩
      · trivial
    | _ => trivial
  | alloc t =>
    simp only [ev]
    cases ht : aget t T with
    | none => trivial
    | some y =>
      simp only [mapK_eq]
      obtain ⟨z, h1, h2⟩ := (hT _ _ ht).zeroValue (w := w)
      refine ⟨z.cells, t, ?_, zero_cells h2⟩
      simp [execOp, ho, Instr.alloc, h1, newVar, newRow]
  | box t x =>
    simp only [ev]
    cases hv : opd s x with
    | none => trivial
    | some v =>
      simp only
      cases hc : cellsOf v with
      | none => trivial
      | some cs =>
        simp only
        cases allCells cs
        · trivial
        · refine ⟨(a.eval x).cells, t, ?_, cellsOf_ok (opd_den hd hv) hc⟩
          simp [execOp, ho, Instr.box, newVar, newRow]
  | build t ps => exact (evBuild_ok hT hd t ps).ev (by rw [execOp, ho])
  | buildSlice t n ps => exact evRow_ok hT hd o t n ps ho
  | load t x =>
    simp only [ev]
    cases hv : opd s x with
    | none => trivial
    | some v => exact (evLoad_ok hT hh t v _ (opd_den hd hv)).ev (by rw [execOp, ho])
  | store t x y =>
    simp only [ev]
    cases hv : opd s x with
    | none => trivial
    | some v =>
      cases hu : opd s y with
      | none => trivial
      | some u =>
        simp only
        rcases evStore_cases T s t v u with e | ⟨_, id, _, _, _, cs1, _, _, _, _, _, _, _, e⟩
        · rw [e]; trivial
        · rw [e]
          obtain ⟨b, w', h1, h2⟩ := evStore_ok hT hh t v u _ _ (opd_den hd hv) (opd_den hd hu) e
          refine ⟨b, w', ?_, h2⟩
          simp only [execOp, ho, Sem.run_bind, h1, Result.andThen_ok, Sem.run_pure]
  | nilCheck x =>
    simp only [ev]
    cases hv : opd s x with
    | none => trivial
    | some v =>
      have h := opd_den hd hv
      cases v with
      | ptr id j =>
        refine fun _ => ⟨a.eval x, ?_, h⟩
        cases e : a.eval x <;> rw [e] at h <;> cases h <;> simp [execOp, ho, e]
      | pel id k i j =>
        refine fun _ => ⟨a.eval x, ?_, h⟩
        cases e : a.eval x <;> rw [e] at h <;> cases h <;> simp [execOp, ho, e]
      | ip cs =>
        refine fun _ => ⟨a.eval x, ?_, h⟩
        cases e : a.eval x <;> rw [e] at h <;> cases h <;> simp [execOp, ho, e]
      | fn f l m =>
        cases f with
        | func g =>
          refine fun _ => ⟨a.eval x, ?_, h⟩
          cases e : a.eval x <;> rw [e] at h <;> cases h <;> simp [execOp, ho, e]
        | _ => trivial
      | _ => trivial
  | binOp op t x y t' =>
    simp only [ev]
    cases hv : opd s x with
    | none => trivial
    | some v =>
      cases hu : opd s y with
      | none => trivial
      | some u => exact (evBin_ok hT op t v u _ _ (opd_den hd hv) (opd_den hd hu) x y).ev (by rw [execOp, ho])
  | unOp op t x =>
    simp only [ev]
    cases hv : opd s x with
    | none => trivial
    | some v => exact (evUn_ok op v _ (opd_den hd hv)).ev (by rw [execOp, ho])
  | convert t t' x =>
    simp only [ev]
    cases hv : opd s x with
    | none => trivial
    | some v => exact (evConv_ok hT t t' v _ (opd_den hd hv)).ev (by rw [execOp, ho])
  | makeFunc f x y => exact (evFn_ok hd f x y).ev (by rw [execOp, ho])
  | slice t x lo hi mx =>
    simp only [ev]
    cases hv : opd s x with
    | none => trivial
    | some v => exact (evSlice_ok hT hd t v _ (opd_den hd hv) lo hi mx).ev (by rw [execOp, ho])
  | fieldAddr t x f =>
    simp only [ev]
    cases hv : opd s x with
    | none => trivial
    | some v => exact (evFieldA_ok hT t f v _ (opd_den hd hv)).ev (by rw [execOp, ho])
  | field t x f =>
    simp only [ev]
    cases hv : opd s x with
    | none => trivial
    | some v =>
      cases v with
      | agg cs => exact (evFieldV_ok hT t f cs _ (opd_den hd hv)).ev (by rw [execOp, ho])
      | _ => trivial
  | extract x i =>
    simp only [ev]
    cases hv : opd s x with
    | none => trivial
    | some v =>
      have h := opd_den hd hv
      cases v with
      | tup cs =>
        simp only [nth_eq]
        cases hn : cs[i]? with
        | none => trivial
        | some c =>
          refine fun _ => ?_
          cases e : a.eval x <;> rw [e] at h <;> cases h
          rename_i vs h1 h2
          have hlt : i < vs.size := by have := (List.getElem?_eq_some_iff.1 hn).1; omega
          exact ⟨vs[i], by simp [execOp, ho, e, Instr.extract, hlt], h2 i c _ hn (by simp [hlt])⟩
      | _ => trivial
  | index t x ix =>
    simp only [ev]
    split
    · rename_i ht
      have hb : P.underlying t = some .string := (hT _ _ ht).td
      split
      · rename_i s' kk i hx hi
        refine fun hp => ⟨_, ?_, .d (.v _)⟩
        have e1 := (opd_den hd hx).vv
        have e2 := (opd_den hd hi).int
        have hlt : i.toNat < s'.size := by omega
        simp only [execOp, ho, e1, e2, Sem.run_bind, run_index_string w t s' kk i hb]
        rw [dif_pos ⟨hp.1, hp.2⟩]
        simp only [Result.andThen_ok, Sem.run_pure, byteAt]
        congr 4
        have hl : i.toNat < s'.data.toList.length := by simpa using hlt
        rw [List.getD_eq_getElem?_getD, List.getElem?_eq_getElem hl]
        simp
        rfl
      · trivial
    · trivial
  | call c => exact evCall_ok hT hd o c ho
  | _ => trivial

end
end Go.Sy
