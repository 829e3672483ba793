/-
  SYMBOLIC STATES, over any program, part 15: append.
-/
import Derived.Test.YtmmpblbdjnlciaaSye
namespace Go.Sy
open Go.RowKit

section
variable {cx : Cx} {P : Program} {fn : Func} {lo : Nat} {T : Tab} {k : List It} {s : St} {tm : List (Nat × SV)} {hp : List (Nat × Blk)} {nx : Nat}
variable {all : Array Oper} {rest : List Oper} {d : Nat} {ty : TypeId} {pos : String} {after : Array Edge}

theorem rows_one {μ : Nat → Option Nat} {ok : Nat → Prop} {w : World} {m : Nat} {ys : List (List SV)} {news : List Value} (hlen : news.length = ys.length * m) (hy : ∀ (i : Nat) (e : List SV), ys[i]? = some e → e.length = m)
    (hn : ∀ (i : Nat) (e : List SV) (j : Nat) (x : SV) (u : Value), ys[i]? = some e → e[j]? = some x → news[i * m + j]? = some u → Den μ ok w x u) (hcell : ∀ e ∈ ys, allCells e = true) : ∀ u ∈ news, u.oneCell' = true := by
  intro u hu
  obtain ⟨q, hq⟩ := List.mem_iff_getElem?.1 hu
  have hqlt : q < ys.length * m := by rw [← hlen]; exact (List.getElem?_eq_some_iff.1 hq).1
  have hm : 0 < m := by
    rcases Nat.eq_zero_or_pos m with h0 | h0
    · subst h0; simp at hqlt
    · exact h0
  have h1 : q / m < ys.length := Nat.div_lt_of_lt_mul (by rw [Nat.mul_comm]; exact hqlt)
  have h2 : q % m < m := Nat.mod_lt _ hm
  have h3 := hy (q / m) ys[q / m] (by simp [h1])
  have e : q / m * m + q % m = q := by rw [Nat.mul_comm]; exact Nat.div_add_mod q m
  have hx := hn (q / m) ys[q / m] (q % m) (ys[q / m][q % m]'(by omega)) u (by simp [h1]) (by simp) (by rw [e]; exact hq)
  exact isCell_ok hx (allCells_mem (hcell _ (List.getElem_mem h1)) _ (List.getElem_mem _))

/-- What append makes: the value, and the blocks then. -/
theorem append_run (hT : TabOk cx.P T) {μ : Nat → Option Nat} {ok : Nat → Prop} {a : Act} {w : World} (hI : Inv1 cx μ ok ⟨tm, hp, nx⟩ a w) {t te : TypeId} {y : Ty} {id m n C : Nat} {xs ys : List (List SV)} {sx : SV} {v u : Value} (ty : TypeId)
    (hv : Den μ ok w (.own id m 0 n C) v) (hrow : aget id hp = some (.row te false m xs C)) (hn : xs.length = n) (hu : Den μ ok w sx u) (hsrc : Src hp sx m ys) (ht : tySl T t = some (te, m)) (hy : aget te T = some y) (hm : 0 < m)
    (hcell : ∀ e ∈ ys, allCells e = true) {hp' : List (Nat × Blk)} (hdel : adelO id hp = some hp') (hb : (n + ys.length) * y.bytes ≤ 140737488355328) (hsz : n + ys.length ≤ maxLen) :
    ∃ v' w' C2 μ', (Builtin.append_ #[t, t] ty #[v, u]).run cx.P w = .ok v' w' ∧ n + ys.length ≤ C2 ∧ Inv1 cx μ' ok ⟨tm, (nx, .row te false m (xs ++ ys) C2) :: hp', Nat.succ nx⟩ a w' ∧ Den μ' ok w' (.own nx m 0 (n + ys.length) C2) v' := by
  obtain ⟨zt, y', t1, t2, t3, t4⟩ := tySl_ok ht
  rw [hy] at t3
  cases t3
  have htu : cx.P.underlying t = some (.slice te) := by have := (hT _ _ t1).td; rw [t2] at this; exact this
  obtain ⟨ti, z, i1, i2, i3, i4, i5⟩ := (hT _ _ hy).info
  have him : ti.size = m := i2.trans t4
  have hzs : z.cells.size = m := by
    have h1 := congrArg List.length i5
    simp only [List.length_map, Array.length_toList] at h1
    rw [h1, (hT _ _ hy).zlen, t4]
  have hget := adelO_get id hp hp' hdel
  have hdrop : ∀ i B, aget i hp' = some B → aget i hp = some B := fun i B hi => by
    rw [hget i] at hi
    split at hi
    · cases hi
    · exact hi
  have hmx : maxLen = 9223372036854775807 := rfl
  -- nothing is appended to nil
  have hnil : ∀ a0 u, (Builtin.append_ #[t, t] ty #[.slice a0 0 0, u]).run cx.P w = .ok (.slice a0 0 0) w → v = .slice a0 0 0 → ys = [] → xs = [] → n = 0 →
      ∃ v' w' C2 μ', (Builtin.append_ #[t, t] ty #[v, u]).run cx.P w = .ok v' w' ∧ n + ys.length ≤ C2 ∧ Inv1 cx μ' ok ⟨tm, (nx, .row te false m (xs ++ ys) C2) :: hp', Nat.succ nx⟩ a w' ∧ Den μ' ok w' (.own nx m 0 (n + ys.length) C2) v' := by
    rintro a0 u hr rfl rfl rfl rfl
    exact ⟨_, w, 0, μ, hr, by simp, (hI.ghost te false m).dropHp (fun i B hi => by
      rw [aget_cons] at hi ⊢
      by_cases e : i = nx
      · rw [if_pos e] at hi ⊢; exact hi
      · rw [if_neg e] at hi ⊢; exact hdrop i B hi), .ownNil _ _ _ _⟩
  have hlt : ∀ b, ok b → b < w.heap.size := hI.heap.lt
  -- a new row
  have hnew : ∀ (olds news : List Value) (C2 : Nat), olds.length = n * m → news.length = ys.length * m → n + ys.length ≤ C2 → C2 ≤ maxLen →
      (∀ (i : Nat) (e : List SV), xs[i]? = some e → e.length = m) → (∀ (i : Nat) (e : List SV), ys[i]? = some e → e.length = m) →
      (∀ (i : Nat) (e : List SV) (j : Nat) (x : SV) (u : Value), xs[i]? = some e → e[j]? = some x → olds[i * m + j]? = some u → Den μ ok w x u) →
      (∀ (i : Nat) (e : List SV) (j : Nat) (x : SV) (u : Value), ys[i]? = some e → e[j]? = some x → news[i * m + j]? = some u → Den μ ok w x u) →
      let w' := w.drew.alloc (.cells (olds.toArray ++ news.toArray ++ Builtin.zeroCells z.cells (C2 - (n + ys.length))) te)
      Inv1 cx (upd μ nx w.heap.size) ok ⟨tm, (nx, .row te false m (xs ++ ys) C2) :: hp', Nat.succ nx⟩ a w' ∧ Den (upd μ nx w.heap.size) ok w' (.own nx m 0 (n + ys.length) C2) (.slice (some ⟨w.heap.size, 0, none⟩) (n + ys.length) C2) := by
    intro olds news C2 ho hne hC hC2 hxl hyl hod hnd w'
    have hoth : ∀ b, ok b → w'.heap[b]? = w.heap[b]? := fun b hb => Below.heap_alloc w.drew _ b (hlt b hb)
    have harr : (olds.toArray ++ news.toArray ++ Builtin.zeroCells z.cells (C2 - (n + ys.length))) = (olds ++ news ++ (Builtin.zeroCells z.cells (C2 - (n + ys.length))).toList).toArray := by
      apply Array.ext'
      simp
    have hB : DenB μ ok w' w.drew.heap.size (.row te false m (xs ++ ys) C2) := by
      obtain ⟨r1, r2⟩ := row_app (μ := μ) (ok := ok) (w := w) (c2 := (olds ++ news ++ (Builtin.zeroCells z.cells (C2 - (n + ys.length))).toList).toArray) hxl hyl hod hnd (fun q hq => (app_cells ho hne).1 (by rw [hn] at hq; exact hq)) (fun q hq => by rw [hn]; exact (app_cells ho hne).2 hq)
      refine ⟨_, (0, 0), (MapKept.heap_alloc w.drew _).1, fun _ => rfl, fun j _ hj => by omega, ?_, by simp; omega, r1, fun i e j x u he hj hu => ?_⟩
      · simp only [Array.size_append, List.size_toArray, ho, hne, size_zeroCells, hzs, ← Nat.add_mul]
        congr 1
        omega
      · rw [harr] at hu
        exact (r2 i e j x u he hj hu).mono (fun _ _ h => h) (fun _ h => h) hoth
    have h1 := (hI.drew).alloc (.cells (olds.toArray ++ news.toArray ++ Builtin.zeroCells z.cells (C2 - (n + ys.length))) te) (.row te false m (xs ++ ys) C2) hB
    refine ⟨h1.dropHp fun i B hi => ?_, ?_⟩
    · rw [aget_cons] at hi ⊢
      by_cases e : i = nx
      · rw [if_pos e] at hi ⊢; exact hi
      · rw [if_neg e] at hi ⊢; exact hdrop i B hi
    · have := Den.own (μ := upd μ nx w.heap.size) (ok := ok) (w := w') (id := nx) (k := m) (lo := 0) (n := n + ys.length) (C := C2) (b := w.heap.size) (by simp [upd]) (by omega) hC2
      simpa using this
  rcases hsrc.den hI.hh hu with ⟨rfl, hys⟩ | ⟨ua, uc, rfl, hym⟩
  · -- nothing
    subst hys
    cases hv with
    | ownNil a0 _ _ _ =>
      refine hnil a0 _ ?_ rfl rfl (List.eq_nil_of_length_eq_zero hn) rfl
      cases a0 <;> simp [Builtin.append_, run_underlying htu, sizeOf, typeInfo, i1, Builtin.lenOf, run_firstCells_none, storeCells]
    | own hb0 g1 g2 =>
      rename_i b
      obtain ⟨_, hn'⟩ | ⟨b', q1, q2, hB⟩ := hI.hh id _ hrow
      · rw [hn'] at hb0; cases hb0
      rw [hb0] at q1
      cases q1
      refine ⟨.slice (some ⟨b, 0, none⟩) n C, w, C, upd μ nx b, ?_, by simp; omega, ?_, ?_⟩
      · have : n ≤ C := by omega
        simp [Builtin.append_, run_underlying htu, sizeOf, typeInfo, i1, Builtin.lenOf, run_firstCells_none, this, storeCells]
      · rw [List.append_nil]
        exact hI.move hrow hb0 (Upd.refl w b) hB hdel
      · have := Den.own (μ := upd μ nx b) (ok := ok) (w := w) (id := nx) (k := m) (lo := 0) (n := n) (C := C) (b := b) (by simp [upd]) g1 g2
        simpa using this
  · obtain ⟨news, hnl, hnc, hnd⟩ := hym.gather
    have hyl := hym.1
    have hnl' : news.length = ys.length * ti.size := by rw [him]; exact hnl
    cases hv with
    | ownNil a0 _ _ _ =>
      have hx0 : xs = [] := List.eq_nil_of_length_eq_zero hn
      by_cases h0 : ys.length = 0
      · have hy0 : ys = [] := List.eq_nil_of_length_eq_zero h0
        refine hnil a0 _ ?_ rfl hy0 hx0 rfl
        subst hy0
        cases a0 <;> simp [Builtin.append_, run_underlying htu, sizeOf, typeInfo, i1, Builtin.lenOf, Builtin.firstCells, loadCells, loadCellsFrom, storeCells]
      · have hr : (Builtin.append_ #[t, t] ty #[.slice a0 0 0, .slice (some ua) ys.length uc]).run cx.P w = .ok (.slice (some ⟨w.heap.size, 0, none⟩) ys.length (grownCap w ys.length 0 te)) (w.drew.alloc (.cells (news.toArray ++ Builtin.zeroCells z.cells (grownCap w ys.length 0 te - ys.length)) te)) := by
          cases a0 with
          | none => exact run_append_nil (P := cx.P) w t ty te ti z htu i1 i4 ua ys.length uc news hnl' hnc (by omega) (by rw [hmx] at hsz; omega) (by rw [i3]; simp only [Nat.zero_add] at hb; omega)
          | some a0 =>
            have := run_append_grow (P := cx.P) w t ty te ti z htu i1 i4 a0 0 0 [] (by simp) (by simp) ua ys.length uc news hnl' hnc (by omega) (by rw [hmx] at hsz; omega) (growslice_fits (by omega) (by rw [i3]; exact hb))
            simpa using this
        obtain ⟨h1, h2⟩ := hnew [] news (grownCap w ys.length 0 te) (by simp) hnl (by rw [Nat.zero_add]; exact grownCap_ge w ys.length 0 te) (grownCap_le_maxLen w ys.length 0 te (by omega)) (by rw [hx0]; simp) hyl (by rw [hx0]; simp) hnd
        have hge := grownCap_ge w ys.length 0 te
        refine ⟨_, _, grownCap w ys.length 0 te, upd μ nx w.heap.size, hr, by omega, ?_, ?_⟩
        · simp only [Nat.zero_add] at h1
          simpa using h1
        · simp only [Nat.zero_add] at h2
          simpa using h2
    | own hb0 g1 g2 =>
      rename_i b
      obtain ⟨_, hn'⟩ | ⟨b', q1, q2, hB⟩ := hI.hh id _ hrow
      · rw [hn'] at hb0; cases hb0
      rw [hb0] at q1
      cases q1
      obtain ⟨cur, zf, c1, c2, c3, c4, c5, c6, c7⟩ := hB
      have hzf := c2 rfl
      subst hzf
      have e0 : (⟨b, 0 * m, none⟩ : Addr) = ⟨b, 0, none⟩ := by rw [Nat.zero_mul]
      rw [e0]
      simp only [Nat.sub_zero]
      have hnm : n * m ≤ C * m := Nat.mul_le_mul_right _ (by omega)
      have holen : (cur.toList.take (n * m)).length = n * m := by simp; omega
      have hod : ∀ (i : Nat) (e : List SV) (j : Nat) (x : SV) (u : Value), xs[i]? = some e → e[j]? = some x → (cur.toList.take (n * m))[i * m + j]? = some u → Den μ ok w x u := by
        intro i e j x u he hj hu
        rw [List.getElem?_take] at hu
        split at hu
        · exact c7 i e j x u he hj (by simpa using hu)
        · cases hu
      by_cases hroom : n + ys.length ≤ C
      · have hfit : n * ti.size + news.length ≤ cur.size := by
          rw [him, hnl, c4, ← Nat.add_mul]
          exact Nat.mul_le_mul_right _ hroom
        have hr := run_append_room (P := cx.P) w t ty te ti htu i1 b n C cur c1 ua ys.length uc news hnl' hnc (rows_one hnl hyl hnd hcell) hroom hfit
        rw [him] at hr hfit
        have hupd : Upd w (w.setRow b (cur.toList.take (n * m) ++ news ++ cur.toList.drop (n * m + news.length)).toArray) b := ⟨fun b' hb' => setRow_other w b b' _ hb', by simp, rfl, rfl, rfl⟩
        have hoth : ∀ q, ok q → (w.setRow b (cur.toList.take (n * m) ++ news ++ cur.toList.drop (n * m + news.length)).toArray).heap[q]? = w.heap[q]? := fun q hq => hupd.other q fun e => q2 (e ▸ hq)
        obtain ⟨r1, r2⟩ := row_app (μ := μ) (ok := ok) (w := w) (c2 := (cur.toList.take (n * m) ++ news ++ cur.toList.drop (n * m + news.length)).toArray) c6 hyl hod hnd (fun q hq => (app_cells holen hnl).1 (by rw [hn] at hq; exact hq)) (fun q hq => by rw [hn]; exact (app_cells holen hnl).2 hq)
        have hB' : DenB μ ok (w.setRow b (cur.toList.take (n * m) ++ news ++ cur.toList.drop (n * m + news.length)).toArray) b (.row te false m (xs ++ ys) C) := by
          refine ⟨_, (0, 0), setRow_heap w b cur _ te _ c1, fun _ => rfl, fun j _ hj => by omega, ?_, by simp; omega, r1, fun i e j x u he hj hu => (r2 i e j x u he hj hu).mono (fun _ _ h => h) (fun _ h => h) hoth⟩
          simp
          omega
        refine ⟨_, _, C, upd μ nx b, hr, hroom, hI.move hrow hb0 hupd hB' hdel, ?_⟩
        have := Den.own (μ := upd μ nx b) (ok := ok) (w := w.setRow b (cur.toList.take (n * m) ++ news ++ cur.toList.drop (n * m + news.length)).toArray) (id := nx) (k := m) (lo := 0) (n := n + ys.length) (C := C) (b := b) (by simp [upd]) (by omega) g2
        simpa using this
      · have holds : ∀ (j : Nat) v, (cur.toList.take (n * m))[j]? = some v → w.cell? ((⟨b, 0, none⟩ : Addr).add j) = some v := by
          intro j v hj
          rw [List.getElem?_take] at hj
          split at hj
          · rw [add_add', Nat.zero_add, cell_at c1]; simpa using hj
          · cases hj
        have hr := run_append_grow (P := cx.P) w t ty te ti z htu i1 i4 ⟨b, 0, none⟩ n C (cur.toList.take (n * m)) (by rw [him]; exact holen) holds ua ys.length uc news hnl' hnc (by omega) (by rw [hmx] at hsz; omega) (growslice_fits (by omega) (by rw [i3]; exact hb))
        obtain ⟨h1, h2⟩ := hnew (cur.toList.take (n * m)) news (grownCap w (n + ys.length) C te) holen hnl (grownCap_ge _ _ _ _) (grownCap_le_maxLen _ _ _ _ hsz) c6 hyl hod hnd
        exact ⟨_, _, grownCap w (n + ys.length) C te, upd μ nx w.heap.size, hr, grownCap_ge w _ _ _, h1, h2⟩

/-- APPEND to a row that is owned. -/
theorem AWP.append (e : Env cx P fn lo) (hT : TabOk P T) {s0 sx : Operand} {t te : TypeId} {y : Ty} {id m n C : Nat} {xs ys : List (List SV)} {vx : SV} (hd : Nat.blt d fn.ntmps = true) (h1 : opd ⟨tm, hp, nx⟩ s0 = some (.own id m 0 n C)) (h2 : opd ⟨tm, hp, nx⟩ sx = some vx)
    (hrow : aget id hp = some (.row te false m xs C)) (ht : tySl T t = some (te, m)) (hy : aget te T = some y) (hm : Nat.blt 0 m = true) {hp' : List (Nat × Blk)} (hdel : adelO id hp = some hp')
    (hsrc : Src hp vx m ys) (hn : xs.length = n) (hcell : ∀ e ∈ ys, allCells e = true) (hb : (n + ys.length) * y.bytes ≤ 140737488355328) (hsz : n + ys.length ≤ 9223372036854775807)
    (g : ∀ C2, n + ys.length ≤ C2 → AWP cx (.ops all rest :: k) ⟨(d, .own nx m 0 (n + ys.length) C2) :: tm, (nx, .row te false m (xs ++ ys) C2) :: hp', Nat.succ nx⟩) :
    AWP cx (.ops all (⟨some d, .call ⟨.builtin .append, #[s0, sx], #[t, t]⟩, ty, pos, after, none⟩ :: rest) :: k) ⟨tm, hp, nx⟩ := by
  obtain ⟨rfl, rfl, _⟩ := e
  refine AWP.op rfl fun a w hi => ?_
  obtain ⟨μ, ok, hI⟩ := hi.one
  obtain ⟨v', w', C2, μ', r1, r2, r3, r4⟩ := append_run hT hI ty (opd_den hI.tmps h1) hrow hn (opd_den hI.tmps h2) hsrc ht hy (Nat.le_of_ble_eq_true hm) hcell hdel hb hsz
  have hrun : (execOp a.eval ⟨some d, .call ⟨.builtin .append, #[s0, sx], #[t, t]⟩, ty, pos, after, none⟩).run cx.P w = .ok (.value v') w' := by
    simp only [execOp, resolve, invoke, builtin, Sem.run_bind, Sem.run_pure, Result.andThen_ok, List.map_toArray, List.map_cons, List.map_nil, r1]
  rw [hrun, Oper.upon_value]
  exact g C2 r2 _ _ (r3.put (Nat.le_of_ble_eq_true hd) r4).inv

end
end Go.Sy
