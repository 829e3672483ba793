/-
  SYMBOLIC STATES, over any program, part 15: append.
-/
import Derived.Test.YthdcegeampcalaaGreatDoorEa
import Derived.Orders
import Derived.ProofKit
import Derived.Carry
import Derived.ChangeKeysEq
import Derived.Laws.MakeOwn
namespace Go.Sy
open Go.RowKit

section
variable {cx : Cx} {P : Program} {fn : Func} {lo : Nat} {T : Tab} {k : List It} {s : St} {tm : List (Nat × SV)} {hp : List (Nat × Blk)} {nx : Nat}
variable {all : Array Oper} {rest : List Oper} {d : Nat} {ty : TypeId} {pos : String} {after : Array Edge}

theorem rows_one {μ : Nat → Option Nat} {ok : Nat → Prop} {w : World} {m : Nat} {ys : List (List SV)} {news : List Value} (hlen : news.length = ys.length * m) (hy : ∀ (i : Nat) (e : List SV), ys[i]? = some e → e.length = m)
    (hn : ∀ (i : Nat) (e : List SV) (j : Nat) (x : SV) (u : Value), ys[i]? = some e → e[j]? = some x → news[i * m + j]? = some u → Den μ ok w x u) (hcell : ∀ e ∈ ys, allCells e = true) : ∀ u ∈ news, u.oneCell' = true := by
  intro u hu
  obtain ⟨q, hq⟩ := List.mem_iff_getElem?.1 hu
  have hqlt : q < ys.length * m := by rw [← hlen]; exact (List.getElem?_eq_some_iff.1 hq).1
  have hm : 0 < m := by
    rcases Nat.eq_zero_or_pos m with h0 | h0
    · subst h0; simp at hqlt
    · exact h0
  have h1 : q / m < ys.length := Nat.div_lt_of_lt_mul (by rw [Nat.mul_comm]; exact hqlt)
  have h2 : q % m < m := Nat.mod_lt _ hm
  have h3 := hy (q / m) ys[q / m] (by simp [h1])
  have e : q / m * m + q % m = q := by rw [Nat.mul_comm]; exact Nat.div_add_mod q m
  have hx := hn (q / m) ys[q / m] (q % m) (ys[q / m][q % m]'(by omega)) u (by simp [h1]) (by simp) (by rw [e]; exact hq)
  exact isCell_ok hx (allCells_mem (hcell _ (List.getElem_mem h1)) _ (List.getElem_mem _))

/-- What append makes: the value, and the blocks then. -/
theorem append_run (hT : TabOk cx.P T) {μ : Nat → Option Nat} {ok : Nat → Prop} {a : Act} {w : World} (hI : Inv1 cx μ ok ⟨tm, hp, nx⟩ a w) {t te : TypeId} {y : Ty} {id m n C : Nat} {xs ys : List (List SV)} {sx : SV} {v u : Value} (ty : TypeId)
    (hv : Den μ ok w (.own id m 0 n C) v) (hrow : aget id hp = some (.row te false m xs C)) (hn : xs.length = n) (hu : Den μ ok w sx u) (hsrc : Src hp sx m ys) (ht : tySl T t = some (te, m)) (hy : aget te T = some y) (hm : 0 < m)
    (hcell : ∀ e ∈ ys, allCells e = true) {hp' : List (Nat × Blk)} (hdel : adelO id hp = some hp') (hb : (n + ys.length) * y.bytes ≤ 140737488355328) (hsz : n + ys.length ≤ maxLen) :
    ∃ v' w' C2 μ', (Builtin.append_ #[t, t] ty #[v, u]).run cx.P w = .ok v' w' ∧ n + ys.length ≤ C2 ∧ Inv1 cx μ' ok ⟨tm, (nx, .row te false m (xs ++ ys) C2) :: hp', Nat.succ nx⟩ a w' ∧ Den μ' ok w' (.own nx m 0 (n + ys.length) C2) v' := by
  obtain ⟨zt, y', t1, t2, t3, t4⟩ := tySl_ok ht
  rw [hy] at t3
  cases t3
  have htu : cx.P.underlying t = some (.slice te) := by have := (hT _ _ t1).td; rw [t2] at this; exact this
  obtain ⟨ti, z, i1, i2, i3, i4, i5⟩ := (hT _ _ hy).info
  have him : ti.size = m := i2.trans t4
  have hzs : z.cells.size = m := by
    have h1 := congrArg List.length i5
    simp only [List.length_map, Array.length_toList] at h1
    rw [h1, (hT _ _ hy).zlen, t4]
  have hget := adelO_get id hp hp' hdel
  have hdrop : ∀ i B, aget i hp' = some B → aget i hp = some B := fun i B hi => by
    rw [hget i] at hi
    split at hi
    · cases hi
    · exact hi
  have hmx : maxLen = 9223372036854775807 := rfl
  -- nothing is appended to nil
  have hnil : ∀ a0 u, (Builtin.append_ #[t, t] ty #[.slice a0 0 0, u]).run cx.P w = .ok (.slice a0 0 0) w → v = .slice a0 0 0 → ys = [] → xs = [] → n = 0 →
      ∃ v' w' C2 μ', (Builtin.append_ #[t, t] ty #[v, u]).run cx.P w = .ok v' w' ∧ n + ys.length ≤ C2 ∧ Inv1 cx μ' ok ⟨tm, (nx, .row te false m (xs ++ ys) C2) :: hp', Nat.succ nx⟩ a w' ∧ Den μ' ok w' (.own nx m 0 (n + ys.length) C2) v' := by
    rintro a0 u hr rfl rfl rfl rfl
    exact ⟨_, w, 0, μ, hr, by simp, (hI.ghost te false m).dropHp (fun i B hi => by
      rw [aget_cons] at hi ⊢
      by_cases e : i = nx
      · rw [if_pos e] at hi ⊢; exact hi
      · rw [if_neg e] at hi ⊢; exact hdrop i B hi), .ownNil _ _ _ _⟩
  have hlt : ∀ b, ok b → b < w.heap.size := hI.heap.lt
  -- a new row
  have hnew : ∀ (olds news : List Value) (C2 : Nat), olds.length = n * m → news.length = ys.length * m → n + ys.length ≤ C2 → C2 ≤ maxLen →
      (∀ (i : Nat) (e : List SV), xs[i]? = some e → e.length = m) → (∀ (i : Nat) (e : List SV), ys[i]? = some e → e.length = m) →
      (∀ (i : Nat) (e : List SV) (j : Nat) (x : SV) (u : Value), xs[i]? = some e → e[j]? = some x → olds[i * m + j]? = some u → Den μ ok w x u) →
      (∀ (i : Nat) (e : List SV) (j : Nat) (x : SV) (u : Value), ys[i]? = some e → e[j]? = some x → news[i * m + j]? = some u → Den μ ok w x u) →
      let w' := w.drew.alloc (.cells (olds.toArray ++ news.toArray ++ Builtin.zeroCells z.cells (C2 - (n + ys.length))) te)
      Inv1 cx (upd μ nx w.heap.size) ok ⟨tm, (nx, .row te false m (xs ++ ys) C2) :: hp', Nat.succ nx⟩ a w' ∧ Den (upd μ nx w.heap.size) ok w' (.own nx m 0 (n + ys.length) C2) (.slice (some ⟨w.heap.size, 0, none⟩) (n + ys.length) C2) := by
    intro olds news C2 ho hne hC hC2 hxl hyl hod hnd w'
    have hoth : ∀ b, ok b → w'.heap[b]? = w.heap[b]? := fun b hb => Below.heap_alloc w.drew _ b (hlt b hb)
    have harr : (olds.toArray ++ news.toArray ++ Builtin.zeroCells z.cells (C2 - (n + ys.length))) = (olds ++ news ++ (Builtin.zeroCells z.cells (C2 - (n + ys.length))).toList).toArray := by
      apply Array.ext'
      simp
    have hB : DenB μ ok w' w.drew.heap.size (.row te false m (xs ++ ys) C2) := by
      obtain ⟨r1, r2⟩ := row_app (μ := μ) (ok := ok) (w := w) (c2 := (olds ++ news ++ (Builtin.zeroCells z.cells (C2 - (n + ys.length))).toList).toArray) hxl hyl hod hnd (fun q hq => (app_cells ho hne).1 (by rw [hn] at hq; exact hq)) (fun q hq => by rw [hn]; exact (app_cells ho hne).2 hq)
      refine ⟨_, (0, 0), (MapKept.heap_alloc w.drew _).1, fun _ => rfl, fun j _ hj => by omega, ?_, by simp; omega, r1, fun i e j x u he hj hu => ?_⟩
      · simp only [Array.size_append, List.size_toArray, ho, hne, size_zeroCells, hzs, ← Nat.add_mul]
        congr 1
        omega
      · rw [harr] at hu
        exact (r2 i e j x u he hj hu).mono (fun _ _ h => h) (fun _ h => h) hoth
    have h1 := (hI.drew).alloc (.cells (olds.toArray ++ news.toArray ++ Builtin.zeroCells z.cells (C2 - (n + ys.length))) te) (.row te false m (xs ++ ys) C2) hB
    refine ⟨h1.dropHp fun i B hi => ?_, ?_⟩
    · rw [aget_cons] at hi ⊢
      by_cases e : i = nx
      · rw [if_pos e] at hi ⊢; exact hi
      · rw [if_neg e] at hi ⊢; exact hdrop i B hi
    · have := Den.own (μ := upd μ nx w.heap.size) (ok := ok) (w := w') (id := nx) (k := m) (lo := 0) (n := n + ys.length) (C := C2) (b := w.heap.size) (by simp [upd]) (by omega) hC2
      simpa using this
  rcases hsrc.den hI.hh hu with ⟨rfl, hys⟩ | ⟨ua, uc, rfl, hym⟩
  · -- nothing
    subst hys
    cases hv with
    | ownNil a0 _ _ _ =>
      refine hnil a0 _ ?_ rfl rfl (List.eq_nil_of_length_eq_zero hn) rfl
      cases a0 <;> simp [Builtin.append_, run_underlying htu, sizeOf, typeInfo, i1, Builtin.lenOf, run_firstCells_none, storeCells]
    | own hb0 g1 g2 =>
      rename_i b
      obtain ⟨_, hn'⟩ | ⟨b', q1, q2, hB⟩ := hI.hh id _ hrow
      · rw [hn'] at hb0; cases hb0
      rw [hb0] at q1
      cases q1
      refine ⟨.slice (some ⟨b, 0, none⟩) n C, w, C, upd μ nx b, ?_, by simp; omega, ?_, ?_⟩
      · have : n ≤ C := by omega
        simp [Builtin.append_, run_underlying htu, sizeOf, typeInfo, i1, Builtin.lenOf, run_firstCells_none, this, storeCells]
      · rw [List.append_nil]
        exact hI.move hrow hb0 (Upd.refl w b) hB hdel
      · have := Den.own (μ := upd μ nx b) (ok := ok) (w := w) (id := nx) (k := m) (lo := 0) (n := n) (C := C) (b := b) (by simp [upd]) g1 g2
        simpa using this
  · obtain ⟨news, hnl, hnc, hnd⟩ := hym.gather
    have hyl := hym.1
    have hnl' : news.length = ys.length * ti.size := by rw [him]; exact hnl
    cases hv with
    | ownNil a0 _ _ _ =>
      have hx0 : xs = [] := List.eq_nil_of_length_eq_zero hn
      by_cases h0 : ys.length = 0
      · have hy0 : ys = [] := List.eq_nil_of_length_eq_zero h0
        refine hnil a0 _ ?_ rfl hy0 hx0 rfl
        subst hy0
        cases a0 <;> simp [Builtin.append_, run_underlying htu, sizeOf, typeInfo, i1, Builtin.lenOf, Builtin.firstCells, loadCells, loadCellsFrom, storeCells]
      · have hr : (Builtin.append_ #[t, t] ty #[.slice a0 0 0, .slice (some ua) ys.length uc]).run cx.P w = .ok (.slice (some ⟨w.heap.size, 0, none⟩) ys.length (grownCap w ys.length 0 te)) (w.drew.alloc (.cells (news.toArray ++ Builtin.zeroCells z.cells (grownCap w ys.length 0 te - ys.length)) te)) := by
          cases a0 with
          | none => exact run_append_nil (P := cx.P) w t ty te ti z htu i1 i4 ua ys.length uc news hnl' hnc (by omega) (by rw [hmx] at hsz; omega) (by rw [i3]; simp only [Nat.zero_add] at hb; omega)
          | some a0 =>
            have := run_append_grow (P := cx.P) w t ty te ti z htu i1 i4 a0 0 0 [] (by simp) (by simp) ua ys.length uc news hnl' hnc (by omega) (by rw [hmx] at hsz; omega) (growslice_fits (by omega) (by rw [i3]; exact hb))
            simpa using this
        obtain ⟨h1, h2⟩ := hnew [] news (grownCap w ys.length 0 te) (by simp) hnl (by rw [Nat.zero_add]; exact grownCap_ge w ys.length 0 te) (grownCap_le_maxLen w ys.length 0 te (by omega)) (by rw [hx0]; simp) hyl (by rw [hx0]; simp) hnd
        have hge := grownCap_ge w ys.length 0 te
        refine ⟨_, _, grownCap w ys.length 0 te, upd μ nx w.heap.size, hr, by omega, ?_, ?_⟩
        · simp only [Nat.zero_add] at h1
          simpa using h1
        · simp only [Nat.zero_add] at h2
          simpa using h2
    | own hb0 g1 g2 =>
      rename_i b
      obtain ⟨_, hn'⟩ | ⟨b', q1, q2, hB⟩ := hI.hh id _ hrow
      · rw [hn'] at hb0; cases hb0
      rw [hb0] at q1
      cases q1
      obtain ⟨cur, zf, c1, c2, c3, c4, c5, c6, c7⟩ := hB
      have hzf := c2 rfl
      subst hzf
      have e0 : (⟨b, 0 * m, none⟩ : Addr) = ⟨b, 0, none⟩ := by rw [Nat.zero_mul]
      rw [e0]
      simp only [Nat.sub_zero]
      have hnm : n * m ≤ C * m := Nat.mul_le_mul_right _ (by omega)
      have holen : (cur.toList.take (n * m)).length = n * m := by simp; omega
      have hod : ∀ (i : Nat) (e : List SV) (j : Nat) (x : SV) (u : Value), xs[i]? = some e → e[j]? = some x → (cur.toList.take (n * m))[i * m + j]? = some u → Den μ ok w x u := by
        intro i e j x u he hj hu
        rw [List.getElem?_take] at hu
        split at hu
        · exact c7 i e j x u he hj (by simpa using hu)
        · cases hu
      by_cases hroom : n + ys.length ≤ C
      · have hfit : n * ti.size + news.length ≤ cur.size := by
          rw [him, hnl, c4, ← Nat.add_mul]
          exact Nat.mul_le_mul_right _ hroom
        have hr := run_append_room (P := cx.P) w t ty te ti htu i1 b n C cur c1 ua ys.length uc news hnl' hnc (rows_one hnl hyl hnd hcell) hroom hfit
        rw [him] at hr hfit
        have hupd : Upd w (w.setRow b (cur.toList.take (n * m) ++ news ++ cur.toList.drop (n * m + news.length)).toArray) b := ⟨fun b' hb' => setRow_other w b b' _ hb', by simp, rfl, rfl, rfl⟩
        have hoth : ∀ q, ok q → (w.setRow b (cur.toList.take (n * m) ++ news ++ cur.toList.drop (n * m + news.length)).toArray).heap[q]? = w.heap[q]? := fun q hq => hupd.other q fun e => q2 (e ▸ hq)
        obtain ⟨r1, r2⟩ := row_app (μ := μ) (ok := ok) (w := w) (c2 := (cur.toList.take (n * m) ++ news ++ cur.toList.drop (n * m + news.length)).toArray) c6 hyl hod hnd (fun q hq => (app_cells holen hnl).1 (by rw [hn] at hq; exact hq)) (fun q hq => by rw [hn]; exact (app_cells holen hnl).2 hq)
        have hB' : DenB μ ok (w.setRow b (cur.toList.take (n * m) ++ news ++ cur.toList.drop (n * m + news.length)).toArray) b (.row te false m (xs ++ ys) C) := by
          refine ⟨_, (0, 0), setRow_heap w b cur _ te _ c1, fun _ => rfl, fun j _ hj => by omega, ?_, by simp; omega, r1, fun i e j x u he hj hu => (r2 i e j x u he hj hu).mono (fun _ _ h => h) (fun _ h => h) hoth⟩
          simp
          omega
        refine ⟨_, _, C, upd μ nx b, hr, hroom, hI.move hrow hb0 hupd hB' hdel, ?_⟩
        have := Den.own (μ := upd μ nx b) (ok := ok) (w := w.setRow b (cur.toList.take (n * m) ++ news ++ cur.toList.drop (n * m + news.length)).toArray) (id := nx) (k := m) (lo := 0) (n := n + ys.length) (C := C) (b := b) (by simp [upd]) (by omega) g2
        simpa using this
      · have holds : ∀ (j : Nat) v, (cur.toList.take (n * m))[j]? = some v → w.cell? ((⟨b, 0, none⟩ : Addr).add j) = some v := by
          intro j v hj
          rw [List.getElem?_take] at hj
          split at hj
          · rw [add_add', Nat.zero_add, cell_at c1]; simpa using hj
          · cases hj
        have hr := run_append_grow (P := cx.P) w t ty te ti z htu i1 i4 ⟨b, 0, none⟩ n C (cur.toList.take (n * m)) (by rw [him]; exact holen) holds ua ys.length uc news hnl' hnc (by omega) (by rw [hmx] at hsz; omega) (growslice_fits (by omega) (by rw [i3]; exact hb))
        obtain ⟨h1, h2⟩ := hnew (cur.toList.take (n * m)) news (grownCap w (n + ys.length) C te) holen hnl (grownCap_ge _ _ _ _) (grownCap_le_maxLen _ _ _ _ hsz) c6 hyl hod hnd
        exact ⟨_, _, grownCap w (n + ys.length) C te, upd μ nx w.heap.size, hr, grownCap_ge w _ _ _, h1, h2⟩

/-- APPEND to a row that is owned. -/
theorem AWP.append (e : Env cx P fn lo) (hT : TabOk P T) {s0 sx : Operand} {t te : TypeId} {y : Ty} {id m n C : Nat} {xs ys : List (List SV)} {vx : SV} (hd : Nat.blt d fn.ntmps = true) (h1 : opd ⟨tm, hp, nx⟩ s0 = some (.own id m 0 n C)) (h2 : opd ⟨tm, hp, nx⟩ sx = some vx)
    (hrow : aget id hp = some (.row te false m xs C)) (ht : tySl T t = some (te, m)) (hy : aget te T = some y) (hm : Nat.blt 0 m = true) {hp' : List (Nat × Blk)} (hdel : adelO id hp = some hp')
    (hsrc : Src hp vx m ys) (hn : xs.length = n) (hcell : ∀ e ∈ ys, allCells e = true) (hb : (n + ys.length) * y.bytes ≤ 140737488355328) (hsz : n + ys.length ≤ 9223372036854775807)
    (g : ∀ C2, n + ys.length ≤ C2 → AWP cx (.ops all rest :: k) ⟨(d, .own nx m 0 (n + ys.length) C2) :: tm, (nx, .row te false m (xs ++ ys) C2) :: hp', Nat.succ nx⟩) :
    AWP cx (.ops all (⟨some d, .call ⟨.builtin .append, #[s0, sx], #[t, t]⟩, ty, pos, after, none⟩ :: rest) :: k) ⟨tm, hp, nx⟩ := by
  obtain ⟨rfl, rfl, _⟩ := e
  refine AWP.op rfl fun a w hi => ?_
  obtain ⟨μ, ok, hI⟩ := hi.one
  obtain ⟨v', w', C2, μ', r1, r2, r3, r4⟩ := append_run hT hI ty (opd_den hI.tmps h1) hrow hn (opd_den hI.tmps h2) hsrc ht hy (Nat.le_of_ble_eq_true hm) hcell hdel hb hsz
  have hrun : (execOp a.eval ⟨some d, .call ⟨.builtin .append, #[s0, sx], #[t, t]⟩, ty, pos, after, none⟩).run cx.P w = .ok (.value v') w' := by
    simp only [execOp, resolve, invoke, builtin, Sem.run_bind, Sem.run_pure, Result.andThen_ok, List.map_toArray, List.map_cons, List.map_nil, r1]
  rw [hrun, Oper.upon_value]
  exact g C2 r2 _ _ (r3.put (Nat.le_of_ble_eq_true hd) r4).inv

end
end Go.Sy

/-
  SYMBOLIC STATES, over any program, part 16: rows that are written no more; regions that draw their order, where they only read.
-/
namespace Go.Sy
open Go.RowKit

section
variable {cx : Cx} {P : Program} {fn : Func} {lo : Nat} {T : Tab} {k : List It} {s : St} {tm : List (Nat × SV)} {hp : List (Nat × Blk)} {nx : Nat}

/-! ### A row that is owned becomes one that is only read -/
def frz (id : Nat) (ys : List (List DV)) : SV → SV
  | .own i k lo n C => bif Nat.beq i id then .d (.sl k ((ys.drop lo).take n)) else .own i k lo n C
  | x => x

def frzT (id : Nat) (ys : List (List DV)) : List (Nat × SV) → Option (List (Nat × SV))
  | [] => some []
  | (t, x) :: l => match frzT id ys l with
    | some r => forceK (frz id ys x) fun x => some ((t, x) :: r)
    | none => none

theorem frzT_get (id : Nat) (ys : List (List DV)) : ∀ (l r : List (Nat × SV)), frzT id ys l = some r → ∀ t x, aget t r = some x → ∃ y, aget t l = some y ∧ x = frz id ys y := by
  intro l
  induction l with
  | nil => intro r h t x hx; simp [frzT] at h; subst h; simp [aget] at hx
  | cons p l ih =>
    obtain ⟨u, y⟩ := p
    intro r h t x hx
    simp only [frzT, forceK_eq] at h
    cases e : frzT id ys l with
    | none => rw [e] at h; cases h
    | some r1 =>
      rw [e] at h
      cases h
      rw [aget_cons] at hx ⊢
      by_cases ht : t = u
      · rw [if_pos ht] at hx ⊢
        cases hx
        exact ⟨y, rfl, rfl⟩
      · rw [if_neg ht] at hx ⊢
        exact ih r1 e t x hx

/-- In every slot the row (of elements that hang on nothing that is owned) is from here on only read. -/
theorem AWP.freeze {id m C : Nat} {te : TypeId} {fz : Bool} {ys : List (List DV)} (hrow : aget id hp = some (.row te fz m (ys.map (·.map SV.d)) C)) {tm' : List (Nat × SV)} {hp' : List (Nat × Blk)} (hT : frzT id ys tm = some tm') (hdel : adelO id hp = some hp')
    (hlen : ∀ t k lo n C', aget t tm = some (.own id k lo n C') → k = m ∧ lo + n ≤ ys.length) (g : AWP cx k ⟨tm', hp', nx⟩) : AWP cx k ⟨tm, hp, nx⟩ := fun a w hi => by
  obtain ⟨μ, ok, hi⟩ := hi.one
  have hget := adelO_get id hp hp' hdel
  have hold : ∀ i C, aget i hp' = some C → i ≠ id ∧ aget i hp = some C := fun i C hi => by
    rw [hget i] at hi
    by_cases e : i = id
    · rw [if_pos e] at hi; cases hi
    · rw [if_neg e] at hi; exact ⟨e, hi⟩
  let ok' : Nat → Prop := fun b => ok b ∨ μ id = some b
  have hsub : ∀ b, ok b → ok' b := fun b h => .inl h
  have hid := hi.heap.own id _ hrow
  refine g a w (Inv1.inv (μ := μ) (ok := ok') ⟨hi.defers, hi.size, ⟨hi.heap.mu, hi.heap.fresh, fun b h => .inl (hi.heap.sub b h), fun b hb => ?_, fun b hb => ?_, fun i B hB => ?_, fun i j C D b hC hD => hi.heap.inj i j C D b (hold i C hC).2 (hold j D hD).2, hi.heap.frame, hi.heap.size, hi.heap.os, hi.heap.tape, hi.heap.output⟩, fun t x hx => ?_⟩)
  · rcases hb with hb | hb
    · exact hi.heap.lt b hb
    · obtain ⟨_, hn⟩ | ⟨b', h1, h2, _⟩ := hid
      · rw [hn] at hb; cases hb
      · rw [hb] at h1; cases h1; exact h2
  · rcases hb with hb | hb
    · exact hi.heap.okNew b hb
    · obtain ⟨_, hn⟩ | ⟨b', h1, _, _, h4, _⟩ := hid
      · rw [hn] at hb; cases hb
      · rw [hb] at h1; cases h1; exact .inr h4
  · obtain ⟨e1, e2⟩ := hold i B hB
    obtain hg | ⟨b, h1, h2, h3, h4, h5⟩ := hi.heap.own i B e2
    · exact .inl hg
    · refine .inr ⟨b, h1, h2, fun hb => ?_, h4, h5.mono (fun _ _ h => h) hsub (fun _ _ => rfl) rfl⟩
      rcases hb with hb | hb
      · exact h3 hb
      · exact e1 (hi.heap.inj i id B _ b e2 hrow h1 hb)
  · obtain ⟨y, h1, rfl⟩ := frzT_get id ys tm tm' hT t x hx
    have hd := hi.tmps t y h1
    have keep : ∀ {z : SV} {v : Value}, Den μ ok w z v → Den μ ok' w z v := fun h => h.mono (fun _ _ h => h) hsub (fun _ _ => rfl)
    cases y with
    | own i k lo n C' =>
      simp only [frz]
      by_cases e : i = id
      · subst e
        simp only [Nat.beq_refl, cond_true]
        obtain ⟨rfl, hle⟩ := hlen t k lo n C' h1
        exact Cv.den (lend := [i]) (ok' := ok') hi.hh hsub (fun j hj B hB b hb => by simp at hj; subst hj; exact .inr hb) (.own hrow (by simp) hle) hd
      · rw [beq_ne e]
        exact keep hd
    | _ => exact keep hd

/-! ### Regions that draw their order -/
theorem Inv.same {tm1 tm2 : List (Nat × SV)} (h : ∀ t, aget t tm1 = aget t tm2) {a : Act} {w : World} (hi : Inv cx ⟨tm1, hp, nx⟩ a w) : Inv cx ⟨tm2, hp, nx⟩ a w := by
  obtain ⟨μ, ok, hi⟩ := hi.one
  exact (Inv1.inv (μ := μ) (ok := ok) ⟨hi.defers, hi.size, hi.heap, fun t x hx => hi.tmps t x (by rw [← hx]; exact h t)⟩)

/-- One operation's step, told by the slots that it looks at alone. -/
def VStep (cx : Cx) (all : Array Oper) (hp : List (Nat × Blk)) (nx : Nat) (o : Oper) (tm : List (Nat × SV)) (d : Nat) (x : SV) : Prop :=
  ∀ tm' k, (∀ t ∈ o.looksAt all, aget t tm' = aget t tm) → AWP cx (.ops all [] :: k) ⟨(d, x) :: tm', hp, nx⟩ → AWP cx (.ops all [o] :: k) ⟨tm', hp, nx⟩

inductive Good (cx : Cx) (all : Array Oper) (hp : List (Nat × Blk)) (nx : Nat) (tm : List (Nat × SV)) : Nat → List (Nat × SV) → Prop where
  | nil : Good cx all hp nx tm 0 []
  | step {i : Nat} {done : List (Nat × SV)} {o : Oper} {d : Nat} {x : SV} (h : Good cx all hp nx tm i done) (ho : all[i]? = some o) (hd : o.dst = some d) (hv : VStep cx all hp nx o (done ++ tm) d x) : Good cx all hp nx tm (i + 1) ((d, x) :: done)

theorem aget_append {α : Type} (t : Nat) (l m : List (Nat × α)) : aget t (l ++ m) = match aget t l with | some x => some x | none => aget t m := by
  induction l with
  | nil => rfl
  | cons p l ih =>
    obtain ⟨u, x⟩ := p
    rw [List.cons_append, aget_cons, aget_cons]
    by_cases h : t = u
    · rw [if_pos h, if_pos h]
    · rw [if_neg h, if_neg h, ih]

/-- What each operation of a region that is done has in its slot. -/
theorem Good.get {all : Array Oper} {n : Nat} {done : List (Nat × SV)} (h : Good cx all hp nx tm n done) : done.length = n ∧ ∀ i o, i < n → all[i]? = some o →
    ∃ d x tmi, o.dst = some d ∧ VStep cx all hp nx o tmi d x ∧ (∃ pre suf, done = pre ++ (d, x) :: suf ∧ suf.length = i ∧ tmi = suf ++ tm) := by
  induction h with
  | nil => exact ⟨rfl, fun i o hi => by omega⟩
  | step h ho hd hv ih =>
    rename_i i0 done o0 d0 x0
    refine ⟨by simp [ih.1], fun i o hi hoi => ?_⟩
    by_cases e : i = i0
    · subst e
      rw [ho] at hoi
      cases hoi
      exact ⟨d0, x0, done ++ tm, hd, hv, [], done, rfl, ih.1, rfl⟩
    · obtain ⟨d, x, tmi, h1, h2, pre, suf, h3, h4, h5⟩ := ih.2 i o (by omega) hoi
      exact ⟨d, x, tmi, h1, h2, (d0, x0) :: pre, suf, by rw [h3]; rfl, h4, h5⟩

def drawOk (all : Array Oper) : Bool :=
  all.toList.zipIdx.all fun (o, j) => o.dst.isSome && ((all.toList.zipIdx.all fun (o', i) => i == j || o'.dst != o.dst) &&
    (((o.looksAt all).all fun t => all.toList.zipIdx.all fun (o', i) => o'.dst != some t || (decide (i < j) && o.after.any fun e => e.on == i && Region.binds .any e)) && o.after.all fun e => !Region.binds .any e || decide (e.on < j)))

structure DrawOk (all : Array Oper) : Prop where
  dst : ∀ (j : Nat) (o : Oper), all[j]? = some o → o.dst.isSome = true
  one : ∀ (i j : Nat) (o o' : Oper), all[i]? = some o' → all[j]? = some o → o'.dst = o.dst → i = j
  dep : ∀ (j : Nat) (o : Oper) (t : Nat), all[j]? = some o → t ∈ o.looksAt all → ∀ (i : Nat) (o' : Oper), all[i]? = some o' → o'.dst = some t → i < j ∧ ∃ e ∈ o.after, e.on = i ∧ Region.binds .any e = true
  acyc : ∀ (j : Nat) (o : Oper), all[j]? = some o → ∀ e ∈ o.after, Region.binds .any e = true → e.on < j

theorem drawOk_ok {all : Array Oper} (h : drawOk all = true) : DrawOk all := by
  unfold drawOk at h
  rw [List.all_eq_true] at h
  have mem : ∀ j o, all[j]? = some o → (o, j) ∈ all.toList.zipIdx := fun j o ho => by
    rw [List.mk_mem_zipIdx_iff_getElem?, Array.getElem?_toList]
    exact ho
  have h' : ∀ j o, all[j]? = some o → _ := fun j o ho => h (o, j) (mem j o ho)
  simp only [Bool.and_eq_true] at h'
  refine ⟨fun j o ho => (h' j o ho).1, fun i j o o' hi hj e => ?_, fun j o t hj ht i o' hi e => ?_, fun j o hj e he hb => ?_⟩
  · have := (h' j o hj).2.1
    rw [List.all_eq_true] at this
    have := this (o', i) (mem i o' hi)
    simpa [e] using this
  · have := (h' j o hj).2.2.1
    rw [List.all_eq_true] at this
    have := this t ht
    rw [List.all_eq_true] at this
    have := this (o', i) (mem i o' hi)
    simp only [e, bne_self_eq_false, Bool.false_or, Bool.and_eq_true, decide_eq_true_eq, Array.any_eq_true] at this
    obtain ⟨h1, q, h2, h3⟩ := this
    exact ⟨h1, o.after[q], by simp, by simpa using h3.1, h3.2⟩
  · have := (h' j o hj).2.2.2
    rw [Array.all_eq_true_iff_forall_mem] at this
    have := this e he
    simpa [hb] using this

theorem upon_congrQ {o : Oper} {a : Act} {next : Act → World → Prop} {Q Q' : Exit → Act → World → Prop} (hp : ∀ c a w, Q (.panic c) a w → Q' (.panic c) a w) (ho : ∀ a w, Q .outgrown a w → Q' .outgrown a w) {r : Result Next} (h : o.upon P a next Q r) : o.upon P a next Q' r := by
  cases r with
  | ok n w =>
    cases n <;> first | exact h | skip
    refine Calls.mono h fun e w' he => ?_
    cases e with
    | returned v => exact he
    | panicked c => exact hp _ _ _ he
    | outgrown => obtain ⟨a, w, he⟩ := he; exact ⟨a, w, ho _ _ he⟩
  | halt x w => cases x <;> first | exact h | exact hp _ _ _ h

theorem pairs_there {D : Nat → Nat} {X : Nat → SV} {n : Nat} (hD : ∀ a b, a < n → b < n → D a = D b → a = b) : ∀ (l : List Nat), (∀ i ∈ l, i < n) → ∀ j ∈ l, aget (D j) (l.map fun i => (D i, X i)) = some (X j)
  | [], _, j, hj => by cases hj
  | i :: l, hl, j, hj => by
    rw [List.map_cons, aget_cons]
    by_cases e : D j = D i
    · rw [if_pos e]
      have : j = i := hD j i (hl j hj) (hl i (by simp)) e
      rw [this]
    · rw [if_neg e]
      rcases List.mem_cons.1 hj with rfl | hj
      · exact absurd rfl e
      · exact pairs_there hD l (fun i hi => hl i (by simp [hi])) j hj

theorem pairs_none {D : Nat → Nat} {X : Nat → SV} {t : Nat} : ∀ (l : List Nat), (∀ j ∈ l, D j ≠ t) → aget t (l.map fun i => (D i, X i)) = none
  | [], _ => rfl
  | i :: l, hl => by
    rw [List.map_cons, aget_cons, if_neg (fun e => hl i (by simp) e.symm)]
    exact pairs_none l fun j hj => hl j (by simp [hj])

theorem nodup_len : ∀ (l m : List Nat), l.Nodup → l ⊆ m → l.length ≤ m.length
  | [], _, _, _ => Nat.zero_le _
  | x :: l, m, hn, hs => by
    obtain ⟨h1, h2⟩ := List.nodup_cons.1 hn
    have hx : x ∈ m := hs (by simp)
    have := nodup_len l (m.erase x) h2 fun y hy => (List.mem_erase_of_ne (fun e => by subst e; exact h1 hy)).2 (hs (by simp [hy]))
    rw [List.length_erase_of_mem hx] at this
    have hpos : 0 < m.length := List.length_pos_of_mem hx
    simp
    omega

/-- A REGION THAT DRAWS ITS ORDER, and only reads: whatever the order, each slot has what the text's order gives it. -/
theorem AWP.draw (e : Env cx P fn lo) (hm : P.follows .mixedOrders = true) {id : Nat} {all : Array Oper} {done : List (Nat × SV)} (hchk : drawOk all = true) (hg : Good cx all hp nx tm all.size done) (g : AWP cx k ⟨done ++ tm, hp, nx⟩) :
    AWP cx (.code (.region id all true) :: k) ⟨tm, hp, nx⟩ := by
  obtain ⟨rfl, rfl, _⟩ := e
  have ck := drawOk_ok hchk
  obtain ⟨hlen, hget⟩ := hg.get
  generalize hn : all.size = n at *
  -- what each operation has in its slot
  let D : Nat → Nat := fun i => (done.getD (n - 1 - i) (0, undefS)).1
  let X : Nat → SV := fun i => (done.getD (n - 1 - i) (0, undefS)).2
  have hall : ∀ i, i < n → ∃ o, all[i]? = some o := fun i hi => ⟨all[i]'(by omega), by simp [hn, hi]⟩
  have hsuf : ∀ i, i ≤ n → done.drop (n - i) = (List.range i).reverse.map fun j => (D j, X j) := by
    intro i hi
    apply List.ext_getElem?
    intro q
    rw [List.getElem?_drop, List.getElem?_map]
    by_cases hq : q < i
    · rw [List.getElem?_reverse (by simpa using hq)]
      simp only [List.length_range]
      rw [List.getElem?_range (by omega)]
      have e1 : n - i + q = n - 1 - (i - 1 - q) := by omega
      have hlt : n - 1 - (i - 1 - q) < done.length := by omega
      simp only [Option.map_some, D, X, List.getD_eq_getElem?_getD]
      rw [e1, List.getElem?_eq_getElem hlt]
      rfl
    · rw [List.getElem?_eq_none (by omega), List.getElem?_eq_none (by simp; omega)]
      rfl
  have hop : ∀ i o, i < n → all[i]? = some o → o.dst = some (D i) ∧ VStep cx all hp nx o (((List.range i).reverse.map fun j => (D j, X j)) ++ tm) (D i) (X i) := by
    intro i o hi ho
    obtain ⟨d, x, tmi, h1, h2, pre, suf, h3, h4, h5⟩ := hget i o hi ho
    have hpre : pre.length = n - 1 - i := by
      have := congrArg List.length h3
      simp at this
      omega
    have hat : done[n - 1 - i]? = some (d, x) := by
      rw [h3, List.getElem?_append_right (by omega), hpre]
      simp
    have hDX : D i = d ∧ X i = x := by
      simp only [D, X, List.getD_eq_getElem?_getD, hat, Option.getD_some, and_self]
    have hs2 : suf = (List.range i).reverse.map fun j => (D j, X j) := by
      rw [← hsuf i (by omega), h3]
      have e1 : n - i = pre.length + 1 := by omega
      rw [e1, List.drop_append]
      simp
    rw [hDX.1, hDX.2, ← hs2, ← h5]
    exact ⟨h1, h2⟩
  have hD : ∀ a b, a < n → b < n → D a = D b → a = b := by
    intro a b ha hb hab
    obtain ⟨oa, hoa⟩ := hall a ha
    obtain ⟨ob, hob⟩ := hall b hb
    exact ck.one a b ob oa hoa hob (by rw [(hop a oa ha hoa).1, (hop b ob hb hob).1, hab])
  have hdone : done = (List.range n).reverse.map fun j => (D j, X j) := by
    have := hsuf n (Nat.le_refl _)
    rwa [Nat.sub_self, List.drop_zero] at this
  -- any order
  have key : ∀ (fuel : Nat) (listed : Array Bool) (l : List Nat) (a : Act) (w : World), listed.size = n → (∀ i, i < n → (listed.getD i true = true ↔ i ∈ l)) → l.Nodup → (∀ i ∈ l, i < n) → l.length + fuel = n →
      Inv cx ⟨(l.map fun j => (D j, X j)) ++ tm, hp, nx⟩ a w → wpAny cx.P .any all (K cx.P cx.R k) fuel listed a w := by
    intro fuel
    induction fuel with
    | zero =>
      intro listed l a w hs hl hnd hln hf hi
      have hmem : ∀ i, i < n → i ∈ l := by
        intro i hi
        refine Classical.byContradiction fun hni => ?_
        have := nodup_len (i :: l) (List.range n) (List.nodup_cons.2 ⟨hni, hnd⟩) fun j hj => by
          rcases List.mem_cons.1 hj with rfl | hj
          · simpa using hi
          · simpa using hln j hj
        simp at this
        omega
      refine ⟨?_, ?_⟩
      · unfold Region.ready
        rw [List.filter_eq_nil_iff]
        intro i hi
        have := (hl i (by simpa [hn] using hi)).2 (hmem i (by simpa [hn] using hi))
        simp [this]
      · refine g a w (Inv.same (fun t => ?_) hi)
        rw [aget_append, aget_append, hdone]
        by_cases ht : ∃ j, j < n ∧ D j = t
        · obtain ⟨j, hj, rfl⟩ := ht
          rw [pairs_there hD l hln j (hmem j hj), pairs_there hD (List.range n).reverse (fun i hi => by simpa using hi) j (by simpa using hj)]
        · rw [pairs_none l (fun j hj e => ht ⟨j, hln j hj, e⟩), pairs_none (List.range n).reverse (fun j hj e => ht ⟨j, by simpa using hj, e⟩)]
    | succ fuel ih =>
      intro listed l a w hs hl hnd hln hf hi
      have hready : ∀ i, i ∈ Region.ready .any all listed ↔ i < n ∧ i ∉ l ∧ ∀ o, all[i]? = some o → ∀ e ∈ o.after, Region.binds .any e = true → listed.getD e.on false = true := by
        intro i
        unfold Region.ready
        rw [List.mem_filter]
        simp only [List.mem_range, hn, Bool.and_eq_true]
        constructor
        · rintro ⟨h1, h2, h3⟩
          obtain ⟨o, ho⟩ := hall i h1
          refine ⟨h1, fun hm => ?_, fun o' ho' e he hb => ?_⟩
          · rw [(hl i h1).2 hm] at h2; cases h2
          · rw [ho'] at h3
            simp only [Option.map_some, Option.getD_some] at h3
            rw [Array.all_eq_true_iff_forall_mem] at h3
            have := h3 e he
            simpa [hb] using this
        · rintro ⟨h1, h2, h3⟩
          obtain ⟨o, ho⟩ := hall i h1
          refine ⟨h1, ?_, ?_⟩
          · cases hg : listed.getD i true with
            | false => rfl
            | true => exact absurd ((hl i h1).1 hg) h2
          · rw [ho]
            simp only [Option.map_some, Option.getD_some]
            rw [Array.all_eq_true_iff_forall_mem]
            intro e he
            cases hb : Region.binds .any e with
            | false => rfl
            | true => simpa [hb] using h3 o ho e he hb
      have hlisted : ∀ i, i < n → (listed.getD i false = true ↔ i ∈ l) := fun i hi => by
        have : listed.getD i false = listed.getD i true := by
          have : i < listed.size := by omega
          simp [this]
        rw [this]
        exact hl i hi
      refine ⟨fun h0 => ?_, fun i hi' => ?_⟩
      · -- something is ready
        exfalso
        have hex : ∃ i, i < n ∧ i ∉ l := by
          refine Classical.byContradiction fun hno => ?_
          have hsub : List.range n ⊆ l := fun j hj => Classical.byContradiction fun hjl => hno ⟨j, by simpa using hj, hjl⟩
          have := nodup_len _ _ List.nodup_range hsub
          simp at this
          omega
        obtain ⟨i, ⟨hi1, hi2⟩, hmin⟩ := exists_min (fun i => i < n ∧ i ∉ l) _ hex.choose_spec
        have : i ∈ Region.ready .any all listed := (hready i).2 ⟨hi1, hi2, fun o ho e he hb => by
          have hlt := ck.acyc i o ho e he hb
          refine (hlisted e.on (by omega)).2 (Classical.byContradiction fun hnl => ?_)
          have := hmin e.on ⟨by omega, hnl⟩
          omega⟩
        rw [h0] at this
        cases this
      · obtain ⟨h1, h2, h3⟩ := (hready i).1 hi'
        obtain ⟨o, ho⟩ := hall i h1
        obtain ⟨hdst, hv⟩ := hop i o h1 ho
        have hagree : ∀ t ∈ o.looksAt all, aget t ((l.map fun j => (D j, X j)) ++ tm) = aget t (((List.range i).reverse.map fun j => (D j, X j)) ++ tm) := by
          intro t ht
          rw [aget_append, aget_append]
          by_cases hex : ∃ j, j < n ∧ D j = t
          · obtain ⟨j, hj, rfl⟩ := hex
            obtain ⟨oj, hoj⟩ := hall j hj
            obtain ⟨hlt, e, he1, he2, he3⟩ := ck.dep i o _ ho ht j oj hoj (hop j oj hj hoj).1
            have hjl : j ∈ l := by
              have := h3 o ho e he1 he3
              rw [he2] at this
              exact (hlisted j hj).1 this
            rw [pairs_there hD l hln j hjl, pairs_there hD (List.range i).reverse (fun q hq => Nat.lt_trans (by simpa using hq) h1) j (by simpa using hlt)]
          · rw [pairs_none l (fun j hj e => hex ⟨j, hln j hj, e⟩), pairs_none (List.range i).reverse (fun j hj e => hex ⟨j, Nat.lt_trans (by simpa using hj) h1, e⟩)]
        let Φ : Act → World → Prop := wpAny cx.P .any all (K cx.P cx.R k) fuel (listed.setIfInBounds i true)
        have hstep := hv ((l.map fun j => (D j, X j)) ++ tm) (.inv Φ :: k) hagree (fun a' w' hi2 => by
          show Φ a' w'
          refine ih (listed.setIfInBounds i true) (i :: l) a' w' (by simpa using hs) (fun q hq => ?_) (List.nodup_cons.2 ⟨h2, hnd⟩) (fun q hq => ?_) (by simp; omega) hi2
          · by_cases e : q = i
            · subst e; simp [hs, hq]
            · have e' : ¬ i = q := fun h => e h.symm
              have := hl q hq
              simp only [Array.getD_eq_getD_getElem?] at this ⊢
              rw [Array.getElem?_setIfInBounds_ne e', this]
              simp [e]
          · rcases List.mem_cons.1 hq with rfl | hq
            · exact h1
            · exact hln q hq)
        have hw := hstep a w hi
        have hw : wpList cx.P all (K cx.P cx.R (.inv Φ :: k)) [o] a w := hw
        unfold wpOp
        simp only [ho]
        unfold wpList at hw
        by_cases hwant : Region.wanted o (yielded all a.tmps) = true
        · rw [if_pos hwant] at hw ⊢
          rcases hw with hw | ⟨ha, hlo⟩
          · exact .inl (upon_congrQ (Q := K cx.P cx.R (.inv Φ :: k)) (fun _ _ _ h => h) (fun _ _ h => h) hw)
          · obtain ⟨a0, w0, hlo⟩ := hlo
            exact .inr ⟨ha, a0, w0, hlo⟩
        · rw [if_neg hwant] at hw ⊢
          exact hw
  intro a w hi
  refine wp_region_any hm ?_
  rw [hn]
  refine key n (Array.replicate n false) [] a _ (by simp) (fun i hi => by simp [hi]) List.nodup_nil (by simp) (by simp) ?_
  obtain ⟨μ, ok, hi⟩ := hi.one
  exact hi.drew.inv

end
end Go.Sy

/-
  SYMBOLIC STATES, over any program, part 17: the steps of a region that draws its order.
-/
namespace Go.Sy
open Go.RowKit

section
variable {cx : Cx} {P : Program} {fn : Func} {lo : Nat} {T : Tab} {k : List It} {tm tm' : List (Nat × SV)} {hp : List (Nat × Blk)} {nx : Nat} {all : Array Oper}

theorem opd_eq {x : Operand} (h : ∀ t, x = .tmp t → aget t tm = aget t tm') : opd ⟨tm, hp, nx⟩ x = opd ⟨tm', hp, nx⟩ x := by
  cases x with
  | tmp t => simp only [opd, h t rfl]
  | _ => rfl
theorem opdR_eq {x : Operand} (h : ∀ t, x = .tmp t → aget t tm = aget t tm') : opdR ⟨tm, hp, nx⟩ x = opdR ⟨tm', hp, nx⟩ x := by
  unfold opdR
  split
  · exact h _ rfl
  · rfl
  · exact opd_eq h

theorem fillK_congr {place : Nat → Option (Nat × Nat)} : ∀ (l : List (Nat × Operand)) (cs : List SV) (k : List SV → EvR), (∀ x ∈ l.map (·.2), ∀ t, x = .tmp t → aget t tm = aget t tm') → fillK ⟨tm, hp, nx⟩ place l cs k = fillK ⟨tm', hp, nx⟩ place l cs k
  | [], _, _, _ => rfl
  | (i, o) :: l, cs, k, h => by
    rw [fillK_eq, fillK_eq]
    have : ∀ (l : List (Nat × Operand)) (cs : List SV), (∀ x ∈ l.map (·.2), ∀ t, x = .tmp t → aget t tm = aget t tm') → fillD ⟨tm, hp, nx⟩ place l cs = fillD ⟨tm', hp, nx⟩ place l cs := by
      intro l
      induction l with
      | nil => intro _ _; rfl
      | cons p l ih =>
        intro cs h
        obtain ⟨i, o⟩ := p
        have ho : opd ⟨tm, hp, nx⟩ o = opd ⟨tm', hp, nx⟩ o := opd_eq (h o (by simp))
        have ih' := fun cs => ih cs fun x hx => h x (by simp at hx ⊢; exact .inr hx)
        simp only [fillD, ho, ih']
    rw [this _ _ h]

theorem opsK_congr {l : List Operand} {k : Option (List SV) → EvR} (h : ∀ x ∈ l, ∀ t, x = .tmp t → aget t tm = aget t tm') : opsK ⟨tm, hp, nx⟩ l k = opsK ⟨tm', hp, nx⟩ l k := by
  rw [opsK_eq, opsK_eq]
  congr 1
  induction l with
  | nil => rfl
  | cons o l ih =>
    have ho : opd ⟨tm, hp, nx⟩ o = opd ⟨tm', hp, nx⟩ o := opd_eq (h o (by simp))
    simp only [List.mapM_cons, ho, ih fun x hx => h x (by simp [hx])]

theorem rowK_congr {size : Nat} {l : List (Nat × Operand)} {k : Option (List (List SV)) → EvR} (h : ∀ x ∈ l.map (·.2), ∀ t, x = .tmp t → aget t tm = aget t tm') : rowK ⟨tm, hp, nx⟩ size 0 l k = rowK ⟨tm', hp, nx⟩ size 0 l k := by
  rw [rowK_eq, rowK_eq]
  congr 1
  generalize (0 : Nat) = i
  induction l generalizing i with
  | nil => rfl
  | cons p l ih =>
    obtain ⟨j, o⟩ := p
    have ho : opd ⟨tm, hp, nx⟩ o = opd ⟨tm', hp, nx⟩ o := opd_eq (h o (by simp))
    simp only [rowD, ho, ih fun x hx => h x (by simp at hx ⊢; exact .inr hx)]

theorem optI_congr {o : Option Operand} (h : ∀ x ∈ o.toArray, ∀ t, x = .tmp t → aget t tm = aget t tm') : optI ⟨tm, hp, nx⟩ o = optI ⟨tm', hp, nx⟩ o := by
  cases o with
  | none => rfl
  | some x => simp only [optI, opd_eq (h x (by simp))]

theorem ev_congr {op : Op} (h : ∀ x ∈ op.operands, ∀ t, x = .tmp t → aget t tm = aget t tm') : ev T ⟨tm, hp, nx⟩ op = ev T ⟨tm', hp, nx⟩ op := by
  cases op <;> simp only [ev]
  case move x => rw [opdR_eq (h x (by simp [Op.operands]))]
  case assign x => rw [opdR_eq (h x (by simp [Op.operands]))]
  case pick c x y =>
    cases c with
    | tmp t =>
      simp only [ev, h (.tmp t) (by simp [Op.operands]) t rfl, opdR_eq (h x (by simp [Op.operands])), opdR_eq (h y (by simp [Op.operands]))]
    | _ => rfl
  case box t x => rw [opd_eq (h x (by simp [Op.operands]))]
  case build t ps =>
    unfold evBuild
    have hp' : ∀ x ∈ ps.toList.map (·.2), ∀ t, x = .tmp t → aget t tm = aget t tm' := fun x hx => h x (by simpa [Op.operands] using hx)
    simp only [fillK_congr _ _ _ hp']
  case buildSlice t n ps =>
    have hp' : ∀ x ∈ ps.toList.map (·.2), ∀ t, x = .tmp t → aget t tm = aget t tm' := fun x hx => h x (by simpa [Op.operands] using hx)
    simp only [rowK_congr hp']
  case load t x =>
    rw [opd_eq (h x (by simp [Op.operands]))]
    rfl
  case store t x y =>
    rw [opd_eq (h x (by simp [Op.operands])), opd_eq (h y (by simp [Op.operands]))]
    rfl
  case nilCheck x => rw [opd_eq (h x (by simp [Op.operands]))]
  case binOp op t x y t' => rw [opd_eq (h x (by simp [Op.operands])), opd_eq (h y (by simp [Op.operands]))]
  case unOp op t x => rw [opd_eq (h x (by simp [Op.operands]))]
  case convert t t' x => rw [opd_eq (h x (by simp [Op.operands]))]
  case makeFunc f x y =>
    have h1 : ∀ z ∈ x.toList, ∀ t, z = .tmp t → aget t tm = aget t tm' := fun z hz => h z (by simp [Op.operands]; exact .inl (by simpa using hz))
    have h2 : ∀ z ∈ y.toList, ∀ t, z = .tmp t → aget t tm = aget t tm' := fun z hz => h z (by simp [Op.operands]; exact .inr (by simpa using hz))
    rw [opsK_congr h1]
    congr 1
    funext r
    cases r with
    | none => rfl
    | some l => exact opsK_congr h2
  case slice t x lo hi mx =>
    rw [opd_eq (h x (by simp [Op.operands]))]
    have h1 := optI_congr (tm := tm) (tm' := tm') (hp := hp) (nx := nx) (o := lo) fun x hx => h x (by simp [Op.operands]; exact .inr (.inl (by simpa using hx)))
    have h2 := optI_congr (tm := tm) (tm' := tm') (hp := hp) (nx := nx) (o := hi) fun x hx => h x (by simp [Op.operands]; exact .inr (.inr (.inl (by simpa using hx))))
    simp only [evSlice, h1, h2]
  case fieldAddr t x f => rw [opd_eq (h x (by simp [Op.operands]))]
  case field t x f => rw [opd_eq (h x (by simp [Op.operands]))]
  case index t x ix => rw [opd_eq (h x (by simp [Op.operands])), opd_eq (h ix (by simp [Op.operands]))]
  case extract x i => rw [opd_eq (h x (by simp [Op.operands]))]
  case call c =>
    unfold evCall
    obtain ⟨cal, args, ats⟩ := c
    obtain ⟨args⟩ := args
    have ha : ∀ x ∈ args, opd ⟨tm, hp, nx⟩ x = opd ⟨tm', hp, nx⟩ x := fun x hx => opd_eq (h x (by simp [Op.operands, Call.operands, hx]))
    cases cal with
    | builtin b =>
      simp only
      cases args with
      | nil => cases b <;> rfl
      | cons x l =>
        have hx := ha x (by simp)
        cases l with
        | nil => cases b <;> first | rfl | simp only [hx]
        | cons y l =>
          have hy := ha y (by simp)
          cases l with
          | nil => cases b <;> first | rfl | simp only [hx, hy]
          | cons _ _ => cases b <;> rfl
    | _ => rfl

theorem looks_ops {o : Oper} {x : Operand} (hx : x ∈ o.op.operands) {t : Nat} (ht : x = .tmp t) : t ∈ o.looksAt all := by
  subst ht
  exact List.mem_append_left _ (List.mem_filterMap.2 ⟨.tmp t, by simpa using hx, rfl⟩)

/-- An operation that works itself out. -/
theorem VStep.ev (e : Env cx P fn lo) (hT : TabOk P T) {d : Nat} {op : Op} {ty : TypeId} {pos : String} {after : Array Edge} (hd : Nat.blt d fn.ntmps = true) {x : SV} {p : Prop} (he : ev T ⟨tm, hp, nx⟩ op = .val x p) (hp' : p) :
    VStep cx all hp nx ⟨some d, op, ty, pos, after, none⟩ tm d x := by
  obtain ⟨rfl, rfl, _⟩ := e
  intro tm' k ha h
  refine AWP.op_val hT (Nat.le_of_ble_eq_true hd) ?_ hp' h
  rw [← he]
  exact ev_congr fun y hy t ht => ha t (looks_ops hy ht)

theorem guardS_congr {j : Nat} {o : Oper} {w : Bool} (hg : o.guard = some (j, w)) (ha : ∀ t ∈ o.looksAt all, aget t tm' = aget t tm) : guardS all tm' j = guardS all tm j := by
  unfold guardS
  rw [nth_eq, Array.getElem?_toList]
  cases e : all[j]? with
  | none => rfl
  | some o' =>
    obtain ⟨dst, a1, a2, a3, a4, a5⟩ := o'
    cases dst with
    | none => rfl
    | some d =>
      have : aget d tm' = aget d tm := ha d (by
        unfold Oper.looksAt
        rw [hg]
        exact List.mem_append_right _ (by simp [e]))
      simp only [this]

/-- A guarded operation whose guard is told: it runs. -/
theorem VStep.go {d dj j : Nat} {op : Op} {ty : TypeId} {pos : String} {after : Array Edge} {w : Bool} {x : SV} (hg : guardS all tm j = .told dj w) (h : VStep cx all hp nx ⟨some d, op, ty, pos, after, none⟩ tm d x) :
    VStep cx all hp nx ⟨some d, op, ty, pos, after, some (j, w)⟩ tm d x := by
  intro tm' k ha g
  refine AWP.guard_yes (fun a wd hi => ?_) (h tm' k (fun t ht => ha t ?_) g)
  · exact guard_told hi ((guardS_congr rfl ha).trans hg)
  · unfold Oper.looksAt at ht ⊢
    rw [List.append_nil] at ht
    exact List.mem_append_left _ ht

/-- .. or it does not run. -/
theorem VStep.not (e : Env cx P fn lo) {d dj j : Nat} {op : Op} {ty : TypeId} {pos : String} {after : Array Edge} {b w : Bool} (hd : Nat.blt d fn.ntmps = true) (hg : guardS all tm j = .told dj b) (hb : b = !w) : VStep cx all hp nx ⟨some d, op, ty, pos, after, some (j, w)⟩ tm d undefS := by
  obtain ⟨rfl, rfl, _⟩ := e
  intro tm' k ha g
  refine AWP.guard_not (fun a wd hi => ?_) (fun t ht => by cases ht; exact Nat.le_of_ble_eq_true hd) g
  rw [guard_told hi ((guardS_congr rfl ha).trans hg), hb]
  cases w <;> simp
/-- .. where the guard is known by a fact. -/
theorem VStep.goA {d dj j : Nat} {op : Op} {ty : TypeId} {pos : String} {after : Array Edge} {b w : Bool} {x : SV} (hg : guardS all tm j = .ask dj b) (hb : b = w) (h : VStep cx all hp nx ⟨some d, op, ty, pos, after, none⟩ tm d x) :
    VStep cx all hp nx ⟨some d, op, ty, pos, after, some (j, w)⟩ tm d x := by
  intro tm' k ha g
  refine AWP.guard_yes (fun a wd hi => ?_) (h tm' k (fun t ht => ha t ?_) g)
  · rw [guard_ask hi ((guardS_congr rfl ha).trans hg), hb]
  · unfold Oper.looksAt at ht ⊢
    rw [List.append_nil] at ht
    exact List.mem_append_left _ ht
theorem VStep.notA (e : Env cx P fn lo) {d dj j : Nat} {op : Op} {ty : TypeId} {pos : String} {after : Array Edge} {b w : Bool} (hd : Nat.blt d fn.ntmps = true) (hg : guardS all tm j = .ask dj b) (hb : b = !w) : VStep cx all hp nx ⟨some d, op, ty, pos, after, some (j, w)⟩ tm d undefS := by
  obtain ⟨rfl, rfl, _⟩ := e
  intro tm' k ha g
  refine AWP.guard_not (fun a wd hi => ?_) (fun t ht => by cases ht; exact Nat.le_of_ble_eq_true hd) g
  rw [guard_ask hi ((guardS_congr rfl ha).trans hg), hb]
  cases w <;> simp
theorem VStep.pickA (e : Env cx P fn lo) {d t : Nat} {x y : Operand} {ty : TypeId} {pos : String} {after : Array Edge} {b v : Bool} {z : SV} (hd : Nat.blt d fn.ntmps = true) (hg : aget t tm = some (.b b)) (hb : b = v) (hz : (match v with | true => opdR ⟨tm, hp, nx⟩ x | false => opdR ⟨tm, hp, nx⟩ y) = some z) : VStep cx all hp nx ⟨some d, .pick (.tmp t) x y, ty, pos, after, none⟩ tm d z := by
  subst hb
  intro tm' k ha g
  refine AWP.op_run e (Nat.le_of_ble_eq_true hd) (fun μ ok a w hI => ?_) g
  have ht : aget t tm' = some (.b b) := (ha t (looks_ops (x := .tmp t) (by simp [Op.operands]) rfl)).trans hg
  have e1 : a.eval (.tmp t) = .bool b := (hI.tmps t _ ht).vv
  cases b
  · have h2 := (opdR_eq (hp := hp) (nx := nx) fun u hu => ha u (looks_ops (x := y) (by simp [Op.operands]) hu)).trans hz
    exact ⟨a.eval y, by simp [execOp, e1, asBool], opdR_den hI.tmps h2⟩
  · have h2 := (opdR_eq (hp := hp) (nx := nx) fun u hu => ha u (looks_ops (x := x) (by simp [Op.operands]) hu)).trans hz
    exact ⟨a.eval x, by simp [execOp, e1, asBool], opdR_den hI.tmps h2⟩
theorem VStep.un (e : Env cx P fn lo) {d dj j : Nat} {op : Op} {ty : TypeId} {pos : String} {after : Array Edge} {w : Bool} (hd : Nat.blt d fn.ntmps = true) (hg : guardS all tm j = .no dj) : VStep cx all hp nx ⟨some d, op, ty, pos, after, some (j, w)⟩ tm d undefS := by
  obtain ⟨rfl, rfl, _⟩ := e
  intro tm' k ha g
  exact AWP.guard_un ((guardS_congr rfl ha).trans hg) (fun t ht => by cases ht; exact Nat.le_of_ble_eq_true hd) g

theorem VStep.idx (e : Env cx P fn lo) (hT : TabOk P T) {d : Nat} {ty : TypeId} {pos : String} {after : Array Edge} {t : TypeId} {x ix : Operand} {te : TypeId} {kk : IntKind} {i : Int} {m : Nat} {xs : List (List DV)} (hd : Nat.blt d fn.ntmps = true) (h1 : opd ⟨tm, hp, nx⟩ x = some (.d (.sl m xs))) (h2 : opd ⟨tm, hp, nx⟩ ix = some (.d (.v (.int kk i))))
    (h3 : tySl T t = some (te, m)) (n : Nat) (hi : i = n) {el : List DV} (he : xs[n]? = some el) : VStep cx all hp nx ⟨some d, .indexAddr t x ix, ty, pos, after, none⟩ tm d (.ip el) := by
  intro tm' k ha g
  exact AWP.idx e hT hd ((opd_eq fun u hu => ha u (looks_ops (by simp [Op.operands]) hu)).trans h1) ((opd_eq fun u hu => ha u (looks_ops (by simp [Op.operands]) hu)).trans h2) h3 n hi he g

theorem VStep.idx_own (e : Env cx P fn lo) (hT : TabOk P T) {d : Nat} {ty : TypeId} {pos : String} {after : Array Edge} {t : TypeId} {x ix : Operand} {te : TypeId} {kk : IntKind} {i : Int} {id m l q C : Nat} (hd : Nat.blt d fn.ntmps = true) (h1 : opd ⟨tm, hp, nx⟩ x = some (.own id m l q C)) (h2 : opd ⟨tm, hp, nx⟩ ix = some (.d (.v (.int kk i))))
    (h3 : tySl T t = some (te, m)) (n : Nat) (hi : i = n) (hn : n < q) : VStep cx all hp nx ⟨some d, .indexAddr t x ix, ty, pos, after, none⟩ tm d (.pel id m (l + n) 0) := by
  intro tm' k ha g
  exact AWP.idx_own e hT hd ((opd_eq fun u hu => ha u (looks_ops (by simp [Op.operands]) hu)).trans h1) ((opd_eq fun u hu => ha u (looks_ops (by simp [Op.operands]) hu)).trans h2) h3 n hi hn g

theorem VStep.load_el (e : Env cx P fn lo) (hT : TabOk P T) {d : Nat} {ty : TypeId} {pos : String} {after : Array Edge} {t : TypeId} {x : Operand} {y : Ty} {id m i j C : Nat} {te : TypeId} {fz : Bool} {xs : List (List SV)} {v : SV} (hd : Nat.blt d fn.ntmps = true) (h1 : opd ⟨tm, hp, nx⟩ x = some (.pel id m i j))
    (h2 : aget t T = some y) (h3 : aget id hp = some (.row te fz m xs C)) {el : List SV} (he : xs[i]? = some el) (h4 : part1 y.td.agg y.size j el = .val v True) : VStep cx all hp nx ⟨some d, .load t x, ty, pos, after, none⟩ tm d v := by
  intro tm' k ha g
  exact AWP.load_el e hT hd ((opd_eq fun u hu => ha u (looks_ops (by simp [Op.operands]) hu)).trans h1) h2 h3 he h4 g

theorem opds_eq : ∀ {l : List Operand}, (∀ x ∈ l, ∀ t, x = .tmp t → aget t tm = aget t tm') → opds ⟨tm, hp, nx⟩ l = opds ⟨tm', hp, nx⟩ l
  | [], _ => rfl
  | o :: l, h => by
    have h1 := opd_eq (hp := hp) (nx := nx) (h o (by simp))
    have h2 := opds_eq (l := l) fun x hx => h x (by simp [hx])
    simp only [opds, h1, h2]

theorem acall_eq {c : Call} (h : ∀ x ∈ c.operands, ∀ t, x = .tmp t → aget t tm = aget t tm') : acall ⟨tm, hp, nx⟩ c = acall ⟨tm', hp, nx⟩ c := by
  obtain ⟨cal, args, ats⟩ := c
  cases cal with
  | value fo =>
    simp only [acall, opd_eq (h fo (by simp [Call.operands])), opds_eq (l := args.toList) (fun x hx => h x (by simp [Call.operands]; exact .inr (by simpa using hx)))]
  | _ => rfl

theorem VStep.call (e : Env cx P fn lo) {f : FuncId} {cs : List SV} {r : SV} (hE : Eff P f cs [] 0 (fun r' _ _ => r' = r)) {d : Nat} {c : Call} {ty : TypeId} {pos : String} {after : Array Edge} {xs : List SV}
    (hc : acall ⟨tm, hp, nx⟩ c = some (f, xs)) (lend : List Nat) (hcv : CvL hp lend xs cs) (hno : SV.noIds.go cs = true) (hd : Nat.blt d fn.ntmps = true) (hr : SV.noIds r = true) (hl : lend = [] ∨ SV.noMem r = true) : VStep cx all hp nx ⟨some d, .call c, ty, pos, after, none⟩ tm d r := by
  intro tm' k ha g
  refine AWP.call e hE ?_ lend hcv hno hd fun r' h n hr' => ?_
  · rw [← hc]; exact acall_eq fun x hx u hu => ha u (looks_ops (by simpa [Op.operands] using hx) hu)
  · subst hr'
    exact ⟨hr, hl, g⟩

/-! A walk over such a region -/
def Dr (cx : Cx) (all : Array Oper) (id : Nat) (k : List It) (hp : List (Nat × Blk)) (nx : Nat) (tm : List (Nat × SV)) (i : Nat) (rest : List Oper) (done : List (Nat × SV)) : Prop :=
  (Good cx all hp nx tm i done ∧ all.toList.drop i = rest) → AWP cx (.code (.region id all true) :: k) ⟨tm, hp, nx⟩

theorem AWP.dr {id : Nat} (h : Dr cx all id k hp nx tm 0 all.toList []) : AWP cx (.code (.region id all true) :: k) ⟨tm, hp, nx⟩ := h ⟨.nil, rfl⟩

theorem Dr.step {id i d : Nat} {rest : List Oper} {done : List (Nat × SV)} {o : Oper} {x : SV} (hd : o.dst = some d) (hv : VStep cx all hp nx o (done ++ tm) d x) (h : Dr cx all id k hp nx tm (i + 1) rest ((d, x) :: done)) : Dr cx all id k hp nx tm i (o :: rest) done := by
  rintro ⟨h1, h2⟩
  have ho : all[i]? = some o := by
    have := congrArg List.head? h2
    rw [List.head?_drop, Array.getElem?_toList] at this
    exact this
  exact h ⟨.step h1 ho hd hv, by rw [← List.tail_drop, h2]; rfl⟩

theorem Dr.fin (e : Env cx P fn lo) (hm : P.follows .mixedOrders = true) {id i : Nat} {done : List (Nat × SV)} (hs : all.size = i) (hchk : drawOk all = true) (g : AWP cx k ⟨done ++ tm, hp, nx⟩) : Dr cx all id k hp nx tm i [] done := by
  rintro ⟨h1, _⟩
  subst hs
  exact AWP.draw e hm hchk h1 g

end
end Go.Sy

/-
  SYMBOLIC STATES, over any program, part 18: a law's arguments, and its end.
-/
namespace Go.Sy
open Go.RowKit Go.ChangeShapes Go.WideShapes Go.ChangeAt Go.Joins

/-- What rows of cells a type has. -/
def Tyds (Q : TypeId → List DV → Prop) : List TypeId → List DV → Prop
  | [], xs => xs = []
  | t :: ts, xs => ∃ a b, xs = a ++ b ∧ Q t a ∧ Tyds Q ts b

def tyz (T : Tab) (t : TypeId) : Nat := match aget t T with | some y => y.size | none => 0

def Tyd (T : Tab) : Nat → TypeId → List DV → Prop
  | 0, _, _ => False
  | n + 1, t, xs => match aget t T with
    | some y => match y.td with
      | .int k => ∃ z, xs = [.v (.int k z)] ∧ k.min ≤ z ∧ z ≤ k.max
      | .bool => ∃ b, xs = [.v (.bool b)]
      | .str => ∃ s, xs = [.v (.string s)] ∧ s.size ≤ 9223372036854775807
      | .slice e => ∃ ys, xs = [.sl (tyz T e) ys] ∧ ys.length ≤ 9223372036854775807 ∧ ∀ el ∈ ys, Tyd T n e el
      | .struct fs => Tyds (Tyd T n) (fs.map (·.1)) xs
      | .arr m e => ∃ ys : List (List DV), ys.length = m ∧ xs = ys.flatten ∧ ∀ el ∈ ys, Tyd T n e el
      | _ => False
    | none => False

def contig (T : Tab) : Nat → List (TypeId × Nat) → Option Nat
  | o, [] => some o
  | o, (t, off) :: l => bif Nat.beq o off then contig T (o + tyz T t) l else none

/-- May a law's argument be of this type? -/
def argTy (T : Tab) : Nat → TypeId → Bool
  | 0, _ => false
  | n + 1, t => match aget t T with
    | some y => match y.td with
      | .int _ | .bool | .str => true
      | .slice e => argTy T n e
      | .struct fs => (match contig T 0 fs with | some z => Nat.beq z y.size | none => false) && fs.all fun f => argTy T n f.1
      | .arr m e => Nat.beq y.size (m * tyz T e) && argTy T n e
      | _ => false
    | none => false

def CellsD (ok : Nat → Prop) (w : World) (xs : List DV) (cs : List Value) : Prop := xs.length = cs.length ∧ ∀ (j : Nat) x u, xs[j]? = some x → cs[j]? = some u → DDen ok w x u

theorem CellsD.append {ok : Nat → Prop} {w : World} {xs ys : List DV} {cs ds : List Value} (h : CellsD ok w xs cs) (h' : CellsD ok w ys ds) : CellsD ok w (xs ++ ys) (cs ++ ds) := by
  refine ⟨by simp [h.1, h'.1], fun j x u hx hu => ?_⟩
  by_cases hj : j < xs.length
  · rw [List.getElem?_append_left hj] at hx
    rw [List.getElem?_append_left (by rw [← h.1]; exact hj)] at hu
    exact h.2 j x u hx hu
  · rw [List.getElem?_append_right (by omega)] at hx
    rw [List.getElem?_append_right (by rw [← h.1]; omega), ← h.1] at hu
    exact h'.2 _ x u hx hu

theorem CellsD.one {ok : Nat → Prop} {w : World} {x : DV} {c : Value} (h : DDen ok w x c) : CellsD ok w [x] [c] :=
  ⟨rfl, fun j x' u hx hu => by cases j with | zero => cases hx; cases hu; exact h | succ j => simp at hx⟩

section
variable {H : Type} {enc : TypeId × Value → H} {P : Program} {T : Tab} {W : World}

theorem tyz_ok (hT : TabOk P T) {t : TypeId} {n : Nat} (h : argTy T n t = true) : P.cellsOf t = tyz T t := by
  cases n with
  | zero => cases h
  | succ n =>
    simp only [argTy] at h
    unfold tyz
    cases ht : aget t T with
    | none => rw [ht] at h; cases h
    | some y =>
      obtain ⟨i, z, h1, h2, _⟩ := (hT _ _ ht).info
      simp [Program.cellsOf, h1, h2]

theorem take_split {l : List Value} (a b c : Nat) (h : b ≤ c) : ((l.drop a).take c) = ((l.drop a).take b) ++ ((l.drop (a + b)).take (c - b)) := by
  rw [← List.drop_drop, ← List.take_add]
  congr 1
  omega

theorem open_fields {m : Nat} {Q : TypeId → List DV → Prop} {cs : List Value} {ok : Nat → Prop} : ∀ (fs : List (TypeId × Nat)) (o z : Nat), contig T o fs = some z → z ≤ cs.length →
    (∀ t off, (t, off) ∈ fs → ∃ xs, CellsD ok W xs ((cs.drop off).take (tyz T t)) ∧ Q t xs) → o ≤ z ∧ ∃ xs, CellsD ok W xs ((cs.drop o).take (z - o)) ∧ Tyds Q (fs.map (·.1)) xs
  | [], o, z, hc, hz, h => by
    simp only [contig, Option.some.injEq] at hc
    subst hc
    exact ⟨Nat.le_refl _, [], by simp [CellsD], rfl⟩
  | (t, off) :: fs, o, z, hc, hz, h => by
    simp only [contig] at hc
    by_cases e : o = off
    · subst e
      simp only [Nat.beq_refl, cond_true] at hc
      obtain ⟨h1, xs, h2, h3⟩ := open_fields (m := m) fs (o + tyz T t) z hc hz (fun t' off' hm => h t' off' (by simp [hm]))
      obtain ⟨ys, h4, h5⟩ := h t o (by simp)
      refine ⟨by omega, ys ++ xs, ?_, ys, xs, rfl, h5, h3⟩
      rw [take_split o (tyz T t) (z - o) (by omega)]
      have e2 : z - o - tyz T t = z - (o + tyz T t) := by omega
      rw [e2]
      exact h4.append h2
    · rw [beq_ne e] at hc
      cases hc

theorem flat_split {cs : List Value} {ok : Nat → Prop} {k : Nat} {Q : List DV → Prop} : ∀ (m o : Nat), o + m * k ≤ cs.length → (∀ i, i < m → ∃ xs, CellsD ok W xs ((cs.drop (o + i * k)).take k) ∧ Q xs) →
    ∃ ys : List (List DV), ys.length = m ∧ CellsD ok W ys.flatten ((cs.drop o).take (m * k)) ∧ ∀ el ∈ ys, Q el
  | 0, o, hl, h => ⟨[], rfl, by simp [CellsD], by simp⟩
  | m + 1, o, hl, h => by
    obtain ⟨xs, h1, h2⟩ := h 0 (by omega)
    have hk : (m + 1) * k = m * k + k := by rw [Nat.add_mul, Nat.one_mul]
    obtain ⟨ys, g1, g2, g3⟩ := flat_split (cs := cs) (ok := ok) (k := k) (Q := Q) m (o + k) (by omega) (fun i hi => by
      obtain ⟨xs, q1, q2⟩ := h (i + 1) (by omega)
      refine ⟨xs, ?_, q2⟩
      have e : o + (i + 1) * k = o + k + i * k := by rw [Nat.add_mul, Nat.one_mul]; omega
      rw [← e]
      exact q1)
    refine ⟨xs :: ys, by simp [g1], ?_, fun el he => ?_⟩
    · rw [List.flatten_cons, take_split o k ((m + 1) * k) (by omega)]
      have e2 : (m + 1) * k - k = m * k := by omega
      rw [e2]
      refine CellsD.append ?_ g2
      simpa using h1
    · rcases List.mem_cons.1 he with rfl | he
      · exact h2
      · exact g3 el he

/-- What is read as of a type is known deep down. -/
theorem open_deep (hT : TabOk P T) : ∀ (n : Nat) (t : TypeId) (fuel : Nat) (cs : List Value) (y : DataW H × List MemPlace), argTy T n t = true → DataW.trod enc P W 0 (fun _ => true) true fuel t cs = some y →
    ∃ xs, CellsD (· < W.heap.size) W xs cs ∧ Tyd T n t xs
  | 0, t, fuel, cs, y, ha, _ => by cases ha
  | n + 1, t, fuel, cs, y, ha, h => by
    have ha0 := ha
    simp only [argTy] at ha
    cases ht : aget t T with
    | none => rw [ht] at ha; cases ha
    | some yt =>
      rw [ht] at ha
      simp only at ha
      have hty := hT _ _ ht
      have htd := hty.td
      cases e : yt.td <;> rw [e] at ha htd <;> simp only at ha htd
      case int k =>
        obtain ⟨z, rfl, _, hw⟩ := DataW.trod_int htd h
        simp only [Lit.wf, Bool.and_eq_true, decide_eq_true_eq] at hw
        exact ⟨[.v (.int k z)], .one (.v _), by simp only [Tyd, ht, e]; exact ⟨z, rfl, hw⟩⟩
      case bool =>
        obtain ⟨b, rfl, _⟩ := DataW.trod_bool htd h
        exact ⟨[.v (.bool b)], .one (.v _), by simp only [Tyd, ht, e]; exact ⟨b, rfl⟩⟩
      case str =>
        obtain ⟨s, rfl, _, hs⟩ := DataW.trod_string htd h
        exact ⟨[.v (.string s)], .one (.v _), by simp only [Tyd, ht, e]; exact ⟨s, rfl, hs⟩⟩
      case slice el =>
        have hz := tyz_ok hT ha
        rcases Deep.open_slice htd h with ⟨rfl, _⟩ | ⟨a, len, cap, m, k, D, Pl, rfl, _, hl, hm, hmm, _, hx⟩
        · refine ⟨[.sl (tyz T el) []], .one (.slNil _), ?_⟩
          simp only [Tyd, ht, e]
          exact ⟨[], rfl, by simp, by simp⟩
        · have hmn : len ≤ m := by simp at hmm; omega
          have hex : ∀ i, i < len → ∃ xs : List DV, (∀ (j : Nat) c, xs[j]? = some c → a.block < W.heap.size ∧ ∃ u, W.cell? (a.add (i * tyz T el + j)) = some u ∧ DDen (· < W.heap.size) W c u) ∧ xs.length = tyz T el ∧ Tyd T n el xs := by
            intro i hi
            obtain ⟨cs', h1, h2⟩ := hx i (by omega)
            obtain ⟨xs, h3, h4⟩ := open_deep hT n el k cs' _ ha h2
            obtain ⟨_, q1, q2⟩ := World.cells?_some h1
            rw [hz] at q1 q2
            refine ⟨xs, fun j c hc => ?_, by rw [h3.1, q1], h4⟩
            have hj : j < xs.length := (List.getElem?_eq_some_iff.1 hc).1
            rw [h3.1] at hj
            have hcell := q2 j (by omega)
            rw [Addr.add_add, List.getElem?_eq_getElem hj] at hcell
            refine ⟨?_, cs'[j], hcell, h3.2 j c _ hc (by simp [hj])⟩
            have := World.block_lt_of_cell? W _ hcell
            rwa [add_block] at this
          let F : Nat → List DV := fun i => if h : i < len then Classical.choose (hex i h) else []
          have hF : ∀ i, i < len → (∀ (j : Nat) c, (F i)[j]? = some c → a.block < W.heap.size ∧ ∃ u, W.cell? (a.add (i * tyz T el + j)) = some u ∧ DDen (· < W.heap.size) W c u) ∧ (F i).length = tyz T el ∧ Tyd T n el (F i) := by
            intro i hi
            simp only [F, dif_pos hi]
            exact Classical.choose_spec (hex i hi)
          have hat : ∀ (i : Nat) (el' : List DV), ((List.range len).map F)[i]? = some el' → i < len ∧ el' = F i := by
            intro i el' he
            rw [List.getElem?_map] at he
            by_cases hi : i < len
            · rw [List.getElem?_range hi] at he
              cases he
              exact ⟨hi, rfl⟩
            · rw [List.getElem?_eq_none (by simpa using hi)] at he
              cases he
          refine ⟨[.sl (tyz T el) ((List.range len).map F)], .one ?_, ?_⟩
          · have := DDen.sl (ok := (· < W.heap.size)) (w := W) (tyz T el) ((List.range len).map F) a cap (by simpa using hl) hm (fun i e' he => by obtain ⟨hi, rfl⟩ := hat i e' he; exact (hF i hi).2.1)
              (fun i e' j c he hc => by obtain ⟨hi, rfl⟩ := hat i e' he; obtain ⟨q1, u, q2, _⟩ := (hF i hi).1 j c hc; exact ⟨q1, u, q2⟩)
              (fun i e' j c u he hc hu => by
                obtain ⟨hi, rfl⟩ := hat i e' he
                obtain ⟨q1, u', q2, q3⟩ := (hF i hi).1 j c hc
                rw [q2] at hu
                cases hu
                exact q3)
            simpa using this
          · simp only [Tyd, ht, e]
            refine ⟨_, rfl, by simp; have : maxLen = 9223372036854775807 := rfl; omega, fun el' he => ?_⟩
            obtain ⟨i, hi⟩ := List.mem_iff_getElem?.1 he
            obtain ⟨h1, rfl⟩ := hat i el' hi
            exact (hF i h1).2.2
      case struct fs =>
        obtain ⟨F, hF, hm, _⟩ := htd
        obtain ⟨xs, k, _, _, hlen, hxl, hx⟩ := DataW.trod_struct hF h
        have hcl : P.cellsOf t = yt.size := by have := tyz_ok hT ha0; rw [this]; unfold tyz; rw [ht]
        simp only [Bool.and_eq_true] at ha
        obtain ⟨ha1, ha2⟩ := ha
        cases hc : contig T 0 fs with
        | none => rw [hc] at ha1; cases ha1
        | some z =>
          rw [hc] at ha1
          have hz : z = yt.size := Nat.eq_of_beq_eq_true ha1
          rw [List.all_eq_true] at ha2
          obtain ⟨_, xs', h1, h2⟩ := open_fields (m := n) (Q := Tyd T n) (cs := cs) (ok := (· < W.heap.size)) (W := W) fs 0 z hc (by omega) (fun ft off hmem => by
            have haf := ha2 (ft, off) hmem
            rw [← hm] at hmem
            obtain ⟨f, hf, hfe⟩ := List.mem_map.1 hmem
            obtain ⟨i, hi⟩ := List.mem_iff_getElem?.1 hf
            rw [Array.getElem?_toList] at hi
            cases hfe
            have := hx i f hi
            have hil : i < xs.length := by rw [hxl]; exact (Array.getElem?_eq_some_iff.1 hi).1
            rw [List.getElem?_eq_getElem hil, tyz_ok hT haf] at this
            exact open_deep hT n f.type k _ _ haf this)
          refine ⟨xs', ?_, by simp only [Tyd, ht, e]; exact h2⟩
          rw [List.drop_zero, Nat.sub_zero, List.take_of_length_le (by omega)] at h1
          exact h1
      case arr m el =>
        obtain ⟨xs, k, _, _, hlen, hxl, hx⟩ := DataW.trod_array htd h
        simp only [Bool.and_eq_true] at ha
        obtain ⟨ha1, ha2⟩ := ha
        have hz : yt.size = m * tyz T el := Nat.eq_of_beq_eq_true ha1
        have hcl : P.cellsOf t = yt.size := by have := tyz_ok hT ha0; rw [this]; unfold tyz; rw [ht]
        obtain ⟨ys, h1, h2, h3⟩ := flat_split (W := W) (cs := cs) (ok := (· < W.heap.size)) (k := tyz T el) (Q := Tyd T n el) m 0 (by omega) (fun i hi => by
          have := hx i hi
          rw [List.getElem?_eq_getElem (by omega), tyz_ok hT ha2] at this
          rw [Nat.zero_add]
          exact open_deep hT n el k _ _ ha2 this)
        refine ⟨ys.flatten, ?_, by simp only [Tyd, ht, e]; exact ⟨ys, h1, rfl, h3⟩⟩
        rw [List.drop_zero, List.take_of_length_le (by omega)] at h2
        exact h2
      all_goals cases ha

def argSV (T : Tab) (t : TypeId) (xs : List DV) : SV :=
  match aget t T with
  | some y => match y.td.agg with
    | true => .agg (xs.map SV.d)
    | false => match xs with
      | [x] => .d x
      | _ => undefS
  | none => undefS

def Args (T : Tab) (n : Nat) : List TypeId → List SV → Prop
  | [], l => l = []
  | t :: ts, l => ∃ xs l', l = argSV T t xs :: l' ∧ Tyd T n t xs ∧ Args T n ts l'

theorem open_arg (hT : TabOk P T) {n : Nat} {t : TypeId} {v : Value} {d : DataW H} {p : List MemPlace} {r : Reach} {b0 : Nat} (ha : argTy T n t = true) (hv : Value.okWide P W r b0 t v) (h : DataW.Trod enc P W 0 (fun _ => true) true t v d p) :
    ∃ xs, Tyd T n t xs ∧ Den (fun _ => none) (· < W.heap.size) W (argSV T t xs) v := by
  obtain ⟨fuel, hf⟩ := h
  obtain ⟨xs, h1, h2⟩ := open_deep hT n t fuel _ _ ha hf
  refine ⟨xs, h2, ?_⟩
  cases n with
  | zero => cases ha
  | succ n =>
    simp only [argTy] at ha
    cases ht : aget t T with
    | none => rw [ht] at ha; cases ha
    | some yt =>
      rw [ht] at ha
      simp only at ha
      have htd := (hT _ _ ht).td
      have one : ∀ x, xs = [x] → v.cells = #[v] → yt.td.agg = false → Den (fun _ => none) (· < W.heap.size) W (argSV T t xs) v := by
        rintro x rfl hc hg
        simp only [argSV, ht, hg]
        have := h1.2 0 x v rfl (by rw [Array.getElem?_toList, hc]; rfl)
        exact .d this
      have many : ∀ cs, v = .agg cs → yt.td.agg = true → Den (fun _ => none) (· < W.heap.size) W (argSV T t xs) v := by
        rintro cs rfl hg
        simp only [argSV, ht, hg]
        refine .agg cs ?_ fun j c u hc hu => ?_
        · have := h1.1
          simpa [Value.cells] using this.symm
        · rw [List.getElem?_map] at hc
          cases e : xs[j]? with
          | none => rw [e] at hc; cases hc
          | some x =>
            rw [e] at hc
            cases hc
            exact .d (h1.2 j x u e (by simpa [Value.cells] using hu))
      cases e : yt.td <;> rw [e] at ha htd <;> simp only [Tyd, ht, e] at ha htd h2
      case int k => obtain ⟨z, rfl, _⟩ := h2; obtain ⟨n, rfl⟩ := okWide_int htd hv; exact one _ rfl rfl (by rw [e]; rfl)
      case bool => obtain ⟨z, rfl⟩ := h2; obtain ⟨n, rfl⟩ := okWide_bool htd hv; exact one _ rfl rfl (by rw [e]; rfl)
      case str => obtain ⟨z, rfl, _⟩ := h2; obtain ⟨n, rfl⟩ := okWide_string htd hv; exact one _ rfl rfl (by rw [e]; rfl)
      case slice el => obtain ⟨z, rfl, _⟩ := h2; obtain ⟨a, l, c, rfl⟩ := okWide_slice htd hv; exact one _ rfl rfl (by rw [e]; rfl)
      case struct fs =>
        obtain ⟨F, hF, _⟩ := htd
        obtain ⟨cs, rfl, _⟩ := okWide_struct hF hv
        exact many cs rfl (by rw [e]; rfl)
      case arr m el =>
        simp only [Value.okWide, htd] at hv
        obtain ⟨cs, rfl, _⟩ := hv
        exact many cs rfl (by rw [e]; rfl)
      all_goals cases ha

theorem open_args (hT : TabOk P T) {n : Nat} {r : Reach} {b0 : Nat} : ∀ (ts : List TypeId) (vs : List Value) (ds : List (DataW H)) (ps : List MemPlace), (ts.all fun t => argTy T n t) = true →
    (∀ (j : Nat) t v, ts[j]? = some t → vs[j]? = some v → Value.okWide P W r b0 t v) → DataW.TrodAll enc P W 0 (fun _ => true) true ts vs ds ps →
    ∃ l, Args T n ts l ∧ l.length = vs.length ∧ ∀ (j : Nat) c u, l[j]? = some c → vs[j]? = some u → Den (fun _ => none) (· < W.heap.size) W c u
  | [], [], [], ps, _, _, _ => ⟨[], rfl, rfl, by simp⟩
  | t :: ts, v :: vs, d :: ds, ps, ha, hv, h => by
    simp only [List.all_cons, Bool.and_eq_true] at ha
    obtain ⟨p, q, h1, h2, rfl⟩ := h
    obtain ⟨l, g1, g2, g3⟩ := open_args hT ts vs ds q ha.2 (fun j t v ht hv' => hv (j + 1) t v (by simpa using ht) (by simpa using hv')) h2
    obtain ⟨xs, k1, k2⟩ := open_arg hT ha.1 (hv 0 t v rfl rfl) h1
    refine ⟨argSV T t xs :: l, ⟨xs, l, rfl, k1, g1⟩, by simp [g2], fun j c u hc hu => ?_⟩
    cases j with
    | zero => cases hc; cases hu; exact k2
    | succ j => exact g3 j c u (by simpa using hc) (by simpa using hu)
  | [], _ :: _, _, _, _, _, h => h.elim
  | [], [], _ :: _, _, _, _, h => h.elim
  | _ :: _, [], _, _, _, _, h => h.elim
  | _ :: _, _ :: _, [], _, _, _, h => h.elim

/-- From a law's contract to what its statement asks of a call. -/
theorem calls_law {f : FuncId} {l : List SV} {vs : Array Value} (hE : Eff P f l [] 0 (fun r _ _ => r = .b true)) (h1 : l.length = vs.toList.length) (h2 : ∀ (j : Nat) c u, l[j]? = some c → vs.toList[j]? = some u → Den (fun _ => none) (· < W.heap.size) W c u) :
    Calls P f vs W fun e W' => e = .returned (.bool true) ∧ Below W.heap.size W W' := by
  let cx : Cx := ⟨P, default, W, fun _ => none, (· < W.heap.size), fun _ => False, fun _ _ _ => True, fun _ _ _ => False⟩
  refine (hE.2 cx vs rfl (fun b => ⟨fun h => h.elim, fun ⟨i, B, h, _⟩ => by simp [aget] at h⟩)
    ⟨fun _ _ h => h, fun _ _ => rfl, fun _ h => h, fun _ h => h, fun _ h => .inl h, fun i B h => by simp [aget] at h, fun i j C D b h => by simp [aget] at h, fun _ _ _ => rfl, Nat.le_refl _, rfl, rfl, rfl⟩ (by simpa using h1.symm) (fun j c u hc hu => h2 j c u hc (by simpa using hu))).mono ?_
  rintro e w' ⟨v, μ, ok, r, h, n', rfl, g1, g2, rfl⟩
  refine ⟨by rw [g2.vv], g1.os, g1.tape, g1.output, g1.size, fun k hk => g1.frame k hk (fun h => h)⟩

theorem trodAll_below {H : Type} {enc : TypeId × Value → H} {P : Program} (hl : laidOutB P = true) {W W' : World} (hb : Below W.heap.size W W') :
    ∀ (ts : List TypeId) (vs : List Value) (ds : List (DataW H)) (ps : List MemPlace), (∀ t ∈ ts, P.readableRec t = true ∧ t < P.types.size) →
      DataW.TrodAll enc P W 0 (fun _ => true) true ts vs ds ps → (∀ x ∈ ps, x.block < W.heap.size) →
      DataW.TrodAll enc P W' 0 (fun b => decide (b < W.heap.size)) true ts vs ds ps
  | [], [], [], ps, _, h, _ => h
  | t :: ts, v :: vs, d :: ds, ps, hr, h, hlt => by
    obtain ⟨p, q, h1, h2, rfl⟩ := h
    refine ⟨p, q, Below.trod hl (hr t (by simp)).1 (hr t (by simp)).2 h1 hb (fun x hx => hlt x (by simp [hx])), ?_, rfl⟩
    exact trodAll_below hl hb ts vs ds q (fun t' ht' => hr t' (by simp [ht'])) h2 (fun x hx => hlt x (by simp [hx]))
  | [], _ :: _, _, _, _, h, _ => h.elim
  | [], [], _ :: _, _, _, h, _ => h.elim
  | _ :: _, [], _, _, _, h, _ => h.elim
  | _ :: _, _ :: _, [], _, _, h, _ => h.elim

/-- THE POST OF A LAW: the result is true; the arguments read as they did; nothing that was there has turned. -/
theorem law_post {H : Type} {enc : TypeId × Value → H} {P : Program} {f : Func} {s : ChangeSpec} {tb : TypeId} (hl : laidOutB P = true) (hvars : s.vars = [])
    (hres : f.resultTypes = #[tb]) (htb : P.underlying tb = some .bool) (hr : (f.params.toList.all fun t => P.readableRec t && decide (t < P.types.size)) = true)
    {W W' : World} {args : Array Value} {ds gs : List (DataW H)} {before : List MemPlace}
    (hW : DataW.Whole enc P f.params.toList s.vars false W args.toList ds gs before)
    (hfn : s.fn H ds = { results := [.lit (.bool true)], args := ds }) (hb : Below W.heap.size W W') :
    s.post enc P f false true false false W args (.bool true) W' := by
  have hr : ∀ t ∈ f.params.toList, P.readableRec t = true ∧ t < P.types.size := fun t ht => by
    have := List.all_eq_true.1 hr t ht
    simpa using this
  have hlt := hW.lt
  have hW' := hW
  obtain ⟨p, q, hA, hV, rfl, _, _⟩ := hW
  rw [hvars] at hV
  obtain ⟨rfl, rfl⟩ := trodVars_none hV
  simp only [List.append_nil] at hlt hW'
  refine ⟨ds, [], p, [], p, [], hW', ?_, ?_, ?_, hb.frame _, fun h => by cases h⟩
  · simp only [List.append_nil, hfn, hres]
    exact trodAll_mk1 (shut_bool htb true)
  · simp only [List.append_nil, hfn]
    exact trodAll_below hl hb _ _ _ _ hr hA hlt
  · simp only [List.append_nil, hfn, hvars]
    exact rfl

theorem trodAll_len {H : Type} {enc : TypeId × Value → H} {P : Program} {W : World} : ∀ (ts : List TypeId) (vs : List Value) (ds : List (DataW H)) (ps : List MemPlace), DataW.TrodAll enc P W 0 (fun _ => true) true ts vs ds ps → ds.length = ts.length
  | [], [], [], _, _ => rfl
  | _ :: ts, _ :: vs, _ :: ds, _, h => by obtain ⟨_, q, _, h2, _⟩ := h; simp [trodAll_len ts vs ds q h2]
  | [], _ :: _, _, _, h => h.elim
  | [], [], _ :: _, _, h => h.elim
  | _ :: _, [], _, _, h => h.elim
  | _ :: _, _ :: _, [], _, h => h.elim

end
end Go.Sy

/-
  SYMBOLIC STATES, over any program, part 19: variables that are written no more; indexing of arrays and texts; structs compared.
-/
namespace Go.Sy
open Go.RowKit

section
variable {cx : Cx} {P : Program} {fn : Func} {lo : Nat} {T : Tab} {k : List It} {tm : List (Nat × SV)} {hp : List (Nat × Blk)} {nx : Nat} {all : Array Oper} {rest : List Oper} {d : Nat} {ty : TypeId} {pos : String} {after : Array Edge}
variable {μ : Nat → Option Nat} {ok : Nat → Prop} {w : World}

/-! ### A variable that is written no more -/
def toDV : SV → Option DV
  | .d x => some x
  | .fn f [] [] => some (.v (.func f #[] #[]))
  | .lit b => some (.v (.bool b))
  | _ => none

theorem toDV_den {x : SV} {y : DV} {u : Value} (h : Den μ ok w x u) (hx : toDV x = some y) : DDen ok w y u := by
  unfold toDV at hx
  split at hx <;> first | (cases hx; done) | skip
  · cases hx; cases h with | d h => exact h
  · cases hx
    cases h with
    | fn vs us h1 _ h2 _ =>
      have e1 : vs = #[] := Array.eq_empty_of_size_eq_zero h1
      have e2 : us = #[] := Array.eq_empty_of_size_eq_zero h2
      rw [e1, e2]
      exact .v _
  · cases hx; cases h; exact .v _

def toDVs : List SV → Option (List DV)
  | [] => some []
  | x :: l => match toDV x, toDVs l with
    | some y, some m => some (y :: m)
    | _, _ => none

theorem toDVs_get : ∀ {l : List SV} {m : List DV}, toDVs l = some m → m.length = l.length ∧ ∀ (j : Nat) y, m[j]? = some y → ∃ x, l[j]? = some x ∧ toDV x = some y
  | [], m, h => by simp only [toDVs, Option.some.injEq] at h; subst h; simp
  | x :: l, m, h => by
    simp only [toDVs] at h
    split at h
    · rename_i y m' hy hm
      cases h
      obtain ⟨h1, h2⟩ := toDVs_get hm
      refine ⟨by simp [h1], fun j z hz => ?_⟩
      cases j with
      | zero => cases hz; exact ⟨x, rfl, hy⟩
      | succ j => exact h2 j z (by simpa using hz)
    · cases h

def frzB (id : Nat) (ds : List DV) : SV → SV
  | .ptr i j => bif Nat.beq i id then dropK j ds (fun o => match o with | some l => .ip l | none => .ptr i j) else .ptr i j
  | .agg cs => go id ds cs fun l => .agg l
  | .tup cs => go id ds cs fun l => .tup l
  | .fn f a b => go id ds a fun l => go id ds b fun m => .fn f l m
  | x => x
where go (id : Nat) (ds : List DV) : List SV → (List SV → SV) → SV
  | [], k => k []
  | x :: l, k => go id ds l fun m => k (frzB id ds x :: m)

theorem frzB_go (id : Nat) (ds : List DV) (l : List SV) (k : List SV → SV) : frzB.go id ds l k = k (l.map (frzB id ds)) := by
  induction l generalizing k with
  | nil => rfl
  | cons x l ih => simp only [frzB.go, ih, List.map_cons]

theorem frzB_den {ok' : Nat → Prop} {id b : Nat} {ds : List DV} (hb : μ id = some b) (hok : ∀ b, ok b → ok' b) (hd : ∀ (j : Nat) c, ds[j]? = some c → ok' b ∧ ∃ u, w.cell? ⟨b, j, none⟩ = some u ∧ DDen ok' w c u) {x : SV} {y : Value} (h : Den μ ok w x y) :
    Den μ ok' w (frzB id ds x) y := by
  have many : ∀ {cs : List SV} {vs : Array Value}, (∀ (j : Nat) c u, cs[j]? = some c → vs[j]? = some u → Den μ ok' w (frzB id ds c) u) → ∀ (j : Nat) c u, (cs.map (frzB id ds))[j]? = some c → vs[j]? = some u → Den μ ok' w c u := by
    intro cs vs h j c u hc hu
    rw [List.getElem?_map] at hc
    cases e : cs[j]? with
    | none => rw [e] at hc; cases hc
    | some c0 => rw [e] at hc; cases hc; exact h j c0 u e hu
  induction h with
  | ptr h =>
    rename_i i j b'
    simp only [frzB]
    by_cases e : i = id
    · subst e
      rw [hb] at h
      cases h
      simp only [Nat.beq_refl, cond_true, dropK_eq, dk]
      split
      · rename_i l hl
        split at hl
        · cases hl
          refine .ip _ fun q c hc => ?_
          rw [List.getElem?_drop] at hc
          obtain ⟨h1, u, h2, h3⟩ := hd _ c hc
          exact ⟨h1, u, by rw [add_add']; exact h2, h3⟩
        · cases hl
      · exact .ptr hb
    · rw [beq_ne e]
      exact .ptr h
  | agg vs h h1 ih => simp only [frzB, frzB_go]; exact .agg vs (by simpa using h) (many ih)
  | tup vs h h1 ih => simp only [frzB, frzB_go]; exact .tup vs (by simpa using h) (many ih)
  | fn vs us h h1 h2 h3 ih1 ih2 => simp only [frzB, frzB_go]; exact .fn vs us (by simpa using h) (many ih1) (by simpa using h2) (many ih2)
  | d h => exact .d (h.mono hok (fun _ _ => rfl))
  | pel h => exact .pel h
  | own h h1 h2 => exact .own h h1 h2
  | ip a h4 => exact Den.mono (fun _ _ h => h) hok (fun _ _ => rfl) (.ip a h4)
  | lit b => exact .lit b
  | ownNil a id k lo => exact .ownNil a id k lo

def frzBT (id : Nat) (ds : List DV) : List (Nat × SV) → Option (List (Nat × SV))
  | [] => some []
  | (t, x) :: l => match frzBT id ds l with
    | some r => forceK (frzB id ds x) fun x => some ((t, x) :: r)
    | none => none

theorem frzBT_get (id : Nat) (ds : List DV) : ∀ (l r : List (Nat × SV)), frzBT id ds l = some r → ∀ t x, aget t r = some x → ∃ y, aget t l = some y ∧ x = frzB id ds y := by
  intro l
  induction l with
  | nil => intro r h t x hx; simp [frzBT] at h; subst h; simp [aget] at hx
  | cons p l ih =>
    obtain ⟨u, y⟩ := p
    intro r h t x hx
    simp only [frzBT, forceK_eq] at h
    cases e : frzBT id ds l with
    | none => rw [e] at h; cases h
    | some r1 =>
      rw [e] at h
      cases h
      rw [aget_cons] at hx ⊢
      by_cases ht : t = u
      · rw [if_pos ht] at hx ⊢
        cases hx
        exact ⟨y, rfl, rfl⟩
      · rw [if_neg ht] at hx ⊢
        exact ih r1 e t x hx

def frzBH (id : Nat) (ds : List DV) : List (Nat × Blk) → Option (List (Nat × Blk))
  | [] => some []
  | (i, B) :: l => match frzBH id ds l with
    | some r => bif Nat.beq i id then some r else (match B with
      | .box cs => mapK (frzB id ds) cs fun cs => some ((i, .box cs) :: r)
      | .row e fz k xs C => some ((i, .row e fz k xs C) :: r))
    | none => none

theorem frzBH_get (id : Nat) (ds : List DV) : ∀ (l r : List (Nat × Blk)), frzBH id ds l = some r → ∀ i B, aget i r = some B → i ≠ id ∧ ∃ B0, aget i l = some B0 ∧ ((∃ cs, B0 = .box cs ∧ B = .box (cs.map (frzB id ds))) ∨ B = B0) := by
  intro l
  induction l with
  | nil => intro r h t x hx; simp [frzBH] at h; subst h; simp [aget] at hx
  | cons p l ih =>
    obtain ⟨u, C⟩ := p
    intro r h i B hB
    simp only [frzBH] at h
    cases e : frzBH id ds l with
    | none => rw [e] at h; cases h
    | some r1 =>
      rw [e] at h
      simp only at h
      by_cases hu : u = id
      · subst hu
        simp only [Nat.beq_refl, cond_true, Option.some.injEq] at h
        subst h
        obtain ⟨h1, B0, h2, h3⟩ := ih r1 e i B hB
        exact ⟨h1, B0, by rw [aget_cons, if_neg h1]; exact h2, h3⟩
      · rw [beq_ne hu] at h
        simp only [cond_false] at h
        have key : ∃ C', r = (u, C') :: r1 ∧ ((∃ cs, C = .box cs ∧ C' = .box (cs.map (frzB id ds))) ∨ C' = C) := by
          cases C with
          | box cs => simp only [mapK_eq, Option.some.injEq] at h; exact ⟨_, h.symm, .inl ⟨cs, rfl, rfl⟩⟩
          | row e fz k xs C => simp only [Option.some.injEq] at h; exact ⟨_, h.symm, .inr rfl⟩
        obtain ⟨C', rfl, hC⟩ := key
        rw [aget_cons] at hB
        by_cases hi : i = u
        · rw [if_pos hi] at hB
          cases hB
          subst hi
          exact ⟨hu, C, by rw [aget_cons, if_pos rfl], hC⟩
        · rw [if_neg hi] at hB
          obtain ⟨h1, B0, h2, h3⟩ := ih r1 e i B hB
          exact ⟨h1, B0, by rw [aget_cons, if_neg hi]; exact h2, h3⟩

/-- A variable from here on is only read: what points to it is a pointer to what it holds. -/
theorem AWP.freezeB {id : Nat} {cs : List SV} {ds : List DV} (hbox : aget id hp = some (.box cs)) (hds : toDVs cs = some ds) {tm' : List (Nat × SV)} {hp' : List (Nat × Blk)} (hT : frzBT id ds tm = some tm') (hH : frzBH id ds hp = some hp') (g : AWP cx k ⟨tm', hp', nx⟩) : AWP cx k ⟨tm, hp, nx⟩ := fun a w hi => by
  obtain ⟨μ, ok, hi⟩ := hi.one
  obtain ⟨h, _⟩ | ⟨b, h1, h2, h3, h4, h5⟩ := hi.heap.own id _ hbox
  · exact h.elim
  let ok' : Nat → Prop := fun q => ok q ∨ q = b
  have hsub : ∀ q, ok q → ok' q := fun q h => .inl h
  obtain ⟨d1, d2⟩ := toDVs_get hds
  have hd : ∀ (j : Nat) c, ds[j]? = some c → ok' b ∧ ∃ u, w.cell? ⟨b, j, none⟩ = some u ∧ DDen ok' w c u := by
    intro j c hc
    obtain ⟨x, hx, hxc⟩ := d2 j c hc
    obtain ⟨C, T, z, q1, q2, q3, q4⟩ := h5
    have hlt : j < C.size := by rw [q3]; exact (List.getElem?_eq_some_iff.1 hx).1
    exact ⟨.inr rfl, C[j], by rw [cell_at q1]; simp [hlt], (toDV_den (q4 j x _ hx (by simp [hlt])) hxc).mono hsub (fun _ _ => rfl)⟩
  have hH' := frzBH_get id ds hp hp' hH
  refine g a w (Inv1.inv (μ := μ) (ok := ok') ⟨hi.defers, hi.size, ⟨hi.heap.mu, hi.heap.fresh, fun q h => .inl (hi.heap.sub q h), fun q hq => ?_, fun q hq => ?_, fun i B hB => ?_, fun i j C D q hC hD hi' hj' => ?_, hi.heap.frame, hi.heap.size, hi.heap.os, hi.heap.tape, hi.heap.output⟩, fun t x hx => ?_⟩)
  · rcases hq with hq | rfl
    · exact hi.heap.lt q hq
    · exact h2
  · rcases hq with hq | rfl
    · exact hi.heap.okNew q hq
    · exact .inr h4
  · obtain ⟨e1, B0, e2, e3⟩ := hH' i B hB
    obtain ⟨q1, q2⟩ | ⟨c, q1, q2, q3, q4, q5⟩ := hi.heap.own i B0 e2
    · refine .inl ⟨?_, q2⟩
      rcases e3 with ⟨cs, rfl, rfl⟩ | rfl
      · exact q1.elim
      · exact q1
    · refine .inr ⟨c, q1, q2, ?_, q4, ?_⟩
      · rintro (hc | rfl)
        · exact q3 hc
        · exact e1 (hi.heap.inj i id B0 _ c e2 hbox q1 h1)
      · rcases e3 with ⟨cs', rfl, rfl⟩ | rfl
        · obtain ⟨C, T, z, r1, r2, r3, r4⟩ := q5
          refine ⟨C, T, z, r1, r2, by simpa using r3, fun j x u hx hu => ?_⟩
          rw [List.getElem?_map] at hx
          cases e : cs'[j]? with
          | none => rw [e] at hx; cases hx
          | some x0 => rw [e] at hx; cases hx; exact frzB_den h1 hsub hd (r4 j x0 u e hu)
        · exact q5.mono (fun _ _ h => h) hsub (fun _ _ => rfl) rfl
  · obtain ⟨_, C0, c1, _⟩ := hH' i C hC
    obtain ⟨_, D0, c2, _⟩ := hH' j D hD
    exact hi.heap.inj i j C0 D0 q c1 c2 hi' hj'
  · obtain ⟨y, q1, rfl⟩ := frzBT_get id ds tm tm' hT t x hx
    exact frzB_den h1 hsub hd (hi.tmps t y q1)

end
end Go.Sy

/-
  SYMBOLIC STATES, over any program, part 20: indexing of arrays; structs compared.
-/
namespace Go.Sy
open Go.RowKit

section
variable {cx : Cx} {P : Program} {fn : Func} {lo : Nat} {T : Tab} {k : List It} {tm : List (Nat × SV)} {hp : List (Nat × Blk)} {nx : Nat} {all : Array Oper} {rest : List Oper} {d : Nat} {ty : TypeId} {pos : String} {after : Array Edge}
variable {μ : Nat → Option Nat} {ok : Nat → Prop} {w : World}

def tyArr (T : Tab) (t : TypeId) : Option (Nat × TypeId) :=
  match aget t T with
  | some ⟨.arr n e, _, _, _⟩ => some (n, e)
  | _ => none

theorem tyArr_ok (hT : TabOk P T) {t e : TypeId} {n : Nat} (h : tyArr T t = some (n, e)) : P.underlying t = some (.array n e) := by
  unfold tyArr at h
  split at h
  · rename_i ht
    cases h
    exact (hT _ _ ht).td
  · cases h

/-- An element of an array by value. -/
theorem AWP.idx_agg (e : Env cx P fn lo) (hT : TabOk P T) {t te : TypeId} {x ix : Operand} {len : Nat} {kk : IntKind} {i : Int} {cs : List SV} {y : Ty} {v : SV} (hd : Nat.blt d fn.ntmps = true) (h1 : opd ⟨tm, hp, nx⟩ x = some (.agg cs)) (h2 : opd ⟨tm, hp, nx⟩ ix = some (.d (.v (.int kk i))))
    (h3 : tyArr T t = some (len, te)) (hy : aget te T = some y) (n : Nat) (hi : i = n) (hn : n < len) (hv : part1 y.td.agg y.size (n * y.size) cs = .val v True) (g : AWP cx (.ops all rest :: k) ⟨(d, v) :: tm, hp, nx⟩) :
    AWP cx (.ops all (⟨some d, .index t x ix, ty, pos, after, none⟩ :: rest) :: k) ⟨tm, hp, nx⟩ := by
  refine AWP.op_run e (Nat.le_of_ble_eq_true hd) (fun μ ok a w hI => ?_) g
  have hx := opd_den hI.tmps h1
  have hix := (opd_den hI.tmps h2).int
  subst hi
  generalize hvx : a.eval x = u at hx
  cases hx with | agg vs q1 q2 =>
  have := part1_ok (hT _ _ hy) (w := w) ⟨q1, q2⟩ (n * y.size)
  rw [hv] at this
  obtain ⟨r, r1, r2⟩ := this trivial
  refine ⟨r, ?_, r2⟩
  simp only [execOp, hvx, hix, Instr.index, asIntOf, Sem.run_bind, Sem.run_pure, Result.andThen_ok, run_underlying (tyArr_ok hT h3)]
  rw [if_pos ⟨by omega, by omega⟩]
  simp only [Sem.run_bind, (hT _ _ hy).sizeOf, Result.andThen_ok, Int.toNat_natCast, r1]

theorem VStep.idx_agg (e : Env cx P fn lo) (hT : TabOk P T) {t te : TypeId} {x ix : Operand} {len : Nat} {kk : IntKind} {i : Int} {cs : List SV} {y : Ty} {v : SV} (hd : Nat.blt d fn.ntmps = true) (h1 : opd ⟨tm, hp, nx⟩ x = some (.agg cs)) (h2 : opd ⟨tm, hp, nx⟩ ix = some (.d (.v (.int kk i))))
    (h3 : tyArr T t = some (len, te)) (hy : aget te T = some y) (n : Nat) (hi : i = n) (hn : n < len) (hv : part1 y.td.agg y.size (n * y.size) cs = .val v True) : VStep cx all hp nx ⟨some d, .index t x ix, ty, pos, after, none⟩ tm d v := by
  intro tm' k ha g
  exact AWP.idx_agg e hT hd ((opd_eq fun u hu => ha u (looks_ops (by simp [Op.operands]) hu)).trans h1) ((opd_eq fun u hu => ha u (looks_ops (by simp [Op.operands]) hu)).trans h2) h3 hy n hi hn hv g

theorem run_indexAt_arr (hT : TabOk P T) {t te : TypeId} {len : Nat} {y : Ty} (h3 : tyArr T t = some (len, te)) (hy : aget te T = some y) (a : Addr) (kk : IntKind) (n : Nat) (hn : n < len) :
    (Instr.indexAt t (.pointer (some a)) (.int kk n)).run P w = .ok (.pointer (some (a.add (n * y.size)))) w := by
  simp only [Instr.indexAt, asIntOf, Sem.run_bind, Sem.run_pure, Result.andThen_ok, run_underlying (tyArr_ok hT h3), Instr.sureAddr]
  rw [if_pos ⟨by omega, by omega⟩]
  simp only [Sem.run_bind, (hT _ _ hy).sizeOf, Result.andThen_ok, Int.toNat_natCast, Sem.run_pure]

/-- An element of an array in a variable. -/
theorem AWP.idx_ptr (e : Env cx P fn lo) (hT : TabOk P T) {t te : TypeId} {x ix : Operand} {len : Nat} {kk : IntKind} {i : Int} {id j : Nat} {y : Ty} (hd : Nat.blt d fn.ntmps = true) (h1 : opd ⟨tm, hp, nx⟩ x = some (.ptr id j)) (h2 : opd ⟨tm, hp, nx⟩ ix = some (.d (.v (.int kk i))))
    (h3 : tyArr T t = some (len, te)) (hy : aget te T = some y) (n : Nat) (hi : i = n) (hn : n < len) (g : AWP cx (.ops all rest :: k) ⟨(d, .ptr id (j + n * y.size)) :: tm, hp, nx⟩) :
    AWP cx (.ops all (⟨some d, .indexAddr t x ix, ty, pos, after, none⟩ :: rest) :: k) ⟨tm, hp, nx⟩ := by
  refine AWP.op_run e (Nat.le_of_ble_eq_true hd) (fun μ ok a w hI => ?_) g
  have hx := opd_den hI.tmps h1
  have hix := (opd_den hI.tmps h2).int
  subst hi
  generalize hvx : a.eval x = u at hx
  cases hx with | ptr hb =>
  refine ⟨_, ?_, .ptr hb⟩
  simp only [execOp, hvx, hix, Sem.run_bind, run_indexAt_arr hT h3 hy _ kk n hn, Result.andThen_ok, Sem.run_pure, add_add']

theorem VStep.idx_ptr (e : Env cx P fn lo) (hT : TabOk P T) {t te : TypeId} {x ix : Operand} {len : Nat} {kk : IntKind} {i : Int} {id j : Nat} {y : Ty} (hd : Nat.blt d fn.ntmps = true) (h1 : opd ⟨tm, hp, nx⟩ x = some (.ptr id j)) (h2 : opd ⟨tm, hp, nx⟩ ix = some (.d (.v (.int kk i))))
    (h3 : tyArr T t = some (len, te)) (hy : aget te T = some y) (n : Nat) (hi : i = n) (hn : n < len) : VStep cx all hp nx ⟨some d, .indexAddr t x ix, ty, pos, after, none⟩ tm d (.ptr id (j + n * y.size)) := by
  intro tm' k ha g
  exact AWP.idx_ptr e hT hd ((opd_eq fun u hu => ha u (looks_ops (by simp [Op.operands]) hu)).trans h1) ((opd_eq fun u hu => ha u (looks_ops (by simp [Op.operands]) hu)).trans h2) h3 hy n hi hn g

/-! ### Structs compared -/
def eqChk (P : Program) : Nat → TypeId → Bool
  | 0, _ => false
  | n + 1, t => match P.underlying t with
    | some .bool | some (.int _) | some .string => true
    | some (.struct F) => !P.stoodInHeld t && F.toList.all fun f => (f.name != "_") && eqChk P n f.type
    | some (.array _ e) => eqChk P n e
    | _ => false

theorem eqCells_append : ∀ {a c b e : List SV} {β : Bool}, a.length = c.length → eqCells (a ++ b) (c ++ e) = some β → ∃ β1 β2, eqCells a c = some β1 ∧ eqCells b e = some β2 ∧ β = (β1 && β2)
  | [], [], b, e, β, _, h => ⟨true, β, rfl, h, by simp⟩
  | x :: a, y :: c, b, e, β, hl, h => by
    simp only [List.cons_append, eqCells] at h
    split at h
    · rename_i u v hu hv
      cases h
      obtain ⟨γ1, γ2, g1, g2, rfl⟩ := eqCells_append (by simpa using hl) hv
      exact ⟨u && γ1, γ2, by simp only [eqCells, hu, g1], g2, by rw [Bool.and_assoc]⟩
    · cases h

/-- What kinds of plain cells a type has. -/
def lv (T : Tab) : Nat → TypeId → List TD
  | 0, _ => []
  | n + 1, t => match aget t T with
    | some y => match y.td with
      | .struct fs => (fs.map fun f => lv T n f.1).flatten
      | .arr m e => (List.replicate m (lv T n e)).flatten
      | td => [td]
    | none => []

def lf : TD → SV → Bool
  | .int k, .d (.v (.int k' _)) => Nat.beq (kn k) (kn k')
  | .bool, .d (.v (.bool _)) => true
  | .str, .d (.v (.string _)) => true
  | _, _ => false

theorem lf_int {q : IntKind} {x : SV} (h : lf (.int q) x = true) : ∃ a, x = .d (.v (.int q a)) := by
  unfold lf at h
  split at h
  · rename_i k k' a hx
    cases hx
    exact ⟨a, by rw [kn_inj h]⟩
  · rename_i hx; cases hx
  · rename_i hx; cases hx
  · cases h

theorem lf_bool {x : SV} (h : lf .bool x = true) : ∃ a, x = .d (.v (.bool a)) := by
  unfold lf at h
  split at h
  · rename_i hx; cases hx
  · rename_i a hx; exact ⟨a, rfl⟩
  · rename_i hx; cases hx
  · cases h

theorem lf_str {x : SV} (h : lf .str x = true) : ∃ a, x = .d (.v (.string a)) := by
  unfold lf at h
  split at h
  · rename_i hx; cases hx
  · rename_i hx; cases hx
  · rename_i a hx; exact ⟨a, rfl⟩
  · cases h

def lvOk : List TD → List SV → Bool
  | [], [] => true
  | a :: l, x :: m => lf a x && lvOk l m
  | _, _ => false

theorem lvOk_append : ∀ {a b : List TD} {c e : List SV}, a.length = c.length → lvOk (a ++ b) (c ++ e) = true → lvOk a c = true ∧ lvOk b e = true
  | [], b, [], e, _, h => ⟨rfl, h⟩
  | x :: a, b, y :: c, e, hl, h => by
    simp only [List.cons_append, lvOk, Bool.and_eq_true] at h ⊢
    obtain ⟨h1, h2⟩ := lvOk_append (by simpa using hl) h.2
    exact ⟨⟨h.1, h1⟩, h2⟩

theorem contig_len {Q : TypeId → List TD} : ∀ (fs : List (TypeId × Nat)) (o z : Nat), contig T o fs = some z → (∀ f ∈ fs, (Q f.1).length = tyz T f.1) → o + ((fs.map fun f => Q f.1).flatten).length = z
  | [], o, z, h, _ => by simp only [contig, Option.some.injEq] at h; simpa using h
  | (t, off) :: fs, o, z, h, hq => by
    simp only [contig] at h
    by_cases e : o = off
    · subst e
      simp only [Nat.beq_refl, cond_true] at h
      have := contig_len (Q := Q) fs _ z h fun f hf => hq f (by simp [hf])
      have h1 := hq (t, o) (by simp)
      simp only [List.map_cons, List.flatten_cons, List.length_append] at this ⊢
      simp only at h1
      omega
    · rw [beq_ne e] at h; cases h

theorem len_flat_rep {α : Type} (m : Nat) (l : List α) : ((List.replicate m l).flatten).length = m * l.length := by
  induction m with
  | zero => simp
  | succ m ih => rw [List.replicate_succ, List.flatten_cons, List.length_append, ih, Nat.succ_mul, Nat.add_comm]

theorem lv_len (hT : TabOk P T) : ∀ (n : Nat) (t : TypeId), argTy T n t = true → eqChk P n t = true → (lv T n t).length = tyz T t
  | 0, _, h, _ => by cases h
  | n + 1, t, ha, hq => by
    simp only [argTy] at ha
    simp only [eqChk] at hq
    unfold tyz
    cases ht : aget t T with
    | none => rw [ht] at ha; cases ha
    | some y =>
      rw [ht] at ha
      simp only at ha
      have hty := hT _ _ ht
      have htd := hty.td
      cases e : y.td <;> rw [e] at ha htd <;> simp only at ha htd
      case struct fs =>
        obtain ⟨F, hF, hm, _⟩ := htd
        rw [hF] at hq
        simp only [Bool.and_eq_true, List.all_eq_true] at hq ha
        cases hc : contig T 0 fs with
        | none => rw [hc] at ha; cases ha.1
        | some z =>
          rw [hc] at ha
          have := contig_len (Q := lv T n) fs 0 z hc fun f hf => by
            have hf' := hf
            rw [← hm] at hf'
            obtain ⟨f0, h1, h2⟩ := List.mem_map.1 hf'
            have := (hq.2 f0 h1).2
            rw [← h2]
            exact lv_len hT n _ (by have := ha.2 f hf; rw [← h2] at this; exact this) this
          have hz : z = y.size := Nat.eq_of_beq_eq_true ha.1
          simp only [lv, ht, e]
          omega
      case arr m el =>
        rw [htd] at hq
        simp only [Bool.and_eq_true] at hq ha
        simp only [lv, ht, e]
        rw [len_flat_rep, lv_len hT n el ha.2 hq, Nat.eq_of_beq_eq_true ha.1]
      all_goals first
        | (cases ha; done)
        | (simp only [lv, ht, e]; exact (hty.one (by rw [e]; rfl)).symm)
        | (rw [htd] at hq; cases hq; done)

/-- The value of a type whose cells are known. -/
def TV (P : Program) (T : Tab) (μ : Nat → Option Nat) (ok : Nat → Prop) (w : World) (t : TypeId) (xs : List SV) (u : Value) : Prop :=
  xs.length = tyz T t ∧ ((∃ y, aget t T = some y ∧ y.td.agg = true ∧ ∃ cs, u = .agg cs ∧ Cells μ ok w xs cs) ∨ (∃ y x, aget t T = some y ∧ y.td.agg = false ∧ xs = [x] ∧ Den μ ok w x u))

theorem TV.part (hT : TabOk P T) {f : TypeId} {y : Ty} (hy : aget f T = some y) (hone : y.td.agg = false → y.size = 1) {cs : List SV} {vs : Array Value} (h : Cells μ ok w cs vs) (off : Nat) (hl : off + y.size ≤ cs.length) :
    ∃ u, (Go.part f vs off).run P w = .ok u w ∧ TV P T μ ok w f ((cs.drop off).take y.size) u := by
  have hz : tyz T f = y.size := by unfold tyz; rw [hy]
  have hlen : ((cs.drop off).take y.size).length = y.size := by simp; omega
  rcases part1_spec y.td.agg y.size off cs with q | ⟨e1, e2, q⟩ | ⟨e1, x, e2, q⟩
  · exfalso
    cases hg : y.td.agg with
    | true =>
      rw [hg] at q
      unfold part1 at q
      simp only [dropK_eq, takeK_eq, dk, tk] at q
      rw [if_pos (by omega)] at q
      simp only at q
      rw [if_pos (by simp; omega)] at q
      cases q
    | false =>
      rw [hg] at q
      have h1 := hone hg
      unfold part1 at q
      simp only [nth_eq] at q
      rw [List.getElem?_eq_getElem (by omega)] at q
      cases q
  · have h0 := part1_ok (hT _ _ hy) h off
    rw [q] at h0
    obtain ⟨u, h1, h2⟩ := h0 trivial
    cases h2 with | agg vs' g1 g2 =>
    exact ⟨_, h1, by rw [hz]; exact hlen, .inl ⟨y, hy, e1, vs', rfl, g1, g2⟩⟩
  · have h0 := part1_ok (hT _ _ hy) h off
    rw [q] at h0
    obtain ⟨u, h1, h2⟩ := h0 trivial
    have h3 := hone e1
    refine ⟨u, h1, by rw [hz]; exact hlen, .inr ⟨y, x, hy, e1, ?_, h2⟩⟩
    rw [h3, List.take_one, List.head?_drop, e2]
    rfl

theorem eq_fields (hT : TabOk P T) {n d : Nat} (ih : ∀ t xs ys u v β, argTy T n t = true → eqChk P n t = true → lvOk (lv T n t) xs = true → lvOk (lv T n t) ys = true → eqCells xs ys = some β → TV P T μ ok w t xs u → TV P T μ ok w t ys v → (Op.equalIn d t u v).run P w = .ok β w) {cs es : List SV} {vs us : Array Value} (hc : Cells μ ok w cs vs) (he : Cells μ ok w es us) :
    ∀ (fs : List Field) (o z : Nat) (β : Bool), contig T o (fs.map fun f => (f.type, f.offset)) = some z → z ≤ cs.length → cs.length = es.length → (fs.all fun f => (f.name != "_") && eqChk P n f.type) = true → (fs.all fun f => argTy T n f.type) = true →
      o ≤ z ∧ (lvOk ((fs.map fun f => lv T n f.type).flatten) ((cs.drop o).take (z - o)) = true → lvOk ((fs.map fun f => lv T n f.type).flatten) ((es.drop o).take (z - o)) = true → eqCells ((cs.drop o).take (z - o)) ((es.drop o).take (z - o)) = some β → (Op.eqFields d vs us fs).run P w = .ok β w)
  | [], o, z, β, hct, _, _, _, _ => by
    simp only [List.map_nil, contig, Option.some.injEq] at hct
    subst hct
    refine ⟨Nat.le_refl _, fun _ _ h => ?_⟩
    simp [eqCells] at h
    subst h
    rfl
  | f :: fs, o, z, β, hct, hz, hl, hq, ha => by
    simp only [List.map_cons, contig] at hct
    by_cases e : o = f.offset
    · subst e
      simp only [Nat.beq_refl, cond_true] at hct
      simp only [List.all_cons, Bool.and_eq_true] at hq ha
      obtain ⟨⟨q1, q2⟩, q3⟩ := hq
      obtain ⟨h1, _⟩ := eq_fields hT ih hc he fs (f.offset + tyz T f.type) z β hct hz hl q3 ha.2
      refine ⟨by omega, fun hk1 hk2 hβ => ?_⟩
      have sp : ∀ (l : List SV), (l.drop f.offset).take (z - f.offset) = (l.drop f.offset).take (tyz T f.type) ++ (l.drop (f.offset + tyz T f.type)).take (z - (f.offset + tyz T f.type)) := by
        intro l
        rw [← List.drop_drop, ← List.take_add]
        congr 1
        omega
      have hlv := lv_len hT n f.type ha.1 q2
      rw [sp] at hk1 hk2
      rw [sp, sp] at hβ
      rw [List.map_cons, List.flatten_cons] at hk1 hk2
      obtain ⟨k1, k1'⟩ := lvOk_append (by rw [hlv]; simp; omega) hk1
      obtain ⟨k2, k2'⟩ := lvOk_append (by rw [hlv]; simp; omega) hk2
      obtain ⟨β1, β2, b1, b2, rfl⟩ := eqCells_append (by simp; omega) hβ
      cases hy : aget f.type T with
      | none => cases n with
        | zero => cases ha.1
        | succ n => simp only [argTy, hy] at ha; cases ha.1
      | some y =>
        have hzf : tyz T f.type = y.size := by unfold tyz; rw [hy]
        obtain ⟨u, p1, p2⟩ := TV.part hT hy (hT _ _ hy).one hc f.offset (by omega)
        obtain ⟨v, p3, p4⟩ := TV.part hT hy (hT _ _ hy).one he f.offset (by omega)
        rw [hzf] at b1 k1 k2
        have r1 := ih f.type _ _ u v β1 ha.1 q2 k1 k2 b1 p2 p4
        have hne : f.name ≠ "_" := by simpa using q1
        simp only [Op.eqFields, if_pos hne, Sem.run_bind, p1, p3, r1, Result.andThen_ok]
        cases β1
        · simp
        · simp only [Bool.not_true, Bool.false_eq_true, if_false, Bool.true_and]
          exact (eq_fields hT ih hc he fs (f.offset + tyz T f.type) z β2 hct hz hl q3 ha.2).2 k1' k2' b2
    · rw [beq_ne e] at hct
      cases hct

/-- An array's elements, one behind the other. -/
theorem eq_items (hT : TabOk P T) {n d : Nat} {el : TypeId} {y : Ty} (hy : aget el T = some y) (ih : ∀ xs ys u v β, lvOk (lv T n el) xs = true → lvOk (lv T n el) ys = true → eqCells xs ys = some β → TV P T μ ok w el xs u → TV P T μ ok w el ys v → (Op.equalIn d el u v).run P w = .ok β w)
    (hlv : (lv T n el).length = y.size) (hcz : P.cellsOf el = y.size) {cs es : List SV} {vs us : Array Value} (hc : Cells μ ok w cs vs) (he : Cells μ ok w es us) (hl : cs.length = es.length) :
    ∀ (m i : Nat) (β : Bool), (i + m) * y.size ≤ cs.length → lvOk ((List.replicate m (lv T n el)).flatten) ((cs.drop (i * y.size)).take (m * y.size)) = true → lvOk ((List.replicate m (lv T n el)).flatten) ((es.drop (i * y.size)).take (m * y.size)) = true →
      eqCells ((cs.drop (i * y.size)).take (m * y.size)) ((es.drop (i * y.size)).take (m * y.size)) = some β → (Op.eqItems d el (P.cellsOf el) vs us (List.range' i m)).run P w = .ok β w
  | 0, i, β, _, _, _, h => by
    simp [eqCells] at h
    subst h
    rfl
  | m + 1, i, β, hz, hk1, hk2, hβ => by
    have hz' : (i + 1 + m) * y.size ≤ cs.length := by rw [show i + 1 + m = i + (m + 1) by omega]; exact hz
    have hm : (m + 1) * y.size = y.size + m * y.size := by rw [Nat.succ_mul, Nat.add_comm]
    have hi : (i + 1) * y.size = i * y.size + y.size := Nat.succ_mul _ _
    have hz2 : i * y.size + (y.size + m * y.size) ≤ cs.length := by rw [← hm, ← Nat.add_mul]; exact hz
    have sp : ∀ (l : List SV), (l.drop (i * y.size)).take ((m + 1) * y.size) = (l.drop (i * y.size)).take y.size ++ (l.drop ((i + 1) * y.size)).take (m * y.size) := by
      intro l
      rw [hi, ← List.drop_drop, ← List.take_add, hm]
    rw [sp] at hk1 hk2
    rw [sp, sp] at hβ
    rw [List.replicate_succ, List.flatten_cons] at hk1 hk2
    obtain ⟨k1, k1'⟩ := lvOk_append (by rw [hlv]; simp; omega) hk1
    obtain ⟨k2, k2'⟩ := lvOk_append (by rw [hlv]; simp; omega) hk2
    obtain ⟨β1, β2, b1, b2, rfl⟩ := eqCells_append (by simp; omega) hβ
    obtain ⟨u, p1, p2⟩ := TV.part hT hy (hT _ _ hy).one hc (i * y.size) (by omega)
    obtain ⟨v, p3, p4⟩ := TV.part hT hy (hT _ _ hy).one he (i * y.size) (by omega)
    have r1 := ih _ _ u v β1 k1 k2 b1 p2 p4
    rw [List.range'_succ]
    simp only [Op.eqItems, hcz, Sem.run_bind, p1, p3, r1, Result.andThen_ok]
    cases β1
    · simp
    · simp only [Bool.not_true, Bool.false_eq_true, if_false, Bool.true_and]
      have := eq_items hT hy ih hlv hcz hc he hl m (i + 1) β2 hz' k1' k2' b2
      rw [hcz] at this
      exact this

theorem eq_run (hT : TabOk P T) : ∀ (n : Nat) (t : TypeId) (xs ys : List SV) (u v : Value) (β : Bool) (d : Nat), n ≤ d → argTy T n t = true → eqChk P n t = true → lvOk (lv T n t) xs = true → lvOk (lv T n t) ys = true → eqCells xs ys = some β → TV P T μ ok w t xs u → TV P T μ ok w t ys v →
    (Op.equalIn d t u v).run P w = .ok β w
  | 0, t, xs, ys, u, v, β, d, _, ha, _, _, _, _, _, _ => by cases ha
  | n + 1, t, xs, ys, u, v, β, d, hd, ha, hq, hk1, hk2, hβ, hu, hv => by
    obtain ⟨d, rfl⟩ : ∃ d', d = d' + 1 := ⟨d - 1, by omega⟩
    have ha0 := ha
    simp only [argTy] at ha
    simp only [eqChk] at hq
    cases ht : aget t T with
    | none => rw [ht] at ha; cases ha
    | some y =>
      rw [ht] at ha
      simp only at ha
      have htd := (hT _ _ ht).td
      obtain ⟨hxl, hu⟩ := hu
      obtain ⟨hyl, hv⟩ := hv
      have hz : tyz T t = y.size := by unfold tyz; rw [ht]
      have scal : y.td.agg = false → ∃ x x', xs = [x] ∧ ys = [x'] ∧ Den μ ok w x u ∧ Den μ ok w x' v ∧ eq1 x x' = some β := by
        intro hg
        obtain ⟨y', h1, h2, _⟩ | ⟨_, x, _, _, rfl, hx⟩ := hu
        · rw [ht] at h1; cases h1; rw [hg] at h2; cases h2
        obtain ⟨y', h1, h2, _⟩ | ⟨_, x', _, _, rfl, hx'⟩ := hv
        · rw [ht] at h1; cases h1; rw [hg] at h2; cases h2
        refine ⟨x, x', rfl, rfl, hx, hx', ?_⟩
        simp only [eqCells] at hβ
        split at hβ
        · rename_i a b ha hb
          cases hb
          simp at hβ
          rw [ha, hβ]
        · cases hβ
      cases e : y.td <;> rw [e] at ha htd <;> simp only at ha htd <;> simp only [lv, ht, e] at hk1 hk2
      case int q =>
        obtain ⟨x, x', rfl, rfl, hx, hx', he⟩ := scal (by rw [e]; rfl)
        simp only [lvOk, Bool.and_true] at hk1 hk2
        obtain ⟨a, rfl⟩ := lf_int hk1
        obtain ⟨b, rfl⟩ := lf_int hk2
        simp only [eq1, Nat.beq_refl, cond_true, Option.some.injEq] at he
        rw [hx.int, hx'.int, ← he]
        exact run_equalIn_int w d t _ q _ _ htd
      case bool =>
        obtain ⟨x, x', rfl, rfl, hx, hx', he⟩ := scal (by rw [e]; rfl)
        simp only [lvOk, Bool.and_true] at hk1 hk2
        obtain ⟨a, rfl⟩ := lf_bool hk1
        obtain ⟨b, rfl⟩ := lf_bool hk2
        simp only [eq1, Option.some.injEq] at he
        rw [hx.vv, hx'.vv, ← he]
        exact run_equalIn_bool' w d t _ _ htd
      case str =>
        obtain ⟨x, x', rfl, rfl, hx, hx', he⟩ := scal (by rw [e]; rfl)
        simp only [lvOk, Bool.and_true] at hk1 hk2
        obtain ⟨a, rfl⟩ := lf_str hk1
        obtain ⟨b, rfl⟩ := lf_str hk2
        simp only [eq1, Option.some.injEq] at he
        rw [hx.vv, hx'.vv, ← he]
        exact run_equalIn_string w d t _ _ htd
      case struct fs =>
        obtain ⟨F, hF, hm, _⟩ := htd
        rw [hF] at hq
        simp only [Bool.and_eq_true] at hq ha
        obtain ⟨y', _, _, cu, rfl, hcu⟩ | ⟨y', x, h1, h2, _⟩ := hu
        rotate_left
        · rw [ht] at h1; cases h1; rw [e] at h2; cases h2
        obtain ⟨y', _, _, cv, rfl, hcv⟩ | ⟨y', x, h1, h2, _⟩ := hv
        rotate_left
        · rw [ht] at h1; cases h1; rw [e] at h2; cases h2
        have hfo : P.fieldsOf t = F := by simp [Program.fieldsOf, hF]
        rw [run_equalIn_struct w d t cu cv (by rw [hfo]; exact hF) (by simpa using hq.1), hfo]
        cases hc : contig T 0 fs with
        | none => rw [hc] at ha; cases ha.1
        | some z =>
          rw [hc] at ha
          have hzz : z = y.size := Nat.eq_of_beq_eq_true ha.1
          have hc' : contig T 0 (F.toList.map fun f => (f.type, f.offset)) = some z := by rw [hm]; exact hc
          have hmm : (fs.map fun f => lv T n f.1) = F.toList.map fun f => lv T n f.type := by rw [← hm, List.map_map]; rfl
          rw [hmm] at hk1 hk2
          have := eq_fields hT (n := n) (d := d) (fun t xs ys u v β a1 a2 a3 a4 a5 a6 a7 => eq_run hT n t xs ys u v β d (by omega) a1 a2 a3 a4 a5 a6 a7) hcu hcv F.toList 0 z β hc' (by omega) (by omega) hq.2 (by
            rw [List.all_eq_true] at ha ⊢
            intro f hf
            exact ha.2 (f.type, f.offset) (by rw [← hm]; exact List.mem_map.2 ⟨f, hf, rfl⟩))
          rw [List.drop_zero, List.drop_zero, Nat.sub_zero, List.take_of_length_le (by omega), List.take_of_length_le (by omega)] at this
          exact this.2 hk1 hk2 hβ
      case arr m el =>
        rw [htd] at hq
        simp only [Bool.and_eq_true] at hq ha
        obtain ⟨y', _, _, cu, rfl, hcu⟩ | ⟨y', x, h1, h2, _⟩ := hu
        rotate_left
        · rw [ht] at h1; cases h1; rw [e] at h2; cases h2
        obtain ⟨y', _, _, cv, rfl, hcv⟩ | ⟨y', x, h1, h2, _⟩ := hv
        rotate_left
        · rw [ht] at h1; cases h1; rw [e] at h2; cases h2
        have hsz : y.size = m * tyz T el := Nat.eq_of_beq_eq_true ha.1
        cases hy : aget el T with
        | none => cases n with
          | zero => cases ha.2
          | succ n => have h2 := ha.2; simp only [argTy, hy] at h2; cases h2
        | some ye =>
          have hze : tyz T el = ye.size := by unfold tyz; rw [hy]
          obtain ⟨ti, _, hti, _⟩ := (hT _ _ hy).info
          rw [run_equalIn_array w d cu cv htd hti, List.range_eq_range']
          refine eq_items hT hy (fun xs ys u v β a3 a4 a5 a6 a7 => eq_run hT n el xs ys u v β d (by omega) ha.2 hq a3 a4 a5 a6 a7) (by rw [lv_len hT n el ha.2 hq, hze]) (by rw [tyz_ok hT ha.2, hze]) hcu hcv (by omega) m 0 β ?_ ?_ ?_ ?_
          · rw [Nat.zero_add, ← hze]; omega
          all_goals (rw [Nat.zero_mul, List.drop_zero, List.take_of_length_le (by rw [← hze]; omega)])
          · exact hk1
          · exact hk2
          · rw [List.drop_zero, List.take_of_length_le (by rw [← hze]; omega)]; exact hβ
      all_goals (first | (cases ha; done) | (rw [htd] at hq; cases hq; done))

theorem AWP.eq_agg (e : Env cx P fn lo) (hT : TabOk P T) {op : BinOp} {t t' : TypeId} {x z : Operand} {cs es : List SV} {β r : Bool} {y : Ty} (hd : Nat.blt d fn.ntmps = true) (h1 : opd ⟨tm, hp, nx⟩ x = some (.agg cs)) (h2 : opd ⟨tm, hp, nx⟩ z = some (.agg es))
    (hop : op = .eql ∧ r = β ∨ op = .neq ∧ r = !β) (hg : P.eqGuardType P.depth t = false) (n : Nat) (hn : n ≤ 10000) (ha : argTy T n t = true) (hq : eqChk P n t = true) (hy : aget t T = some y) (hag : y.td.agg = true) (z1 : cs.length = y.size) (z2 : es.length = y.size)
    (l1 : lvOk (lv T n t) cs = true) (l2 : lvOk (lv T n t) es = true) (hβ : eqCells cs es = some β) (g : AWP cx (.ops all rest :: k) ⟨(d, .b r) :: tm, hp, nx⟩) :
    AWP cx (.ops all (⟨some d, .binOp op t x z t', ty, pos, after, none⟩ :: rest) :: k) ⟨tm, hp, nx⟩ := by
  refine AWP.op_run e (Nat.le_of_ble_eq_true hd) (fun μ ok a w hI => ?_) g
  have hx := opd_den hI.tmps h1
  have hz := opd_den hI.tmps h2
  refine ⟨.bool r, ?_, .d (.v _)⟩
  generalize hvx : a.eval x = u at hx
  generalize hvz : a.eval z = v at hz
  cases hx with | agg vs q1 q2 =>
  cases hz with | agg us q3 q4 =>
  have ht : tyz T t = y.size := by unfold tyz; rw [hy]
  have hr := eq_run (μ := μ) (ok := ok) (w := w) hT n t cs es (.agg vs) (.agg us) β 10000 hn ha hq l1 l2 hβ ⟨by rw [ht, z1], .inl ⟨y, hy, hag, _, rfl, q1, q2⟩⟩ ⟨by rw [ht, z2], .inl ⟨y, hy, hag, _, rfl, q3, q4⟩⟩
  obtain ⟨rfl, rfl⟩ | ⟨rfl, rfl⟩ := hop
  · simp only [execOp, hvx, hvz, Sem.run_bind, run_eqGuard_agg (hm := hg), Result.andThen_ok, run_eql_struct, hr, Sem.run_pure]
  · simp only [execOp, hvx, hvz, Sem.run_bind, run_eqGuard_agg (hm := hg), Result.andThen_ok, run_neq_struct, hr, Sem.run_pure]

theorem VStep.eq_agg (e : Env cx P fn lo) (hT : TabOk P T) {op : BinOp} {t t' : TypeId} {x z : Operand} {cs es : List SV} {β r : Bool} {y : Ty} (hd : Nat.blt d fn.ntmps = true) (h1 : opd ⟨tm, hp, nx⟩ x = some (.agg cs)) (h2 : opd ⟨tm, hp, nx⟩ z = some (.agg es))
    (hop : op = .eql ∧ r = β ∨ op = .neq ∧ r = !β) (hg : P.eqGuardType P.depth t = false) (n : Nat) (hn : n ≤ 10000) (ha : argTy T n t = true) (hq : eqChk P n t = true) (hy : aget t T = some y) (hag : y.td.agg = true) (z1 : cs.length = y.size) (z2 : es.length = y.size)
    (l1 : lvOk (lv T n t) cs = true) (l2 : lvOk (lv T n t) es = true) (hβ : eqCells cs es = some β) : VStep cx all hp nx ⟨some d, .binOp op t x z t', ty, pos, after, none⟩ tm d (.b r) := by
  intro tm' k ha' g
  exact AWP.eq_agg e hT hd ((opd_eq fun u hu => ha' u (looks_ops (by simp [Op.operands]) hu)).trans h1) ((opd_eq fun u hu => ha' u (looks_ops (by simp [Op.operands]) hu)).trans h2) hop hg n hn ha hq hy hag z1 z2 l1 l2 hβ g

end
end Go.Sy

/-
  SYMBOLIC STATES, over any program, part 21: owned blocks renamed.
-/
namespace Go.Sy
open Go.RowKit

section
variable {cx : Cx} {P : Program} {fn : Func} {lo : Nat} {T : Tab} {k : List It} {tm : List (Nat × SV)} {hp : List (Nat × Blk)} {nx : Nat}
variable {μ : Nat → Option Nat} {ok : Nat → Prop} {w : World}

def renI (r : List (Nat × Nat)) (i : Nat) : Nat := match aget i r with | some a => a | none => i
def renS (r : List (Nat × Nat)) : SV → SV
  | .ptr id j => .ptr (renI r id) j
  | .pel id k i j => .pel (renI r id) k i j
  | .own id k lo n C => .own (renI r id) k lo n C
  | .agg cs => .agg (go r cs)
  | .tup cs => .tup (go r cs)
  | .fn f a b => .fn f (go r a) (go r b)
  | .d x => .d x
  | .ip x => .ip x
  | .lit b => .lit b
where go (r : List (Nat × Nat)) : List SV → List SV
  | [] => []
  | x :: l => renS r x :: go r l

theorem renS_get (r : List (Nat × Nat)) (l : List SV) : (renS.go r l).length = l.length ∧ ∀ (j : Nat) c, l[j]? = some c → (renS.go r l)[j]? = some (renS r c) := by
  induction l with
  | nil => exact ⟨rfl, by simp⟩
  | cons x l ih =>
    refine ⟨by simp only [renS.go, List.length_cons, ih.1], fun j c hc => ?_⟩
    cases j with
    | zero => cases hc; rfl
    | succ j => exact ih.2 j c (by simpa using hc)

theorem Den.ren {r : List (Nat × Nat)} {μ' : Nat → Option Nat} {n : Nat} (hμ : ∀ i, i < n → μ' i = μ (renI r i)) {y : SV} {v : Value} (h : Den μ ok w y v) : ∀ x, y = renS r x → SV.idsLt n x = true → Den μ' ok w x v := by
  induction h with
  | d h => intro x hx _; cases x <;> cases hx; exact .d h
  | ptr h => intro x hx hl; cases x <;> cases hx; exact .ptr (by rw [hμ _ (Nat.le_of_ble_eq_true hl)]; exact h)
  | pel h => intro x hx hl; cases x <;> cases hx; exact .pel (by rw [hμ _ (Nat.le_of_ble_eq_true hl)]; exact h)
  | own h h1 h2 => intro x hx hl; cases x <;> cases hx; exact .own (by rw [hμ _ (Nat.le_of_ble_eq_true hl)]; exact h) h1 h2
  | ip a h4 => intro x hx _; cases x <;> cases hx; exact .ip a h4
  | lit b => intro x hx _; cases x <;> cases hx; exact .lit b
  | ownNil a id k lo => intro x hx _; cases x <;> cases hx; exact .ownNil a _ k lo
  | agg vs h h1 ih =>
    intro x hx hl
    cases x <;> cases hx
    rename_i cs
    obtain ⟨g1, g2⟩ := renS_get r cs
    exact .agg vs (by rw [h, g1]) fun j c u hc hu => ih j _ u (g2 j c hc) hu c rfl (idsLt_go hl j c hc)
  | tup vs h h1 ih =>
    intro x hx hl
    cases x <;> cases hx
    rename_i cs
    obtain ⟨g1, g2⟩ := renS_get r cs
    exact .tup vs (by rw [h, g1]) fun j c u hc hu => ih j _ u (g2 j c hc) hu c rfl (idsLt_go hl j c hc)
  | fn vs us h h1 h2 h3 ih1 ih2 =>
    intro x hx hl
    cases x <;> cases hx
    rename_i a b
    simp only [SV.idsLt, Bool.and_eq_true] at hl
    obtain ⟨g1, g2⟩ := renS_get r a
    obtain ⟨g3, g4⟩ := renS_get r b
    exact .fn vs us (by rw [h, g1]) (fun j c u hc hu => ih1 j _ u (g2 j c hc) hu c rfl (idsLt_go hl.1 j c hc)) (by rw [h2, g3]) (fun j c u hc hu => ih2 j _ u (g4 j c hc) hu c rfl (idsLt_go hl.2 j c hc))

def renB (r : List (Nat × Nat)) : Blk → Blk
  | .box cs => .box (renS.go r cs)
  | .row e f k xs C => .row e f k xs C

/-- Behind the renaming a block's names are known; what a row holds has none. -/
def Blk.okR (n : Nat) : Blk → Prop
  | .box cs => SV.idsLt.go n cs = true
  | .row _ _ _ xs _ => ∀ e ∈ xs, SV.idsLt.go 0 e = true

theorem DenB.ren {r : List (Nat × Nat)} {μ' : Nat → Option Nat} {n : Nat} (hμ : ∀ i, i < n → μ' i = μ (renI r i)) {b : Nat} {B : Blk} (h : DenB μ ok w b (renB r B)) (hl : B.okR n) : DenB μ' ok w b B := by
  cases B with
  | box cs =>
    obtain ⟨c, T, z, h1, hz, h2, h3⟩ := h
    obtain ⟨g1, g2⟩ := renS_get r cs
    exact ⟨c, T, z, h1, hz, by rw [h2, g1], fun j x u hx hu => (h3 j _ u (g2 j x hx) hu).ren hμ x rfl (idsLt_go hl j x hx)⟩
  | row T fz k xs C =>
    obtain ⟨c, z, h1, hf, hz, h2, h3, h4, h5⟩ := h
    exact ⟨c, z, h1, hf, hz, h2, h3, h4, fun i e j x u he hx hu => (h5 i e j x u he hx hu).cut (n := 0) (fun i hi => by omega) (idsLt_go (hl e (List.mem_of_getElem? he)) j x hx)⟩

theorem renB_ghost {r : List (Nat × Nat)} {B : Blk} (h : (renB r B).ghost) : B.ghost := by
  cases B with
  | box cs => exact h
  | row => exact h

def leTR (s' : St) (r : List (Nat × Nat)) : List (Nat × SV) → Prop
  | [] => True
  | (t, x) :: l => (aget t s'.tmps).map strip = some (renS r x) ∧ leTR s' r l
def leHR (s' : St) (r : List (Nat × Nat)) : List (Nat × Blk) → Prop
  | [] => True
  | (i, B) :: l => aget (renI r i) s'.heap = some (renB r B) ∧ leHR s' r l
def okHR (n : Nat) : List (Nat × Blk) → Prop
  | [] => True
  | (i, B) :: l => Nat.blt i n = true ∧ B.okR n ∧ okHR n l
def memN (i : Nat) : List Nat → Bool
  | [] => false
  | j :: l => Nat.beq i j || memN i l

theorem memN_iff {i : Nat} {l : List Nat} : memN i l = true ↔ i ∈ l := by
  induction l with
  | nil => simp [memN]
  | cons j l ih => simp only [memN, Bool.or_eq_true, ih, List.mem_cons, Nat.beq_eq]

def upR (r : List (Nat × Nat)) : Nat → List Nat
  | 0 => []
  | n + 1 => renI r n :: upR r n

def nodupN : List Nat → Bool
  | [] => true
  | x :: l => !memN x l && nodupN l

/-- No two names become one; the renamed ones are no caller's. -/
def okR (lo nx : Nat) (r : List (Nat × Nat)) : Bool := (r.all fun p => Nat.ble lo p.1) && nodupN (upR r nx)

theorem leTR_get {s' : St} {r : List (Nat × Nat)} {l : List (Nat × SV)} (h : leTR s' r l) {n : Nat} (ho : okT n l = true) : ∀ t x, aget t l = some x → (∃ y, aget t s'.tmps = some y ∧ strip y = renS r x) ∧ SV.idsLt n x = true := by
  induction l with
  | nil => intro t x hx; simp [aget] at hx
  | cons p l ih =>
    obtain ⟨u, y⟩ := p
    simp only [okT, Bool.and_eq_true] at ho
    intro t x hx
    rw [aget_cons] at hx
    by_cases e : t = u
    · rw [if_pos e] at hx
      cases hx
      subst e
      exact ⟨by simpa using h.1, ho.1⟩
    · rw [if_neg e] at hx
      exact ih h.2 ho.2 t x hx

theorem leHR_get {s' : St} {r : List (Nat × Nat)} {l : List (Nat × Blk)} (h : leHR s' r l) {n : Nat} (ho : okHR n l) : ∀ t x, aget t l = some x → aget (renI r t) s'.heap = some (renB r x) ∧ t < n ∧ x.okR n := by
  induction l with
  | nil => intro t x hx; simp [aget] at hx
  | cons p l ih =>
    obtain ⟨u, y⟩ := p
    intro t x hx
    rw [aget_cons] at hx
    by_cases e : t = u
    · rw [if_pos e] at hx
      cases hx
      subst e
      exact ⟨h.1, Nat.le_of_ble_eq_true ho.1, ho.2.1⟩
    · rw [if_neg e] at hx
      exact ih h.2 ho.2.2 t x hx

theorem okR_lo {lo nx : Nat} {r : List (Nat × Nat)} (h : okR lo nx r = true) {i a : Nat} (hi : aget i r = some a) : lo ≤ i := by
  simp only [okR, Bool.and_eq_true, List.all_eq_true] at h
  have : ∃ b, (i, b) ∈ r := by
    clear h
    induction r with
    | nil => simp [aget] at hi
    | cons p r ih =>
      obtain ⟨b, c⟩ := p
      rw [aget_cons] at hi
      by_cases e : i = b
      · exact ⟨c, by rw [e]; exact List.mem_cons_self⟩
      · rw [if_neg e] at hi
        obtain ⟨d, hd⟩ := ih hi
        exact ⟨d, List.mem_cons_of_mem _ hd⟩
  obtain ⟨b, hb⟩ := this
  exact Nat.le_of_ble_eq_true (h.1 _ hb)

theorem upR_mem {r : List (Nat × Nat)} : ∀ {n i : Nat}, i < n → renI r i ∈ upR r n
  | n + 1, i, h => by
    by_cases e : i = n
    · rw [e]; exact List.mem_cons_self
    · exact List.mem_cons_of_mem _ (upR_mem (by omega))

theorem upR_inj {r : List (Nat × Nat)} : ∀ {n i j : Nat}, nodupN (upR r n) = true → i < n → j < n → renI r i = renI r j → i = j
  | n + 1, i, j, h, hi, hj, e => by
    simp only [upR, nodupN, Bool.and_eq_true, Bool.not_eq_true'] at h
    have no : ∀ q, q < n → renI r n ≠ renI r q := fun q hq hn => by
      have := memN_iff.2 (upR_mem (r := r) hq)
      rw [← hn, h.1] at this
      cases this
    by_cases e1 : i = n <;> by_cases e2 : j = n
    · rw [e1, e2]
    · rw [e1] at e; exact absurd e (no j (by omega))
    · rw [e2] at e; exact absurd e.symm (no i (by omega))
    · exact upR_inj h.2 (by omega) (by omega) e

theorem renI_inj {lo nx : Nat} {r : List (Nat × Nat)} (h : okR lo nx r = true) {i j : Nat} (hi : i < nx) (hj : j < nx) (e : renI r i = renI r j) : i = j := by
  simp only [okR, Bool.and_eq_true] at h
  exact upR_inj h.2 hi hj e

/-- A state of which less is known, with blocks renamed: 'r' tells which name a block has now. -/
theorem AWP.lessR (e : Env cx P fn lo) (r : List (Nat × Nat)) {tm' : List (Nat × SV)} {hp' : List (Nat × Blk)} {nx' : Nat} (h1 : leTR ⟨tm', hp', nx'⟩ r tm) (h2 : leHR ⟨tm', hp', nx'⟩ r hp) (h3 : okT nx tm = true) (h4 : okHR nx hp) (h5 : okR lo nx r = true) (h6 : Nat.ble lo nx = true) (g : AWP cx k ⟨tm, hp, nx⟩) : AWP cx k ⟨tm', hp', nx'⟩ := fun a w hi => by
  obtain ⟨μ, ok, hi⟩ := hi.one
  refine g a w ?_
  let μ' : Nat → Option Nat := fun i => if i < nx then μ (renI r i) else none
  have hμ : ∀ i, i < nx → μ' i = μ (renI r i) := fun i h => by simp [μ', h]
  refine ⟨hi.defers, hi.size, μ', ok, ⟨fun i b hb => ?_, fun i h => by have h : nx ≤ i := h; simp [μ']; omega, hi.heap.sub, hi.heap.lt, hi.heap.okNew, fun i B hB => ?_, fun i j C D b hC hD hb hb' => ?_, hi.heap.frame, hi.heap.size, hi.heap.os, hi.heap.tape, hi.heap.output⟩, fun t x hx => ?_⟩
  · have hlo := e.lo i b hb
    rw [hμ _ (by have := Nat.le_of_ble_eq_true h6; omega)]
    have : renI r i = i := by
      unfold renI
      cases h : aget i r with
      | none => rfl
      | some a => have := okR_lo h5 h; omega
    rw [this]
    exact hi.heap.mu i b hb
  · obtain ⟨e1, e2, e3⟩ := leHR_get h2 h4 i B hB
    obtain ⟨hg, hn⟩ | ⟨b, g1, g2, g3, g4, g5⟩ := hi.heap.own _ _ e1
    · exact .inl ⟨renB_ghost hg, by rw [hμ _ e2]; exact hn⟩
    exact .inr ⟨b, by rw [hμ _ e2]; exact g1, g2, g3, g4, g5.ren hμ e3⟩
  · obtain ⟨e1, e2, _⟩ := leHR_get h2 h4 i C hC
    obtain ⟨e3, e4, _⟩ := leHR_get h2 h4 j D hD
    rw [hμ _ e2] at hb
    rw [hμ _ e4] at hb'
    exact renI_inj h5 e2 e4 (hi.heap.inj _ _ _ _ b e1 e3 hb hb')
  · obtain ⟨⟨y, e1, e3⟩, e2⟩ := leTR_get h1 h3 t x hx
    exact (strip_den (hi.tmps t y e1)).ren hμ x e3 e2

/-- What the slots have of a row is no more than it has. -/
def lenP (id m n : Nat) : List (Nat × SV) → Prop
  | [] => True
  | (_, .own i k lo q _) :: l => (i = id → k = m ∧ lo + q ≤ n) ∧ lenP id m n l
  | _ :: l => lenP id m n l

theorem lenP_get {id m n : Nat} : ∀ {l : List (Nat × SV)}, lenP id m n l → ∀ t k lo q C, aget t l = some (.own id k lo q C) → k = m ∧ lo + q ≤ n
  | [], _, t, k, lo, q, C, h => by simp [aget] at h
  | (u, x) :: l, hl, t, k, lo, q, C, h => by
    rw [aget_cons] at h
    by_cases e : t = u
    · rw [if_pos e] at h
      cases h
      exact hl.1 rfl
    · rw [if_neg e] at h
      refine lenP_get (l := l) ?_ t k lo q C h
      cases x <;> first | exact hl | exact hl.2

theorem AWP.freezeP {id m C : Nat} {te : TypeId} {fz : Bool} (ys : List (List DV)) (hrow : aget id hp = some (.row te fz m (ys.map (·.map SV.d)) C)) {tm' : List (Nat × SV)} {hp' : List (Nat × Blk)} (hT : frzT id ys tm = some tm') (hdel : adelO id hp = some hp')
    (hlen : lenP id m ys.length tm) (g : AWP cx k ⟨tm', hp', nx⟩) : AWP cx k ⟨tm, hp, nx⟩ := AWP.freeze hrow hT hdel (lenP_get hlen) g

theorem vstepE (e : Env cx P fn lo) (hT : TabOk P T) {all : Array Oper} {d : Nat} {op : Op} {ty : TypeId} {pos : String} {after : Array Edge} (hd : Nat.blt d fn.ntmps = true) {x y : SV} {p : Prop} (he : ev T ⟨tm, hp, nx⟩ op = .val x p) (hp' : p) (hx : x = y) :
    VStep cx all hp nx ⟨some d, op, ty, pos, after, none⟩ tm d y := hx ▸ VStep.ev e hT hd he hp'

/-- A row of int64 that is handed in. -/
theorem ints_of {n : Nat} {t : TypeId} {y : Ty} (ht : aget t T = some y) {q : IntKind} (hy : y.td = .int q) : ∀ (ys : List (List DV)), (∀ el ∈ ys, Tyd T (n + 1) t el) → ∃ l : List Int, ys = l.map (fun v => [.v (.int q v)]) ∧ ∀ z ∈ l, q.min ≤ z ∧ z ≤ q.max
  | [], _ => ⟨[], rfl, by simp⟩
  | el :: ys, h => by
    obtain ⟨l, rfl, h2⟩ := ints_of ht hy ys fun e he => h e (List.mem_cons_of_mem _ he)
    have h1 := h el List.mem_cons_self
    simp only [Tyd, ht, hy] at h1
    obtain ⟨z, rfl, hz⟩ := h1
    refine ⟨z :: l, rfl, fun u hu => ?_⟩
    rw [List.mem_cons] at hu
    obtain rfl | hu := hu
    · exact hz
    · exact h2 u hu

theorem Cv.ownAll {lend : List Nat} {id k n C C' : Nat} {xs : List (List SV)} (ys : List (List DV)) {te : TypeId} {fz : Bool} (h : aget id hp = some (.row te fz k xs C')) (hx : xs = ys.map (·.map SV.d)) (hm : id ∈ lend) (hn : n = ys.length) : Cv hp lend (.own id k 0 n C) (.d (.sl k ys)) := by
  subst hx hn
  have := Cv.own (lo := 0) (n := ys.length) (C := C) h hm (by omega)
  rwa [List.drop_zero, List.take_length] at this

end
end Go.Sy

/-
  SYMBOLIC STATES, over any program, part 22: a region that draws its order, and writes: each order walked.
-/
namespace Go.Sy
open Go.RowKit

section
variable {cx : Cx} {P : Program} {fn : Func} {lo : Nat} {T : Tab} {k : List It} {tm : List (Nat × SV)} {hp : List (Nat × Blk)} {nx : Nat} {all : Array Oper}

def bindsA (e : Edge) : Bool := match e.ground with
  | .textOnly _ => false
  | .gcOnly _ => false
  | _ => true

theorem bindsA_eq (e : Edge) : Region.binds .any e = bindsA e := by
  unfold Region.binds bindsA
  cases e.ground <;> rfl

def allE (l : List Nat) : List Edge → Bool
  | [] => true
  | e :: es => (!bindsA e || memN e.on l) && allE l es

theorem allE_iff {l : List Nat} {es : List Edge} : allE l es = true ↔ ∀ e ∈ es, Region.binds .any e = true → e.on ∈ l := by
  induction es with
  | nil => simp [allE]
  | cons e es ih =>
    simp only [allE, Bool.and_eq_true, ih, List.mem_cons, forall_eq_or_imp, bindsA_eq, Bool.or_eq_true, memN_iff, Bool.not_eq_true']
    constructor
    · rintro ⟨h1, h2⟩
      exact ⟨fun hb => by rcases h1 with h1 | h1; · rw [hb] at h1; cases h1
                          · exact h1, h2⟩
    · rintro ⟨h1, h2⟩
      refine ⟨?_, h2⟩
      cases hb : bindsA e
      · exact .inl rfl
      · exact .inr (h1 hb)

def rdy (l : List Nat) : Nat → List Oper → List Nat
  | _, [] => []
  | i, o :: os => bif !memN i l && allE l o.after.toList then i :: rdy l (Nat.succ i) os else rdy l (Nat.succ i) os

theorem rdy_iff {l : List Nat} : ∀ (os : List Oper) (i j : Nat), j ∈ rdy l i os ↔ ∃ o, i ≤ j ∧ os[j - i]? = some o ∧ j ∉ l ∧ ∀ e ∈ o.after.toList, Region.binds .any e = true → e.on ∈ l
  | [], i, j => by simp [rdy]
  | o :: os, i, j => by
    have ih := rdy_iff (l := l) os (i + 1) j
    have hcons : (∃ o', i ≤ j ∧ (o :: os)[j - i]? = some o' ∧ j ∉ l ∧ ∀ e ∈ o'.after.toList, Region.binds .any e = true → e.on ∈ l) ↔
        (j = i ∧ j ∉ l ∧ ∀ e ∈ o.after.toList, Region.binds .any e = true → e.on ∈ l) ∨ ∃ o', i + 1 ≤ j ∧ os[j - (i + 1)]? = some o' ∧ j ∉ l ∧ ∀ e ∈ o'.after.toList, Region.binds .any e = true → e.on ∈ l := by
      constructor
      · rintro ⟨o', h1, h2, h3⟩
        by_cases e : j = i
        · subst e
          rw [Nat.sub_self] at h2
          cases h2
          exact .inl ⟨rfl, h3⟩
        · refine .inr ⟨o', by omega, ?_, h3⟩
          rw [show j - i = (j - (i + 1)) + 1 by omega, List.getElem?_cons_succ] at h2
          exact h2
      · rintro (⟨rfl, h3⟩ | ⟨o', h1, h2, h3⟩)
        · exact ⟨o, Nat.le_refl _, by simp, h3⟩
        · exact ⟨o', by omega, by rw [show j - i = (j - (i + 1)) + 1 by omega, List.getElem?_cons_succ]; exact h2, h3⟩
    rw [hcons, ← ih]
    rw [show rdy l i (o :: os) = bif !memN i l && allE l o.after.toList then i :: rdy l (i + 1) os else rdy l (i + 1) os from rfl]
    cases hb : (!memN i l && allE l o.after.toList)
    · rw [cond_false]
      constructor
      · exact .inr
      · rintro (⟨rfl, h1, h2⟩ | h)
        · exfalso
          have h3 : memN j l = false := by
            cases hm : memN j l
            · rfl
            · exact absurd (memN_iff.1 hm) h1
          have h4 := allE_iff.2 h2
          rw [h3, h4] at hb
          cases hb
        · exact h
    · rw [cond_true, List.mem_cons]
      simp only [Bool.and_eq_true, Bool.not_eq_true'] at hb
      constructor
      · rintro (rfl | h)
        · refine .inl ⟨rfl, fun hm => ?_, allE_iff.1 hb.2⟩
          rw [memN_iff.2 hm] at hb
          cases hb.1
        · exact .inr h
      · rintro (⟨rfl, _⟩ | h)
        · exact .inl rfl
        · exact .inr h

/-- What is left of such a region, when the operations of l are done. -/
def AWPAny (cx : Cx) (all : Array Oper) (l : List Nat) (fuel : Nat) (k : List It) (s : St) : Prop :=
  ∀ (listed : Array Bool) a w, listed.size = all.size → (∀ i, i < all.size → (listed.getD i true = true ↔ i ∈ l)) → (∀ i ∈ l, i < all.size) → Inv cx s a w → wpAny cx.P .any all (K cx.P cx.R k) fuel listed a w

theorem ready_rdy {l : List Nat} {listed : Array Bool} (hs : listed.size = all.size) (hl : ∀ i, i < all.size → (listed.getD i true = true ↔ i ∈ l)) (hlt : ∀ i ∈ l, i < all.size) (i : Nat) : i ∈ Region.ready .any all listed ↔ i ∈ rdy l 0 all.toList := by
  have hlisted : ∀ i, (listed.getD i false = true ↔ i ∈ l) := fun i => by
    by_cases hi : i < all.size
    · have : listed.getD i false = listed.getD i true := by
        have : i < listed.size := by omega
        simp [this]
      rw [this]
      exact hl i hi
    · constructor
      · intro h
        have : ¬ i < listed.size := by omega
        simp [this] at h
      · intro h; exact absurd (hlt i h) hi
  rw [rdy_iff]
  unfold Region.ready
  rw [List.mem_filter]
  simp only [List.mem_range, Bool.and_eq_true, Nat.zero_le, Nat.sub_zero, true_and, Array.getElem?_toList]
  constructor
  · rintro ⟨h1, h2, h3⟩
    obtain ⟨o, ho⟩ : ∃ o, all[i]? = some o := ⟨all[i], by simp [h1]⟩
    refine ⟨o, ho, fun hm => ?_, fun e he hb => ?_⟩
    · rw [(hl i h1).2 hm] at h2; cases h2
    · rw [ho] at h3
      simp only [Option.map_some, Option.getD_some] at h3
      rw [Array.all_eq_true_iff_forall_mem] at h3
      have := h3 e (Array.mem_toList_iff.1 he)
      exact (hlisted _).1 (by simpa [hb] using this)
  · rintro ⟨o, ho, h2, h3⟩
    have h1 : i < all.size := (Array.getElem?_eq_some_iff.1 ho).1
    refine ⟨h1, ?_, ?_⟩
    · cases hg : listed.getD i true with
      | false => rfl
      | true => exact absurd ((hl i h1).1 hg) h2
    · rw [ho]
      simp only [Option.map_some, Option.getD_some]
      rw [Array.all_eq_true_iff_forall_mem]
      intro e he
      cases hb : Region.binds .any e with
      | false => rfl
      | true => simpa [hb] using (hlisted _).2 (h3 e (Array.mem_toList_iff.2 he) hb)

def StepAll (cx : Cx) (all : Array Oper) (l : List Nat) (fuel : Nat) (k : List It) (s : St) : List Nat → Prop
  | [] => True
  | i :: rs => (∃ o, all[i]? = some o ∧ ∀ Φ : Act → World → Prop, (∀ s', AWPAny cx all (i :: l) fuel k s' → AWP cx (.inv Φ :: k) s') → AWP cx (.ops all [o] :: .inv Φ :: k) s) ∧ StepAll cx all l fuel k s rs

theorem StepAll.get {l : List Nat} {fuel : Nat} {s : St} : ∀ {rs : List Nat}, StepAll cx all l fuel k s rs → ∀ i ∈ rs, ∃ o, all[i]? = some o ∧ ∀ Φ : Act → World → Prop, (∀ s', AWPAny cx all (i :: l) fuel k s' → AWP cx (.inv Φ :: k) s') → AWP cx (.ops all [o] :: .inv Φ :: k) s
  | _ :: _, h, i, hi => by
    rcases List.mem_cons.1 hi with rfl | hi
    · exact h.1
    · exact StepAll.get h.2 i hi

theorem AWPAny.done {l : List Nat} {fuel : Nat} {s : St} (hr : rdy l 0 all.toList = []) (g : AWP cx k s) : AWPAny cx all l fuel k s := by
  intro listed a w hs hl hlt hi
  have hno : ∀ i, i ∉ Region.ready .any all listed := fun i h => by
    rw [ready_rdy hs hl hlt, hr] at h
    cases h
  cases fuel with
  | zero => exact ⟨List.eq_nil_iff_forall_not_mem.2 hno, g a w hi⟩
  | succ fuel => exact ⟨fun _ => g a w hi, fun i h => absurd h (hno i)⟩

theorem AWPAny.step {l : List Nat} {fuel : Nat} {s : St} {rs : List Nat} (hr : rdy l 0 all.toList = rs) (hne : rs ≠ []) (h : StepAll cx all l fuel k s rs) : AWPAny cx all l (fuel + 1) k s := by
  intro listed a w hs hl hlt hi
  refine ⟨fun h0 => ?_, fun i hi' => ?_⟩
  · exfalso
    obtain ⟨i, rs', rfl⟩ := List.exists_cons_of_ne_nil hne
    have := (ready_rdy hs hl hlt i).2 (by rw [hr]; exact List.mem_cons_self)
    rw [h0] at this
    cases this
  · have hi2 := (ready_rdy hs hl hlt i).1 hi'
    obtain ⟨o', _, ho', hnl, _⟩ := (rdy_iff _ _ _).1 hi2
    rw [Nat.sub_zero, Array.getElem?_toList] at ho'
    have h1 : i < all.size := (Array.getElem?_eq_some_iff.1 ho').1
    rw [hr] at hi2
    obtain ⟨o, ho, hstep⟩ := h.get i hi2
    let Φ : Act → World → Prop := wpAny cx.P .any all (K cx.P cx.R k) fuel (listed.setIfInBounds i true)
    have hstep := hstep Φ (fun s' hs' a' w' hi2 => by
      show Φ a' w'
      refine hs' (listed.setIfInBounds i true) a' w' (by simpa using hs) (fun q hq => ?_) (fun q hq => ?_) hi2
      · by_cases e : q = i
        · subst e; simp [hs, hq]
        · have e' : ¬ i = q := fun h => e h.symm
          have := hl q hq
          simp only [Array.getD_eq_getD_getElem?] at this ⊢
          rw [Array.getElem?_setIfInBounds_ne e', this]
          simp [e]
      · rcases List.mem_cons.1 hq with rfl | hq
        · exact h1
        · exact hlt q hq)
    have hw := hstep a w hi
    have hw : wpList cx.P all (K cx.P cx.R (.inv Φ :: k)) [o] a w := hw
    unfold wpOp
    simp only [ho]
    unfold wpList at hw
    by_cases hwant : Region.wanted o (yielded all a.tmps) = true
    · rw [if_pos hwant] at hw ⊢
      rcases hw with hw | ⟨ha, hlo⟩
      · exact .inl (upon_congrQ (Q := K cx.P cx.R (.inv Φ :: k)) (fun _ _ _ h => h) (fun _ _ h => h) hw)
      · obtain ⟨a0, w0, hlo⟩ := hlo
        exact .inr ⟨ha, a0, w0, hlo⟩
    · rw [if_neg hwant] at hw ⊢
      exact hw

/-- A REGION THAT DRAWS ITS ORDER: begin. -/
theorem AWP.any (e : Env cx P fn lo) (hm : P.follows .mixedOrders = true) {id : Nat} {s : St} (n : Nat) (hn : all.size = n) (h : AWPAny cx all [] n k s) : AWP cx (.code (.region id all true) :: k) s := by
  obtain ⟨rfl, rfl, _⟩ := e
  subst hn
  intro a w hi
  refine wp_region_any hm ?_
  refine h (Array.replicate all.size false) a _ (by simp) (fun i hi => by simp [hi]) (by simp) ?_
  obtain ⟨μ, ok, hi⟩ := hi.one
  exact hi.drew.inv

/-- The same: whatever the order, it ends in a state in which 'c' is known. -/
theorem AWP.anyC (e : Env cx P fn lo) (hm : P.follows .mixedOrders = true) (c : St) {id : Nat} {s : St} (n : Nat) (hn : all.size = n) (h : ∀ kk, AWP cx kk c → AWPAny cx all [] n kk s) (g : AWP cx k c) : AWP cx (.code (.region id all true) :: k) s :=
  AWP.any e hm n hn (h k g)

theorem AWPAny.go {l : List Nat} {fuel : Nat} {s : St} {i : Nat} {rs : List Nat} (hr : rdy l 0 all.toList = i :: rs) (h : StepAll cx all l fuel k s (i :: rs)) : AWPAny cx all l (fuel + 1) k s := AWPAny.step hr (by simp) h

def allN (l : List Nat) : Nat → Bool
  | 0 => true
  | n + 1 => memN n l && allN l n

theorem allN_get {l : List Nat} : ∀ {n : Nat}, allN l n = true → ∀ j, j < n → j ∈ l
  | n + 1, h, j, hj => by
    simp only [allN, Bool.and_eq_true] at h
    by_cases e : j = n
    · rw [e]; exact memN_iff.1 h.1
    · exact allN_get h.2 j (by omega)

def edgesOf : List Edge → List Nat
  | [] => []
  | e :: es => bif bindsA e then e.on :: edgesOf es else edgesOf es

theorem edgesOf_mem {es : List Edge} {j : Nat} (h : j ∈ edgesOf es) : ∃ e ∈ es, Region.binds .any e = true ∧ e.on = j := by
  induction es with
  | nil => cases h
  | cons e es ih =>
    unfold edgesOf at h
    cases hb : bindsA e
    · rw [hb, cond_false] at h
      obtain ⟨e', h1, h2⟩ := ih h
      exact ⟨e', List.mem_cons_of_mem _ h1, h2⟩
    · rw [hb, cond_true, List.mem_cons] at h
      rcases h with rfl | h
      · exact ⟨e, List.mem_cons_self, by rw [bindsA_eq]; exact hb, rfl⟩
      · obtain ⟨e', h1, h2⟩ := ih h
        exact ⟨e', List.mem_cons_of_mem _ h1, h2⟩

/-- The first n1 operations do not hang on one another but as the text has it; all others wait for all of them. -/
def waitOk (n1 : Nat) : List Oper → Bool
  | [] => true
  | o :: os => allN (edgesOf o.after.toList) n1 && waitOk n1 os

theorem waitOk_get {n1 : Nat} {l : List Oper} (h : waitOk n1 l = true) {o : Oper} (ho : o ∈ l) (j : Nat) (hj : j < n1) : ∃ e ∈ o.after.toList, Region.binds .any e = true ∧ e.on = j := by
  induction l with
  | nil => cases ho
  | cons x l ih =>
    simp only [waitOk, Bool.and_eq_true] at h
    rcases List.mem_cons.1 ho with rfl | ho
    · exact edgesOf_mem (allN_get h.1 j hj)
    · exact ih h.2 ho

def drawOkP (all : Array Oper) (n1 : Nat) : Bool :=
  (all.toList.take n1).zipIdx.all fun (o, j) => o.dst.isSome && (((all.toList.take n1).zipIdx.all fun (o', i) => i == j || o'.dst != o.dst) &&
    (((o.looksAt all).all fun t => (all.toList.take n1).zipIdx.all fun (o', i) => o'.dst != some t || (decide (i < j) && o.after.any fun e => e.on == i && Region.binds .any e)) && o.after.all fun e => !Region.binds .any e || decide (e.on < j)))

structure DrawOkP (all : Array Oper) (n1 : Nat) : Prop where
  dst : ∀ (j : Nat) (o : Oper), j < n1 → all[j]? = some o → o.dst.isSome = true
  one : ∀ (i j : Nat) (o o' : Oper), i < n1 → j < n1 → all[i]? = some o' → all[j]? = some o → o'.dst = o.dst → i = j
  dep : ∀ (j : Nat) (o : Oper) (t : Nat), j < n1 → all[j]? = some o → t ∈ o.looksAt all → ∀ (i : Nat) (o' : Oper), i < n1 → all[i]? = some o' → o'.dst = some t → i < j ∧ ∃ e ∈ o.after, e.on = i ∧ Region.binds .any e = true
  acyc : ∀ (j : Nat) (o : Oper), j < n1 → all[j]? = some o → ∀ e ∈ o.after, Region.binds .any e = true → e.on < j

theorem drawOkP_ok {all : Array Oper} {n1 : Nat} (h : drawOkP all n1 = true) : DrawOkP all n1 := by
  unfold drawOkP at h
  rw [List.all_eq_true] at h
  have mem : ∀ j o, j < n1 → all[j]? = some o → (o, j) ∈ (all.toList.take n1).zipIdx := fun j o hj ho => by
    rw [List.mk_mem_zipIdx_iff_getElem?, List.getElem?_take_of_lt hj, Array.getElem?_toList]
    exact ho
  have h' : ∀ j o, j < n1 → all[j]? = some o → _ := fun j o hj ho => h (o, j) (mem j o hj ho)
  simp only [Bool.and_eq_true] at h'
  refine ⟨fun j o hj ho => (h' j o hj ho).1, fun i j o o' hi1 hj1 hi hj e => ?_, fun j o t hj1 hj ht i o' hi1 hi e => ?_, fun j o hj1 hj e he hb => ?_⟩
  · have := (h' j o hj1 hj).2.1
    rw [List.all_eq_true] at this
    have := this (o', i) (mem i o' hi1 hi)
    simpa [e] using this
  · have := (h' j o hj1 hj).2.2.1
    rw [List.all_eq_true] at this
    have := this t ht
    rw [List.all_eq_true] at this
    have := this (o', i) (mem i o' hi1 hi)
    simp only [e, bne_self_eq_false, Bool.false_or, Bool.and_eq_true, decide_eq_true_eq, Array.any_eq_true] at this
    obtain ⟨h1, q, h2, h3⟩ := this
    exact ⟨h1, o.after[q], by simp, by simpa using h3.1, h3.2⟩
  · have := (h' j o hj1 hj).2.2.2
    rw [Array.all_eq_true_iff_forall_mem] at this
    have := this e he
    simpa [hb] using this

def downN : Nat → List Nat
  | 0 => []
  | n + 1 => n :: downN n

theorem downN_mem {n i : Nat} : i ∈ downN n ↔ i < n := by
  induction n with
  | zero => simp [downN]
  | succ n ih => simp only [downN, List.mem_cons, ih]; omega

theorem AWP.draw2 (e : Env cx P fn lo) (hm : P.follows .mixedOrders = true) {id : Nat} {all : Array Oper} {done : List (Nat × SV)} {n : Nat} (hchk : drawOkP all n = true) (hle : n ≤ all.size) (hwait : ∀ i o, n ≤ i → all[i]? = some o → ∀ j, j < n → ∃ e ∈ o.after.toList, Region.binds .any e = true ∧ e.on = j)
    (hg : Good cx all hp nx tm n done) (g : AWPAny cx all (downN n) (all.size - n) k ⟨done ++ tm, hp, nx⟩) :
    AWP cx (.code (.region id all true) :: k) ⟨tm, hp, nx⟩ := by
  obtain ⟨rfl, rfl, _⟩ := e
  have ck := drawOkP_ok hchk
  obtain ⟨hlen, hget⟩ := hg.get
  -- what each operation has in its slot
  let D : Nat → Nat := fun i => (done.getD (n - 1 - i) (0, undefS)).1
  let X : Nat → SV := fun i => (done.getD (n - 1 - i) (0, undefS)).2
  have hall : ∀ i, i < n → ∃ o, all[i]? = some o := fun i hi => ⟨all[i]'(by omega), by simp [show i < all.size by omega]⟩
  have hsuf : ∀ i, i ≤ n → done.drop (n - i) = (List.range i).reverse.map fun j => (D j, X j) := by
    intro i hi
    apply List.ext_getElem?
    intro q
    rw [List.getElem?_drop, List.getElem?_map]
    by_cases hq : q < i
    · rw [List.getElem?_reverse (by simpa using hq)]
      simp only [List.length_range]
      rw [List.getElem?_range (by omega)]
      have e1 : n - i + q = n - 1 - (i - 1 - q) := by omega
      have hlt : n - 1 - (i - 1 - q) < done.length := by omega
      simp only [Option.map_some, D, X, List.getD_eq_getElem?_getD]
      rw [e1, List.getElem?_eq_getElem hlt]
      rfl
    · rw [List.getElem?_eq_none (by omega), List.getElem?_eq_none (by simp; omega)]
      rfl
  have hop : ∀ i o, i < n → all[i]? = some o → o.dst = some (D i) ∧ VStep cx all hp nx o (((List.range i).reverse.map fun j => (D j, X j)) ++ tm) (D i) (X i) := by
    intro i o hi ho
    obtain ⟨d, x, tmi, h1, h2, pre, suf, h3, h4, h5⟩ := hget i o hi ho
    have hpre : pre.length = n - 1 - i := by
      have := congrArg List.length h3
      simp at this
      omega
    have hat : done[n - 1 - i]? = some (d, x) := by
      rw [h3, List.getElem?_append_right (by omega), hpre]
      simp
    have hDX : D i = d ∧ X i = x := by
      simp only [D, X, List.getD_eq_getElem?_getD, hat, Option.getD_some, and_self]
    have hs2 : suf = (List.range i).reverse.map fun j => (D j, X j) := by
      rw [← hsuf i (by omega), h3]
      have e1 : n - i = pre.length + 1 := by omega
      rw [e1, List.drop_append]
      simp
    rw [hDX.1, hDX.2, ← hs2, ← h5]
    exact ⟨h1, h2⟩
  have hD : ∀ a b, a < n → b < n → D a = D b → a = b := by
    intro a b ha hb hab
    obtain ⟨oa, hoa⟩ := hall a ha
    obtain ⟨ob, hob⟩ := hall b hb
    exact ck.one a b ob oa ha hb hoa hob (by rw [(hop a oa ha hoa).1, (hop b ob hb hob).1, hab])
  have hdone : done = (List.range n).reverse.map fun j => (D j, X j) := by
    have := hsuf n (Nat.le_refl _)
    rwa [Nat.sub_self, List.drop_zero] at this
  -- any order
  have key : ∀ (m : Nat) (listed : Array Bool) (l : List Nat) (a : Act) (w : World), listed.size = all.size → (∀ i, i < all.size → (listed.getD i true = true ↔ i ∈ l)) → l.Nodup → (∀ i ∈ l, i < n) → l.length + m = n →
      Inv cx ⟨(l.map fun j => (D j, X j)) ++ tm, hp, nx⟩ a w → wpAny cx.P .any all (K cx.P cx.R k) (m + (all.size - n)) listed a w := by
    intro m
    induction m with
    | zero =>
      intro listed l a w hs hl hnd hln hf hi
      have hmem : ∀ i, i < n → i ∈ l := by
        intro i hi
        refine Classical.byContradiction fun hni => ?_
        have := nodup_len (i :: l) (List.range n) (List.nodup_cons.2 ⟨hni, hnd⟩) fun j hj => by
          rcases List.mem_cons.1 hj with rfl | hj
          · simpa using hi
          · simpa using hln j hj
        simp at this
        omega
      rw [Nat.zero_add]
      refine g listed a w hs (fun i hi => (hl i hi).trans ⟨fun h => downN_mem.2 (hln i h), fun h => hmem i (downN_mem.1 h)⟩) (fun i hi => Nat.lt_of_lt_of_le (downN_mem.1 hi) hle) (Inv.same (fun t => ?_) hi)
      rw [aget_append, aget_append, hdone]
      by_cases ht : ∃ j, j < n ∧ D j = t
      · obtain ⟨j, hj, rfl⟩ := ht
        rw [pairs_there hD l hln j (hmem j hj), pairs_there hD (List.range n).reverse (fun i hi => by simpa using hi) j (by simpa using hj)]
      · rw [pairs_none l (fun j hj e => ht ⟨j, hln j hj, e⟩), pairs_none (List.range n).reverse (fun j hj e => ht ⟨j, by simpa using hj, e⟩)]
    | succ m ih =>
      intro listed l a w hs hl hnd hln hf hi
      rw [show m + 1 + (all.size - n) = (m + (all.size - n)) + 1 by omega]
      have hready := fun i => ready_rdy (all := all) hs hl (fun i hi => Nat.lt_of_lt_of_le (hln i hi) hle) i
      refine ⟨fun h0 => ?_, fun i hi' => ?_⟩
      · -- something is ready
        exfalso
        have hex : ∃ i, i < n ∧ i ∉ l := by
          refine Classical.byContradiction fun hno => ?_
          have hsub : List.range n ⊆ l := fun j hj => Classical.byContradiction fun hjl => hno ⟨j, by simpa using hj, hjl⟩
          have := nodup_len _ _ List.nodup_range hsub
          simp at this
          omega
        obtain ⟨i, ⟨hi1, hi2⟩, hmin⟩ := exists_min (fun i => i < n ∧ i ∉ l) _ hex.choose_spec
        obtain ⟨o, ho⟩ := hall i hi1
        have : i ∈ Region.ready .any all listed := (hready i).2 ((rdy_iff _ _ _).2 ⟨o, Nat.zero_le _, by rw [Nat.sub_zero, Array.getElem?_toList]; exact ho, hi2, fun e he hb => by
          have hlt := ck.acyc i o hi1 ho e (Array.mem_toList_iff.1 he) hb
          refine Classical.byContradiction fun hnl => ?_
          have := hmin e.on ⟨by omega, hnl⟩
          omega⟩)
        rw [h0] at this
        cases this
      · obtain ⟨o, _, ho, h2, h3⟩ := (rdy_iff _ _ _).1 ((hready i).1 hi')
        rw [Nat.sub_zero, Array.getElem?_toList] at ho
        have hisz : i < all.size := (Array.getElem?_eq_some_iff.1 ho).1
        have h1 : i < n := by
          refine Classical.byContradiction fun hge => ?_
          have hsub : List.range n ⊆ l := fun j hj => by
            obtain ⟨e, he, hb, hon⟩ := hwait i o (by omega) ho j (by simpa using hj)
            rw [← hon]
            exact h3 e he hb
          have := nodup_len _ _ List.nodup_range hsub
          simp at this
          omega
        obtain ⟨hdst, hv⟩ := hop i o h1 ho
        have hagree : ∀ t ∈ o.looksAt all, aget t ((l.map fun j => (D j, X j)) ++ tm) = aget t (((List.range i).reverse.map fun j => (D j, X j)) ++ tm) := by
          intro t ht
          rw [aget_append, aget_append]
          by_cases hex : ∃ j, j < n ∧ D j = t
          · obtain ⟨j, hj, rfl⟩ := hex
            obtain ⟨oj, hoj⟩ := hall j hj
            obtain ⟨hlt, e, he1, he2, he3⟩ := ck.dep i o _ h1 ho ht j oj hj hoj (hop j oj hj hoj).1
            have hjl : j ∈ l := by
              have := h3 e (Array.mem_toList_iff.2 he1) he3
              rwa [he2] at this
            rw [pairs_there hD l hln j hjl, pairs_there hD (List.range i).reverse (fun q hq => Nat.lt_trans (by simpa using hq) h1) j (by simpa using hlt)]
          · rw [pairs_none l (fun j hj e => hex ⟨j, hln j hj, e⟩), pairs_none (List.range i).reverse (fun j hj e => hex ⟨j, Nat.lt_trans (by simpa using hj) h1, e⟩)]
        let Φ : Act → World → Prop := wpAny cx.P .any all (K cx.P cx.R k) (m + (all.size - n)) (listed.setIfInBounds i true)
        have hstep := hv ((l.map fun j => (D j, X j)) ++ tm) (.inv Φ :: k) hagree (fun a' w' hi2 => by
          show Φ a' w'
          refine ih (listed.setIfInBounds i true) (i :: l) a' w' (by simpa using hs) (fun q hq => ?_) (List.nodup_cons.2 ⟨h2, hnd⟩) (fun q hq => ?_) (by simp; omega) hi2
          · by_cases e : q = i
            · subst e; simp [hs, hq]
            · have e' : ¬ i = q := fun h => e h.symm
              have := hl q hq
              simp only [Array.getD_eq_getD_getElem?] at this ⊢
              rw [Array.getElem?_setIfInBounds_ne e', this]
              simp [e]
          · rcases List.mem_cons.1 hq with rfl | hq
            · exact h1
            · exact hln q hq)
        have hw := hstep a w hi
        have hw : wpList cx.P all (K cx.P cx.R (.inv Φ :: k)) [o] a w := hw
        unfold wpOp
        simp only [ho]
        unfold wpList at hw
        by_cases hwant : Region.wanted o (yielded all a.tmps) = true
        · rw [if_pos hwant] at hw ⊢
          rcases hw with hw | ⟨ha, hlo⟩
          · exact .inl (upon_congrQ (Q := K cx.P cx.R (.inv Φ :: k)) (fun _ _ _ h => h) (fun _ _ h => h) hw)
          · obtain ⟨a0, w0, hlo⟩ := hlo
            exact .inr ⟨ha, a0, w0, hlo⟩
        · rw [if_neg hwant] at hw ⊢
          exact hw
  intro a w hi
  refine wp_region_any hm ?_
  have := key n (Array.replicate all.size false) [] a { w with drawn := w.drawn + 1 } (by simp) (fun i hi => by simp [hi]) List.nodup_nil (by simp) (by simp) (by
    obtain ⟨μ, ok, hi⟩ := hi.one
    exact hi.drew.inv)
  rwa [show n + (all.size - n) = all.size by omega] at this

theorem Dr.fin2 (e : Env cx P fn lo) (hm : P.follows .mixedOrders = true) (c : St) {id i : Nat} {rest : List Oper} {done : List (Nat × SV)} (hchk : drawOkP all i = true) (hle : Nat.ble i all.size = true) (hwait : waitOk i rest = true)
    (h : ∀ kk, AWP cx kk c → AWPAny cx all (downN i) (all.size - i) kk ⟨done ++ tm, hp, nx⟩) (g : AWP cx k c) : Dr cx all id k hp nx tm i rest done := by
  rintro ⟨h1, h2⟩
  refine AWP.draw2 e hm hchk (Nat.le_of_ble_eq_true hle) (fun q o hq ho j hj => ?_) h1 (h k g)
  refine waitOk_get hwait (o := o) ?_ j hj
  rw [← h2]
  refine List.mem_of_getElem? (i := q - i) ?_
  rw [List.getElem?_drop, show i + (q - i) = q by omega, Array.getElem?_toList]
  exact ho

/-! ### The same, the reading operations told by their numbers -/
inductive GoodX (cx : Cx) (all : Array Oper) (hp : List (Nat × Blk)) (nx : Nat) (tm : List (Nat × SV)) : List Nat → List (Nat × SV) → Prop where
  | nil : GoodX cx all hp nx tm [] []
  | step {ix : List Nat} {q : Nat} {done : List (Nat × SV)} {o : Oper} {d : Nat} {x : SV} (h : GoodX cx all hp nx tm ix done) (ho : all[q]? = some o) (hd : o.dst = some d) (hv : VStep cx all hp nx o (done ++ tm) d x) : GoodX cx all hp nx tm (ix ++ [q]) ((d, x) :: done)

theorem GoodX.get {all : Array Oper} {ix : List Nat} {done : List (Nat × SV)} (h : GoodX cx all hp nx tm ix done) : done.length = ix.length ∧ ∀ p o, p < ix.length → all[ix.getD p 0]? = some o →
    ∃ d x tmi, o.dst = some d ∧ VStep cx all hp nx o tmi d x ∧ (∃ pre suf, done = pre ++ (d, x) :: suf ∧ suf.length = p ∧ tmi = suf ++ tm) := by
  induction h with
  | nil => exact ⟨rfl, fun p o hp => by simp at hp⟩
  | step h ho hd hv ih =>
    rename_i ix0 q0 done o0 d0 x0
    refine ⟨by simp [ih.1], fun p o hp hoi => ?_⟩
    simp only [List.length_append, List.length_cons, List.length_nil] at hp
    by_cases e : p = ix0.length
    · subst e
      rw [List.getD_eq_getElem?_getD, List.getElem?_append_right (Nat.le_refl _), Nat.sub_self] at hoi
      have hoi : all[q0]? = some o := hoi
      rw [ho] at hoi
      cases hoi
      exact ⟨d0, x0, done ++ tm, hd, hv, [], done, rfl, ih.1, rfl⟩
    · have hlt : p < ix0.length := by omega
      rw [List.getD_eq_getElem?_getD, List.getElem?_append_left hlt, ← List.getD_eq_getElem?_getD] at hoi
      obtain ⟨d, x, tmi, h1, h2, pre, suf, h3, h4, h5⟩ := ih.2 p o hlt hoi
      exact ⟨d, x, tmi, h1, h2, (d0, x0) :: pre, suf, by rw [h3]; rfl, h4, h5⟩

def opsAt (all : List Oper) : List Nat → List (Option Oper)
  | [] => []
  | q :: ix => all[q]? :: opsAt all ix

theorem opsAt_get {all : List Oper} : ∀ {ix : List Nat} {p : Nat}, p < ix.length → (opsAt all ix)[p]? = some (all[ix.getD p 0]?)
  | q :: ix, 0, _ => rfl
  | q :: ix, p + 1, h => by
    have := opsAt_get (all := all) (ix := ix) (p := p) (by simpa using h)
    simpa [opsAt] using this

def drawOkX (all : Array Oper) (ix : List Nat) : Bool :=
  Nat.ble ix.length all.size && (nodupN ix && ((ix.all fun q => Nat.blt q all.size) && (opsAt all.toList ix).zipIdx.all fun (o?, j) => match o? with
    | none => false
    | some o => o.dst.isSome && (((opsAt all.toList ix).zipIdx.all fun (o'?, i) => match o'? with | none => false | some o' => i == j || o'.dst != o.dst) &&
      (((o.looksAt all).all fun t => (opsAt all.toList ix).zipIdx.all fun (o'?, i) => match o'? with | none => false | some o' => o'.dst != some t || (decide (i < j) && o.after.any fun e => e.on == ix.getD i 0 && Region.binds .any e)) && o.after.all fun e => !Region.binds .any e || memN e.on (ix.take j)))))

structure DrawOkX (all : Array Oper) (ix : List Nat) : Prop where
  len : ix.length ≤ all.size
  inj : ∀ i j, i < ix.length → j < ix.length → ix.getD i 0 = ix.getD j 0 → i = j
  lt : ∀ i, i < ix.length → ix.getD i 0 < all.size
  one : ∀ (i j : Nat) (o o' : Oper), i < ix.length → j < ix.length → all[ix.getD i 0]? = some o' → all[ix.getD j 0]? = some o → o'.dst = o.dst → i = j
  dep : ∀ (j : Nat) (o : Oper) (t : Nat), j < ix.length → all[ix.getD j 0]? = some o → t ∈ o.looksAt all → ∀ (i : Nat) (o' : Oper), i < ix.length → all[ix.getD i 0]? = some o' → o'.dst = some t → i < j ∧ ∃ e ∈ o.after, e.on = ix.getD i 0 ∧ Region.binds .any e = true
  acyc : ∀ (j : Nat) (o : Oper), j < ix.length → all[ix.getD j 0]? = some o → ∀ e ∈ o.after, Region.binds .any e = true → ∃ i, i < j ∧ ix.getD i 0 = e.on

theorem nodupN_inj : ∀ {l : List Nat}, nodupN l = true → ∀ i j, i < l.length → j < l.length → l.getD i 0 = l.getD j 0 → i = j
  | x :: l, h, i, j, hi, hj, e => by
    simp only [nodupN, Bool.and_eq_true, Bool.not_eq_true'] at h
    have no : ∀ q, q < l.length → x ≠ l.getD q 0 := fun q hq hn => by
      have : x ∈ l := by rw [hn, List.getD_eq_getElem?_getD, List.getElem?_eq_getElem hq]; exact List.getElem_mem hq
      have := memN_iff.2 this
      rw [h.1] at this
      cases this
    cases i with
    | zero => cases j with
      | zero => rfl
      | succ j => exact absurd e (no j (by simpa using hj))
    | succ i => cases j with
      | zero => exact absurd e.symm (no i (by simpa using hi))
      | succ j => rw [nodupN_inj h.2 i j (by simpa using hi) (by simpa using hj) e]

theorem drawOkX_ok {all : Array Oper} {ix : List Nat} (h : drawOkX all ix = true) : DrawOkX all ix := by
  unfold drawOkX at h
  simp only [Bool.and_eq_true] at h
  obtain ⟨hlen, hnd, hlt, h⟩ := h
  rw [List.all_eq_true] at h
  have mem : ∀ j o, j < ix.length → all[ix.getD j 0]? = some o → (some o, j) ∈ (opsAt all.toList ix).zipIdx := fun j o hj ho => by
    rw [List.mk_mem_zipIdx_iff_getElem?, opsAt_get hj, Array.getElem?_toList, ho]
  have h' : ∀ j o, j < ix.length → all[ix.getD j 0]? = some o → _ := fun j o hj ho => h (some o, j) (mem j o hj ho)
  simp only [Bool.and_eq_true] at h'
  refine ⟨Nat.le_of_ble_eq_true hlen, nodupN_inj hnd, fun i hi => ?_, fun i j o o' hi1 hj1 hi hj e => ?_, fun j o t hj1 hj ht i o' hi1 hi e => ?_, fun j o hj1 hj e he hb => ?_⟩
  · rw [List.all_eq_true] at hlt
    rw [List.getD_eq_getElem?_getD, List.getElem?_eq_getElem hi]
    exact Nat.le_of_ble_eq_true (hlt _ (List.getElem_mem hi))
  · have := (h' j o hj1 hj).2.1
    rw [List.all_eq_true] at this
    have := this (some o', i) (mem i o' hi1 hi)
    simpa [e] using this
  · have := (h' j o hj1 hj).2.2.1
    rw [List.all_eq_true] at this
    have := this t ht
    rw [List.all_eq_true] at this
    have := this (some o', i) (mem i o' hi1 hi)
    simp only [e, bne_self_eq_false, Bool.false_or, Bool.and_eq_true, decide_eq_true_eq, Array.any_eq_true] at this
    obtain ⟨h1, q, h2, h3⟩ := this
    exact ⟨h1, o.after[q], by simp, by simpa using h3.1, h3.2⟩
  · have := (h' j o hj1 hj).2.2.2
    rw [Array.all_eq_true_iff_forall_mem] at this
    have := this e he
    rw [hb, Bool.not_true, Bool.false_or, memN_iff] at this
    obtain ⟨i, hi, hi2⟩ := List.getElem_of_mem this
    rw [List.length_take] at hi
    refine ⟨i, by omega, ?_⟩
    rw [List.getElem_take] at hi2
    rw [List.getD_eq_getElem?_getD, List.getElem?_eq_getElem (by omega), hi2]
    rfl

theorem AWP.drawX (e : Env cx P fn lo) (hm : P.follows .mixedOrders = true) {id : Nat} {all : Array Oper} {done : List (Nat × SV)} {ix : List Nat} (hchk : drawOkX all ix = true) (hwait : ∀ i o, i ∉ ix → all[i]? = some o → ∀ j, j < ix.length → ∃ e ∈ o.after.toList, Region.binds .any e = true ∧ e.on = ix.getD j 0)
    (hg : GoodX cx all hp nx tm ix done) (g : AWPAny cx all ix (all.size - ix.length) k ⟨done ++ tm, hp, nx⟩) :
    AWP cx (.code (.region id all true) :: k) ⟨tm, hp, nx⟩ := by
  obtain ⟨rfl, rfl, _⟩ := e
  have ck := drawOkX_ok hchk
  obtain ⟨hlen, hget⟩ := hg.get
  obtain ⟨n, hn⟩ : ∃ n, n = ix.length := ⟨_, rfl⟩
  rw [← hn] at hlen hget
  have hle : n ≤ all.size := hn ▸ ck.len
  let σ : Nat → Nat := fun p => ix.getD p 0
  have hσ : ∀ i j, i < n → j < n → σ i = σ j → i = j := fun i j hi hj => ck.inj i j (hn ▸ hi) (hn ▸ hj)
  -- what each operation has in its slot
  let D : Nat → Nat := fun i => (done.getD (n - 1 - i) (0, undefS)).1
  let X : Nat → SV := fun i => (done.getD (n - 1 - i) (0, undefS)).2
  have hall : ∀ i, i < n → ∃ o, all[σ i]? = some o := fun i hi => ⟨all[σ i]'(ck.lt i (hn ▸ hi)), Array.getElem?_eq_getElem (ck.lt i (hn ▸ hi))⟩
  have hsuf : ∀ i, i ≤ n → done.drop (n - i) = (List.range i).reverse.map fun j => (D j, X j) := by
    intro i hi
    apply List.ext_getElem?
    intro q
    rw [List.getElem?_drop, List.getElem?_map]
    by_cases hq : q < i
    · rw [List.getElem?_reverse (by simpa using hq)]
      simp only [List.length_range]
      rw [List.getElem?_range (by omega)]
      have e1 : n - i + q = n - 1 - (i - 1 - q) := by omega
      have hlt : n - 1 - (i - 1 - q) < done.length := by omega
      simp only [Option.map_some, D, X, List.getD_eq_getElem?_getD]
      rw [e1, List.getElem?_eq_getElem hlt]
      rfl
    · rw [List.getElem?_eq_none (by omega), List.getElem?_eq_none (by simp; omega)]
      rfl
  have hop : ∀ i o, i < n → all[σ i]? = some o → o.dst = some (D i) ∧ VStep cx all hp nx o (((List.range i).reverse.map fun j => (D j, X j)) ++ tm) (D i) (X i) := by
    intro i o hi ho
    obtain ⟨d, x, tmi, h1, h2, pre, suf, h3, h4, h5⟩ := hget i o hi ho
    have hpre : pre.length = n - 1 - i := by
      have := congrArg List.length h3
      simp at this
      omega
    have hat : done[n - 1 - i]? = some (d, x) := by
      rw [h3, List.getElem?_append_right (by omega), hpre]
      simp
    have hDX : D i = d ∧ X i = x := by
      simp only [D, X, List.getD_eq_getElem?_getD, hat, Option.getD_some, and_self]
    have hs2 : suf = (List.range i).reverse.map fun j => (D j, X j) := by
      rw [← hsuf i (by omega), h3]
      have e1 : n - i = pre.length + 1 := by omega
      rw [e1, List.drop_append]
      simp
    rw [hDX.1, hDX.2, ← hs2, ← h5]
    exact ⟨h1, h2⟩
  have hD : ∀ a b, a < n → b < n → D a = D b → a = b := by
    intro a b ha hb hab
    obtain ⟨oa, hoa⟩ := hall a ha
    obtain ⟨ob, hob⟩ := hall b hb
    exact ck.one a b ob oa (hn ▸ ha) (hn ▸ hb) hoa hob (by rw [(hop a oa ha hoa).1, (hop b ob hb hob).1, hab])
  have hdone : done = (List.range n).reverse.map fun j => (D j, X j) := by
    have := hsuf n (Nat.le_refl _)
    rwa [Nat.sub_self, List.drop_zero] at this
  -- any order
  have key : ∀ (m : Nat) (listed : Array Bool) (l : List Nat) (a : Act) (w : World), listed.size = all.size → (∀ i, i < all.size → (listed.getD i true = true ↔ i ∈ l.map σ)) → l.Nodup → (∀ i ∈ l, i < n) → l.length + m = n →
      Inv cx ⟨(l.map fun j => (D j, X j)) ++ tm, hp, nx⟩ a w → wpAny cx.P .any all (K cx.P cx.R k) (m + (all.size - n)) listed a w := by
    intro m
    induction m with
    | zero =>
      intro listed l a w hs hl hnd hln hf hi
      have hmem : ∀ i, i < n → i ∈ l := by
        intro i hi
        refine Classical.byContradiction fun hni => ?_
        have := nodup_len (i :: l) (List.range n) (List.nodup_cons.2 ⟨hni, hnd⟩) fun j hj => by
          rcases List.mem_cons.1 hj with rfl | hj
          · simpa using hi
          · simpa using hln j hj
        simp at this
        omega
      rw [Nat.zero_add]
      rw [hn]
      refine g listed a w hs (fun i hi => (hl i hi).trans ⟨fun h => ?_, fun h => ?_⟩) (fun i hi => ?_) (Inv.same (fun t => ?_) hi)
      · obtain ⟨p, hp1, rfl⟩ := List.mem_map.1 h
        have := hln p hp1
        show ix.getD p 0 ∈ ix
        rw [List.getD_eq_getElem?_getD, List.getElem?_eq_getElem (by omega)]
        exact List.getElem_mem _
      · obtain ⟨p, hp1, rfl⟩ := List.getElem_of_mem h
        refine List.mem_map.2 ⟨p, hmem p (by omega), ?_⟩
        show ix.getD p 0 = ix[p]
        rw [List.getD_eq_getElem?_getD, List.getElem?_eq_getElem hp1]
        rfl
      · obtain ⟨p, hp1, rfl⟩ := List.getElem_of_mem hi
        have := ck.lt p hp1
        rwa [List.getD_eq_getElem?_getD, List.getElem?_eq_getElem hp1] at this
      rw [aget_append, aget_append, hdone]
      by_cases ht : ∃ j, j < n ∧ D j = t
      · obtain ⟨j, hj, rfl⟩ := ht
        rw [pairs_there hD l hln j (hmem j hj), pairs_there hD (List.range n).reverse (fun i hi => by simpa using hi) j (by simpa using hj)]
      · rw [pairs_none l (fun j hj e => ht ⟨j, hln j hj, e⟩), pairs_none (List.range n).reverse (fun j hj e => ht ⟨j, by simpa using hj, e⟩)]
    | succ m ih =>
      intro listed l a w hs hl hnd hln hf hi
      rw [show m + 1 + (all.size - n) = (m + (all.size - n)) + 1 by omega]
      have hready := fun i => ready_rdy (all := all) (l := l.map σ) hs hl (fun i hi => by obtain ⟨p, hp1, rfl⟩ := List.mem_map.1 hi; exact ck.lt p (hn ▸ hln p hp1)) i
      have hmap : ∀ p, p < n → (σ p ∈ l.map σ ↔ p ∈ l) := fun p hp1 => ⟨fun h => by obtain ⟨q, hq, e⟩ := List.mem_map.1 h; rwa [← hσ q p (hln q hq) hp1 e], fun h => List.mem_map.2 ⟨p, h, rfl⟩⟩
      refine ⟨fun h0 => ?_, fun i hi' => ?_⟩
      · -- something is ready
        exfalso
        have hex : ∃ i, i < n ∧ i ∉ l := by
          refine Classical.byContradiction fun hno => ?_
          have hsub : List.range n ⊆ l := fun j hj => Classical.byContradiction fun hjl => hno ⟨j, by simpa using hj, hjl⟩
          have := nodup_len _ _ List.nodup_range hsub
          simp at this
          omega
        obtain ⟨i, ⟨hi1, hi2⟩, hmin⟩ := exists_min (fun i => i < n ∧ i ∉ l) _ hex.choose_spec
        obtain ⟨o, ho⟩ := hall i hi1
        have : σ i ∈ Region.ready .any all listed := (hready (σ i)).2 ((rdy_iff _ _ _).2 ⟨o, Nat.zero_le _, by rw [Nat.sub_zero, Array.getElem?_toList]; exact ho, fun h => hi2 ((hmap i hi1).1 h), fun e he hb => by
          obtain ⟨q, hq, hon⟩ := ck.acyc i o (hn ▸ hi1) ho e (Array.mem_toList_iff.1 he) hb
          rw [← hon]
          refine (hmap q (by omega)).2 (Classical.byContradiction fun hnl => ?_)
          have := hmin q ⟨by omega, hnl⟩
          omega⟩)
        rw [h0] at this
        cases this
      · obtain ⟨o, _, ho, h2, h3⟩ := (rdy_iff _ _ _).1 ((hready i).1 hi')
        rw [Nat.sub_zero, Array.getElem?_toList] at ho
        have hisz : i < all.size := (Array.getElem?_eq_some_iff.1 ho).1
        have hex : i ∈ ix := by
          refine Classical.byContradiction fun hge => ?_
          have hsub : List.range n ⊆ l := fun j hj => by
            have hj : j < n := by simpa using hj
            obtain ⟨e, he, hb, hon⟩ := hwait i o hge ho j (hn ▸ hj)
            have h4 := h3 e he hb
            rw [hon] at h4
            exact (hmap j hj).1 h4
          have := nodup_len _ _ List.nodup_range hsub
          simp at this
          omega
        obtain ⟨p, hp1, hpi⟩ := List.getElem_of_mem hex
        have h1 : p < n := by omega
        have hpi : σ p = i := by
          show ix.getD p 0 = i
          rw [List.getD_eq_getElem?_getD, List.getElem?_eq_getElem hp1, ← hpi]
          rfl
        have h2 : p ∉ l := fun h => h2 (by rw [← hpi]; exact (hmap p h1).2 h)
        have ho' : all[σ p]? = some o := by rw [hpi]; exact ho
        obtain ⟨hdst, hv⟩ := hop p o h1 ho'
        have hagree : ∀ t ∈ o.looksAt all, aget t ((l.map fun j => (D j, X j)) ++ tm) = aget t (((List.range p).reverse.map fun j => (D j, X j)) ++ tm) := by
          intro t ht
          rw [aget_append, aget_append]
          by_cases hex : ∃ j, j < n ∧ D j = t
          · obtain ⟨j, hj, rfl⟩ := hex
            obtain ⟨oj, hoj⟩ := hall j hj
            obtain ⟨hlt, e, he1, he2, he3⟩ := ck.dep p o _ (hn ▸ h1) ho' ht j oj (hn ▸ hj) hoj (hop j oj hj hoj).1
            have hjl : j ∈ l := by
              have := h3 e (Array.mem_toList_iff.2 he1) he3
              rw [he2] at this
              exact (hmap j hj).1 this
            rw [pairs_there hD l hln j hjl, pairs_there hD (List.range p).reverse (fun q hq => Nat.lt_trans (by simpa using hq) h1) j (by simpa using hlt)]
          · rw [pairs_none l (fun j hj e => hex ⟨j, hln j hj, e⟩), pairs_none (List.range p).reverse (fun j hj e => hex ⟨j, Nat.lt_trans (by simpa using hj) h1, e⟩)]
        let Φ : Act → World → Prop := wpAny cx.P .any all (K cx.P cx.R k) (m + (all.size - n)) (listed.setIfInBounds i true)
        have hstep := hv ((l.map fun j => (D j, X j)) ++ tm) (.inv Φ :: k) hagree (fun a' w' hi2 => by
          show Φ a' w'
          refine ih (listed.setIfInBounds i true) (p :: l) a' w' (by simpa using hs) (fun q hq => ?_) (List.nodup_cons.2 ⟨h2, hnd⟩) (fun q hq => ?_) (by simp; omega) hi2
          · by_cases e : q = i
            · subst e; simp [hs, hq, hpi]
            · have e' : ¬ i = q := fun h => e h.symm
              have := hl q hq
              simp only [Array.getD_eq_getD_getElem?] at this ⊢
              rw [Array.getElem?_setIfInBounds_ne e', this, List.map_cons, List.mem_cons, hpi]
              simp [e]
          · rcases List.mem_cons.1 hq with rfl | hq
            · exact h1
            · exact hln q hq)
        have hw := hstep a w hi
        have hw : wpList cx.P all (K cx.P cx.R (.inv Φ :: k)) [o] a w := hw
        unfold wpOp
        simp only [ho]
        unfold wpList at hw
        by_cases hwant : Region.wanted o (yielded all a.tmps) = true
        · rw [if_pos hwant] at hw ⊢
          rcases hw with hw | ⟨ha, hlo⟩
          · exact .inl (upon_congrQ (Q := K cx.P cx.R (.inv Φ :: k)) (fun _ _ _ h => h) (fun _ _ h => h) hw)
          · obtain ⟨a0, w0, hlo⟩ := hlo
            exact .inr ⟨ha, a0, w0, hlo⟩
        · rw [if_neg hwant] at hw ⊢
          exact hw
  intro a w hi
  refine wp_region_any hm ?_
  have := key n (Array.replicate all.size false) [] a { w with drawn := w.drawn + 1 } (by simp) (fun i hi => by simp [hi]) List.nodup_nil (by simp) (by simp) (by
    obtain ⟨μ, ok, hi⟩ := hi.one
    exact hi.drew.inv)
  rwa [show n + (all.size - n) = all.size by omega] at this


/-- A walk over such a region. -/
def DrX (cx : Cx) (all : Array Oper) (id : Nat) (k : List It) (hp : List (Nat × Blk)) (nx : Nat) (tm : List (Nat × SV)) (ix : List Nat) (done : List (Nat × SV)) : Prop :=
  GoodX cx all hp nx tm ix done → AWP cx (.code (.region id all true) :: k) ⟨tm, hp, nx⟩

theorem AWP.drx {id : Nat} (h : DrX cx all id k hp nx tm [] []) : AWP cx (.code (.region id all true) :: k) ⟨tm, hp, nx⟩ := h .nil

theorem DrX.step (q : Nat) {id d : Nat} {ix : List Nat} {done : List (Nat × SV)} {o : Oper} {x : SV} (ho : all.toList[q]? = some o) (hd : o.dst = some d) (hv : VStep cx all hp nx o (done ++ tm) d x) (h : DrX cx all id k hp nx tm (ix ++ [q]) ((d, x) :: done)) : DrX cx all id k hp nx tm ix done :=
  fun h1 => h (h1.step (by rwa [Array.getElem?_toList] at ho) hd hv)

def waitX (ix : List Nat) : Nat → List Oper → Bool
  | _, [] => true
  | i, o :: os => (memN i ix || ix.all fun q => memN q (edgesOf o.after.toList)) && waitX ix (Nat.succ i) os

theorem waitX_get {ix : List Nat} {os : List Oper} : ∀ {s : Nat}, waitX ix s os = true → ∀ i o, os[i]? = some o → s + i ∉ ix → ∀ q, q ∈ ix → ∃ e ∈ o.after.toList, Region.binds .any e = true ∧ e.on = q := by
  induction os with
  | nil => intro s h i o ho; simp at ho
  | cons x os ih =>
    intro s h i o ho hni q hq
    simp only [waitX, Bool.and_eq_true, Bool.or_eq_true] at h
    cases i with
    | zero =>
      cases ho
      rcases h.1 with h1 | h1
      · exact absurd (memN_iff.1 h1) hni
      · rw [List.all_eq_true] at h1
        exact edgesOf_mem (memN_iff.1 (h1 q hq))
    | succ i => exact ih h.2 i o (by simpa using ho) (by rw [show Nat.succ s + i = s + (i + 1) by omega]; exact hni) q hq

theorem DrX.fin (e : Env cx P fn lo) (hm : P.follows .mixedOrders = true) (c : St) {id : Nat} {ix : List Nat} {done : List (Nat × SV)} (hchk : drawOkX all ix = true) (hwait : waitX ix 0 all.toList = true)
    (h : ∀ kk, AWP cx kk c → AWPAny cx all ix (all.size - ix.length) kk ⟨done ++ tm, hp, nx⟩) (g : AWP cx k c) : DrX cx all id k hp nx tm ix done := by
  intro h1
  refine AWP.drawX e hm hchk (fun i o hni ho j hj => ?_) h1 (h k g)
  refine waitX_get (s := 0) hwait i o (by rw [Array.getElem?_toList]; exact ho) (by rw [Nat.zero_add]; exact hni) _ ?_
  rw [List.getD_eq_getElem?_getD, List.getElem?_eq_getElem hj]
  exact List.getElem_mem hj

theorem AWPAny.go2 {l : List Nat} {fuel n : Nat} {s : St} {i : Nat} {rs : List Nat} (hn : n = fuel + 1) (hr : rdy l 0 all.toList = i :: rs) (h : StepAll cx all l fuel k s (i :: rs)) : AWPAny cx all l n k s := by
  subst hn
  exact AWPAny.go hr h

end
end Go.Sy

/-
  SYMBOLIC STATES, over any program, part 23: slices of no room, slices with a bound, append that always makes a new row, rows that are made.
-/
namespace Go.Sy
open Go.RowKit

section
variable {cx : Cx} {P : Program} {fn : Func} {lo : Nat} {T : Tab} {k : List It} {s : St} {tm : List (Nat × SV)} {hp : List (Nat × Blk)} {nx : Nat}
variable {all : Array Oper} {rest : List Oper} {d : Nat} {ty : TypeId} {pos : String} {after : Array Edge}

theorem CvL.rfl' {hp : List (Nat × Blk)} {lend : List Nat} : ∀ l : List SV, CvL hp lend l l
  | [] => .nil
  | x :: l => .cons (.refl x) (CvL.rfl' l)

/-- A value that is a slice. -/
def isSl : SV → Bool
  | .d .nil => true
  | .d (.sl _ _) => true
  | .own _ _ _ _ _ => true
  | _ => false

theorem isSl_ok {μ : Nat → Option Nat} {ok : Nat → Prop} {w : World} {x : SV} {u : Value} (h : Den μ ok w x u) (hs : isSl x = true) : ∃ a n c, u = .slice a n c := by
  unfold isSl at hs
  split at hs <;> first | (cases hs; done) | skip
  · exact ⟨_, _, _, h.nil'⟩
  · cases h with | d h =>
    rcases slOf h with ⟨_, rfl⟩ | ⟨a, c, rfl, _⟩ <;> exact ⟨_, _, _, rfl⟩
  · cases h with
    | own h h1 h2 => exact ⟨_, _, _, rfl⟩
    | ownNil a _ _ _ => exact ⟨_, _, _, rfl⟩

theorem run_bounds0 {w : World} (len cap : Nat) (kk kk' : IntKind) : (Instr.sliceBounds true len cap none (some (.int kk 0)) (some (.int kk' 0))).run P w = .ok (0, 0, 0) w := by
  simp only [Instr.sliceBounds, Sem.run_bind]
  rw [run_bound _ _ _ _ (by omega) (by omega)]
  simp only [Result.andThen_ok]
  rw [run_bound _ _ _ _ (by omega) (by omega)]
  simp

/-- x[:0:0]: a row of no room. -/
theorem AWP.slice0 (e : Env cx P fn lo) (hT : TabOk P T) {t te : TypeId} {m : Nat} {x : Operand} {sx : SV} {kk kk' : IntKind} (hd : Nat.blt d fn.ntmps = true) (h1 : opd ⟨tm, hp, nx⟩ x = some sx) (hs : isSl sx = true) (h3 : tySl T t = some (te, m))
    (g : AWP cx (.ops all rest :: k) ⟨(d, .own nx m 0 0 0) :: tm, (nx, .row te false m [] 0) :: hp, Nat.succ nx⟩) :
    AWP cx (.ops all (⟨some d, .slice t x none (some (.const (.int kk 0))) (some (.const (.int kk' 0))), ty, pos, after, none⟩ :: rest) :: k) ⟨tm, hp, nx⟩ := by
  obtain ⟨rfl, rfl, _⟩ := e
  refine AWP.op rfl fun a w hi => ?_
  obtain ⟨μ, ok, hi⟩ := hi.one
  obtain ⟨a0, n, c, hu⟩ := isSl_ok (opd_den hi.tmps h1) hs
  obtain ⟨zt, y', t1, t2, t3, t4⟩ := tySl_ok h3
  have htu : cx.P.underlying t = some (.slice te) := by have := (hT _ _ t1).td; rw [t2] at this; exact this
  have ev : ∀ v, a.eval (.const v) = v := fun _ => rfl
  have hrun : (execOp a.eval ⟨some d, .slice t x none (some (.const (.int kk 0))) (some (.const (.int kk' 0))), ty, pos, after, none⟩).run cx.P w = .ok (.value (.slice a0 0 0)) w := by
    simp only [execOp, hu, Instr.sliceAt, Instr.slice, Sem.run_bind, run_underlying htu, Result.andThen_ok, Option.map_none, Option.map_some, ev]
    simp only [Sem.run_bind, Sem.run_pure, Result.andThen_ok, run_bounds0, (hT _ _ t3).sizeOf]
    simp
  rw [hrun, Oper.upon_value]
  exact g _ _ ((hi.ghost te false m).put (Nat.le_of_ble_eq_true hd) (.ownNil _ _ _ _)).inv

theorem run_bounds3 {w : World} (len cap : Nat) (kl kh km : IntKind) (l h m : Int) (h0 : 0 ≤ l) (h1 : l ≤ h) (h2 : h ≤ m) (h3 : m ≤ cap) :
    (Instr.sliceBounds true len cap (some (.int kl l)) (some (.int kh h)) (some (.int km m))).run P w = .ok (l.toNat, h.toNat, m.toNat) w := by
  simp only [Instr.sliceBounds, Sem.run_bind]
  rw [run_bound _ _ _ _ (by omega) (by omega)]
  simp only [Result.andThen_ok]
  rw [run_bound _ _ _ _ (by omega) (by omega)]
  simp only [Result.andThen_ok]
  rw [run_bound _ _ _ _ (by omega) (by omega)]
  simp

/-- x[l:h:m] of a row that is owned. -/
theorem AWP.slice3 (e : Env cx P fn lo) (hT : TabOk P T) {t te : TypeId} {m0 : Nat} {x ol oh om : Operand} {id q n C : Nat} {kl kh km : IntKind} {l h m : Int} (hd : Nat.blt d fn.ntmps = true) (h1 : opd ⟨tm, hp, nx⟩ x = some (.own id m0 q n C)) (h3 : tySl T t = some (te, m0))
    (hl : opd ⟨tm, hp, nx⟩ ol = some (.d (.v (.int kl l)))) (hh : opd ⟨tm, hp, nx⟩ oh = some (.d (.v (.int kh h)))) (hm : opd ⟨tm, hp, nx⟩ om = some (.d (.v (.int km m)))) (l' h' m' : Nat) (el : l = l') (eh : h = h') (em : m = m')
    (p1 : l' ≤ h') (p2 : h' ≤ m') (p3 : m' ≤ n)
    (g : AWP cx (.ops all rest :: k) ⟨(d, .own id m0 (q + l') (h' - l') (q + m')) :: tm, hp, nx⟩) :
    AWP cx (.ops all (⟨some d, .slice t x (some ol) (some oh) (some om), ty, pos, after, none⟩ :: rest) :: k) ⟨tm, hp, nx⟩ := by
  refine AWP.op_run e (Nat.le_of_ble_eq_true hd) (fun μ ok a w hI => ?_) g
  have hx := opd_den hI.tmps h1
  subst el eh em
  generalize hv : a.eval x = v at hx
  obtain ⟨zt, y', t1, t2, t3, t4⟩ := tySl_ok h3
  have htu : P.underlying t = some (.slice te) := by have := (hT _ _ t1).td; rw [t2] at this; exact this
  have run : ∀ a0 len cap, m' ≤ cap → v = .slice a0 len cap → (execOp a.eval ⟨some d, .slice t x (some ol) (some oh) (some om), ty, pos, after, none⟩).run P w = .ok (.value (.slice (if m' = l' then a0 else a0.map (·.add (l' * m0))) (h' - l') (m' - l'))) w := by
    intro a0 len cap hc hv'
    simp only [execOp, hv, hv', Instr.sliceAt, Instr.slice, Sem.run_bind, run_underlying htu, Result.andThen_ok, Option.map_some, (opd_den hI.tmps hl).int, (opd_den hI.tmps hh).int, (opd_den hI.tmps hm).int]
    simp only [Sem.run_bind, Sem.run_pure, Result.andThen_ok, run_bounds3 len cap kl kh km (l' : Int) h' m' (by omega) (by omega) (by omega) (by omega), (hT _ _ t3).sizeOf, Int.toNat_natCast, t4]
  cases hx with
  | ownNil a0 _ _ _ =>
    obtain rfl : m' = 0 := by omega
    obtain rfl : h' = 0 := by omega
    obtain rfl : l' = 0 := by omega
    exact ⟨_, run a0 0 0 (by omega) rfl, .ownNil _ _ _ _⟩
  | own hb g1 g2 =>
    rename_i b
    refine ⟨_, run _ _ _ (by omega) rfl, ?_⟩
    by_cases e : m' = l'
    · rw [if_pos e]
      obtain rfl : h' = l' := by omega
      subst e
      rw [Nat.sub_self]
      exact .ownNil _ _ _ _
    · rw [if_neg e, Option.map_some, add_add']
      have := Den.own (μ := μ) (ok := ok) (w := w) (id := id) (k := m0) (lo := q + l') (n := h' - l') (C := q + m') (b := b) hb (by omega) (by omega)
      rw [Nat.add_mul, show q + m' - (q + l') = m' - l' by omega] at this
      exact this

/-! ### append that has no room -/
theorem append_new (hT : TabOk cx.P T) {μ : Nat → Option Nat} {ok : Nat → Prop} {a : Act} {w : World} (hI : Inv1 cx μ ok ⟨tm, hp, nx⟩ a w) {t te : TypeId} {y : Ty} {id m q n C0 : Nat} {xs ys : List (List SV)} {sx : SV} {v u : Value} (ty : TypeId) {fz : Bool}
    (hv : Den μ ok w (.own id m q n (q + n)) v) (hrow : aget id hp = some (.row te fz m xs C0)) (hn : q + n ≤ xs.length) (hu : Den μ ok w sx u) (hsrc : Src hp sx m ys) (hne : 0 < ys.length) (ht : tySl T t = some (te, m)) (hy : aget te T = some y)
    (hb : (n + ys.length) * y.bytes ≤ 140737488355328) (hsz : n + ys.length ≤ maxLen) :
    ∃ v' w' C2 μ', (Builtin.append_ #[t, t] ty #[v, u]).run cx.P w = .ok v' w' ∧ n + ys.length ≤ C2 ∧ Inv1 cx μ' ok ⟨tm, (nx, .row te false m ((xs.drop q).take n ++ ys) C2) :: hp, Nat.succ nx⟩ a w' ∧ Den μ' ok w' (.own nx m 0 (n + ys.length) C2) v' := by
  obtain ⟨zt, y', t1, t2, t3, t4⟩ := tySl_ok ht
  rw [hy] at t3
  cases t3
  have htu : cx.P.underlying t = some (.slice te) := by have := (hT _ _ t1).td; rw [t2] at this; exact this
  obtain ⟨ti, z, i1, i2, i3, i4, i5⟩ := (hT _ _ hy).info
  have him : ti.size = m := i2.trans t4
  have hzs : z.cells.size = m := by
    have h1 := congrArg List.length i5
    simp only [List.length_map, Array.length_toList] at h1
    rw [h1, (hT _ _ hy).zlen, t4]
  have hmx : maxLen = 9223372036854775807 := rfl
  have hlt : ∀ b, ok b → b < w.heap.size := hI.heap.lt
  let xs' := (xs.drop q).take n
  have hxs' : xs'.length = n := by simp [xs']; omega
  have key : ∀ (i : Nat) (e : List SV), xs'[i]? = some e → xs[q + i]? = some e ∧ i < n := by
    intro i e he
    simp only [xs', List.getElem?_take] at he
    split at he
    · rename_i hi
      exact ⟨by rwa [List.getElem?_drop] at he, hi⟩
    · cases he
  have hnew : ∀ (olds news : List Value) (C2 : Nat), olds.length = n * m → news.length = ys.length * m → n + ys.length ≤ C2 → C2 ≤ maxLen →
      (∀ (i : Nat) (e : List SV), xs'[i]? = some e → e.length = m) → (∀ (i : Nat) (e : List SV), ys[i]? = some e → e.length = m) →
      (∀ (i : Nat) (e : List SV) (j : Nat) (x : SV) (u : Value), xs'[i]? = some e → e[j]? = some x → olds[i * m + j]? = some u → Den μ ok w x u) →
      (∀ (i : Nat) (e : List SV) (j : Nat) (x : SV) (u : Value), ys[i]? = some e → e[j]? = some x → news[i * m + j]? = some u → Den μ ok w x u) →
      let w' := w.drew.alloc (.cells (olds.toArray ++ news.toArray ++ Builtin.zeroCells z.cells (C2 - (n + ys.length))) te)
      Inv1 cx (upd μ nx w.heap.size) ok ⟨tm, (nx, .row te false m (xs' ++ ys) C2) :: hp, Nat.succ nx⟩ a w' ∧ Den (upd μ nx w.heap.size) ok w' (.own nx m 0 (n + ys.length) C2) (.slice (some ⟨w.heap.size, 0, none⟩) (n + ys.length) C2) := by
    intro olds news C2 ho hne hC hC2 hxl hyl hod hnd w'
    have hoth : ∀ b, ok b → w'.heap[b]? = w.heap[b]? := fun b hb => Below.heap_alloc w.drew _ b (hlt b hb)
    have harr : (olds.toArray ++ news.toArray ++ Builtin.zeroCells z.cells (C2 - (n + ys.length))) = (olds ++ news ++ (Builtin.zeroCells z.cells (C2 - (n + ys.length))).toList).toArray := by
      apply Array.ext'
      simp
    have hB : DenB μ ok w' w.drew.heap.size (.row te false m (xs' ++ ys) C2) := by
      obtain ⟨r1, r2⟩ := row_app (μ := μ) (ok := ok) (w := w) (c2 := (olds ++ news ++ (Builtin.zeroCells z.cells (C2 - (n + ys.length))).toList).toArray) hxl hyl hod hnd (fun q hq => (app_cells ho hne).1 (by rw [hxs'] at hq; exact hq)) (fun q hq => by rw [hxs']; exact (app_cells ho hne).2 hq)
      refine ⟨_, (0, 0), (MapKept.heap_alloc w.drew _).1, fun _ => rfl, fun j _ hj => by omega, ?_, by simp [hxs']; omega, r1, fun i e j x u he hj hu => ?_⟩
      · simp only [Array.size_append, List.size_toArray, ho, hne, size_zeroCells, hzs, ← Nat.add_mul]
        congr 1
        omega
      · rw [harr] at hu
        exact (r2 i e j x u he hj hu).mono (fun _ _ h => h) (fun _ h => h) hoth
    have h1 := (hI.drew).alloc (.cells (olds.toArray ++ news.toArray ++ Builtin.zeroCells z.cells (C2 - (n + ys.length))) te) (.row te false m (xs' ++ ys) C2) hB
    refine ⟨h1, ?_⟩
    have := Den.own (μ := upd μ nx w.heap.size) (ok := ok) (w := w') (id := nx) (k := m) (lo := 0) (n := n + ys.length) (C := C2) (b := w.heap.size) (by simp [upd]) (by omega) hC2
    simpa using this
  rcases hsrc.den hI.hh hu with ⟨rfl, hys⟩ | ⟨ua, uc, rfl, hym⟩
  · subst hys; simp at hne
  · obtain ⟨news, hnl, hnc, hnd⟩ := hym.gather
    have hyl := hym.1
    have hnl' : news.length = ys.length * ti.size := by rw [him]; exact hnl
    generalize hC : q + n = C at hv
    cases hv with
    | ownNil a0 _ _ _ =>
      have hr : (Builtin.append_ #[t, t] ty #[.slice a0 0 0, .slice (some ua) ys.length uc]).run cx.P w = .ok (.slice (some ⟨w.heap.size, 0, none⟩) ys.length (grownCap w ys.length 0 te)) (w.drew.alloc (.cells (news.toArray ++ Builtin.zeroCells z.cells (grownCap w ys.length 0 te - ys.length)) te)) := by
        cases a0 with
        | none => exact run_append_nil (P := cx.P) w t ty te ti z htu i1 i4 ua ys.length uc news hnl' hnc (by omega) (by rw [hmx] at hsz; omega) (by rw [i3]; simp only [Nat.zero_add] at hb; omega)
        | some a0 =>
          have := run_append_grow (P := cx.P) w t ty te ti z htu i1 i4 a0 0 0 [] (by simp) (by simp) ua ys.length uc news hnl' hnc (by omega) (by rw [hmx] at hsz; omega) (growslice_fits (by omega) (by rw [i3]; exact hb))
          simpa using this
      obtain ⟨h1, h2⟩ := hnew [] news (grownCap w ys.length 0 te) (by simp) hnl (by rw [Nat.zero_add]; exact grownCap_ge w ys.length 0 te) (grownCap_le_maxLen w ys.length 0 te (by omega)) (fun i e he => by have := (key i e he).2; omega) hyl (fun i e j x u he => by have := (key i e he).2; omega) hnd
      have hge := grownCap_ge w ys.length 0 te
      refine ⟨_, _, grownCap w ys.length 0 te, upd μ nx w.heap.size, hr, by omega, ?_, ?_⟩
      · have hx0 : xs' = [] := by simp [xs']
        simp only [Nat.zero_add, hx0] at h1
        simpa using h1
      · simp only [Nat.zero_add] at h2
        simpa using h2
    | own hb0 g1 g2 =>
      rename_i b
      obtain ⟨_, hn'⟩ | ⟨b', q1, q2, hB⟩ := hI.hh id _ hrow
      · rw [hn'] at hb0; cases hb0
      rw [hb0] at q1
      cases q1
      obtain ⟨cur, zf, c1, c2, c3, c4, c5, c6, c7⟩ := hB
      subst hC
      have hnm : (q + n) * m ≤ C0 * m := Nat.mul_le_mul_right _ (by omega)
      rw [Nat.add_mul] at hnm
      have e1 : q + n - q = n := by omega
      rw [e1]
      have holen : ((cur.toList.drop (q * m)).take (n * m)).length = n * m := by simp; omega
      have hget : ∀ j, j < n * m → ((cur.toList.drop (q * m)).take (n * m))[j]? = cur[q * m + j]? := by
        intro j hj
        rw [List.getElem?_take, if_pos hj, List.getElem?_drop, Array.getElem?_toList]
      have hxl : ∀ (i : Nat) (e : List SV), xs'[i]? = some e → e.length = m := fun i e he => c6 _ e (key i e he).1
      have hod : ∀ (i : Nat) (e : List SV) (j : Nat) (x : SV) (u : Value), xs'[i]? = some e → e[j]? = some x → ((cur.toList.drop (q * m)).take (n * m))[i * m + j]? = some u → Den μ ok w x u := by
        intro i e j x u he hj hu
        obtain ⟨k1, k2⟩ := key i e he
        have hj' : j < m := by rw [← hxl i e he]; exact (List.getElem?_eq_some_iff.1 hj).1
        rw [hget _ (mul_lt_row k2 hj')] at hu
        exact c7 (q + i) e j x u k1 hj (by rw [Nat.add_mul, Nat.add_assoc]; exact hu)
      have holds : ∀ (j : Nat) v, ((cur.toList.drop (q * m)).take (n * m))[j]? = some v → w.cell? ((⟨b, q * m, none⟩ : Addr).add j) = some v := by
        intro j v hj
        have hlt : j < n * m := by rw [← holen]; exact (List.getElem?_eq_some_iff.1 hj).1
        rw [hget j hlt] at hj
        rw [add_add', cell_at c1]
        exact hj
      have hr := run_append_grow (P := cx.P) w t ty te ti z htu i1 i4 ⟨b, q * m, none⟩ n n ((cur.toList.drop (q * m)).take (n * m)) (by rw [him]; exact holen) holds ua ys.length uc news hnl' hnc (by omega) (by rw [hmx] at hsz; omega) (growslice_fits (by omega) (by rw [i3]; exact hb))
      obtain ⟨h1, h2⟩ := hnew ((cur.toList.drop (q * m)).take (n * m)) news (grownCap w (n + ys.length) n te) holen hnl (grownCap_ge _ _ _ _) (grownCap_le_maxLen _ _ _ _ hsz) hxl hyl hod hnd
      exact ⟨_, _, grownCap w (n + ys.length) n te, upd μ nx w.heap.size, hr, grownCap_ge w _ _ _, h1, h2⟩

/-- APPEND to a row that has no room more. -/
theorem AWP.append_new (e : Env cx P fn lo) (hT : TabOk P T) {s0 sx : Operand} {t te : TypeId} {y : Ty} {id m q n C C0 : Nat} {xs ys : List (List SV)} {fz : Bool} {vx : SV} (hd : Nat.blt d fn.ntmps = true) (h1 : opd ⟨tm, hp, nx⟩ s0 = some (.own id m q n C)) (h2 : opd ⟨tm, hp, nx⟩ sx = some vx)
    (hrow : aget id hp = some (.row te fz m xs C0)) (ht : tySl T t = some (te, m)) (hy : aget te T = some y)
    (hsrc : Src hp vx m ys) (hC : C = q + n) (hn : q + n ≤ xs.length) (hne : 0 < ys.length) (hb : (n + ys.length) * y.bytes ≤ 140737488355328) (hsz : n + ys.length ≤ 9223372036854775807)
    (g : ∀ C2, n + ys.length ≤ C2 → AWP cx (.ops all rest :: k) ⟨(d, .own nx m 0 (n + ys.length) C2) :: tm, (nx, .row te false m ((xs.drop q).take n ++ ys) C2) :: hp, Nat.succ nx⟩) :
    AWP cx (.ops all (⟨some d, .call ⟨.builtin .append, #[s0, sx], #[t, t]⟩, ty, pos, after, none⟩ :: rest) :: k) ⟨tm, hp, nx⟩ := by
  obtain ⟨rfl, rfl, _⟩ := e
  subst hC
  refine AWP.op rfl fun a w hi => ?_
  obtain ⟨μ, ok, hI⟩ := hi.one
  obtain ⟨v', w', C2, μ', r1, r2, r3, r4⟩ := Sy.append_new hT hI ty (opd_den hI.tmps h1) hrow hn (opd_den hI.tmps h2) hsrc hne ht hy hb hsz
  have hrun : (execOp a.eval ⟨some d, .call ⟨.builtin .append, #[s0, sx], #[t, t]⟩, ty, pos, after, none⟩).run cx.P w = .ok (.value v') w' := by
    simp only [execOp, resolve, invoke, builtin, Sem.run_bind, Sem.run_pure, Result.andThen_ok, List.map_toArray, List.map_cons, List.map_nil, r1]
  rw [hrun, Oper.upon_value]
  exact g C2 r2 _ _ (r3.put (Nat.le_of_ble_eq_true hd) r4).inv

end
end Go.Sy

/-
  SYMBOLIC STATES, over any program, part 24: a row that is written no more, wherever it is held (in slots, in variables, in aggregates).
-/
namespace Go.Sy
open Go.RowKit

section
variable {cx : Cx} {P : Program} {fn : Func} {lo : Nat} {T : Tab} {k : List It} {s : St} {tm : List (Nat × SV)} {hp : List (Nat × Blk)} {nx : Nat}
variable {all : Array Oper} {rest : List Oper} {d : Nat} {ty : TypeId} {pos : String} {after : Array Edge}
variable {μ : Nat → Option Nat} {ok : Nat → Prop} {w : World}

def frzO (id : Nat) (ys : List (List DV)) : SV → SV
  | .own i k lo n C => bif Nat.beq i id then .d (.sl k ((ys.drop lo).take n)) else .own i k lo n C
  | .agg cs => go id ys cs fun l => .agg l
  | .tup cs => go id ys cs fun l => .tup l
  | .fn f a b => go id ys a fun l => go id ys b fun m => .fn f l m
  | x => x
where go (id : Nat) (ys : List (List DV)) : List SV → (List SV → SV) → SV
  | [], k => k []
  | x :: l, k => go id ys l fun m => k (frzO id ys x :: m)

theorem frzO_go (id : Nat) (ys : List (List DV)) (l : List SV) (k : List SV → SV) : frzO.go id ys l k = k (l.map (frzO id ys)) := by
  induction l generalizing k with
  | nil => rfl
  | cons x l ih => simp only [frzO.go, ih, List.map_cons]

def lenD (id m n : Nat) : SV → Prop
  | .own i k lo q _ => i = id → k = m ∧ lo + q ≤ n
  | .agg cs => go id m n cs
  | .tup cs => go id m n cs
  | .fn _ a b => go id m n a ∧ go id m n b
  | _ => True
where go (id m n : Nat) : List SV → Prop
  | [] => True
  | x :: l => lenD id m n x ∧ go id m n l

theorem lenD_go {id m n : Nat} : ∀ {l : List SV}, lenD.go id m n l → ∀ (j : Nat) c, l[j]? = some c → lenD id m n c
  | [], _, j, c, h => by simp at h
  | x :: l, hl, j, c, h => by
    cases j with
    | zero => cases h; exact hl.1
    | succ j => exact lenD_go hl.2 j c (by simpa using h)

theorem frzO_den {ok' : Nat → Prop} {id m C0 : Nat} {te : TypeId} {fz : Bool} {ys : List (List DV)} (hh : ∀ i B, aget i hp = some B → (B.ghost ∧ μ i = none) ∨ ∃ b, μ i = some b ∧ ¬ ok b ∧ DenB μ ok w b B) (hok : ∀ b, ok b → ok' b)
    (hrow : aget id hp = some (.row te fz m (ys.map (·.map SV.d)) C0)) (hid : ∀ b, μ id = some b → ok' b) {x : SV} {y : Value} (h : Den μ ok w x y) : lenD id m ys.length x → Den μ ok' w (frzO id ys x) y := by
  have keep : ∀ {z : SV} {v : Value}, Den μ ok w z v → Den μ ok' w z v := fun h => h.mono (fun _ _ h => h) hok (fun _ _ => rfl)
  have many : ∀ {cs : List SV} {vs : Array Value}, (∀ (j : Nat) c u, cs[j]? = some c → vs[j]? = some u → lenD id m ys.length c → Den μ ok' w (frzO id ys c) u) → lenD.go id m ys.length cs → ∀ (j : Nat) c u, (cs.map (frzO id ys))[j]? = some c → vs[j]? = some u → Den μ ok' w c u := by
    intro cs vs h hl j c u hc hu
    rw [List.getElem?_map] at hc
    cases e : cs[j]? with
    | none => rw [e] at hc; cases hc
    | some c0 => rw [e] at hc; cases hc; exact h j c0 u e hu (lenD_go hl j c0 e)
  have own : ∀ {i k lo n C : Nat} {v : Value}, Den μ ok w (.own i k lo n C) v → lenD id m ys.length (.own i k lo n C) → Den μ ok' w (frzO id ys (.own i k lo n C)) v := by
    intro i k lo n C v hd hl
    simp only [frzO]
    by_cases e : i = id
    · subst e
      simp only [Nat.beq_refl, cond_true]
      obtain ⟨rfl, hle⟩ := hl rfl
      exact Cv.den (lend := [i]) (ok' := ok') hh hok (fun j hj B hB b hb => by simp at hj; subst hj; exact hid b hb) (.own hrow (by simp) hle) hd
    · rw [beq_ne e]
      exact keep hd
  induction h with
  | own h h1 h2 => exact own (.own h h1 h2)
  | ownNil a id k lo => exact own (.ownNil a id k lo)
  | agg vs h h1 ih => intro hl; simp only [frzO, frzO_go]; exact .agg vs (by simpa using h) (many ih hl)
  | tup vs h h1 ih => intro hl; simp only [frzO, frzO_go]; exact .tup vs (by simpa using h) (many ih hl)
  | fn vs us h h1 h2 h3 ih1 ih2 => intro hl; simp only [frzO, frzO_go]; exact .fn vs us (by simpa using h) (many ih1 hl.1) (by simpa using h2) (many ih2 hl.2)
  | d h => exact fun _ => .d (h.mono hok (fun _ _ => rfl))
  | ptr h => exact fun _ => .ptr h
  | pel h => exact fun _ => .pel h
  | ip a h4 => exact fun _ => keep (.ip a h4)
  | lit b => exact fun _ => .lit b

def frzOT (id : Nat) (ys : List (List DV)) : List (Nat × SV) → Option (List (Nat × SV))
  | [] => some []
  | (t, x) :: l => match frzOT id ys l with
    | some r => forceK (frzO id ys x) fun x => some ((t, x) :: r)
    | none => none

theorem frzOT_get (id : Nat) (ys : List (List DV)) : ∀ (l r : List (Nat × SV)), frzOT id ys l = some r → ∀ t x, aget t r = some x → ∃ y, aget t l = some y ∧ x = frzO id ys y := by
  intro l
  induction l with
  | nil => intro r h t x hx; simp [frzOT] at h; subst h; simp [aget] at hx
  | cons p l ih =>
    obtain ⟨u, y⟩ := p
    intro r h t x hx
    simp only [frzOT, forceK_eq] at h
    cases e : frzOT id ys l with
    | none => rw [e] at h; cases h
    | some r1 =>
      rw [e] at h
      cases h
      rw [aget_cons] at hx ⊢
      by_cases ht : t = u
      · rw [if_pos ht] at hx ⊢
        cases hx
        exact ⟨y, rfl, rfl⟩
      · rw [if_neg ht] at hx ⊢
        exact ih r1 e t x hx

def frzOH (id : Nat) (ys : List (List DV)) : List (Nat × Blk) → Option (List (Nat × Blk))
  | [] => some []
  | (i, B) :: l => match frzOH id ys l with
    | some r => bif Nat.beq i id then some r else (match B with
      | .box cs => mapK (frzO id ys) cs fun cs => some ((i, .box cs) :: r)
      | .row e fz k xs C => some ((i, .row e fz k xs C) :: r))
    | none => none

theorem frzOH_get (id : Nat) (ys : List (List DV)) : ∀ (l r : List (Nat × Blk)), frzOH id ys l = some r → ∀ i B, aget i r = some B → i ≠ id ∧ ∃ B0, aget i l = some B0 ∧ ((∃ cs, B0 = .box cs ∧ B = .box (cs.map (frzO id ys))) ∨ B = B0) := by
  intro l
  induction l with
  | nil => intro r h t x hx; simp [frzOH] at h; subst h; simp [aget] at hx
  | cons p l ih =>
    obtain ⟨u, C⟩ := p
    intro r h i B hB
    simp only [frzOH] at h
    cases e : frzOH id ys l with
    | none => rw [e] at h; cases h
    | some r1 =>
      rw [e] at h
      simp only at h
      by_cases hu : u = id
      · subst hu
        simp only [Nat.beq_refl, cond_true, Option.some.injEq] at h
        subst h
        obtain ⟨h1, B0, h2, h3⟩ := ih r1 e i B hB
        exact ⟨h1, B0, by rw [aget_cons, if_neg h1]; exact h2, h3⟩
      · rw [beq_ne hu] at h
        simp only [cond_false] at h
        have key : ∃ C', r = (u, C') :: r1 ∧ ((∃ cs, C = .box cs ∧ C' = .box (cs.map (frzO id ys))) ∨ C' = C) := by
          cases C with
          | box cs => simp only [mapK_eq, Option.some.injEq] at h; exact ⟨_, h.symm, .inl ⟨cs, rfl, rfl⟩⟩
          | row e fz k xs C => simp only [Option.some.injEq] at h; exact ⟨_, h.symm, .inr rfl⟩
        obtain ⟨C', rfl, hC⟩ := key
        rw [aget_cons] at hB
        by_cases hi : i = u
        · rw [if_pos hi] at hB
          cases hB
          subst hi
          exact ⟨hu, C, by rw [aget_cons, if_pos rfl], hC⟩
        · rw [if_neg hi] at hB
          obtain ⟨h1, B0, h2, h3⟩ := ih r1 e i B hB
          exact ⟨h1, B0, by rw [aget_cons, if_neg hi]; exact h2, h3⟩

def lenDT (id m n : Nat) : List (Nat × SV) → Prop
  | [] => True
  | (_, x) :: l => lenD id m n x ∧ lenDT id m n l
def lenDH (id m n : Nat) : List (Nat × Blk) → Prop
  | [] => True
  | (_, .box cs) :: l => lenD.go id m n cs ∧ lenDH id m n l
  | _ :: l => lenDH id m n l

theorem lenDT_get {id m n : Nat} : ∀ {l : List (Nat × SV)}, lenDT id m n l → ∀ t x, aget t l = some x → lenD id m n x
  | [], _, t, x, h => by simp [aget] at h
  | (u, y) :: l, hl, t, x, h => by
    rw [aget_cons] at h
    by_cases e : t = u
    · rw [if_pos e] at h; cases h; exact hl.1
    · rw [if_neg e] at h; exact lenDT_get hl.2 t x h
theorem lenDH_get {id m n : Nat} : ∀ {l : List (Nat × Blk)}, lenDH id m n l → ∀ t cs, aget t l = some (.box cs) → lenD.go id m n cs
  | [], _, t, x, h => by simp [aget] at h
  | (u, y) :: l, hl, t, x, h => by
    rw [aget_cons] at h
    by_cases e : t = u
    · rw [if_pos e] at h; cases h; exact hl.1
    · rw [if_neg e] at h
      refine lenDH_get (l := l) ?_ t x h
      cases y with
      | box cs => exact hl.2
      | row _ _ _ _ _ => exact hl

/-- The row is from here on only read, wherever it is held. -/
theorem AWP.freezeO {id m C : Nat} {te : TypeId} {fz : Bool} {xs : List (List SV)} (ys : List (List DV)) (hrow : aget id hp = some (.row te fz m xs C)) (hxs : xs = ys.map (·.map SV.d)) {tm' : List (Nat × SV)} {hp' : List (Nat × Blk)} (hT : frzOT id ys tm = some tm') (hH : frzOH id ys hp = some hp')
    (hl1 : lenDT id m ys.length tm) (hl2 : lenDH id m ys.length hp) (g : AWP cx k ⟨tm', hp', nx⟩) : AWP cx k ⟨tm, hp, nx⟩ := fun a w hi => by
  subst hxs
  obtain ⟨μ, ok, hi⟩ := hi.one
  let ok' : Nat → Prop := fun b => ok b ∨ μ id = some b
  have hsub : ∀ b, ok b → ok' b := fun b h => .inl h
  have hid := hi.heap.own id _ hrow
  have hH' := frzOH_get id ys hp hp' hH
  have hden : ∀ {x : SV} {y : Value}, Den μ ok w x y → lenD id m ys.length x → Den μ ok' w (frzO id ys x) y := fun h hl => frzO_den hi.hh hsub hrow (fun b hb => .inr hb) h hl
  refine g a w (Inv1.inv (μ := μ) (ok := ok') ⟨hi.defers, hi.size, ⟨hi.heap.mu, hi.heap.fresh, fun b h => .inl (hi.heap.sub b h), fun b hb => ?_, fun b hb => ?_, fun i B hB => ?_, fun i j C D q hC hD hi' hj' => ?_, hi.heap.frame, hi.heap.size, hi.heap.os, hi.heap.tape, hi.heap.output⟩, fun t x hx => ?_⟩)
  · rcases hb with hb | hb
    · exact hi.heap.lt b hb
    · obtain ⟨_, hn⟩ | ⟨b', h1, h2, _⟩ := hid
      · rw [hn] at hb; cases hb
      · rw [hb] at h1; cases h1; exact h2
  · rcases hb with hb | hb
    · exact hi.heap.okNew b hb
    · obtain ⟨_, hn⟩ | ⟨b', h1, _, _, h4, _⟩ := hid
      · rw [hn] at hb; cases hb
      · rw [hb] at h1; cases h1; exact .inr h4
  · obtain ⟨e1, B0, e2, e3⟩ := hH' i B hB
    obtain ⟨q1, q2⟩ | ⟨c, q1, q2, q3, q4, q5⟩ := hi.heap.own i B0 e2
    · refine .inl ⟨?_, q2⟩
      rcases e3 with ⟨cs, rfl, rfl⟩ | rfl
      · exact q1.elim
      · exact q1
    · refine .inr ⟨c, q1, q2, ?_, q4, ?_⟩
      · rintro (hc | hc)
        · exact q3 hc
        · exact e1 (hi.heap.inj i id B0 _ c e2 hrow q1 hc)
      · rcases e3 with ⟨cs', rfl, rfl⟩ | rfl
        · obtain ⟨C, T, z, r1, r2, r3, r4⟩ := q5
          refine ⟨C, T, z, r1, r2, by simpa using r3, fun j x u hx hu => ?_⟩
          rw [List.getElem?_map] at hx
          cases e : cs'[j]? with
          | none => rw [e] at hx; cases hx
          | some x0 => rw [e] at hx; cases hx; exact hden (r4 j x0 u e hu) (lenD_go (lenDH_get hl2 i cs' e2) j x0 e)
        · exact q5.mono (fun _ _ h => h) hsub (fun _ _ => rfl) rfl
  · obtain ⟨_, C0, c1, _⟩ := hH' i C hC
    obtain ⟨_, D0, c2, _⟩ := hH' j D hD
    exact hi.heap.inj i j C0 D0 q c1 c2 hi' hj'
  · obtain ⟨y, q1, rfl⟩ := frzOT_get id ys tm tm' hT t x hx
    exact hden (hi.tmps t y q1) (lenDT_get hl1 t y q1)

end
end Go.Sy
