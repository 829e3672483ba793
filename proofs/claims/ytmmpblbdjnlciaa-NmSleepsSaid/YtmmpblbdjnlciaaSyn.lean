/-
  SYMBOLIC STATES, over any program, part 23: slices of no room, slices with a bound, append that always makes a new row, rows that are made.
-/
import Derived.Test.YtmmpblbdjnlciaaSym
import Derived.Laws.MakeOwn
namespace Go.Sy
open Go.RowKit

section
variable {cx : Cx} {P : Program} {fn : Func} {lo : Nat} {T : Tab} {k : List It} {s : St} {tm : List (Nat × SV)} {hp : List (Nat × Blk)} {nx : Nat}
variable {all : Array Oper} {rest : List Oper} {d : Nat} {ty : TypeId} {pos : String} {after : Array Edge}

theorem CvL.rfl' {hp : List (Nat × Blk)} {lend : List Nat} : ∀ l : List SV, CvL hp lend l l
  | [] => .nil
  | x :: l => .cons (.refl x) (CvL.rfl' l)

/-- A value that is a slice. -/
def isSl : SV → Bool
  | .d .nil => true
  | .d (.sl _ _) => true
  | .own _ _ _ _ _ => true
  | _ => false

theorem isSl_ok {μ : Nat → Option Nat} {ok : Nat → Prop} {w : World} {x : SV} {u : Value} (h : Den μ ok w x u) (hs : isSl x = true) : ∃ a n c, u = .slice a n c := by
  unfold isSl at hs
  split at hs <;> first | (cases hs; done) | skip
  · exact ⟨_, _, _, h.nil'⟩
  · cases h with | d h =>
    rcases slOf h with ⟨_, rfl⟩ | ⟨a, c, rfl, _⟩ <;> exact ⟨_, _, _, rfl⟩
  · cases h with
    | own h h1 h2 => exact ⟨_, _, _, rfl⟩
    | ownNil a _ _ _ => exact ⟨_, _, _, rfl⟩

theorem run_bounds0 {w : World} (len cap : Nat) (kk kk' : IntKind) : (Instr.sliceBounds true len cap none (some (.int kk 0)) (some (.int kk' 0))).run P w = .ok (0, 0, 0) w := by
  simp only [Instr.sliceBounds, Sem.run_bind]
  rw [run_bound _ _ _ _ (by omega) (by omega)]
  simp only [Result.andThen_ok]
  rw [run_bound _ _ _ _ (by omega) (by omega)]
  simp

/-- x[:0:0]: a row of no room. -/
theorem AWP.slice0 (e : Env cx P fn lo) (hT : TabOk P T) {t te : TypeId} {m : Nat} {x : Operand} {sx : SV} {kk kk' : IntKind} (hd : Nat.blt d fn.ntmps = true) (h1 : opd ⟨tm, hp, nx⟩ x = some sx) (hs : isSl sx = true) (h3 : tySl T t = some (te, m))
    (g : AWP cx (.ops all rest :: k) ⟨(d, .own nx m 0 0 0) :: tm, (nx, .row te false m [] 0) :: hp, Nat.succ nx⟩) :
    AWP cx (.ops all (⟨some d, .slice t x none (some (.const (.int kk 0))) (some (.const (.int kk' 0))), ty, pos, after, none⟩ :: rest) :: k) ⟨tm, hp, nx⟩ := by
  obtain ⟨rfl, rfl, _⟩ := e
  refine AWP.op rfl fun a w hi => ?_
  obtain ⟨μ, ok, hi⟩ := hi.one
  obtain ⟨a0, n, c, hu⟩ := isSl_ok (opd_den hi.tmps h1) hs
  obtain ⟨zt, y', t1, t2, t3, t4⟩ := tySl_ok h3
  have htu : cx.P.underlying t = some (.slice te) := by have := (hT _ _ t1).td; rw [t2] at this; exact this
  have ev : ∀ v, a.eval (.const v) = v := fun _ => rfl
  have hrun : (execOp a.eval ⟨some d, .slice t x none (some (.const (.int kk 0))) (some (.const (.int kk' 0))), ty, pos, after, none⟩).run cx.P w = .ok (.value (.slice a0 0 0)) w := by
    simp only [execOp, hu, Instr.sliceAt, Instr.slice, Sem.run_bind, run_underlying htu, Result.andThen_ok, Option.map_none, Option.map_some, ev]
    simp only [Sem.run_bind, Sem.run_pure, Result.andThen_ok, run_bounds0, (hT _ _ t3).sizeOf]
    simp
  rw [hrun, Oper.upon_value]
  exact g _ _ ((hi.ghost te false m).put (Nat.le_of_ble_eq_true hd) (.ownNil _ _ _ _)).inv

theorem run_bounds3 {w : World} (len cap : Nat) (kl kh km : IntKind) (l h m : Int) (h0 : 0 ≤ l) (h1 : l ≤ h) (h2 : h ≤ m) (h3 : m ≤ cap) :
    (Instr.sliceBounds true len cap (some (.int kl l)) (some (.int kh h)) (some (.int km m))).run P w = .ok (l.toNat, h.toNat, m.toNat) w := by
  simp only [Instr.sliceBounds, Sem.run_bind]
  rw [run_bound _ _ _ _ (by omega) (by omega)]
  simp only [Result.andThen_ok]
  rw [run_bound _ _ _ _ (by omega) (by omega)]
  simp only [Result.andThen_ok]
  rw [run_bound _ _ _ _ (by omega) (by omega)]
  simp

/-- x[l:h:m] of a row that is owned. -/
theorem AWP.slice3 (e : Env cx P fn lo) (hT : TabOk P T) {t te : TypeId} {m0 : Nat} {x ol oh om : Operand} {id q n C : Nat} {kl kh km : IntKind} {l h m : Int} (hd : Nat.blt d fn.ntmps = true) (h1 : opd ⟨tm, hp, nx⟩ x = some (.own id m0 q n C)) (h3 : tySl T t = some (te, m0))
    (hl : opd ⟨tm, hp, nx⟩ ol = some (.d (.v (.int kl l)))) (hh : opd ⟨tm, hp, nx⟩ oh = some (.d (.v (.int kh h)))) (hm : opd ⟨tm, hp, nx⟩ om = some (.d (.v (.int km m)))) (l' h' m' : Nat) (el : l = l') (eh : h = h') (em : m = m')
    (p1 : l' ≤ h') (p2 : h' ≤ m') (p3 : m' ≤ n)
    (g : AWP cx (.ops all rest :: k) ⟨(d, .own id m0 (q + l') (h' - l') (q + m')) :: tm, hp, nx⟩) :
    AWP cx (.ops all (⟨some d, .slice t x (some ol) (some oh) (some om), ty, pos, after, none⟩ :: rest) :: k) ⟨tm, hp, nx⟩ := by
  refine AWP.op_run e (Nat.le_of_ble_eq_true hd) (fun μ ok a w hI => ?_) g
  have hx := opd_den hI.tmps h1
  subst el eh em
  generalize hv : a.eval x = v at hx
  obtain ⟨zt, y', t1, t2, t3, t4⟩ := tySl_ok h3
  have htu : P.underlying t = some (.slice te) := by have := (hT _ _ t1).td; rw [t2] at this; exact this
  have run : ∀ a0 len cap, m' ≤ cap → v = .slice a0 len cap → (execOp a.eval ⟨some d, .slice t x (some ol) (some oh) (some om), ty, pos, after, none⟩).run P w = .ok (.value (.slice (if m' = l' then a0 else a0.map (·.add (l' * m0))) (h' - l') (m' - l'))) w := by
    intro a0 len cap hc hv'
    simp only [execOp, hv, hv', Instr.sliceAt, Instr.slice, Sem.run_bind, run_underlying htu, Result.andThen_ok, Option.map_some, (opd_den hI.tmps hl).int, (opd_den hI.tmps hh).int, (opd_den hI.tmps hm).int]
    simp only [Sem.run_bind, Sem.run_pure, Result.andThen_ok, run_bounds3 len cap kl kh km (l' : Int) h' m' (by omega) (by omega) (by omega) (by omega), (hT _ _ t3).sizeOf, Int.toNat_natCast, t4]
  cases hx with
  | ownNil a0 _ _ _ =>
    obtain rfl : m' = 0 := by omega
    obtain rfl : h' = 0 := by omega
    obtain rfl : l' = 0 := by omega
    exact ⟨_, run a0 0 0 (by omega) rfl, .ownNil _ _ _ _⟩
  | own hb g1 g2 =>
    rename_i b
    refine ⟨_, run _ _ _ (by omega) rfl, ?_⟩
    by_cases e : m' = l'
    · rw [if_pos e]
      obtain rfl : h' = l' := by omega
      subst e
      rw [Nat.sub_self]
      exact .ownNil _ _ _ _
    · rw [if_neg e, Option.map_some, add_add']
      have := Den.own (μ := μ) (ok := ok) (w := w) (id := id) (k := m0) (lo := q + l') (n := h' - l') (C := q + m') (b := b) hb (by omega) (by omega)
      rw [Nat.add_mul, show q + m' - (q + l') = m' - l' by omega] at this
      exact this

/-! ### append that has no room -/
theorem append_new (hT : TabOk cx.P T) {μ : Nat → Option Nat} {ok : Nat → Prop} {a : Act} {w : World} (hI : Inv1 cx μ ok ⟨tm, hp, nx⟩ a w) {t te : TypeId} {y : Ty} {id m q n C0 : Nat} {xs ys : List (List SV)} {sx : SV} {v u : Value} (ty : TypeId) {fz : Bool}
    (hv : Den μ ok w (.own id m q n (q + n)) v) (hrow : aget id hp = some (.row te fz m xs C0)) (hn : q + n ≤ xs.length) (hu : Den μ ok w sx u) (hsrc : Src hp sx m ys) (hne : 0 < ys.length) (ht : tySl T t = some (te, m)) (hy : aget te T = some y)
    (hb : (n + ys.length) * y.bytes ≤ 140737488355328) (hsz : n + ys.length ≤ maxLen) :
    ∃ v' w' C2 μ', (Builtin.append_ #[t, t] ty #[v, u]).run cx.P w = .ok v' w' ∧ n + ys.length ≤ C2 ∧ Inv1 cx μ' ok ⟨tm, (nx, .row te false m ((xs.drop q).take n ++ ys) C2) :: hp, Nat.succ nx⟩ a w' ∧ Den μ' ok w' (.own nx m 0 (n + ys.length) C2) v' := by
  obtain ⟨zt, y', t1, t2, t3, t4⟩ := tySl_ok ht
  rw [hy] at t3
  cases t3
  have htu : cx.P.underlying t = some (.slice te) := by have := (hT _ _ t1).td; rw [t2] at this; exact this
  obtain ⟨ti, z, i1, i2, i3, i4, i5⟩ := (hT _ _ hy).info
  have him : ti.size = m := i2.trans t4
  have hzs : z.cells.size = m := by
    have h1 := congrArg List.length i5
    simp only [List.length_map, Array.length_toList] at h1
    rw [h1, (hT _ _ hy).zlen, t4]
  have hmx : maxLen = 9223372036854775807 := rfl
  have hlt : ∀ b, ok b → b < w.heap.size := hI.heap.lt
  let xs' := (xs.drop q).take n
  have hxs' : xs'.length = n := by simp [xs']; omega
  have key : ∀ (i : Nat) (e : List SV), xs'[i]? = some e → xs[q + i]? = some e ∧ i < n := by
    intro i e he
    simp only [xs', List.getElem?_take] at he
    split at he
    · rename_i hi
      exact ⟨by rwa [List.getElem?_drop] at he, hi⟩
    · cases he
  have hnew : ∀ (olds news : List Value) (C2 : Nat), olds.length = n * m → news.length = ys.length * m → n + ys.length ≤ C2 → C2 ≤ maxLen →
      (∀ (i : Nat) (e : List SV), xs'[i]? = some e → e.length = m) → (∀ (i : Nat) (e : List SV), ys[i]? = some e → e.length = m) →
      (∀ (i : Nat) (e : List SV) (j : Nat) (x : SV) (u : Value), xs'[i]? = some e → e[j]? = some x → olds[i * m + j]? = some u → Den μ ok w x u) →
      (∀ (i : Nat) (e : List SV) (j : Nat) (x : SV) (u : Value), ys[i]? = some e → e[j]? = some x → news[i * m + j]? = some u → Den μ ok w x u) →
      let w' := w.drew.alloc (.cells (olds.toArray ++ news.toArray ++ Builtin.zeroCells z.cells (C2 - (n + ys.length))) te)
      Inv1 cx (upd μ nx w.heap.size) ok ⟨tm, (nx, .row te false m (xs' ++ ys) C2) :: hp, Nat.succ nx⟩ a w' ∧ Den (upd μ nx w.heap.size) ok w' (.own nx m 0 (n + ys.length) C2) (.slice (some ⟨w.heap.size, 0, none⟩) (n + ys.length) C2) := by
    intro olds news C2 ho hne hC hC2 hxl hyl hod hnd w'
    have hoth : ∀ b, ok b → w'.heap[b]? = w.heap[b]? := fun b hb => Below.heap_alloc w.drew _ b (hlt b hb)
    have harr : (olds.toArray ++ news.toArray ++ Builtin.zeroCells z.cells (C2 - (n + ys.length))) = (olds ++ news ++ (Builtin.zeroCells z.cells (C2 - (n + ys.length))).toList).toArray := by
      apply Array.ext'
      simp
    have hB : DenB μ ok w' w.drew.heap.size (.row te false m (xs' ++ ys) C2) := by
      obtain ⟨r1, r2⟩ := row_app (μ := μ) (ok := ok) (w := w) (c2 := (olds ++ news ++ (Builtin.zeroCells z.cells (C2 - (n + ys.length))).toList).toArray) hxl hyl hod hnd (fun q hq => (app_cells ho hne).1 (by rw [hxs'] at hq; exact hq)) (fun q hq => by rw [hxs']; exact (app_cells ho hne).2 hq)
      refine ⟨_, (0, 0), (MapKept.heap_alloc w.drew _).1, fun _ => rfl, fun j _ hj => by omega, ?_, by simp [hxs']; omega, r1, fun i e j x u he hj hu => ?_⟩
      · simp only [Array.size_append, List.size_toArray, ho, hne, size_zeroCells, hzs, ← Nat.add_mul]
        congr 1
        omega
      · rw [harr] at hu
        exact (r2 i e j x u he hj hu).mono (fun _ _ h => h) (fun _ h => h) hoth
    have h1 := (hI.drew).alloc (.cells (olds.toArray ++ news.toArray ++ Builtin.zeroCells z.cells (C2 - (n + ys.length))) te) (.row te false m (xs' ++ ys) C2) hB
    refine ⟨h1, ?_⟩
    have := Den.own (μ := upd μ nx w.heap.size) (ok := ok) (w := w') (id := nx) (k := m) (lo := 0) (n := n + ys.length) (C := C2) (b := w.heap.size) (by simp [upd]) (by omega) hC2
    simpa using this
  rcases hsrc.den hI.hh hu with ⟨rfl, hys⟩ | ⟨ua, uc, rfl, hym⟩
  · subst hys; simp at hne
  · obtain ⟨news, hnl, hnc, hnd⟩ := hym.gather
    have hyl := hym.1
    have hnl' : news.length = ys.length * ti.size := by rw [him]; exact hnl
    generalize hC : q + n = C at hv
    cases hv with
    | ownNil a0 _ _ _ =>
      have hr : (Builtin.append_ #[t, t] ty #[.slice a0 0 0, .slice (some ua) ys.length uc]).run cx.P w = .ok (.slice (some ⟨w.heap.size, 0, none⟩) ys.length (grownCap w ys.length 0 te)) (w.drew.alloc (.cells (news.toArray ++ Builtin.zeroCells z.cells (grownCap w ys.length 0 te - ys.length)) te)) := by
        cases a0 with
        | none => exact run_append_nil (P := cx.P) w t ty te ti z htu i1 i4 ua ys.length uc news hnl' hnc (by omega) (by rw [hmx] at hsz; omega) (by rw [i3]; simp only [Nat.zero_add] at hb; omega)
        | some a0 =>
          have := run_append_grow (P := cx.P) w t ty te ti z htu i1 i4 a0 0 0 [] (by simp) (by simp) ua ys.length uc news hnl' hnc (by omega) (by rw [hmx] at hsz; omega) (growslice_fits (by omega) (by rw [i3]; exact hb))
          simpa using this
      obtain ⟨h1, h2⟩ := hnew [] news (grownCap w ys.length 0 te) (by simp) hnl (by rw [Nat.zero_add]; exact grownCap_ge w ys.length 0 te) (grownCap_le_maxLen w ys.length 0 te (by omega)) (fun i e he => by have := (key i e he).2; omega) hyl (fun i e j x u he => by have := (key i e he).2; omega) hnd
      have hge := grownCap_ge w ys.length 0 te
      refine ⟨_, _, grownCap w ys.length 0 te, upd μ nx w.heap.size, hr, by omega, ?_, ?_⟩
      · have hx0 : xs' = [] := by simp [xs']
        simp only [Nat.zero_add, hx0] at h1
        simpa using h1
      · simp only [Nat.zero_add] at h2
        simpa using h2
    | own hb0 g1 g2 =>
      rename_i b
      obtain ⟨_, hn'⟩ | ⟨b', q1, q2, hB⟩ := hI.hh id _ hrow
      · rw [hn'] at hb0; cases hb0
      rw [hb0] at q1
      cases q1
      obtain ⟨cur, zf, c1, c2, c3, c4, c5, c6, c7⟩ := hB
      subst hC
      have hnm : (q + n) * m ≤ C0 * m := Nat.mul_le_mul_right _ (by omega)
      rw [Nat.add_mul] at hnm
      have e1 : q + n - q = n := by omega
      rw [e1]
      have holen : ((cur.toList.drop (q * m)).take (n * m)).length = n * m := by simp; omega
      have hget : ∀ j, j < n * m → ((cur.toList.drop (q * m)).take (n * m))[j]? = cur[q * m + j]? := by
        intro j hj
        rw [List.getElem?_take, if_pos hj, List.getElem?_drop, Array.getElem?_toList]
      have hxl : ∀ (i : Nat) (e : List SV), xs'[i]? = some e → e.length = m := fun i e he => c6 _ e (key i e he).1
      have hod : ∀ (i : Nat) (e : List SV) (j : Nat) (x : SV) (u : Value), xs'[i]? = some e → e[j]? = some x → ((cur.toList.drop (q * m)).take (n * m))[i * m + j]? = some u → Den μ ok w x u := by
        intro i e j x u he hj hu
        obtain ⟨k1, k2⟩ := key i e he
        have hj' : j < m := by rw [← hxl i e he]; exact (List.getElem?_eq_some_iff.1 hj).1
        rw [hget _ (mul_lt_row k2 hj')] at hu
        exact c7 (q + i) e j x u k1 hj (by rw [Nat.add_mul, Nat.add_assoc]; exact hu)
      have holds : ∀ (j : Nat) v, ((cur.toList.drop (q * m)).take (n * m))[j]? = some v → w.cell? ((⟨b, q * m, none⟩ : Addr).add j) = some v := by
        intro j v hj
        have hlt : j < n * m := by rw [← holen]; exact (List.getElem?_eq_some_iff.1 hj).1
        rw [hget j hlt] at hj
        rw [add_add', cell_at c1]
        exact hj
      have hr := run_append_grow (P := cx.P) w t ty te ti z htu i1 i4 ⟨b, q * m, none⟩ n n ((cur.toList.drop (q * m)).take (n * m)) (by rw [him]; exact holen) holds ua ys.length uc news hnl' hnc (by omega) (by rw [hmx] at hsz; omega) (growslice_fits (by omega) (by rw [i3]; exact hb))
      obtain ⟨h1, h2⟩ := hnew ((cur.toList.drop (q * m)).take (n * m)) news (grownCap w (n + ys.length) n te) holen hnl (grownCap_ge _ _ _ _) (grownCap_le_maxLen _ _ _ _ hsz) hxl hyl hod hnd
      exact ⟨_, _, grownCap w (n + ys.length) n te, upd μ nx w.heap.size, hr, grownCap_ge w _ _ _, h1, h2⟩

/-- APPEND to a row that has no room more. -/
theorem AWP.append_new (e : Env cx P fn lo) (hT : TabOk P T) {s0 sx : Operand} {t te : TypeId} {y : Ty} {id m q n C C0 : Nat} {xs ys : List (List SV)} {fz : Bool} {vx : SV} (hd : Nat.blt d fn.ntmps = true) (h1 : opd ⟨tm, hp, nx⟩ s0 = some (.own id m q n C)) (h2 : opd ⟨tm, hp, nx⟩ sx = some vx)
    (hrow : aget id hp = some (.row te fz m xs C0)) (ht : tySl T t = some (te, m)) (hy : aget te T = some y)
    (hsrc : Src hp vx m ys) (hC : C = q + n) (hn : q + n ≤ xs.length) (hne : 0 < ys.length) (hb : (n + ys.length) * y.bytes ≤ 140737488355328) (hsz : n + ys.length ≤ 9223372036854775807)
    (g : ∀ C2, n + ys.length ≤ C2 → AWP cx (.ops all rest :: k) ⟨(d, .own nx m 0 (n + ys.length) C2) :: tm, (nx, .row te false m ((xs.drop q).take n ++ ys) C2) :: hp, Nat.succ nx⟩) :
    AWP cx (.ops all (⟨some d, .call ⟨.builtin .append, #[s0, sx], #[t, t]⟩, ty, pos, after, none⟩ :: rest) :: k) ⟨tm, hp, nx⟩ := by
  obtain ⟨rfl, rfl, _⟩ := e
  subst hC
  refine AWP.op rfl fun a w hi => ?_
  obtain ⟨μ, ok, hI⟩ := hi.one
  obtain ⟨v', w', C2, μ', r1, r2, r3, r4⟩ := Sy.append_new hT hI ty (opd_den hI.tmps h1) hrow hn (opd_den hI.tmps h2) hsrc hne ht hy hb hsz
  have hrun : (execOp a.eval ⟨some d, .call ⟨.builtin .append, #[s0, sx], #[t, t]⟩, ty, pos, after, none⟩).run cx.P w = .ok (.value v') w' := by
    simp only [execOp, resolve, invoke, builtin, Sem.run_bind, Sem.run_pure, Result.andThen_ok, List.map_toArray, List.map_cons, List.map_nil, r1]
  rw [hrun, Oper.upon_value]
  exact g C2 r2 _ _ (r3.put (Nat.le_of_ble_eq_true hd) r4).inv

end
end Go.Sy
