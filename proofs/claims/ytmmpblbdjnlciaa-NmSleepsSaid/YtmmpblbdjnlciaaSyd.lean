/-
  SYMBOLIC STATES, over any program, part 13: rows: indexing, elements, appending.
-/
import Derived.Test.YtmmpblbdjnlciaaSyc
namespace Go.Sy
open Go.RowKit

section
variable {cx : Cx} {P : Program} {fn : Func} {lo : Nat} {T : Tab} {k : List It} {s : St} {tm : List (Nat × SV)} {hp : List (Nat × Blk)} {nx : Nat}
variable {all : Array Oper} {rest : List Oper} {d : Nat} {ty : TypeId} {pos : String} {after : Array Edge}

def tySl (T : Tab) (t : TypeId) : Option (TypeId × Nat) :=
  match aget t T with
  | some ⟨.slice e, _, _, _⟩ => match aget e T with
    | some y => some (e, y.size)
    | none => none
  | _ => none

theorem tySl_ok {t e : TypeId} {n : Nat} (h : tySl T t = some (e, n)) : ∃ z y, aget t T = some z ∧ z.td = .slice e ∧ aget e T = some y ∧ y.size = n := by
  unfold tySl at h
  split at h
  · rename_i e' _ _ _ ht
    split at h
    · rename_i y hy
      cases h
      exact ⟨_, y, ht, rfl, hy, rfl⟩
    · cases h
  · cases h

theorem run_indexAt (hT : TabOk P T) {w : World} {t e : TypeId} {n : Nat} (ht : tySl T t = some (e, n)) (a : Addr) (len cap : Nat) (kk : IntKind) (i : Nat) (hi : i < len) :
    (Instr.indexAt t (.slice (some a) len cap) (.int kk i)).run P w = .ok (.pointer (some (a.add (i * n)))) w := by
  obtain ⟨z, y, h1, h2, h3, rfl⟩ := tySl_ok ht
  have hu : P.underlying t = some (.slice e) := by have := (hT _ _ h1).td; rw [h2] at this; exact this
  simp only [Instr.indexAt, asIntOf, Sem.run_bind, Sem.run_pure, Result.andThen_ok, run_underlying hu]
  rw [if_pos ⟨by omega, by omega⟩]
  simp only [Sem.run_bind, (hT _ _ h3).sizeOf, Result.andThen_ok, Sem.run_pure, Int.toNat_natCast]

/-- An element of a row that is only read. -/
theorem AWP.idx (e : Env cx P fn lo) (hT : TabOk P T) {t : TypeId} {x ix : Operand} {te : TypeId} {kk : IntKind} {i : Int} {m : Nat} {xs : List (List DV)} (hd : Nat.blt d fn.ntmps = true) (h1 : opd ⟨tm, hp, nx⟩ x = some (.d (.sl m xs))) (h2 : opd ⟨tm, hp, nx⟩ ix = some (.d (.v (.int kk i))))
    (h3 : tySl T t = some (te, m)) (n : Nat) (hi : i = n) {el : List DV} (he : xs[n]? = some el) (g : AWP cx (.ops all rest :: k) ⟨(d, .ip el) :: tm, hp, nx⟩) :
    AWP cx (.ops all (⟨some d, .indexAddr t x ix, ty, pos, after, none⟩ :: rest) :: k) ⟨tm, hp, nx⟩ := by
  refine AWP.op_run e (Nat.le_of_ble_eq_true hd) (fun μ ok a w hI => ?_) g
  have hx := opd_den hI.tmps h1
  have hix := (opd_den hI.tmps h2).int
  subst hi
  have hlt : n < xs.length := (List.getElem?_eq_some_iff.1 he).1
  cases hx with | d hx =>
  rcases slOf hx with ⟨rfl, _⟩ | ⟨a0, cap, hv, g1, g2, g3, g4⟩
  · simp at hlt
  · refine ⟨.pointer (some (a0.add (n * m))), ?_, .ip _ fun j c hj => ?_⟩
    · simp only [execOp, hv, hix, Sem.run_bind, run_indexAt hT h3 a0 _ cap kk n hlt, Result.andThen_ok, Sem.run_pure]
    · obtain ⟨ho, u, hu, hd⟩ := g4 n el j c he hj
      exact ⟨by rw [add_block]; exact ho, u, by rw [Addr.add_add]; exact hu, hd⟩

/-- An element of a row that is owned. -/
theorem AWP.idx_own (e : Env cx P fn lo) (hT : TabOk P T) {t : TypeId} {x ix : Operand} {te : TypeId} {kk : IntKind} {i : Int} {id m l q C : Nat} (hd : Nat.blt d fn.ntmps = true) (h1 : opd ⟨tm, hp, nx⟩ x = some (.own id m l q C)) (h2 : opd ⟨tm, hp, nx⟩ ix = some (.d (.v (.int kk i))))
    (h3 : tySl T t = some (te, m)) (n : Nat) (hi : i = n) (hn : n < q) (g : AWP cx (.ops all rest :: k) ⟨(d, .pel id m (l + n) 0) :: tm, hp, nx⟩) :
    AWP cx (.ops all (⟨some d, .indexAddr t x ix, ty, pos, after, none⟩ :: rest) :: k) ⟨tm, hp, nx⟩ := by
  refine AWP.op_run e (Nat.le_of_ble_eq_true hd) (fun μ ok a w hI => ?_) g
  have hx := opd_den hI.tmps h1
  have hix := (opd_den hI.tmps h2).int
  subst hi
  generalize hv : a.eval x = v at hx
  cases hx with
  | ownNil _ _ _ _ => omega
  | own hb g1 g2 =>
    rename_i b
    refine ⟨.pointer (some ⟨b, (l + n) * m + 0, none⟩), ?_, .pel hb⟩
    simp only [execOp, hv, hix, Sem.run_bind, run_indexAt hT h3 _ _ _ kk n hn, Result.andThen_ok, Sem.run_pure, add_add']
    simp [Nat.add_mul]

theorem row_cell {μ : Nat → Option Nat} {ok : Nat → Prop} {w : World} {b : Nat} {te : TypeId} {fz : Bool} {m C : Nat} {xs : List (List SV)} (h : DenB μ ok w b (.row te fz m xs C)) {i : Nat} {el : List SV} (he : xs[i]? = some el) {j : Nat} {x : SV} (hj : el[j]? = some x) :
    ∃ u, w.cell? ⟨b, i * m + j, none⟩ = some u ∧ Den μ ok w x u := by
  obtain ⟨c, z, h1, hf, hz, h2, h3, h4, h5⟩ := h
  have hi : i < xs.length := (List.getElem?_eq_some_iff.1 he).1
  have hjl : j < el.length := (List.getElem?_eq_some_iff.1 hj).1
  rw [h4 i el he] at hjl
  have hlt : i * m + j < c.size := by
    have : (i + 1) * m ≤ C * m := Nat.mul_le_mul_right _ (by omega)
    rw [Nat.add_mul, Nat.one_mul] at this
    omega
  exact ⟨c[i * m + j], by rw [cell_at h1]; simp [hlt], h5 i el j x _ he hj (by simp [hlt])⟩

/-- A load out of an element of a row that is owned. -/
theorem AWP.load_el (e : Env cx P fn lo) (hT : TabOk P T) {t : TypeId} {x : Operand} {y : Ty} {id m i j C : Nat} {te : TypeId} {fz : Bool} {xs : List (List SV)} {v : SV} (hd : Nat.blt d fn.ntmps = true) (h1 : opd ⟨tm, hp, nx⟩ x = some (.pel id m i j))
    (h2 : aget t T = some y) (h3 : aget id hp = some (.row te fz m xs C)) {el : List SV} (he : xs[i]? = some el) (h4 : part1 y.td.agg y.size j el = .val v True) (g : AWP cx (.ops all rest :: k) ⟨(d, v) :: tm, hp, nx⟩) :
    AWP cx (.ops all (⟨some d, .load t x, ty, pos, after, none⟩ :: rest) :: k) ⟨tm, hp, nx⟩ := by
  refine AWP.op_run e (Nat.le_of_ble_eq_true hd) (fun μ ok a w hI => ?_) g
  have hx := opd_den hI.tmps h1
  generalize hv : a.eval x = p at hx
  cases hx with | pel hb =>
  rename_i b
  obtain ⟨_, hn⟩ | ⟨b', q1, q2, hB⟩ := hI.hh id _ h3
  · rw [hn] at hb; cases hb
  rw [hb] at q1
  cases q1
  have hty := hT _ _ h2
  have hL : ∀ r, (loadVar t ⟨b, i * m + j, none⟩).run P w = r → (execOp a.eval ⟨some d, .load t x, ty, pos, after, none⟩).run P w = r.andThen fun y w => .ok (.value y) w := by
    intro r hr
    simp only [execOp, hv, Instr.loadAt, Instr.sureAddr, Sem.run_bind, Sem.run_pure, Result.andThen_ok, hr]
  rcases part1_spec y.td.agg y.size j el with q | ⟨e1, e2, q⟩ | ⟨e1, v', e2, q⟩ <;> rw [q] at h4
  · cases h4
  · cases h4
    have hcell : ∀ r, r < y.size → ∃ u, w.cell? ((⟨b, i * m + j, none⟩ : Addr).add r) = some u ∧ ∀ c, el[j + r]? = some c → Den μ ok w c u := by
      intro r hr
      obtain ⟨u, hu, hd⟩ := row_cell hB he (j := j + r) (x := el[j + r]) (by simp)
      exact ⟨u, by rw [add_add', Nat.add_assoc]; exact hu, fun c hc => by obtain ⟨_, rfl⟩ := List.getElem?_eq_some_iff.1 hc; exact hd⟩
    let vs : List Value := (List.range y.size).map fun r => (w.cell? ((⟨b, i * m + j, none⟩ : Addr).add r)).getD undef
    have hvs : ∀ (r : Nat) u, vs[r]? = some u → w.cell? ((⟨b, i * m + j, none⟩ : Addr).add r) = some u := by
      intro r u hr
      simp only [vs] at hr
      rw [List.getElem?_map] at hr
      by_cases hlt : r < y.size
      · rw [List.getElem?_range hlt] at hr
        obtain ⟨u', hu', _⟩ := hcell r hlt
        simp [hu'] at hr
        rw [hu', hr]
      · rw [List.getElem?_eq_none (by simpa using hlt)] at hr; cases hr
    refine ⟨.agg vs.toArray, by rw [hL _ (run_loadVar hty _ vs (by simp [vs]) hvs e1)]; rfl, .agg _ (by simp [vs]; omega) fun r c u hc hu => ?_⟩
    rw [List.getElem?_take] at hc
    split at hc
    · rename_i hr
      rw [List.getElem?_drop] at hc
      obtain ⟨u', hu', hd⟩ := hcell r hr
      have := hvs r u (by simpa using hu)
      rw [hu'] at this
      cases this
      exact hd c hc
    · cases hc
  · cases h4
    obtain ⟨u, hu, hd⟩ := row_cell hB he e2
    exact ⟨u, by rw [hL _ (run_loadVar1 hty _ u hu e1)]; rfl, hd⟩

/-- A store into an element of a row that is owned. -/
theorem AWP.store_el (e : Env cx P fn lo) (hT : TabOk P T) {dst : Option Nat} {t : TypeId} {x v : Operand} {y : Ty} {id m i j C : Nat} {te : TypeId} {fz : Bool} {xs : List (List SV)} {sv : SV} {vs : List SV} (hd : dstOk fn.ntmps dst = true) (h1 : opd ⟨tm, hp, nx⟩ x = some (.pel id m i j))
    (hv : opd ⟨tm, hp, nx⟩ v = some sv) (h2 : aget t T = some y) (h3 : aget id hp = some (.row te fz m xs C)) {el el' : List SV} (he : xs[i]? = some el) (hvs : cellsOf sv = some vs) (hl : Nat.beq (lenK vs) y.size = true) (ha : allCells vs = true) (h4 : laid j vs el = some el')
    (g : AWP cx (.ops all rest :: k) ⟨tput dst undefS tm, (id, .row te fz m (xs.set i el') C) :: hp, nx⟩) :
    AWP cx (.ops all (⟨dst, .store t x v, ty, pos, after, none⟩ :: rest) :: k) ⟨tm, hp, nx⟩ := by
  obtain ⟨rfl, rfl, _⟩ := e
  refine AWP.op rfl fun a w hi => ?_
  obtain ⟨μ, ok, hI⟩ := hi.one
  have hx := opd_den hI.tmps h1
  have hy := opd_den hI.tmps hv
  generalize hpv : a.eval x = p at hx
  cases hx with | pel hb =>
  rename_i b
  obtain ⟨_, hn⟩ | ⟨b', q1, q2, c, z, g1, gf, gz, g2, g3, g4, g5⟩ := hI.hh id _ h3
  · rw [hn] at hb; cases hb
  rw [hb] at q1
  cases q1
  have hc := cellsOf_ok hy hvs
  rw [lenK_eq, beq_iff] at hl
  simp only [decide_eq_true_eq] at hl
  obtain ⟨l1, l2, l3⟩ := laid_spec j vs el el' h4
  have hil : i < xs.length := (List.getElem?_eq_some_iff.1 he).1
  have hel := g4 i el he
  have hrow : (i + 1) * m ≤ C * m := Nat.mul_le_mul_right _ (by omega)
  rw [Nat.add_mul, Nat.one_mul] at hrow
  have hcsz := hc.1
  obtain ⟨w', c', r1, r2, r3, r4, r5⟩ := run_storeVar (w := w) (hT _ _ h2) (j := i * m + j) (a.eval v) g1 gz (by rw [hc.1, hl]) (by omega) (hc.one ha)
  have hw : ∀ q, ok q → w'.heap[q]? = w.heap[q]? := fun q hq => r4.other q (fun e => q2 (e ▸ hq))
  have hrun : (execOp a.eval ⟨dst, .store t x v, ty, pos, after, none⟩).run cx.P w = .ok .skip w' := by
    simp only [execOp, hpv, Instr.storeAt, Instr.sureAddr, Sem.run_bind, Sem.run_pure, Result.andThen_ok, r1]
  rw [hrun, Oper.upon_skip]
  have hB : DenB μ ok w' b (.row te fz m (xs.set i el') C) := by
    refine ⟨c', z, r2, gf, by rw [r3]; exact gz, by rw [r3]; exact g2, by simpa using g3, fun i' e' he' => ?_, fun i' e' j' x' u he' hx' hu => ?_⟩
    · rw [List.getElem?_set] at he'
      split at he'
      · cases he'; rw [l1]; exact hel
      · exact g4 i' e' he'
    · rw [List.getElem?_set] at he'
      split at he'
      · rename_i hii
        cases he'
        subst hii
        have hj' : j' < el'.length := (List.getElem?_eq_some_iff.1 hx').1
        rw [l3 j'] at hx'
        rw [r5] at hu
        by_cases a1 : j' < j
        · rw [if_pos a1] at hx'
          rw [if_pos (by omega)] at hu
          exact (g5 i el j' x' u he hx' hu).mono (fun _ _ h => h) (fun _ h => h) hw
        · rw [if_neg a1] at hx'
          by_cases a2 : j' < j + vs.length
          · rw [if_pos a2] at hx'
            rw [if_neg (by omega), if_pos (by omega)] at hu
            have e2 : i * m + j' - (i * m + j) = j' - j := by omega
            rw [e2] at hu
            exact (hc.2 _ x' u hx' hu).mono (fun _ _ h => h) (fun _ h => h) hw
          · rw [if_neg a2] at hx'
            rw [if_neg (by omega), if_neg (by omega)] at hu
            exact (g5 i el j' x' u he hx' hu).mono (fun _ _ h => h) (fun _ h => h) hw
      · rename_i hii
        have hj' : j' < e'.length := (List.getElem?_eq_some_iff.1 hx').1
        rw [g4 i' e' he'] at hj'
        rw [r5] at hu
        have hne : i' * m + j' < i * m + j ∨ i * m + j + y.size ≤ i' * m + j' := by
          rcases Nat.lt_or_gt_of_ne hii with h | h
          · right
            have : (i + 1) * m ≤ i' * m := Nat.mul_le_mul_right _ (by omega)
            rw [Nat.add_mul, Nat.one_mul] at this
            omega
          · left
            have : (i' + 1) * m ≤ i * m := Nat.mul_le_mul_right _ (by omega)
            rw [Nat.add_mul, Nat.one_mul] at this
            omega
        rcases hne with hne | hne
        · rw [if_pos hne] at hu
          exact (g5 i' e' j' x' u he' hx' hu).mono (fun _ _ h => h) (fun _ h => h) hw
        · rw [if_neg (by omega), if_neg (by omega)] at hu
          exact (g5 i' e' j' x' u he' hx' hu).mono (fun _ _ h => h) (fun _ h => h) hw
  exact g _ _ ((hI.set h3 hb r4 hB).dput (dstOk_lt hd) (.d (.v _))).inv

end
end Go.Sy
