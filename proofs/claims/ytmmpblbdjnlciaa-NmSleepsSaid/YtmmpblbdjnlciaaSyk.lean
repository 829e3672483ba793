/-
  SYMBOLIC STATES, over any program, part 20: indexing of arrays; structs compared.
-/
import Derived.Test.YtmmpblbdjnlciaaSyj
import Derived.ChangeKeysEq
namespace Go.Sy
open Go.RowKit

section
variable {cx : Cx} {P : Program} {fn : Func} {lo : Nat} {T : Tab} {k : List It} {tm : List (Nat × SV)} {hp : List (Nat × Blk)} {nx : Nat} {all : Array Oper} {rest : List Oper} {d : Nat} {ty : TypeId} {pos : String} {after : Array Edge}
variable {μ : Nat → Option Nat} {ok : Nat → Prop} {w : World}

def tyArr (T : Tab) (t : TypeId) : Option (Nat × TypeId) :=
  match aget t T with
  | some ⟨.arr n e, _, _, _⟩ => some (n, e)
  | _ => none

theorem tyArr_ok (hT : TabOk P T) {t e : TypeId} {n : Nat} (h : tyArr T t = some (n, e)) : P.underlying t = some (.array n e) := by
  unfold tyArr at h
  split at h
  · rename_i ht
    cases h
    exact (hT _ _ ht).td
  · cases h

/-- An element of an array by value. -/
theorem AWP.idx_agg (e : Env cx P fn lo) (hT : TabOk P T) {t te : TypeId} {x ix : Operand} {len : Nat} {kk : IntKind} {i : Int} {cs : List SV} {y : Ty} {v : SV} (hd : Nat.blt d fn.ntmps = true) (h1 : opd ⟨tm, hp, nx⟩ x = some (.agg cs)) (h2 : opd ⟨tm, hp, nx⟩ ix = some (.d (.v (.int kk i))))
    (h3 : tyArr T t = some (len, te)) (hy : aget te T = some y) (n : Nat) (hi : i = n) (hn : n < len) (hv : part1 y.td.agg y.size (n * y.size) cs = .val v True) (g : AWP cx (.ops all rest :: k) ⟨(d, v) :: tm, hp, nx⟩) :
    AWP cx (.ops all (⟨some d, .index t x ix, ty, pos, after, none⟩ :: rest) :: k) ⟨tm, hp, nx⟩ := by
  refine AWP.op_run e (Nat.le_of_ble_eq_true hd) (fun μ ok a w hI => ?_) g
  have hx := opd_den hI.tmps h1
  have hix := (opd_den hI.tmps h2).int
  subst hi
  generalize hvx : a.eval x = u at hx
  cases hx with | agg vs q1 q2 =>
  have := part1_ok (hT _ _ hy) (w := w) ⟨q1, q2⟩ (n * y.size)
  rw [hv] at this
  obtain ⟨r, r1, r2⟩ := this trivial
  refine ⟨r, ?_, r2⟩
  simp only [execOp, hvx, hix, Instr.index, asIntOf, Sem.run_bind, Sem.run_pure, Result.andThen_ok, run_underlying (tyArr_ok hT h3)]
  rw [if_pos ⟨by omega, by omega⟩]
  simp only [Sem.run_bind, (hT _ _ hy).sizeOf, Result.andThen_ok, Int.toNat_natCast, r1]

theorem VStep.idx_agg (e : Env cx P fn lo) (hT : TabOk P T) {t te : TypeId} {x ix : Operand} {len : Nat} {kk : IntKind} {i : Int} {cs : List SV} {y : Ty} {v : SV} (hd : Nat.blt d fn.ntmps = true) (h1 : opd ⟨tm, hp, nx⟩ x = some (.agg cs)) (h2 : opd ⟨tm, hp, nx⟩ ix = some (.d (.v (.int kk i))))
    (h3 : tyArr T t = some (len, te)) (hy : aget te T = some y) (n : Nat) (hi : i = n) (hn : n < len) (hv : part1 y.td.agg y.size (n * y.size) cs = .val v True) : VStep cx all hp nx ⟨some d, .index t x ix, ty, pos, after, none⟩ tm d v := by
  intro tm' k ha g
  exact AWP.idx_agg e hT hd ((opd_eq fun u hu => ha u (looks_ops (by simp [Op.operands]) hu)).trans h1) ((opd_eq fun u hu => ha u (looks_ops (by simp [Op.operands]) hu)).trans h2) h3 hy n hi hn hv g

theorem run_indexAt_arr (hT : TabOk P T) {t te : TypeId} {len : Nat} {y : Ty} (h3 : tyArr T t = some (len, te)) (hy : aget te T = some y) (a : Addr) (kk : IntKind) (n : Nat) (hn : n < len) :
    (Instr.indexAt t (.pointer (some a)) (.int kk n)).run P w = .ok (.pointer (some (a.add (n * y.size)))) w := by
  simp only [Instr.indexAt, asIntOf, Sem.run_bind, Sem.run_pure, Result.andThen_ok, run_underlying (tyArr_ok hT h3), Instr.sureAddr]
  rw [if_pos ⟨by omega, by omega⟩]
  simp only [Sem.run_bind, (hT _ _ hy).sizeOf, Result.andThen_ok, Int.toNat_natCast, Sem.run_pure]

/-- An element of an array in a variable. -/
theorem AWP.idx_ptr (e : Env cx P fn lo) (hT : TabOk P T) {t te : TypeId} {x ix : Operand} {len : Nat} {kk : IntKind} {i : Int} {id j : Nat} {y : Ty} (hd : Nat.blt d fn.ntmps = true) (h1 : opd ⟨tm, hp, nx⟩ x = some (.ptr id j)) (h2 : opd ⟨tm, hp, nx⟩ ix = some (.d (.v (.int kk i))))
    (h3 : tyArr T t = some (len, te)) (hy : aget te T = some y) (n : Nat) (hi : i = n) (hn : n < len) (g : AWP cx (.ops all rest :: k) ⟨(d, .ptr id (j + n * y.size)) :: tm, hp, nx⟩) :
    AWP cx (.ops all (⟨some d, .indexAddr t x ix, ty, pos, after, none⟩ :: rest) :: k) ⟨tm, hp, nx⟩ := by
  refine AWP.op_run e (Nat.le_of_ble_eq_true hd) (fun μ ok a w hI => ?_) g
  have hx := opd_den hI.tmps h1
  have hix := (opd_den hI.tmps h2).int
  subst hi
  generalize hvx : a.eval x = u at hx
  cases hx with | ptr hb =>
  refine ⟨_, ?_, .ptr hb⟩
  simp only [execOp, hvx, hix, Sem.run_bind, run_indexAt_arr hT h3 hy _ kk n hn, Result.andThen_ok, Sem.run_pure, add_add']

theorem VStep.idx_ptr (e : Env cx P fn lo) (hT : TabOk P T) {t te : TypeId} {x ix : Operand} {len : Nat} {kk : IntKind} {i : Int} {id j : Nat} {y : Ty} (hd : Nat.blt d fn.ntmps = true) (h1 : opd ⟨tm, hp, nx⟩ x = some (.ptr id j)) (h2 : opd ⟨tm, hp, nx⟩ ix = some (.d (.v (.int kk i))))
    (h3 : tyArr T t = some (len, te)) (hy : aget te T = some y) (n : Nat) (hi : i = n) (hn : n < len) : VStep cx all hp nx ⟨some d, .indexAddr t x ix, ty, pos, after, none⟩ tm d (.ptr id (j + n * y.size)) := by
  intro tm' k ha g
  exact AWP.idx_ptr e hT hd ((opd_eq fun u hu => ha u (looks_ops (by simp [Op.operands]) hu)).trans h1) ((opd_eq fun u hu => ha u (looks_ops (by simp [Op.operands]) hu)).trans h2) h3 hy n hi hn g

/-! ### Structs compared -/
def eqChk (P : Program) : Nat → TypeId → Bool
  | 0, _ => false
  | n + 1, t => match P.underlying t with
    | some .bool | some (.int _) | some .string => true
    | some (.struct F) => !P.stoodInHeld t && F.toList.all fun f => (f.name != "_") && eqChk P n f.type
    | some (.array _ e) => eqChk P n e
    | _ => false

theorem eqCells_append : ∀ {a c b e : List SV} {β : Bool}, a.length = c.length → eqCells (a ++ b) (c ++ e) = some β → ∃ β1 β2, eqCells a c = some β1 ∧ eqCells b e = some β2 ∧ β = (β1 && β2)
  | [], [], b, e, β, _, h => ⟨true, β, rfl, h, by simp⟩
  | x :: a, y :: c, b, e, β, hl, h => by
    simp only [List.cons_append, eqCells] at h
    split at h
    · rename_i u v hu hv
      cases h
      obtain ⟨γ1, γ2, g1, g2, rfl⟩ := eqCells_append (by simpa using hl) hv
      exact ⟨u && γ1, γ2, by simp only [eqCells, hu, g1], g2, by rw [Bool.and_assoc]⟩
    · cases h

/-- What kinds of plain cells a type has. -/
def lv (T : Tab) : Nat → TypeId → List TD
  | 0, _ => []
  | n + 1, t => match aget t T with
    | some y => match y.td with
      | .struct fs => (fs.map fun f => lv T n f.1).flatten
      | .arr m e => (List.replicate m (lv T n e)).flatten
      | td => [td]
    | none => []

def lf : TD → SV → Bool
  | .int k, .d (.v (.int k' _)) => Nat.beq (kn k) (kn k')
  | .bool, .d (.v (.bool _)) => true
  | .str, .d (.v (.string _)) => true
  | _, _ => false

theorem lf_int {q : IntKind} {x : SV} (h : lf (.int q) x = true) : ∃ a, x = .d (.v (.int q a)) := by
  unfold lf at h
  split at h
  · rename_i k k' a hx
    cases hx
    exact ⟨a, by rw [kn_inj h]⟩
  · rename_i hx; cases hx
  · rename_i hx; cases hx
  · cases h

theorem lf_bool {x : SV} (h : lf .bool x = true) : ∃ a, x = .d (.v (.bool a)) := by
  unfold lf at h
  split at h
  · rename_i hx; cases hx
  · rename_i a hx; exact ⟨a, rfl⟩
  · rename_i hx; cases hx
  · cases h

theorem lf_str {x : SV} (h : lf .str x = true) : ∃ a, x = .d (.v (.string a)) := by
  unfold lf at h
  split at h
  · rename_i hx; cases hx
  · rename_i hx; cases hx
  · rename_i a hx; exact ⟨a, rfl⟩
  · cases h

def lvOk : List TD → List SV → Bool
  | [], [] => true
  | a :: l, x :: m => lf a x && lvOk l m
  | _, _ => false

theorem lvOk_append : ∀ {a b : List TD} {c e : List SV}, a.length = c.length → lvOk (a ++ b) (c ++ e) = true → lvOk a c = true ∧ lvOk b e = true
  | [], b, [], e, _, h => ⟨rfl, h⟩
  | x :: a, b, y :: c, e, hl, h => by
    simp only [List.cons_append, lvOk, Bool.and_eq_true] at h ⊢
    obtain ⟨h1, h2⟩ := lvOk_append (by simpa using hl) h.2
    exact ⟨⟨h.1, h1⟩, h2⟩

theorem contig_len {Q : TypeId → List TD} : ∀ (fs : List (TypeId × Nat)) (o z : Nat), contig T o fs = some z → (∀ f ∈ fs, (Q f.1).length = tyz T f.1) → o + ((fs.map fun f => Q f.1).flatten).length = z
  | [], o, z, h, _ => by simp only [contig, Option.some.injEq] at h; simpa using h
  | (t, off) :: fs, o, z, h, hq => by
    simp only [contig] at h
    by_cases e : o = off
    · subst e
      simp only [Nat.beq_refl, cond_true] at h
      have := contig_len (Q := Q) fs _ z h fun f hf => hq f (by simp [hf])
      have h1 := hq (t, o) (by simp)
      simp only [List.map_cons, List.flatten_cons, List.length_append] at this ⊢
      simp only at h1
      omega
    · rw [beq_ne e] at h; cases h

theorem len_flat_rep {α : Type} (m : Nat) (l : List α) : ((List.replicate m l).flatten).length = m * l.length := by
  induction m with
  | zero => simp
  | succ m ih => rw [List.replicate_succ, List.flatten_cons, List.length_append, ih, Nat.succ_mul, Nat.add_comm]

theorem lv_len (hT : TabOk P T) : ∀ (n : Nat) (t : TypeId), argTy T n t = true → eqChk P n t = true → (lv T n t).length = tyz T t
  | 0, _, h, _ => by cases h
  | n + 1, t, ha, hq => by
    simp only [argTy] at ha
    simp only [eqChk] at hq
    unfold tyz
    cases ht : aget t T with
    | none => rw [ht] at ha; cases ha
    | some y =>
      rw [ht] at ha
      simp only at ha
      have hty := hT _ _ ht
      have htd := hty.td
      cases e : y.td <;> rw [e] at ha htd <;> simp only at ha htd
      case struct fs =>
        obtain ⟨F, hF, hm, _⟩ := htd
        rw [hF] at hq
        simp only [Bool.and_eq_true, List.all_eq_true] at hq ha
        cases hc : contig T 0 fs with
        | none => rw [hc] at ha; cases ha.1
        | some z =>
          rw [hc] at ha
          have := contig_len (Q := lv T n) fs 0 z hc fun f hf => by
            have hf' := hf
            rw [← hm] at hf'
            obtain ⟨f0, h1, h2⟩ := List.mem_map.1 hf'
            have := (hq.2 f0 h1).2
            rw [← h2]
            exact lv_len hT n _ (by have := ha.2 f hf; rw [← h2] at this; exact this) this
          have hz : z = y.size := Nat.eq_of_beq_eq_true ha.1
          simp only [lv, ht, e]
          omega
      case arr m el =>
        rw [htd] at hq
        simp only [Bool.and_eq_true] at hq ha
        simp only [lv, ht, e]
        rw [len_flat_rep, lv_len hT n el ha.2 hq, Nat.eq_of_beq_eq_true ha.1]
      all_goals first
        | (cases ha; done)
        | (simp only [lv, ht, e]; exact (hty.one (by rw [e]; rfl)).symm)
        | (rw [htd] at hq; cases hq; done)

/-- The value of a type whose cells are known. -/
def TV (P : Program) (T : Tab) (μ : Nat → Option Nat) (ok : Nat → Prop) (w : World) (t : TypeId) (xs : List SV) (u : Value) : Prop :=
  xs.length = tyz T t ∧ ((∃ y, aget t T = some y ∧ y.td.agg = true ∧ ∃ cs, u = .agg cs ∧ Cells μ ok w xs cs) ∨ (∃ y x, aget t T = some y ∧ y.td.agg = false ∧ xs = [x] ∧ Den μ ok w x u))

theorem TV.part (hT : TabOk P T) {f : TypeId} {y : Ty} (hy : aget f T = some y) (hone : y.td.agg = false → y.size = 1) {cs : List SV} {vs : Array Value} (h : Cells μ ok w cs vs) (off : Nat) (hl : off + y.size ≤ cs.length) :
    ∃ u, (Go.part f vs off).run P w = .ok u w ∧ TV P T μ ok w f ((cs.drop off).take y.size) u := by
  have hz : tyz T f = y.size := by unfold tyz; rw [hy]
  have hlen : ((cs.drop off).take y.size).length = y.size := by simp; omega
  rcases part1_spec y.td.agg y.size off cs with q | ⟨e1, e2, q⟩ | ⟨e1, x, e2, q⟩
  · exfalso
    cases hg : y.td.agg with
    | true =>
      rw [hg] at q
      unfold part1 at q
      simp only [dropK_eq, takeK_eq, dk, tk] at q
      rw [if_pos (by omega)] at q
      simp only at q
      rw [if_pos (by simp; omega)] at q
      cases q
    | false =>
      rw [hg] at q
      have h1 := hone hg
      unfold part1 at q
      simp only [nth_eq] at q
      rw [List.getElem?_eq_getElem (by omega)] at q
      cases q
  · have h0 := part1_ok (hT _ _ hy) h off
    rw [q] at h0
    obtain ⟨u, h1, h2⟩ := h0 trivial
    cases h2 with | agg vs' g1 g2 =>
    exact ⟨_, h1, by rw [hz]; exact hlen, .inl ⟨y, hy, e1, vs', rfl, g1, g2⟩⟩
  · have h0 := part1_ok (hT _ _ hy) h off
    rw [q] at h0
    obtain ⟨u, h1, h2⟩ := h0 trivial
    have h3 := hone e1
    refine ⟨u, h1, by rw [hz]; exact hlen, .inr ⟨y, x, hy, e1, ?_, h2⟩⟩
    rw [h3, List.take_one, List.head?_drop, e2]
    rfl

theorem eq_fields (hT : TabOk P T) {n d : Nat} (ih : ∀ t xs ys u v β, argTy T n t = true → eqChk P n t = true → lvOk (lv T n t) xs = true → lvOk (lv T n t) ys = true → eqCells xs ys = some β → TV P T μ ok w t xs u → TV P T μ ok w t ys v → (Op.equalIn d t u v).run P w = .ok β w) {cs es : List SV} {vs us : Array Value} (hc : Cells μ ok w cs vs) (he : Cells μ ok w es us) :
    ∀ (fs : List Field) (o z : Nat) (β : Bool), contig T o (fs.map fun f => (f.type, f.offset)) = some z → z ≤ cs.length → cs.length = es.length → (fs.all fun f => (f.name != "_") && eqChk P n f.type) = true → (fs.all fun f => argTy T n f.type) = true →
      o ≤ z ∧ (lvOk ((fs.map fun f => lv T n f.type).flatten) ((cs.drop o).take (z - o)) = true → lvOk ((fs.map fun f => lv T n f.type).flatten) ((es.drop o).take (z - o)) = true → eqCells ((cs.drop o).take (z - o)) ((es.drop o).take (z - o)) = some β → (Op.eqFields d vs us fs).run P w = .ok β w)
  | [], o, z, β, hct, _, _, _, _ => by
    simp only [List.map_nil, contig, Option.some.injEq] at hct
    subst hct
    refine ⟨Nat.le_refl _, fun _ _ h => ?_⟩
    simp [eqCells] at h
    subst h
    rfl
  | f :: fs, o, z, β, hct, hz, hl, hq, ha => by
    simp only [List.map_cons, contig] at hct
    by_cases e : o = f.offset
    · subst e
      simp only [Nat.beq_refl, cond_true] at hct
      simp only [List.all_cons, Bool.and_eq_true] at hq ha
      obtain ⟨⟨q1, q2⟩, q3⟩ := hq
      obtain ⟨h1, _⟩ := eq_fields hT ih hc he fs (f.offset + tyz T f.type) z β hct hz hl q3 ha.2
      refine ⟨by omega, fun hk1 hk2 hβ => ?_⟩
      have sp : ∀ (l : List SV), (l.drop f.offset).take (z - f.offset) = (l.drop f.offset).take (tyz T f.type) ++ (l.drop (f.offset + tyz T f.type)).take (z - (f.offset + tyz T f.type)) := by
        intro l
        rw [← List.drop_drop, ← List.take_add]
        congr 1
        omega
      have hlv := lv_len hT n f.type ha.1 q2
      rw [sp] at hk1 hk2
      rw [sp, sp] at hβ
      rw [List.map_cons, List.flatten_cons] at hk1 hk2
      obtain ⟨k1, k1'⟩ := lvOk_append (by rw [hlv]; simp; omega) hk1
      obtain ⟨k2, k2'⟩ := lvOk_append (by rw [hlv]; simp; omega) hk2
      obtain ⟨β1, β2, b1, b2, rfl⟩ := eqCells_append (by simp; omega) hβ
      cases hy : aget f.type T with
      | none => cases n with
        | zero => cases ha.1
        | succ n => simp only [argTy, hy] at ha; cases ha.1
      | some y =>
        have hzf : tyz T f.type = y.size := by unfold tyz; rw [hy]
        obtain ⟨u, p1, p2⟩ := TV.part hT hy (hT _ _ hy).one hc f.offset (by omega)
        obtain ⟨v, p3, p4⟩ := TV.part hT hy (hT _ _ hy).one he f.offset (by omega)
        rw [hzf] at b1 k1 k2
        have r1 := ih f.type _ _ u v β1 ha.1 q2 k1 k2 b1 p2 p4
        have hne : f.name ≠ "_" := by simpa using q1
        simp only [Op.eqFields, if_pos hne, Sem.run_bind, p1, p3, r1, Result.andThen_ok]
        cases β1
        · simp
        · simp only [Bool.not_true, Bool.false_eq_true, if_false, Bool.true_and]
          exact (eq_fields hT ih hc he fs (f.offset + tyz T f.type) z β2 hct hz hl q3 ha.2).2 k1' k2' b2
    · rw [beq_ne e] at hct
      cases hct

/-- An array's elements, one behind the other. -/
theorem eq_items (hT : TabOk P T) {n d : Nat} {el : TypeId} {y : Ty} (hy : aget el T = some y) (ih : ∀ xs ys u v β, lvOk (lv T n el) xs = true → lvOk (lv T n el) ys = true → eqCells xs ys = some β → TV P T μ ok w el xs u → TV P T μ ok w el ys v → (Op.equalIn d el u v).run P w = .ok β w)
    (hlv : (lv T n el).length = y.size) (hcz : P.cellsOf el = y.size) {cs es : List SV} {vs us : Array Value} (hc : Cells μ ok w cs vs) (he : Cells μ ok w es us) (hl : cs.length = es.length) :
    ∀ (m i : Nat) (β : Bool), (i + m) * y.size ≤ cs.length → lvOk ((List.replicate m (lv T n el)).flatten) ((cs.drop (i * y.size)).take (m * y.size)) = true → lvOk ((List.replicate m (lv T n el)).flatten) ((es.drop (i * y.size)).take (m * y.size)) = true →
      eqCells ((cs.drop (i * y.size)).take (m * y.size)) ((es.drop (i * y.size)).take (m * y.size)) = some β → (Op.eqItems d el (P.cellsOf el) vs us (List.range' i m)).run P w = .ok β w
  | 0, i, β, _, _, _, h => by
    simp [eqCells] at h
    subst h
    rfl
  | m + 1, i, β, hz, hk1, hk2, hβ => by
    have hz' : (i + 1 + m) * y.size ≤ cs.length := by rw [show i + 1 + m = i + (m + 1) by omega]; exact hz
    have hm : (m + 1) * y.size = y.size + m * y.size := by rw [Nat.succ_mul, Nat.add_comm]
    have hi : (i + 1) * y.size = i * y.size + y.size := Nat.succ_mul _ _
    have hz2 : i * y.size + (y.size + m * y.size) ≤ cs.length := by rw [← hm, ← Nat.add_mul]; exact hz
    have sp : ∀ (l : List SV), (l.drop (i * y.size)).take ((m + 1) * y.size) = (l.drop (i * y.size)).take y.size ++ (l.drop ((i + 1) * y.size)).take (m * y.size) := by
      intro l
      rw [hi, ← List.drop_drop, ← List.take_add, hm]
    rw [sp] at hk1 hk2
    rw [sp, sp] at hβ
    rw [List.replicate_succ, List.flatten_cons] at hk1 hk2
    obtain ⟨k1, k1'⟩ := lvOk_append (by rw [hlv]; simp; omega) hk1
    obtain ⟨k2, k2'⟩ := lvOk_append (by rw [hlv]; simp; omega) hk2
    obtain ⟨β1, β2, b1, b2, rfl⟩ := eqCells_append (by simp; omega) hβ
    obtain ⟨u, p1, p2⟩ := TV.part hT hy (hT _ _ hy).one hc (i * y.size) (by omega)
    obtain ⟨v, p3, p4⟩ := TV.part hT hy (hT _ _ hy).one he (i * y.size) (by omega)
    have r1 := ih _ _ u v β1 k1 k2 b1 p2 p4
    rw [List.range'_succ]
    simp only [Op.eqItems, hcz, Sem.run_bind, p1, p3, r1, Result.andThen_ok]
    cases β1
    · simp
    · simp only [Bool.not_true, Bool.false_eq_true, if_false, Bool.true_and]
      have := eq_items hT hy ih hlv hcz hc he hl m (i + 1) β2 hz' k1' k2' b2
      rw [hcz] at this
      exact this

theorem eq_run (hT : TabOk P T) : ∀ (n : Nat) (t : TypeId) (xs ys : List SV) (u v : Value) (β : Bool) (d : Nat), n ≤ d → argTy T n t = true → eqChk P n t = true → lvOk (lv T n t) xs = true → lvOk (lv T n t) ys = true → eqCells xs ys = some β → TV P T μ ok w t xs u → TV P T μ ok w t ys v →
    (Op.equalIn d t u v).run P w = .ok β w
  | 0, t, xs, ys, u, v, β, d, _, ha, _, _, _, _, _, _ => by cases ha
  | n + 1, t, xs, ys, u, v, β, d, hd, ha, hq, hk1, hk2, hβ, hu, hv => by
    obtain ⟨d, rfl⟩ : ∃ d', d = d' + 1 := ⟨d - 1, by omega⟩
    have ha0 := ha
    simp only [argTy] at ha
    simp only [eqChk] at hq
    cases ht : aget t T with
    | none => rw [ht] at ha; cases ha
    | some y =>
      rw [ht] at ha
      simp only at ha
      have htd := (hT _ _ ht).td
      obtain ⟨hxl, hu⟩ := hu
      obtain ⟨hyl, hv⟩ := hv
      have hz : tyz T t = y.size := by unfold tyz; rw [ht]
      have scal : y.td.agg = false → ∃ x x', xs = [x] ∧ ys = [x'] ∧ Den μ ok w x u ∧ Den μ ok w x' v ∧ eq1 x x' = some β := by
        intro hg
        obtain ⟨y', h1, h2, _⟩ | ⟨_, x, _, _, rfl, hx⟩ := hu
        · rw [ht] at h1; cases h1; rw [hg] at h2; cases h2
        obtain ⟨y', h1, h2, _⟩ | ⟨_, x', _, _, rfl, hx'⟩ := hv
        · rw [ht] at h1; cases h1; rw [hg] at h2; cases h2
        refine ⟨x, x', rfl, rfl, hx, hx', ?_⟩
        simp only [eqCells] at hβ
        split at hβ
        · rename_i a b ha hb
          cases hb
          simp at hβ
          rw [ha, hβ]
        · cases hβ
      cases e : y.td <;> rw [e] at ha htd <;> simp only at ha htd <;> simp only [lv, ht, e] at hk1 hk2
      case int q =>
        obtain ⟨x, x', rfl, rfl, hx, hx', he⟩ := scal (by rw [e]; rfl)
        simp only [lvOk, Bool.and_true] at hk1 hk2
        obtain ⟨a, rfl⟩ := lf_int hk1
        obtain ⟨b, rfl⟩ := lf_int hk2
        simp only [eq1, Nat.beq_refl, cond_true, Option.some.injEq] at he
        rw [hx.int, hx'.int, ← he]
        exact run_equalIn_int w d t _ q _ _ htd
      case bool =>
        obtain ⟨x, x', rfl, rfl, hx, hx', he⟩ := scal (by rw [e]; rfl)
        simp only [lvOk, Bool.and_true] at hk1 hk2
        obtain ⟨a, rfl⟩ := lf_bool hk1
        obtain ⟨b, rfl⟩ := lf_bool hk2
        simp only [eq1, Option.some.injEq] at he
        rw [hx.vv, hx'.vv, ← he]
        exact run_equalIn_bool' w d t _ _ htd
      case str =>
        obtain ⟨x, x', rfl, rfl, hx, hx', he⟩ := scal (by rw [e]; rfl)
        simp only [lvOk, Bool.and_true] at hk1 hk2
        obtain ⟨a, rfl⟩ := lf_str hk1
        obtain ⟨b, rfl⟩ := lf_str hk2
        simp only [eq1, Option.some.injEq] at he
        rw [hx.vv, hx'.vv, ← he]
        exact run_equalIn_string w d t _ _ htd
      case struct fs =>
        obtain ⟨F, hF, hm, _⟩ := htd
        rw [hF] at hq
        simp only [Bool.and_eq_true] at hq ha
        obtain ⟨y', _, _, cu, rfl, hcu⟩ | ⟨y', x, h1, h2, _⟩ := hu
        rotate_left
        · rw [ht] at h1; cases h1; rw [e] at h2; cases h2
        obtain ⟨y', _, _, cv, rfl, hcv⟩ | ⟨y', x, h1, h2, _⟩ := hv
        rotate_left
        · rw [ht] at h1; cases h1; rw [e] at h2; cases h2
        have hfo : P.fieldsOf t = F := by simp [Program.fieldsOf, hF]
        rw [run_equalIn_struct w d t cu cv (by rw [hfo]; exact hF) (by simpa using hq.1), hfo]
        cases hc : contig T 0 fs with
        | none => rw [hc] at ha; cases ha.1
        | some z =>
          rw [hc] at ha
          have hzz : z = y.size := Nat.eq_of_beq_eq_true ha.1
          have hc' : contig T 0 (F.toList.map fun f => (f.type, f.offset)) = some z := by rw [hm]; exact hc
          have hmm : (fs.map fun f => lv T n f.1) = F.toList.map fun f => lv T n f.type := by rw [← hm, List.map_map]; rfl
          rw [hmm] at hk1 hk2
          have := eq_fields hT (n := n) (d := d) (fun t xs ys u v β a1 a2 a3 a4 a5 a6 a7 => eq_run hT n t xs ys u v β d (by omega) a1 a2 a3 a4 a5 a6 a7) hcu hcv F.toList 0 z β hc' (by omega) (by omega) hq.2 (by
            rw [List.all_eq_true] at ha ⊢
            intro f hf
            exact ha.2 (f.type, f.offset) (by rw [← hm]; exact List.mem_map.2 ⟨f, hf, rfl⟩))
          rw [List.drop_zero, List.drop_zero, Nat.sub_zero, List.take_of_length_le (by omega), List.take_of_length_le (by omega)] at this
          exact this.2 hk1 hk2 hβ
      case arr m el =>
        rw [htd] at hq
        simp only [Bool.and_eq_true] at hq ha
        obtain ⟨y', _, _, cu, rfl, hcu⟩ | ⟨y', x, h1, h2, _⟩ := hu
        rotate_left
        · rw [ht] at h1; cases h1; rw [e] at h2; cases h2
        obtain ⟨y', _, _, cv, rfl, hcv⟩ | ⟨y', x, h1, h2, _⟩ := hv
        rotate_left
        · rw [ht] at h1; cases h1; rw [e] at h2; cases h2
        have hsz : y.size = m * tyz T el := Nat.eq_of_beq_eq_true ha.1
        cases hy : aget el T with
        | none => cases n with
          | zero => cases ha.2
          | succ n => have h2 := ha.2; simp only [argTy, hy] at h2; cases h2
        | some ye =>
          have hze : tyz T el = ye.size := by unfold tyz; rw [hy]
          obtain ⟨ti, _, hti, _⟩ := (hT _ _ hy).info
          rw [run_equalIn_array w d cu cv htd hti, List.range_eq_range']
          refine eq_items hT hy (fun xs ys u v β a3 a4 a5 a6 a7 => eq_run hT n el xs ys u v β d (by omega) ha.2 hq a3 a4 a5 a6 a7) (by rw [lv_len hT n el ha.2 hq, hze]) (by rw [tyz_ok hT ha.2, hze]) hcu hcv (by omega) m 0 β ?_ ?_ ?_ ?_
          · rw [Nat.zero_add, ← hze]; omega
          all_goals (rw [Nat.zero_mul, List.drop_zero, List.take_of_length_le (by rw [← hze]; omega)])
          · exact hk1
          · exact hk2
          · rw [List.drop_zero, List.take_of_length_le (by rw [← hze]; omega)]; exact hβ
      all_goals (first | (cases ha; done) | (rw [htd] at hq; cases hq; done))

theorem AWP.eq_agg (e : Env cx P fn lo) (hT : TabOk P T) {op : BinOp} {t t' : TypeId} {x z : Operand} {cs es : List SV} {β r : Bool} {y : Ty} (hd : Nat.blt d fn.ntmps = true) (h1 : opd ⟨tm, hp, nx⟩ x = some (.agg cs)) (h2 : opd ⟨tm, hp, nx⟩ z = some (.agg es))
    (hop : op = .eql ∧ r = β ∨ op = .neq ∧ r = !β) (hg : P.eqGuardType P.depth t = false) (n : Nat) (hn : n ≤ 10000) (ha : argTy T n t = true) (hq : eqChk P n t = true) (hy : aget t T = some y) (hag : y.td.agg = true) (z1 : cs.length = y.size) (z2 : es.length = y.size)
    (l1 : lvOk (lv T n t) cs = true) (l2 : lvOk (lv T n t) es = true) (hβ : eqCells cs es = some β) (g : AWP cx (.ops all rest :: k) ⟨(d, .b r) :: tm, hp, nx⟩) :
    AWP cx (.ops all (⟨some d, .binOp op t x z t', ty, pos, after, none⟩ :: rest) :: k) ⟨tm, hp, nx⟩ := by
  refine AWP.op_run e (Nat.le_of_ble_eq_true hd) (fun μ ok a w hI => ?_) g
  have hx := opd_den hI.tmps h1
  have hz := opd_den hI.tmps h2
  refine ⟨.bool r, ?_, .d (.v _)⟩
  generalize hvx : a.eval x = u at hx
  generalize hvz : a.eval z = v at hz
  cases hx with | agg vs q1 q2 =>
  cases hz with | agg us q3 q4 =>
  have ht : tyz T t = y.size := by unfold tyz; rw [hy]
  have hr := eq_run (μ := μ) (ok := ok) (w := w) hT n t cs es (.agg vs) (.agg us) β 10000 hn ha hq l1 l2 hβ ⟨by rw [ht, z1], .inl ⟨y, hy, hag, _, rfl, q1, q2⟩⟩ ⟨by rw [ht, z2], .inl ⟨y, hy, hag, _, rfl, q3, q4⟩⟩
  obtain ⟨rfl, rfl⟩ | ⟨rfl, rfl⟩ := hop
  · simp only [execOp, hvx, hvz, Sem.run_bind, run_eqGuard_agg (hm := hg), Result.andThen_ok, run_eql_struct, hr, Sem.run_pure]
  · simp only [execOp, hvx, hvz, Sem.run_bind, run_eqGuard_agg (hm := hg), Result.andThen_ok, run_neq_struct, hr, Sem.run_pure]

theorem VStep.eq_agg (e : Env cx P fn lo) (hT : TabOk P T) {op : BinOp} {t t' : TypeId} {x z : Operand} {cs es : List SV} {β r : Bool} {y : Ty} (hd : Nat.blt d fn.ntmps = true) (h1 : opd ⟨tm, hp, nx⟩ x = some (.agg cs)) (h2 : opd ⟨tm, hp, nx⟩ z = some (.agg es))
    (hop : op = .eql ∧ r = β ∨ op = .neq ∧ r = !β) (hg : P.eqGuardType P.depth t = false) (n : Nat) (hn : n ≤ 10000) (ha : argTy T n t = true) (hq : eqChk P n t = true) (hy : aget t T = some y) (hag : y.td.agg = true) (z1 : cs.length = y.size) (z2 : es.length = y.size)
    (l1 : lvOk (lv T n t) cs = true) (l2 : lvOk (lv T n t) es = true) (hβ : eqCells cs es = some β) : VStep cx all hp nx ⟨some d, .binOp op t x z t', ty, pos, after, none⟩ tm d (.b r) := by
  intro tm' k ha' g
  exact AWP.eq_agg e hT hd ((opd_eq fun u hu => ha' u (looks_ops (by simp [Op.operands]) hu)).trans h1) ((opd_eq fun u hu => ha' u (looks_ops (by simp [Op.operands]) hu)).trans h2) hop hg n hn ha hq hy hag z1 z2 l1 l2 hβ g

end
end Go.Sy
