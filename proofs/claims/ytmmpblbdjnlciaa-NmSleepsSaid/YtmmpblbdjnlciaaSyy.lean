/-
  SYMBOLIC STATES, over any program, part 34: loads and stores at a place that is told by a fact; a slot's value put in another form.
-/
import Derived.Test.YtmmpblbdjnlciaaSyx
namespace Go.Sy
open Go.RowKit
section
variable {cx : Cx} {P : Program} {fn : Func} {lo : Nat} {T : Tab} {k : List It} {tm : List (Nat × SV)} {hp : List (Nat × Blk)} {nx M : Nat} {all : Array Oper} {id : Nat} {R : Caps → List Rec}
variable {d q : Nat} {rest : List Oper} {ty : TypeId} {pos : String} {after : Array Edge}

/-- A slot's value, told in another form. -/
theorem AWP.eqT (t : Nat) {x : SV} (x' : SV) (h : aget t tm = some x) (hx : x = x') (g : AWP cx k ⟨(t, x') :: tm, hp, nx⟩) : AWP cx k ⟨tm, hp, nx⟩ :=
  AWP.weakT t h (hx ▸ Wk.refl _) g

/-- A variable's cells, told in another form. -/
theorem AWP.eqH (i : Nat) {cs : List SV} (cs' : List SV) (h : aget i hp = some (.box cs)) (hx : cs = cs') (g : AWP cx k ⟨tm, (i, .box cs') :: hp, nx⟩) : AWP cx k ⟨tm, hp, nx⟩ := by
  subst hx
  refine AWP.ext (tm2 := tm) (hp2 := (i, .box cs) :: hp) (fun _ => rfl) (fun j => ?_) g
  rw [aget_cons]
  by_cases e : j = i
  · rw [if_pos e, e, h]
  · rw [if_neg e]

theorem part1_one {cs : List SV} {j : Nat} {v : SV} (h : cs[j]? = some v) : part1 false 1 j cs = .val v True := by
  unfold part1
  rw [nth_eq, h]

/-- An element of an array in a variable, at a place that no number tells. -/
theorem AWP.idx_pel (e : Env cx P fn lo) (hT : TabOk P T) {t te : TypeId} {x ix : Operand} {len : Nat} {kk : IntKind} {i : Int} {id j : Nat} {y : Ty} (hd : Nat.blt d fn.ntmps = true) (h1 : opd ⟨tm, hp, nx⟩ x = some (.ptr id j)) (h2 : opd ⟨tm, hp, nx⟩ ix = some (.d (.v (.int kk i))))
    (h3 : tyArr T t = some (len, te)) (hy : aget te T = some y) (n : Nat) (hi : i = n) (hn : n < len) (g : AWP cx (.ops all rest :: k) ⟨(d, .pel id y.size n j) :: tm, hp, nx⟩) :
    AWP cx (.ops all (⟨some d, .indexAddr t x ix, ty, pos, after, none⟩ :: rest) :: k) ⟨tm, hp, nx⟩ := by
  refine AWP.op_run e (Nat.le_of_ble_eq_true hd) (fun μ ok a w hI => ?_) g
  have hx := opd_den hI.tmps h1
  have hix := (opd_den hI.tmps h2).int
  subst hi
  generalize hvx : a.eval x = u at hx
  cases hx with | ptr hb =>
  refine ⟨_, ?_, .pel hb⟩
  simp only [execOp, hvx, hix, Sem.run_bind, run_indexAt_arr hT h3 hy _ kk n hn, Result.andThen_ok, Sem.run_pure, add_add', Nat.add_comm]

theorem VStep.idx_pel (e : Env cx P fn lo) (hT : TabOk P T) {t te : TypeId} {x ix : Operand} {len : Nat} {kk : IntKind} {i : Int} {id j : Nat} {y : Ty} (hd : Nat.blt d fn.ntmps = true) (h1 : opd ⟨tm, hp, nx⟩ x = some (.ptr id j)) (h2 : opd ⟨tm, hp, nx⟩ ix = some (.d (.v (.int kk i))))
    (h3 : tyArr T t = some (len, te)) (hy : aget te T = some y) (n : Nat) (hi : i = n) (hn : n < len) : VStep cx all hp nx ⟨some d, .indexAddr t x ix, ty, pos, after, none⟩ tm d (.pel id y.size n j) := by
  intro tm' k ha g
  exact AWP.idx_pel e hT hd ((opd_eq fun u hu => ha u (looks_ops (by simp [Op.operands]) hu)).trans h1) ((opd_eq fun u hu => ha u (looks_ops (by simp [Op.operands]) hu)).trans h2) h3 hy n hi hn g

theorem Den.pelPtr {μ : Nat → Option Nat} {ok : Nat → Prop} {w : World} {id m i j : Nat} {v : Value} (h : Den μ ok w (.pel id m i j) v) : Den μ ok w (.ptr id (i * m + j)) v := by
  cases h with | pel hb => exact .ptr hb

/-- A load of one cell of a variable. -/
theorem AWP.load_pel (e : Env cx P fn lo) (hT : TabOk P T) {t : TypeId} {a : Operand} {id m i j : Nat} {cs : List SV} {y : Ty} (v : SV) (hd : Nat.blt d fn.ntmps = true) (h1 : opd ⟨tm, hp, nx⟩ a = some (.pel id m i j)) (h2 : aget t T = some y) (h5 : y.td.agg = false)
    (h3 : aget id hp = some (.box cs)) (h4 : cs[i * m + j]? = some v) (g : AWP cx (.ops all rest :: k) ⟨(d, v) :: tm, hp, nx⟩) :
    AWP cx (.ops all (⟨some d, .load t a, ty, pos, after, none⟩ :: rest) :: k) ⟨tm, hp, nx⟩ := by
  refine AWP.op_run e (Nat.le_of_ble_eq_true hd) (fun μ ok ac w hI => ?_) g
  have hx := (opd_den hI.tmps h1).pelPtr
  have hL := evLoad_ok hT hI.hh t _ _ hx
  have he : evLoad T ⟨tm, hp, nx⟩ t (.ptr id (i * m + j)) = .val v True := by
    simp only [evLoad, h2, h3, h5, (hT _ _ h2).one h5]
    exact part1_one h4
  rw [he] at hL
  obtain ⟨u, r1, r2⟩ := hL trivial
  refine ⟨u, ?_, r2⟩
  simp only [execOp, Sem.run_bind, r1, Result.andThen_ok, Sem.run_pure]

theorem VStep.load_pel (e : Env cx P fn lo) (hT : TabOk P T) {t : TypeId} {a : Operand} {id m i j : Nat} {cs : List SV} {y : Ty} (v : SV) (hd : Nat.blt d fn.ntmps = true) (h1 : opd ⟨tm, hp, nx⟩ a = some (.pel id m i j)) (h2 : aget t T = some y) (h5 : y.td.agg = false)
    (h3 : aget id hp = some (.box cs)) (h4 : cs[i * m + j]? = some v) : VStep cx all hp nx ⟨some d, .load t a, ty, pos, after, none⟩ tm d v := by
  intro tm' k ha g
  exact AWP.load_pel e hT v hd ((opd_eq fun u hu => ha u (looks_ops (by simp [Op.operands]) hu)).trans h1) h2 h5 h3 h4 g

theorem laid_set {x y : SV} : ∀ {cs : List SV} {j : Nat}, cs[j]? = some y → laid j [x] cs = some (cs.set j x)
  | c :: cs, 0, _ => by cases cs <;> rfl
  | c :: cs, j + 1, h => by
    simp only [laid, laid_set (cs := cs) (j := j) (by simpa using h), Option.map_some, List.set_cons_succ]

/-- A store into one cell of a variable. -/
theorem AWP.store_pel (e : Env cx P fn lo) (hT : TabOk P T) {dst : Option Nat} {t : TypeId} {a b : Operand} {id m i j : Nat} {cs cs' : List SV} {y : Ty} {x y0 : SV} (hd : dstOk fn.ntmps dst = true) (h1 : opd ⟨tm, hp, nx⟩ a = some (.pel id m i j)) (hv : opd ⟨tm, hp, nx⟩ b = some x) (h2 : aget t T = some y) (h5 : y.td.agg = false)
    (hc : cellsOf x = some [x]) (hcell : isCell x = true) (h3 : aget id hp = some (.box cs)) (h4 : cs[i * m + j]? = some y0) (hs : cs.set (i * m + j) x = cs') (g : AWP cx (.ops all rest :: k) ⟨tput dst undefS tm, (id, .box cs') :: hp, nx⟩) :
    AWP cx (.ops all (⟨dst, .store t a b, ty, pos, after, none⟩ :: rest) :: k) ⟨tm, hp, nx⟩ := by
  obtain ⟨rfl, rfl, _⟩ := e
  subst hs
  refine AWP.op rfl fun ac w hi => ?_
  obtain ⟨μ, ok, hI⟩ := hi.one
  have hx := (opd_den hI.tmps h1).pelPtr
  have hy := opd_den hI.tmps hv
  have h6 := (hT _ _ h2).one h5
  have he : evStore T ⟨tm, hp, nx⟩ t (.ptr id (i * m + j)) x = .set id (cs.set (i * m + j) x) := by
    simp only [evStore, h2, h3, hc, h6, lenK, allCells, hcell, cond_true, putK_eq, laid_set h4]
    rfl
  obtain ⟨b', w', r1, r2, _, r4, r5, _⟩ := evStore_ok hT hI.hh t _ x _ _ hx hy he
  have hrun : (execOp ac.eval ⟨dst, .store t a b, ty, pos, after, none⟩).run cx.P w = .ok .skip w' := by
    simp only [execOp, Sem.run_bind, r1, Result.andThen_ok, Sem.run_pure]
  rw [hrun, Oper.upon_skip]
  exact g _ _ ((hI.set h3 r2 r4 r5).dput (dstOk_lt hd) (.d (.v _))).inv

theorem idsLt_set {n : Nat} {x : SV} (hx : SV.idsLt n x = true) : ∀ {cs : List SV} {j : Nat}, SV.idsLt.go n cs = true → SV.idsLt.go n (cs.set j x) = true
  | [], _, h => h
  | c :: cs, 0, h => by
    simp only [SV.idsLt.go, Bool.and_eq_true, List.set_cons_zero] at h ⊢
    exact ⟨hx, h.2⟩
  | c :: cs, j + 1, h => by
    simp only [SV.idsLt.go, Bool.and_eq_true, List.set_cons_succ] at h ⊢
    exact ⟨h.1, idsLt_set hx h.2⟩

/-- The same, in a region that draws its order. -/
theorem DrG.store_pel (e : Env cx P fn lo) (hT : TabOk P T) {R : List Rec} {dst : Option Nat} {t : TypeId} {a b : Operand} {i m n j : Nat} {cs cs' : List SV} {y : Ty} {x y0 : SV} (hd : dstOk fn.ntmps dst = true) (h1 : opd ⟨tmS R tm, [], 0⟩ a = some (.pel i m n j)) (hv : opd ⟨tmS R tm, [], 0⟩ b = some x) (h2 : aget t T = some y) (h5 : y.td.agg = false)
    (hc : cellsOf x = some [x]) (hcell : isCell x = true) (h3 : aget i (hpS R hp) = some (.box cs)) (h4 : cs[n * m + j]? = some y0) (hs : cs.set (n * m + j) x = cs') (hx : SV.idsLt.go M cs' = true) (hi : Nat.blt i M = true)
    (h : DrG cx all id k tm hp nx M (Nat.succ q) rest (⟨q, dst, undefS, [i], [(i, some (.box cs'))], []⟩ :: R)) : DrG cx all id k tm hp nx M q (⟨dst, .store t a b, ty, pos, after, none⟩ :: rest) R := by
  subst hs
  refine DrG.step (d := dst) (x := undefS) (eff := [(i, some (.box (cs.set (n * m + j) x)))]) (nw := []) (rds := [(i, .box cs)]) (fun t ht => ht) (fun p hp => by simp only [List.mem_singleton] at hp; subst hp; exact h3) rfl ⟨⟨hi, hx⟩, trivial⟩ (fun tm' hp' k a1 a2 _ _ g => ?_) h
  have h1' : opd ⟨tm', hp', M⟩ a = some (.pel i m n j) := (opd_eq fun u hu => a1 u (looks_ops (by simp [Op.operands]) hu)).trans h1
  have hv' : opd ⟨tm', hp', M⟩ b = some x := (opd_eq fun u hu => a1 u (looks_ops (by simp [Op.operands]) hu)).trans hv
  exact AWP.store_pel e hT hd h1' hv' h2 h5 hc hcell (a2 (i, .box cs) (by simp)) h4 rfl g

/-- An element of an array by value, of one cell each. -/
theorem AWP.idx_at (e : Env cx P fn lo) (hT : TabOk P T) {t te : TypeId} {x ix : Operand} {len : Nat} {kk : IntKind} {i : Int} {cs : List SV} {y : Ty} (v : SV) (hd : Nat.blt d fn.ntmps = true) (h1 : opd ⟨tm, hp, nx⟩ x = some (.agg cs)) (h2 : opd ⟨tm, hp, nx⟩ ix = some (.d (.v (.int kk i))))
    (h3 : tyArr T t = some (len, te)) (hy : aget te T = some y) (h5 : y.td.agg = false) (n : Nat) (hi : i = n) (hn : n < len) (hv : cs[n]? = some v) (g : AWP cx (.ops all rest :: k) ⟨(d, v) :: tm, hp, nx⟩) :
    AWP cx (.ops all (⟨some d, .index t x ix, ty, pos, after, none⟩ :: rest) :: k) ⟨tm, hp, nx⟩ := by
  refine AWP.idx_agg e hT hd h1 h2 h3 hy n hi hn ?_ g
  rw [(hT _ _ hy).one h5, h5, Nat.mul_one]
  exact part1_one hv

theorem VStep.idx_at (e : Env cx P fn lo) (hT : TabOk P T) {t te : TypeId} {x ix : Operand} {len : Nat} {kk : IntKind} {i : Int} {cs : List SV} {y : Ty} (v : SV) (hd : Nat.blt d fn.ntmps = true) (h1 : opd ⟨tm, hp, nx⟩ x = some (.agg cs)) (h2 : opd ⟨tm, hp, nx⟩ ix = some (.d (.v (.int kk i))))
    (h3 : tyArr T t = some (len, te)) (hy : aget te T = some y) (h5 : y.td.agg = false) (n : Nat) (hi : i = n) (hn : n < len) (hv : cs[n]? = some v) : VStep cx all hp nx ⟨some d, .index t x ix, ty, pos, after, none⟩ tm d v := by
  refine VStep.idx_agg e hT hd h1 h2 h3 hy n hi hn ?_
  rw [(hT _ _ hy).one h5, h5, Nat.mul_one]
  exact part1_one hv

/-! ### Numbers of a kind without a sign -/
theorem ofInt_toNat {n : Nat} (x : BitVec n) : BitVec.ofInt n (x.toNat : Int) = x := by
  rw [BitVec.ofInt_natCast]; exact BitVec.ofNat_toNat _ x |>.trans (by simp)
end
end Go.Sy
