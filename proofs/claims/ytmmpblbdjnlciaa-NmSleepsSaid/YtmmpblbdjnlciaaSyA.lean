/-
  SYMBOLIC STATES, over any program, part 36: a region that draws its order, walked by itself as far as a truth value that others hang on; that one told; the steps by their operations' forms.
-/
import Derived.Test.YtmmpblbdjnlciaaSyz
namespace Go.Sy
open Go.RowKit
section
variable {cx : Cx} {P : Program} {fn : Func} {lo : Nat} {T : Tab} {k : List It} {tm : List (Nat × SV)} {hp : List (Nat × Blk)} {nx M : Nat} {all : Array Oper} {R : List Rec} {id : Nat}
variable {d : Nat} {ty : TypeId} {pos : String} {after : Array Edge}

/-- Do others hang on what operation q lays into slot d? -/
def askedBy (d q : Nat) : List Oper → Bool
  | [] => false
  | ⟨_, .pick (.tmp t) _ _, _, _, _, some (j, _)⟩ :: l => Nat.beq j q || Nat.beq t d || askedBy d q l
  | ⟨_, .pick (.tmp t) _ _, _, _, _, none⟩ :: l => Nat.beq t d || askedBy d q l
  | ⟨_, _, _, _, _, some (j, _)⟩ :: l => Nat.beq j q || askedBy d q l
  | _ :: l => askedBy d q l
def stopQ (x : SV) (d : Option Nat) (q : Nat) (rest : List Oper) : Bool :=
  match x with
  | .d (.v (.bool _)) => match d with
    | some d => askedBy d q rest
    | none => false
  | _ => false

def gwalkS (T : Tab) (N M lo : Nat) (all : Array Oper) : Nat → Nat → List Oper → List (Nat × SV) → List (Nat × Blk) → List Rec → Nat → Prop → OutG
  | 0, q, rest, _, _, R, nm, ob => ⟨q, rest, R, nm, ob⟩
  | _ + 1, q, [], _, _, R, nm, ob => ⟨q, [], R, nm, ob⟩
  | n + 1, q, ⟨dst, op, ty, pos, after, none⟩ :: rest, tm, hp, R, nm, ob =>
    match gstep T N M lo nm tm hp dst op with
    | .rcd d x rd eff nw nm' p => bif stopQ x d q rest then ⟨Nat.succ q, rest, ⟨q, d, x, rd, eff, nw⟩ :: R, nm', p ∧ ob⟩ else gwalkS T N M lo all n (Nat.succ q) rest (tput d x tm) (effH eff hp) (⟨q, d, x, rd, eff, nw⟩ :: R) nm' (p ∧ ob)
    | .stop => ⟨q, ⟨dst, op, ty, pos, after, none⟩ :: rest, R, nm, ob⟩
  | n + 1, q, ⟨dst, op, ty, pos, after, some (j, w)⟩ :: rest, tm, hp, R, nm, ob =>
    match guardS all tm j with
    | .told _ b => bif (bif b then w else !w) then (match gstep T N M lo nm tm hp dst op with
        | .rcd d x rd eff nw nm' p => bif stopQ x d q rest then ⟨Nat.succ q, rest, ⟨q, d, x, rd, eff, nw⟩ :: R, nm', p ∧ ob⟩ else gwalkS T N M lo all n (Nat.succ q) rest (tput d x tm) (effH eff hp) (⟨q, d, x, rd, eff, nw⟩ :: R) nm' (p ∧ ob)
        | .stop => ⟨q, ⟨dst, op, ty, pos, after, some (j, w)⟩ :: rest, R, nm, ob⟩)
      else (bif dstOk N dst then gwalkS T N M lo all n (Nat.succ q) rest (tput dst undefS tm) hp (⟨q, dst, undefS, [], [], []⟩ :: R) nm ob else ⟨q, ⟨dst, op, ty, pos, after, some (j, w)⟩ :: rest, R, nm, ob⟩)
    | .no _ => bif dstOk N dst then gwalkS T N M lo all n (Nat.succ q) rest (tput dst undefS tm) hp (⟨q, dst, undefS, [], [], []⟩ :: R) nm ob else ⟨q, ⟨dst, op, ty, pos, after, some (j, w)⟩ :: rest, R, nm, ob⟩
    | _ => ⟨q, ⟨dst, op, ty, pos, after, some (j, w)⟩ :: rest, R, nm, ob⟩

theorem gwalkS_ok (e : Env cx P fn lo) (hT : TabOk P T) : ∀ (n q : Nat) (rest : List Oper) (R : List Rec) (nm : Nat) (ob : Prop), (gwalkS T fn.ntmps M lo all n q rest (tmS R tm) (hpS R hp) R nm ob).ob →
    ob ∧ (DrG cx all id k tm hp nx M (gwalkS T fn.ntmps M lo all n q rest (tmS R tm) (hpS R hp) R nm ob).q (gwalkS T fn.ntmps M lo all n q rest (tmS R tm) (hpS R hp) R nm ob).rest (gwalkS T fn.ntmps M lo all n q rest (tmS R tm) (hpS R hp) R nm ob).R → DrG cx all id k tm hp nx M q rest R)
  | 0, q, rest, R, nm, ob, h => ⟨h, fun g => g⟩
  | n + 1, q, [], R, nm, ob, h => ⟨h, fun g => g⟩
  | n + 1, q, ⟨dst, op, ty, pos, after, none⟩ :: rest, R, nm, ob, h => by
    unfold gwalkS at h ⊢
    split at h
    · rename_i d x rd eff nw nm' p hs
      cases hq : stopQ x d q rest
      · simp only [hq, cond_false] at h ⊢
        obtain ⟨⟨h1, h1'⟩, h2⟩ := gwalkS_ok e hT n (Nat.succ q) rest (⟨q, d, x, rd, eff, nw⟩ :: R) nm' (p ∧ ob) h
        obtain ⟨g1, g2, g3, rds, rfl, g5, g6⟩ := gstep_ok (cx := cx) (all := all) (ty := ty) (pos := pos) (after := after) e hT hs h1
        exact ⟨h1', fun g => DrG.step g1 g5 g2 g3 g6 (h2 g)⟩
      · simp only [hq, cond_true] at h ⊢
        obtain ⟨g1, g2, g3, rds, rfl, g5, g6⟩ := gstep_ok (cx := cx) (all := all) (ty := ty) (pos := pos) (after := after) e hT hs h.1
        exact ⟨h.2, fun g => DrG.step g1 g5 g2 g3 g6 g⟩
    · exact ⟨h, fun g => g⟩
  | n + 1, q, ⟨dst, op, ty, pos, after, some (j, w)⟩ :: rest, R, nm, ob, h => by
    unfold gwalkS at h ⊢
    have skip : dstOk fn.ntmps dst = true → GStep cx all M ⟨dst, op, ty, pos, after, some (j, w)⟩ (tmS R tm) [] dst undefS [] [] → (gwalkS T fn.ntmps M lo all n (Nat.succ q) rest (tput dst undefS (tmS R tm)) (hpS R hp) (⟨q, dst, undefS, [], [], []⟩ :: R) nm ob).ob →
        ob ∧ (DrG cx all id k tm hp nx M (gwalkS T fn.ntmps M lo all n (Nat.succ q) rest (tput dst undefS (tmS R tm)) (hpS R hp) (⟨q, dst, undefS, [], [], []⟩ :: R) nm ob).q (gwalkS T fn.ntmps M lo all n (Nat.succ q) rest (tput dst undefS (tmS R tm)) (hpS R hp) (⟨q, dst, undefS, [], [], []⟩ :: R) nm ob).rest (gwalkS T fn.ntmps M lo all n (Nat.succ q) rest (tput dst undefS (tmS R tm)) (hpS R hp) (⟨q, dst, undefS, [], [], []⟩ :: R) nm ob).R →
          DrG cx all id k tm hp nx M q (⟨dst, op, ty, pos, after, some (j, w)⟩ :: rest) R) := fun hd hs h => by
      obtain ⟨h1, h2⟩ := gwalkS_ok e hT n (Nat.succ q) rest (⟨q, dst, undefS, [], [], []⟩ :: R) nm ob h
      exact ⟨h1, fun g => DrG.step (rds := []) (d := dst) (x := undefS) (eff := []) (nw := []) (fun t ht => ht) (fun p hp => by cases hp) rfl trivial hs (h2 g)⟩
    cases hg : guardS all (tmS R tm) j with
    | ask d b => simp only [hg] at h ⊢; exact ⟨h, fun g => g⟩
    | bad => simp only [hg] at h ⊢; exact ⟨h, fun g => g⟩
    | no dj =>
      simp only [hg] at h ⊢
      cases hd : dstOk fn.ntmps dst
      · simp only [hd, cond_false] at h ⊢; exact ⟨h, fun g => g⟩
      · simp only [hd, cond_true] at h ⊢
        exact skip hd (GStep.un e hd hg) h
    | told dj b =>
      simp only [hg] at h ⊢
      cases hw : (bif b then w else !w)
      · simp only [hw, cond_false] at h ⊢
        cases hd : dstOk fn.ntmps dst
        · simp only [hd, cond_false] at h ⊢; exact ⟨h, fun g => g⟩
        · simp only [hd, cond_true] at h ⊢
          exact skip hd (GStep.not e hd hg (fun e => by subst e; cases b <;> cases hw)) h
      · simp only [hw, cond_true] at h ⊢
        cases hs : gstep T fn.ntmps M lo nm (tmS R tm) (hpS R hp) dst op with
        | stop => simp only [hs] at h ⊢; exact ⟨h, fun g => g⟩
        | rcd d x rd eff nw nm' p =>
          simp only [hs] at h ⊢
          cases hq : stopQ x d q rest
          · simp only [hq, cond_false] at h ⊢
            obtain ⟨⟨h1, h1'⟩, h2⟩ := gwalkS_ok e hT n (Nat.succ q) rest (⟨q, d, x, rd, eff, nw⟩ :: R) nm' (p ∧ ob) h
            obtain ⟨g1, g2, g3, rds, rfl, g5, g6⟩ := gstep_ok (cx := cx) (all := all) (ty := ty) (pos := pos) (after := after) e hT hs h1
            exact ⟨h1', fun g => DrG.step g1 g5 g2 g3 (GStep.go hg (by cases b <;> cases w <;> first | rfl | cases hw) g6) (h2 g)⟩
          · simp only [hq, cond_true] at h ⊢
            obtain ⟨g1, g2, g3, rds, rfl, g5, g6⟩ := gstep_ok (cx := cx) (all := all) (ty := ty) (pos := pos) (after := after) e hT hs h.1
            exact ⟨h.2, fun g => DrG.step g1 g5 g2 g3 (GStep.go hg (by cases b <;> cases w <;> first | rfl | cases hw) g6) g⟩

theorem DrG.runS0 (e : Env cx P fn lo) (hT : TabOk P T) (n nm : Nat) {q q' nm' : Nat} {rest rest' : List Oper} {R' : List Rec} {ob : Prop} (h : gwalkS T fn.ntmps M lo all n q rest (tmS R tm) (hpS R hp) R nm True = ⟨q', rest', R', nm', ob⟩) (hob : ob) (g : DrG cx all id k tm hp nx M q' rest' R') : DrG cx all id k tm hp nx M q rest R := by
  have := gwalkS_ok (cx := cx) (P := P) (fn := fn) (lo := lo) (T := T) (k := k) (tm := tm) (hp := hp) (nx := nx) (M := M) (all := all) (id := id) e hT n q rest R nm True
  rw [h] at this
  exact (this hob).2 g


theorem DrG.runS (e : Env cx P fn lo) (hT : TabOk P T) (n : Nat) {q q' nm' : Nat} {rest rest' : List Oper} {R' : List Rec} {ob : Prop} (h : gwalkS T fn.ntmps M lo all n q rest (tmS R tm) (hpS R hp) R (nxOf nx R) True = ⟨q', rest', R', nm', ob⟩) (hob : ob) (g : DrG cx all id k tm hp nx M q' rest' R') : DrG cx all id k tm hp nx M q rest R :=
  DrG.runS0 e hT n (nxOf nx R) h hob g

theorem aget_tput_lit {d t : Nat} {β : Bool} {tm' : List (Nat × SV)} : aget t ((d, SV.lit β) :: (d, SV.b β) :: tm') = aget t ((d, SV.lit β) :: tm') := by
  rw [aget_cons, aget_cons, aget_cons]
  by_cases h : t = d
  · rw [if_pos h, if_pos h]
  · rw [if_neg h, if_neg h, if_neg h]

/-- The last truth value told. -/
theorem DrG.askT {q q0 : Nat} {rest : List Oper} {β : Bool} {rd : List Nat} {eff : List (Nat × Option Blk)} {nw : List Nat} (hs : stopQ (.b β) (some d) q0 rest = true)
    (h : Told β fun v => DrG cx all id k tm hp nx M q rest (⟨q0, some d, .lit v, rd, eff, nw⟩ :: R)) : DrG cx all id k tm hp nx M q rest (⟨q0, some d, .b β, rd, eff, nw⟩ :: R) := by
  rintro ⟨hg, hr⟩
  refine h ⟨?_, hr⟩
  cases hg with
  | step h ho hd hr hx he hs =>
    refine GoodG.step h ho hd hr rfl he ?_
    intro tm' hp' k a1 a2 a3 a4 g
    refine hs tm' hp' k a1 a2 a3 a4 ?_
    refine AWP.told (d := d) (b := β) (by show aget d ((d, SV.b β) :: tm') = _; rw [aget_cons, if_pos rfl]) ?_
    exact AWP.ext (fun t => aget_tput_lit.symm) (fun _ => rfl) g

theorem DrG.idx_pel (e : Env cx P fn lo) (hT : TabOk P T) {q : Nat} {rest : List Oper} {t te : TypeId} {x ix : Operand} {len : Nat} {kk : IntKind} {i : Int} {b j : Nat} {y : Ty} (hd : Nat.blt d fn.ntmps = true) (h1 : opd ⟨tmS R tm, [], 0⟩ x = some (.ptr b j)) (h2 : opd ⟨tmS R tm, [], 0⟩ ix = some (.d (.v (.int kk i))))
    (h3 : tyArr T t = some (len, te)) (hy : aget te T = some y) (n : Nat) (hi : i = n) (hn : n < len) (hb : Nat.blt b M = true) (h : DrG cx all id k tm hp nx M (Nat.succ q) rest (⟨q, some d, .pel b y.size n j, [], [], []⟩ :: R)) : DrG cx all id k tm hp nx M q (⟨some d, .indexAddr t x ix, ty, pos, after, none⟩ :: rest) R :=
  DrG.v (x := .pel b y.size n j) rfl (fun hp0 => VStep.idx_pel (hp := hp0) (nx := M) e hT hd h1 h2 h3 hy n hi hn) hb h
theorem DrG.idx_pelGo (e : Env cx P fn lo) (hT : TabOk P T) {q : Nat} {rest : List Oper} {t te : TypeId} {x ix : Operand} {len : Nat} {kk : IntKind} {i : Int} {b j jg dj : Nat} {wg : Bool} {y : Ty} (hg : guardS all (tmS R tm) jg = .told dj wg) (hd : Nat.blt d fn.ntmps = true) (h1 : opd ⟨tmS R tm, [], 0⟩ x = some (.ptr b j)) (h2 : opd ⟨tmS R tm, [], 0⟩ ix = some (.d (.v (.int kk i))))
    (h3 : tyArr T t = some (len, te)) (hy : aget te T = some y) (n : Nat) (hi : i = n) (hn : n < len) (hb : Nat.blt b M = true) (h : DrG cx all id k tm hp nx M (Nat.succ q) rest (⟨q, some d, .pel b y.size n j, [], [], []⟩ :: R)) : DrG cx all id k tm hp nx M q (⟨some d, .indexAddr t x ix, ty, pos, after, some (jg, wg)⟩ :: rest) R :=
  DrG.v (x := .pel b y.size n j) rfl (fun hp0 => VStep.go hg (VStep.idx_pel (hp := hp0) (nx := M) e hT hd h1 h2 h3 hy n hi hn)) hb h
theorem DrG.load_pel (e : Env cx P fn lo) (hT : TabOk P T) {q : Nat} {rest : List Oper} {t : TypeId} {a : Operand} {b m i j : Nat} {cs : List SV} {y : Ty} (v : SV) (hd : Nat.blt d fn.ntmps = true) (h1 : opd ⟨tmS R tm, [], 0⟩ a = some (.pel b m i j)) (h2 : aget t T = some y) (h5 : y.td.agg = false)
    (h3 : aget b (hpS R hp) = some (.box cs)) (h4 : cs[i * m + j]? = some v) (hx : SV.idsLt M v = true) (h : DrG cx all id k tm hp nx M (Nat.succ q) rest (⟨q, some d, v, [b], [], []⟩ :: R)) : DrG cx all id k tm hp nx M q (⟨some d, .load t a, ty, pos, after, none⟩ :: rest) R :=
  DrG.v1 rfl h3 (fun _ hb => VStep.load_pel e hT v hd h1 h2 h5 hb h4) hx h
theorem DrG.load_pelGo (e : Env cx P fn lo) (hT : TabOk P T) {q : Nat} {rest : List Oper} {t : TypeId} {a : Operand} {b m i j jg dj : Nat} {wg : Bool} {cs : List SV} {y : Ty} (v : SV) (hg : guardS all (tmS R tm) jg = .told dj wg) (hd : Nat.blt d fn.ntmps = true) (h1 : opd ⟨tmS R tm, [], 0⟩ a = some (.pel b m i j)) (h2 : aget t T = some y) (h5 : y.td.agg = false)
    (h3 : aget b (hpS R hp) = some (.box cs)) (h4 : cs[i * m + j]? = some v) (hx : SV.idsLt M v = true) (h : DrG cx all id k tm hp nx M (Nat.succ q) rest (⟨q, some d, v, [b], [], []⟩ :: R)) : DrG cx all id k tm hp nx M q (⟨some d, .load t a, ty, pos, after, some (jg, wg)⟩ :: rest) R :=
  DrG.v1 rfl h3 (fun _ hb => VStep.go hg (VStep.load_pel e hT v hd h1 h2 h5 hb h4)) hx h
end
end Go.Sy
