/-
  SYMBOLIC STATES, over any program, part 11: calls, entered or by contract.
-/
import Derived.Test.YtmmpblbdjnlciaaSya
namespace Go.Sy
open Go.RowKit

section
variable {cx : Cx} {P : Program} {fn : Func} {lo : Nat} {T : Tab} {k : List It} {s : St} {tm : List (Nat × SV)} {hp : List (Nat × Blk)} {nx : Nat}

def opds (s : St) : List Operand → Option (List SV)
  | [] => some []
  | o :: l => match opd s o, opds s l with
    | some x, some r => some (x :: r)
    | _, _ => none

theorem opds_den {μ : Nat → Option Nat} {ok : Nat → Prop} {a : Act} {w : World} (hd : ∀ t x, aget t s.tmps = some x → Den μ ok w x (a.tmps.getD t undef)) : ∀ (l : List Operand) (xs : List SV), opds s l = some xs →
    xs.length = l.length ∧ ∀ (j : Nat) c u, xs[j]? = some c → (l.map a.eval)[j]? = some u → Den μ ok w c u
  | [], xs, h => by simp only [opds, Option.some.injEq] at h; subst h; simp
  | o :: l, xs, h => by
    simp only [opds] at h
    split at h
    · rename_i x r hx hr
      cases h
      obtain ⟨h1, h2⟩ := opds_den hd l r hr
      refine ⟨by simp [h1], fun j c u hc hu => ?_⟩
      cases j with
      | zero => cases hc; cases hu; exact opd_den hd hx
      | succ j => exact h2 j c u (by simpa using hc) (by simpa using hu)
    · cases h

/-- The call that stands next: whom it calls, with what. -/
def acall (s : St) (c : Call) : Option (FuncId × List SV) :=
  match c.callee with
  | .value fo => match opd s fo, opds s c.args.toList with
    | some (.fn (.func f) a b), some l => some (f, a ++ l ++ b)
    | _, _ => none
  | _ => none

def VL (μ : Nat → Option Nat) (ok : Nat → Prop) (w : World) (xs : List SV) (vs : Array Value) : Prop := vs.size = xs.length ∧ ∀ (j : Nat) c u, xs[j]? = some c → vs[j]? = some u → Den μ ok w c u

theorem VL.append {μ : Nat → Option Nat} {ok : Nat → Prop} {w : World} {xs ys : List SV} {vs us : Array Value} (h : VL μ ok w xs vs) (h' : VL μ ok w ys us) : VL μ ok w (xs ++ ys) (vs ++ us) := by
  refine ⟨by simp [h.1, h'.1], fun j c u hc hu => ?_⟩
  by_cases hj : j < xs.length
  · rw [List.getElem?_append_left hj] at hc
    rw [Array.getElem?_append_left (by rw [h.1]; exact hj)] at hu
    exact h.2 j c u hc hu
  · rw [List.getElem?_append_right (by omega)] at hc
    rw [Array.getElem?_append_right (by rw [h.1]; omega), h.1] at hu
    exact h'.2 _ c u hc hu

theorem acall_ok {μ : Nat → Option Nat} {ok : Nat → Prop} {a : Act} {w : World} (hd : ∀ t x, aget t s.tmps = some x → Den μ ok w x (a.tmps.getD t undef)) {c : Call} {f : FuncId} {xs : List SV} (h : acall s c = some (f, xs)) (o : Oper) (ho : o.op = .call c)
    (hen : ∀ (vs : Array Value) (w : World), (callFunc f vs).run P w = .ok (.enter f vs) w) :
    ∃ vs, (execOp a.eval o).run P w = .ok (.enter f vs) w ∧ VL μ ok w xs vs := by
  unfold acall at h
  split at h
  · rename_i fo hfo
    split at h
    · rename_i g x y l hx hl
      cases h
      have h1 := opd_den hd hx
      obtain ⟨h2, h3⟩ := opds_den hd _ _ hl
      cases e : a.eval fo <;> rw [e] at h1 <;> cases h1
      rename_i vs us a1 a2 a3 a4
      refine ⟨vs ++ c.args.map a.eval ++ us, ?_, (VL.append ⟨a1, a2⟩ ⟨by simp [h2], fun j c u hc hu => h3 j c u hc (by simpa using hu)⟩).append ⟨a3, a4⟩⟩
      simp only [execOp, ho, resolve, hfo, e, Deferred.ofValue, Sem.run_bind, Sem.run_pure, Result.andThen_ok, invoke]
      exact hen _ _
    · cases h
  · cases h

theorem HInv.weak {μ : Nat → Option Nat} {ok : Nat → Prop} {w : World} (h : HInv cx μ ok hp nx w) (F : Nat → Prop) (hF : ∀ b, F b ↔ ∃ i B, aget i hp = some B ∧ μ i = some b) (P' : Program) (fn' : Func) (Post) :
    HInv ⟨P', fn', w, μ, ok, F, Post⟩ μ ok hp nx w := by
  refine ⟨fun _ _ h => h, h.fresh, fun _ h => h, h.lt, fun _ h => .inl h, fun i B hi => ?_, h.inj, fun _ _ _ => rfl, Nat.le_refl _, rfl, rfl, rfl⟩
  obtain hg | ⟨b, h1, h2, h3, _, h5⟩ := h.own i B hi
  · exact .inl hg
  exact .inr ⟨b, h1, h2, h3, .inr ((hF b).2 ⟨i, B, hi, h1⟩), h5⟩

/-- Behind a call that might write the blocks F of what is owned. -/
theorem HInv.after {μ μ' : Nat → Option Nat} {ok ok' : Nat → Prop} {w w' : World} (h : HInv cx μ ok hp nx w) {F : Nat → Prop} (hF : ∀ b, F b → ∃ i B, aget i hp = some B ∧ μ i = some b) {P' : Program} {fn' : Func} {Post} {hp' : List (Nat × Blk)} {n' : Nat}
    (h' : HInv ⟨P', fn', w, μ, ok, F, Post⟩ μ' ok' hp' n' w') : HInv cx μ' ok' hp' n' w' := by
  have hFF : ∀ b, F b → cx.w0.heap.size ≤ b ∨ cx.F b := fun b hb => by
    obtain ⟨i, B, h1, h2⟩ := hF b hb
    obtain ⟨_, hn⟩ | ⟨b', g1, _, _, g4, _⟩ := h.own i B h1
    · rw [hn] at h2; cases h2
    rw [h2] at g1
    cases g1
    exact g4
  have hsz : w.heap.size ≤ w'.heap.size := h'.size
  refine ⟨fun i b hi => h'.mu i b (h.mu i b hi), h'.fresh, fun b hb => h'.sub b (h.sub b hb), h'.lt, fun b hb => ?_, fun i B hi => ?_, h'.inj, fun b hb hnF => ?_, Nat.le_trans h.size hsz, h'.os.trans h.os, h'.tape.trans h.tape, h'.output.trans h.output⟩
  · rcases h'.okNew b hb with h1 | h1
    · exact h.okNew b h1
    · rcases h1 with h1 | h1
      · exact .inr (.inl (Nat.le_trans h.size h1))
      · exact .inr (hFF b h1)
  · obtain hg | ⟨b, g1, g2, g3, g4, g5⟩ := h'.own i B hi
    · exact .inl hg
    refine .inr ⟨b, g1, g2, g3, ?_, g5⟩
    rcases g4 with g4 | g4
    · exact .inl (Nat.le_trans h.size g4)
    · exact hFF b g4
  · have h1 : w'.heap[b]? = w.heap[b]? := h'.frame b (Nat.lt_of_lt_of_le hb h.size) (fun hFb => by
      rcases hFF b hFb with h2 | h2
      · omega
      · exact hnF h2)
    exact h1.trans (h.frame b hb hnF)

theorem Den.after {μ μ' : Nat → Option Nat} {ok ok' : Nat → Prop} {w w' : World} (h : HInv cx μ ok hp nx w) {F : Nat → Prop} (hF : ∀ b, F b → ∃ i B, aget i hp = some B ∧ μ i = some b) {P' : Program} {fn' : Func} {Post} {hp' : List (Nat × Blk)} {n' : Nat}
    (h' : HInv ⟨P', fn', w, μ, ok, F, Post⟩ μ' ok' hp' n' w') {x : SV} {y : Value} (hx : Den μ ok w x y) : Den μ' ok' w' x y :=
  hx.mono h'.mu h'.sub fun b hb => h'.frame b (h.lt b hb) fun hFb => by
    obtain ⟨i, B, h1, h2⟩ := hF b hFb
    obtain ⟨_, hn⟩ | ⟨b', g1, _, g3, _⟩ := h.own i B h1
    · rw [hn] at h2; cases h2
    rw [h2] at g1
    cases g1
    exact g3 hb

theorem Inv1.after {μ μ' : Nat → Option Nat} {ok ok' : Nat → Prop} {a : Act} {w w' : World} (h : Inv1 cx μ ok ⟨tm, hp, nx⟩ a w) {F : Nat → Prop} (hF : ∀ b, F b → ∃ i B, aget i hp = some B ∧ μ i = some b) {P' : Program} {fn' : Func} {Post} {hp' : List (Nat × Blk)} {n' : Nat}
    (h' : HInv ⟨P', fn', w, μ, ok, F, Post⟩ μ' ok' hp' n' w') : Inv1 cx μ' ok' ⟨tm, hp', n'⟩ a w' :=
  ⟨h.defers, h.size, h.heap.after hF h', fun t x hx => Den.after h.heap hF h' (h.tmps t x hx)⟩

theorem Inv1.dput {μ : Nat → Option Nat} {ok : Nat → Prop} {a : Act} {w : World} (h : Inv1 cx μ ok ⟨tm, hp, nx⟩ a w) {dst : Option Nat} (hd : ∀ t, dst = some t → t < cx.fn.ntmps) {x : SV} {v : Value} (hx : Den μ ok w x v) :
    Inv1 cx μ ok ⟨tput dst x tm, hp, nx⟩ (a.put dst v) w := by
  cases dst with
  | none => exact h
  | some d => exact h.put (hd d rfl) hx

/-- A CALL THAT IS ENTERED: its text is walked in place, over the same blocks. -/
theorem AWP.enter (e : Env cx P fn lo) {all : Array Oper} {rest : List Oper} {dst : Option Tmp} {c : Call} {ty : TypeId} {pos : String} {after : Array Edge} {f : FuncId} {xs : List SV} (hc : acall ⟨tm, hp, nx⟩ c = some (f, xs)) {fn' : Func} {c' : Code}
    (hf : P.funcs[f]? = some fn') (hn : (fn'.name == "runtime.NumGoroutine") = false) (hb : fn'.body = some c') (hl : Nat.ble (lenK xs) fn'.ntmps = true) (hd : dstOk fn.ntmps dst = true)
    (h : ∀ cx', Env cx' P fn' nx → cx'.Post = (fun r h n => AWP cx (.ops all rest :: k) ⟨tput dst r tm, h, n⟩) → AWP cx' [.code c'] ⟨argT 0 xs, hp, nx⟩) :
    AWP cx (.ops all (⟨dst, .call c, ty, pos, after, none⟩ :: rest) :: k) ⟨tm, hp, nx⟩ := by
  obtain ⟨hE1, hE2⟩ := eff_of (Post := fun r h n => AWP cx (.ops all rest :: k) ⟨tput dst r tm, h, n⟩) (pre := hp) (n := nx) hf hn hb hl h
  obtain ⟨rfl, rfl, _⟩ := e
  refine AWP.op rfl fun a w hi => ?_
  obtain ⟨μ, ok, hi⟩ := hi.one
  obtain ⟨vs, h1, h2⟩ := acall_ok hi.tmps hc (⟨dst, .call c, ty, pos, after, none⟩ : Oper) rfl hE1
  rw [h1, Oper.upon_enter]
  let F : Nat → Prop := fun b => ∃ i B, aget i hp = some B ∧ μ i = some b
  refine (hE2 ⟨cx.P, fn', w, μ, ok, F, fun _ _ _ => True⟩ vs rfl (fun _ => Iff.rfl) (hi.heap.weak F (fun _ => Iff.rfl) _ _ _) h2.1 h2.2).mono ?_
  rintro e w' ⟨v, μ', ok', r, h', n', rfl, g1, g2, g3⟩
  exact g3 _ _ (((hi.after (fun _ h => h) g1).dput (dstOk_lt hd) g2).inv)

def SV.noIds : SV → Bool
  | .d _ | .ip _ | .lit _ => true
  | .ptr .. | .pel .. | .own .. => false
  | .agg cs | .tup cs => go cs
  | .fn _ a b => go a && go b
where go : List SV → Bool
  | [] => true
  | x :: l => SV.noIds x && go l

theorem noIds_lt {x : SV} (h : SV.noIds x = true) : SV.idsLt 0 x = true := by
  have key : ∀ (l : List SV), (∀ x ∈ l, SV.noIds x = true → SV.idsLt 0 x = true) → SV.noIds.go l = true → SV.idsLt.go 0 l = true := by
    intro l
    induction l with
    | nil => intro _ _; rfl
    | cons x l ih =>
      intro hx h
      simp only [SV.noIds.go, Bool.and_eq_true] at h
      simp only [SV.idsLt.go, Bool.and_eq_true]
      exact ⟨hx x (by simp) h.1, ih (fun y hy => hx y (by simp [hy])) h.2⟩
  match x with
  | .d _ => rfl
  | .ip _ => rfl
  | .lit _ => rfl
  | .ptr .. => cases h
  | .pel .. => cases h
  | .own .. => cases h
  | .agg cs => exact key cs (fun x hx hn => noIds_lt hn) h
  | .tup cs => exact key cs (fun x hx hn => noIds_lt hn) h
  | .fn _ a b =>
    simp only [SV.noIds, Bool.and_eq_true] at h
    simp only [SV.idsLt, Bool.and_eq_true]
    exact ⟨key a (fun x hx hn => noIds_lt hn) h.1, key b (fun x hx hn => noIds_lt hn) h.2⟩
termination_by SizeOf.sizeOf x
decreasing_by all_goals (simp_wf; have := List.sizeOf_lt_of_mem hx; omega)

theorem Den.any {μ μ' : Nat → Option Nat} {ok : Nat → Prop} {w : World} {x : SV} {y : Value} (h : Den μ ok w x y) (hn : SV.noIds x = true) : Den μ' ok w x y := h.cut (n := 0) (fun i hi => by omega) (noIds_lt hn)

def SV.noMem : SV → Bool
  | .d (.v _) | .d .nil | .lit _ => true
  | .d (.sl ..) | .ip _ | .ptr .. | .pel .. | .own .. => false
  | .agg cs | .tup cs => go cs
  | .fn _ a b => go a && go b
where go : List SV → Bool
  | [] => true
  | x :: l => SV.noMem x && go l

theorem noMem_go {l : List SV} (h : SV.noMem.go l = true) : ∀ (j : Nat) c, l[j]? = some c → SV.noMem c = true := by
  induction l with
  | nil => intro j c hc; simp at hc
  | cons x l ih =>
    intro j c hc
    simp only [SV.noMem.go, Bool.and_eq_true] at h
    cases j with
    | zero => simp at hc; subst hc; exact h.1
    | succ j => exact ih h.2 j c (by simpa using hc)

theorem Den.flat {μ μ' : Nat → Option Nat} {ok ok' : Nat → Prop} {w w' : World} {x : SV} {y : Value} (h : Den μ ok w x y) : SV.noMem x = true → Den μ' ok' w' x y := by
  induction h with
  | d h =>
    intro hn
    cases h with
    | v _ => exact .d (.v _)
    | nil => exact .d .nil
    | slNil => cases hn
    | sl => cases hn
  | ptr h => intro hn; cases hn
  | pel h => intro hn; cases hn
  | own h h1 h2 => intro hn; cases hn
  | ip a h4 => intro hn; cases hn
  | lit b => exact fun _ => .lit b
  | ownNil a id k lo => intro hn; cases hn
  | agg vs h h1 ih => exact fun hl => .agg vs h fun j c u hc hu => ih j c u hc hu (noMem_go hl j c hc)
  | tup vs h h1 ih => exact fun hl => .tup vs h fun j c u hc hu => ih j c u hc hu (noMem_go hl j c hc)
  | fn vs us h h1 h2 h3 ih1 ih2 =>
    intro hl
    simp only [SV.noMem, Bool.and_eq_true] at hl
    exact .fn vs us h (fun j c u hc hu => ih1 j c u hc hu (noMem_go hl.1 j c hc)) h2 (fun j c u hc hu => ih2 j c u hc hu (noMem_go hl.2 j c hc))

/-- How an argument of a contract may be met: as it is; nil for an empty row; a row that is owned, lent for the call. -/
inductive Cv (hp : List (Nat × Blk)) (lend : List Nat) : SV → SV → Prop where
  | refl (x : SV) : Cv hp lend x x
  | nil (k : Nat) : Cv hp lend (.d .nil) (.d (.sl k []))
  | own {id k lo n C C' : Nat} {ys : List (List DV)} {T : TypeId} {fz : Bool} (h : aget id hp = some (.row T fz k (ys.map (·.map SV.d)) C')) (hm : id ∈ lend) (hl : lo + n ≤ ys.length) : Cv hp lend (.own id k lo n C) (.d (.sl k ((ys.drop lo).take n)))
  | agg {cs ds : List SV} (h : cs.length = ds.length) (h1 : ∀ (j : Nat) c d, cs[j]? = some c → ds[j]? = some d → Cv hp lend c d) : Cv hp lend (.agg cs) (.agg ds)

inductive CvL (hp : List (Nat × Blk)) (lend : List Nat) : List SV → List SV → Prop where
  | nil : CvL hp lend [] []
  | cons {x y : SV} {l m : List SV} (h : Cv hp lend x y) (t : CvL hp lend l m) : CvL hp lend (x :: l) (y :: m)

theorem CvL.get {hp : List (Nat × Blk)} {lend : List Nat} {l m : List SV} (h : CvL hp lend l m) : l.length = m.length ∧ ∀ (j : Nat) c d, l[j]? = some c → m[j]? = some d → Cv hp lend c d := by
  induction h with
  | nil => exact ⟨rfl, by simp⟩
  | cons h t ih =>
    refine ⟨by simp [ih.1], fun j c d hc hd => ?_⟩
    cases j with
    | zero => cases hc; cases hd; exact h
    | succ j => exact ih.2 j c d (by simpa using hc) (by simpa using hd)

theorem Cv.den {μ : Nat → Option Nat} {ok ok' : Nat → Prop} {w : World} {lend : List Nat} (hh : ∀ i B, aget i hp = some B → (B.ghost ∧ μ i = none) ∨ ∃ b, μ i = some b ∧ ¬ ok b ∧ DenB μ ok w b B) (hk : ∀ b, ok b → ok' b) (hl : ∀ i ∈ lend, ∀ B, aget i hp = some B → ∀ b, μ i = some b → ok' b)
    {x y : SV} (h : Cv hp lend x y) : ∀ {u : Value}, Den μ ok w x u → Den μ ok' w y u := by
  induction h with
  | refl x => exact fun hu => hu.mono (fun _ _ h => h) hk (fun _ _ => rfl)
  | nil k =>
    intro u hu
    rw [hu.nil']
    exact .d (.slNil k)
  | own h hm hle =>
    rename_i id k lo n C C' ys T fz
    intro u hu
    cases hu with
    | ownNil a _ _ _ =>
      simp only [List.take_zero]
      cases a with
      | none => exact .d (.slNil k)
      | some a => exact .d (DDen.sl (ok := ok') (w := w) k [] a 0 (by simp) (by simp) (by simp) (by simp) (by simp))
    | own hb h1 h2 =>
    rename_i b
    obtain ⟨_, hn⟩ | ⟨b', g1, g2, c, z, g3, gf, gz, g4, g5, g6, g7⟩ := hh _ _ h
    · rw [hn] at hb; cases hb
    rw [hb] at g1
    cases g1
    have hlen : ((ys.drop lo).take n).length = n := by simp; omega
    have key : ∀ (i : Nat) (e : List DV), ((ys.drop lo).take n)[i]? = some e → ys[lo + i]? = some e := by
      intro i e he
      rw [List.getElem?_take] at he
      split at he
      · rwa [List.getElem?_drop] at he
      · cases he
    have hadd : ∀ i j, (⟨b, lo * k, none⟩ : Addr).add (i * k + j) = ⟨b, (lo + i) * k + j, none⟩ := fun i j => by
      rw [add_add', Nat.add_mul, Nat.add_assoc]
    have hrow : ∀ (i : Nat) (e : List DV), ys[i]? = some e → (ys.map (·.map SV.d))[i]? = some (e.map SV.d) := fun i e he => by rw [List.getElem?_map, he]; rfl
    have hel : ∀ (i : Nat) (e : List DV), ys[i]? = some e → e.length = k := fun i e he => by have := g6 i _ (hrow i e he); simpa using this
    have hlt : ∀ (i : Nat) (e : List DV) (j : Nat) (x : DV), ys[i]? = some e → e[j]? = some x → i * k + j < c.size := by
      intro i e j x he hj
      have h1 : i < ys.length := (List.getElem?_eq_some_iff.1 he).1
      have h2 : j < e.length := (List.getElem?_eq_some_iff.1 hj).1
      rw [hel i e he] at h2
      simp only [List.length_map] at g5
      have h3 : (i + 1) * k ≤ C' * k := Nat.mul_le_mul_right _ (by omega)
      rw [Nat.add_mul, Nat.one_mul] at h3
      omega
    have := DDen.sl (ok := ok') (w := w) k ((ys.drop lo).take n) ⟨b, lo * k, none⟩ (C - lo) (by omega) (by omega) (fun i e he => hel _ e (key i e he))
      (fun i e j x he hj => ⟨hl _ hm _ h b hb, by
        have h1 := hlt _ e j x (key i e he) hj
        exact ⟨c[(lo + i) * k + j], by rw [hadd, cell_at g3]; simp [h1]⟩⟩)
      (fun i e j x u he hj hu => by
        rw [hadd, cell_at g3] at hu
        have := g7 _ _ j (.d x) u (hrow _ e (key i e he)) (by rw [List.getElem?_map, hj]; rfl) hu
        cases this with | d hd => exact hd.mono hk (fun _ _ => rfl))
    rw [hlen] at this
    exact .d this
  | agg h h1 ih =>
    intro u hu
    cases hu with | agg vs g1 g2 =>
    refine .agg vs (by omega) fun j c v hc hv => ?_
    rename_i cs ds
    have hj : j < cs.length := by rw [h]; exact (List.getElem?_eq_some_iff.1 hc).1
    exact ih j cs[j] c (by simp [hj]) hc (g2 j _ v (by simp [hj]) hv)

/-- A CALL BY ITS CONTRACT: of a function that writes to no block of its caller's. -/
theorem AWP.call (e : Env cx P fn lo) {f : FuncId} {cs : List SV} {Post : SV → List (Nat × Blk) → Nat → Prop} (hE : Eff P f cs [] 0 Post) {all : Array Oper} {rest : List Oper} {dst : Option Tmp} {c : Call} {ty : TypeId} {pos : String} {after : Array Edge} {xs : List SV}
    (hc : acall ⟨tm, hp, nx⟩ c = some (f, xs)) (lend : List Nat) (hcv : CvL hp lend xs cs) (hno : SV.noIds.go cs = true) (hd : dstOk fn.ntmps dst = true)
    (h : ∀ r h n, Post r h n → SV.noIds r = true ∧ (lend = [] ∨ SV.noMem r = true) ∧ AWP cx (.ops all rest :: k) ⟨tput dst r tm, hp, nx⟩) :
    AWP cx (.ops all (⟨dst, .call c, ty, pos, after, none⟩ :: rest) :: k) ⟨tm, hp, nx⟩ := by
  obtain ⟨hE1, hE2⟩ := hE
  obtain ⟨rfl, rfl, _⟩ := e
  refine AWP.op rfl fun a w hi => ?_
  obtain ⟨μ, ok, hi⟩ := hi.one
  obtain ⟨vs, h1, h2⟩ := acall_ok hi.tmps hc (⟨dst, .call c, ty, pos, after, none⟩ : Oper) rfl hE1
  rw [h1, Oper.upon_enter]
  let ok0 : Nat → Prop := fun b => ok b ∨ ∃ i ∈ lend, ∃ B, aget i hp = some B ∧ μ i = some b
  let cx2 : Cx := ⟨cx.P, cx.fn, w, fun _ => none, ok0, fun _ => False, fun _ _ _ => True⟩
  have howned : ∀ i B b, aget i hp = some B → μ i = some b → b < w.heap.size ∧ ¬ ok b := fun i B b hB hb => by
    obtain ⟨_, hn⟩ | ⟨b', g1, g2, g3, _⟩ := hi.heap.own i B hB
    · rw [hn] at hb; cases hb
    rw [hb] at g1
    cases g1
    exact ⟨g2, g3⟩
  have hlt0 : ∀ b, ok0 b → b < w.heap.size := fun b hb => by
    rcases hb with hb | ⟨i, _, B, hB, hb⟩
    · exact hi.heap.lt b hb
    · exact (howned i B b hB hb).1
  have hH : HInv cx2 cx2.μ0 cx2.ok0 [] 0 cx2.w0 := ⟨fun _ _ h => h, fun _ _ => rfl, fun _ h => h, hlt0, fun _ h => .inl h, fun i B h => by simp [aget] at h, fun i j C D b h => by simp [aget] at h, fun _ _ _ => rfl, Nat.le_refl _, rfl, rfl, rfl⟩
  obtain ⟨hl1, hl2⟩ := hcv.get
  have hnoj : ∀ (j : Nat) c, cs[j]? = some c → SV.noIds c = true := by
    have : ∀ (l : List SV), SV.noIds.go l = true → ∀ (j : Nat) c, l[j]? = some c → SV.noIds c = true := by
      intro l
      induction l with
      | nil => intro _ j c hc; simp at hc
      | cons x l ih =>
        intro h j c hc
        simp only [SV.noIds.go, Bool.and_eq_true] at h
        cases j with
        | zero => cases hc; exact h.1
        | succ j => exact ih h.2 j c (by simpa using hc)
    exact this cs hno
  refine (hE2 cx2 vs rfl (fun b => ⟨fun h => h.elim, fun ⟨i, B, h, _⟩ => by simp [aget] at h⟩) hH (by rw [h2.1, hl1]) (fun j c u hcj hu => by
    have hj : j < xs.length := by rw [hl1]; exact (List.getElem?_eq_some_iff.1 hcj).1
    have hx := h2.2 j xs[j] u (by simp [hj]) hu
    have := Cv.den (ok' := ok0) hi.hh (fun _ h => .inl h) (fun i hm B hB b hb => .inr ⟨i, hm, B, hB, hb⟩) (hl2 j xs[j] c (by simp [hj]) hcj) hx
    exact this.any (hnoj j c hcj))).mono ?_
  rintro e w' ⟨v, μ', ok', r, h', n', rfl, g1, g2, g3⟩
  obtain ⟨k1, k2, k3⟩ := h r h' n' g3
  let ok2 : Nat → Prop := fun b => ok' b ∧ ¬ ∃ i B, aget i hp = some B ∧ μ i = some b
  have hsub : ∀ b, ok b → ok2 b := fun b hb => ⟨g1.sub b (.inl hb), fun ⟨i, B, hB, hm⟩ => (howned i B b hB hm).2 hb⟩
  have hfr : ∀ b, b < w.heap.size → w'.heap[b]? = w.heap[b]? := fun b hb => g1.frame b hb (fun h => h)
  have hokf : ∀ b, ok b → w'.heap[b]? = w.heap[b]? := fun b hb => hfr b (hi.heap.lt b hb)
  have hsz : w.heap.size ≤ w'.heap.size := g1.size
  have hI : Inv1 cx μ ok2 ⟨tm, hp, nx⟩ a w' := by
    refine ⟨hi.defers, hi.size, ⟨hi.heap.mu, hi.heap.fresh, fun b hb => hsub b (hi.heap.sub b hb), fun b hb => g1.lt b hb.1, fun b hb => ?_, fun i B hB => ?_, hi.heap.inj, fun b hb hF => ?_, Nat.le_trans hi.heap.size hsz, g1.os.trans hi.heap.os, g1.tape.trans hi.heap.tape, g1.output.trans hi.heap.output⟩, fun t x hx => (hi.tmps t x hx).mono (fun _ _ h => h) hsub hokf⟩
    · rcases g1.okNew b hb.1 with h1 | h1
      · rcases h1 with h1 | ⟨i, _, B, hB, hm⟩
        · exact hi.heap.okNew b h1
        · exact absurd ⟨i, B, hB, hm⟩ hb.2
      · rcases h1 with h1 | h1
        · exact .inr (.inl (Nat.le_trans hi.heap.size h1))
        · exact h1.elim
    · obtain hg | ⟨b, q1, q2, q3, q4, q5⟩ := hi.heap.own i B hB
      · exact .inl hg
      exact .inr ⟨b, q1, Nat.lt_of_lt_of_le q2 hsz, fun hb => hb.2 ⟨i, B, hB, q1⟩, q4, q5.mono (fun _ _ h => h) hsub hokf (hfr b q2)⟩
    · exact (hfr b (Nat.lt_of_lt_of_le hb hi.heap.size)).trans (hi.heap.frame b hb hF)
  refine k3 _ _ (hI.dput (dstOk_lt hd) ?_).inv
  rcases k2 with k2 | k2
  · subst k2
    refine (g2.any (μ' := μ) k1).mono (fun _ _ h => h) (fun b hb => ⟨hb, fun ⟨i, B, hB, hm⟩ => ?_⟩) (fun _ _ => rfl)
    obtain ⟨q1, q2⟩ := howned i B b hB hm
    rcases g1.okNew b hb with h1 | h1
    · rcases h1 with h1 | ⟨i, hi, _⟩
      · exact q2 h1
      · cases hi
    · rcases h1 with h1 | h1
      · exact absurd q1 (Nat.not_lt.2 h1)
      · exact h1.elim
  · exact g2.flat k2

end
end Go.Sy
