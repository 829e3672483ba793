/-
  SYMBOLIC STATES, over any program, part 31: a nil slice as an empty one, where nobody need know which; what is compared with nil and may be either.
-/
import Derived.Test.YtmmpblbdjnlciaaSyu
namespace Go.Sy
open Go.RowKit

section
variable {cx : Cx} {P : Program} {fn : Func} {lo : Nat} {T : Tab} {k : List It} {tm : List (Nat × SV)} {hp : List (Nat × Blk)} {nx M : Nat} {all : Array Oper} {id : Nat}
variable {d q : Nat} {rest : List Oper} {ty : TypeId} {pos : String} {after : Array Edge}
variable {μ : Nat → Option Nat} {ok : Nat → Prop} {w : World}

inductive Wk : SV → SV → Prop where
  | refl (x : SV) : Wk x x
  | nil (k : Nat) : Wk (.d .nil) (.d (.sl k []))
  | agg {cs ds : List SV} (h : cs.length = ds.length) (h1 : ∀ (j : Nat) c d, cs[j]? = some c → ds[j]? = some d → Wk c d) : Wk (.agg cs) (.agg ds)
  | tup {cs ds : List SV} (h : cs.length = ds.length) (h1 : ∀ (j : Nat) c d, cs[j]? = some c → ds[j]? = some d → Wk c d) : Wk (.tup cs) (.tup ds)

inductive WkL : List SV → List SV → Prop where
  | nil : WkL [] []
  | cons {x y : SV} {l m : List SV} (h : Wk x y) (t : WkL l m) : WkL (x :: l) (y :: m)

theorem WkL.get {l m : List SV} (h : WkL l m) : l.length = m.length ∧ ∀ (j : Nat) c d, l[j]? = some c → m[j]? = some d → Wk c d := by
  induction h with
  | nil => exact ⟨rfl, by simp⟩
  | cons h t ih =>
    refine ⟨by simp [ih.1], fun j c d hc hd => ?_⟩
    cases j with
    | zero => cases hc; cases hd; exact h
    | succ j => exact ih.2 j c d (by simpa using hc) (by simpa using hd)
theorem Wk.aggL {cs ds : List SV} (h : WkL cs ds) : Wk (.agg cs) (.agg ds) := .agg h.get.1 h.get.2
theorem Wk.tupL {cs ds : List SV} (h : WkL cs ds) : Wk (.tup cs) (.tup ds) := .tup h.get.1 h.get.2
theorem Cv.aggL {hp : List (Nat × Blk)} {lend : List Nat} {cs ds : List SV} (h : CvL hp lend cs ds) : Cv hp lend (.agg cs) (.agg ds) := .agg h.get.1 h.get.2

theorem Wk.den {x y : SV} (h : Wk x y) : ∀ {u : Value}, Den μ ok w x u → Den μ ok w y u := by
  induction h with
  | refl x => exact fun h => h
  | nil k => intro u hu; rw [hu.nil']; exact .d (.slNil k)
  | agg h h1 ih =>
    intro u hu
    cases hu with | agg vs g1 g2 =>
    refine .agg vs (by omega) fun j c v hc hv => ?_
    rename_i cs ds
    have hj : j < cs.length := by rw [h]; exact (List.getElem?_eq_some_iff.1 hc).1
    exact ih j cs[j] c (by simp [hj]) hc (g2 j _ v (by simp [hj]) hv)
  | tup h h1 ih =>
    intro u hu
    cases hu with | tup vs g1 g2 =>
    refine .tup vs (by omega) fun j c v hc hv => ?_
    rename_i cs ds
    have hj : j < cs.length := by rw [h]; exact (List.getElem?_eq_some_iff.1 hc).1
    exact ih j cs[j] c (by simp [hj]) hc (g2 j _ v (by simp [hj]) hv)

theorem AWP.retW (e : Env cx P fn lo) (hT : TabOk P T) {r r' : SV} (h : aret T ⟨tm, hp, nx⟩ fn.results.toList = some r) (hw : Wk r r') (hp' : cx.Post r' hp nx) : AWP cx (.code .ret :: k) ⟨tm, hp, nx⟩ := fun a w hi => by
  obtain ⟨rfl, rfl, _⟩ := e
  obtain ⟨μ, ok, hi⟩ := hi.one
  obtain ⟨y, h1, h2⟩ := aret_ok hT hi h
  exact wp_ret (K_ret _ _ _ _ _ ⟨.inr rfl, hi.defers, μ, ok, r', hp, nx, y, hi.heap, h1, hw.den h2, hp'⟩)

theorem AWP.weakT (t : Nat) {x x' : SV} (h : aget t tm = some x) (hw : Wk x x') (g : AWP cx k ⟨(t, x') :: tm, hp, nx⟩) : AWP cx k ⟨tm, hp, nx⟩ := fun a w hi => by
  obtain ⟨μ, ok, hi⟩ := hi.one
  refine g a w (Inv1.inv (μ := μ) (ok := ok) ⟨hi.defers, hi.size, hi.heap, fun u y hy => ?_⟩)
  simp only [aget_cons] at hy
  by_cases e : u = t
  · rw [if_pos e] at hy
    cases hy
    subst e
    exact hw.den (hi.tmps _ _ h)
  · rw [if_neg e] at hy
    exact hi.tmps u y hy

theorem AWP.weakH (i : Nat) {cs cs' : List SV} (h : aget i hp = some (.box cs)) (hw : WkL cs cs') (g : AWP cx k ⟨tm, (i, .box cs') :: hp, nx⟩) : AWP cx k ⟨tm, hp, nx⟩ := fun a w hi => by
  obtain ⟨μ, ok, hi⟩ := hi.one
  obtain ⟨h1, h2⟩ := hw.get
  have key : ∀ j B, aget j ((i, Blk.box cs') :: hp) = some B → ∃ B0, aget j hp = some B0 ∧ (B = B0 ∨ (B0 = .box cs ∧ B = .box cs')) := fun j B hB => by
    rw [aget_cons] at hB
    by_cases e : j = i
    · rw [if_pos e] at hB; cases hB; subst e; exact ⟨_, h, .inr ⟨rfl, rfl⟩⟩
    · rw [if_neg e] at hB; exact ⟨B, hB, .inl rfl⟩
  refine g a w (Inv1.inv (μ := μ) (ok := ok) ⟨hi.defers, hi.size, ⟨hi.heap.mu, hi.heap.fresh, hi.heap.sub, hi.heap.lt, hi.heap.okNew, fun j B hB => ?_, fun j l B C b hB hC h3 h4 => ?_, hi.heap.frame, hi.heap.size, hi.heap.os, hi.heap.tape, hi.heap.output⟩, hi.tmps⟩)
  · obtain ⟨B0, e1, e2⟩ := key j B hB
    obtain hg | ⟨b, g1, g2, g3, g4, g5⟩ := hi.heap.own j B0 e1
    · rcases e2 with rfl | ⟨rfl, rfl⟩
      · exact .inl hg
      · exact hg.1.elim
    · refine .inr ⟨b, g1, g2, g3, g4, ?_⟩
      rcases e2 with rfl | ⟨rfl, rfl⟩
      · exact g5
      · obtain ⟨C, T, z, r1, r2, r3, r4⟩ := g5
        refine ⟨C, T, z, r1, r2, by omega, fun q x u hx hu => ?_⟩
        have hq : q < cs.length := by rw [h1]; exact (List.getElem?_eq_some_iff.1 hx).1
        exact (h2 q cs[q] x (by simp [hq]) hx).den (r4 q _ u (by simp [hq]) hu)
  · obtain ⟨B0, e1, _⟩ := key j B hB
    obtain ⟨C0, e2, _⟩ := key l C hC
    exact hi.heap.inj j l B0 C0 b e1 e2 h3 h4

/-- A cell of a variable that holds nil: a row of its own, as yet empty. -/
theorem AWP.nilB (i j : Nat) {cs : List SV} (te : TypeId) (m : Nat) (h : aget i hp = some (.box cs)) (hj : cs[j]? = some (.d .nil)) (g : AWP cx k ⟨tm, (i, .box (cs.set j (.own nx m 0 0 0))) :: (nx, .row te false m [] 0) :: hp, Nat.succ nx⟩) : AWP cx k ⟨tm, hp, nx⟩ := fun a w hi => by
  obtain ⟨μ, ok, hi⟩ := hi.one
  have h3 := hi.ghost te false m
  have hin : i ≠ nx := fun e => by
    obtain ⟨hg, _⟩ | ⟨b, hb, _⟩ := hi.heap.own i _ h
    · exact hg.elim
    · rw [e, hi.heap.fresh nx (Nat.le_refl _)] at hb; cases hb
  have h4 : aget i ((nx, Blk.row te false m [] 0) :: hp) = some (.box cs) := by rw [aget_cons, if_neg hin]; exact h
  have key : ∀ q B, aget q ((i, Blk.box (cs.set j (.own nx m 0 0 0))) :: (nx, .row te false m [] 0) :: hp) = some B → ∃ B0, aget q ((nx, Blk.row te false m [] 0) :: hp) = some B0 ∧ (B = B0 ∨ (B0 = .box cs ∧ B = .box (cs.set j (.own nx m 0 0 0)))) := fun q B hB => by
    rw [aget_cons] at hB
    by_cases e : q = i
    · rw [if_pos e] at hB; cases hB; subst e; exact ⟨_, h4, .inr ⟨rfl, rfl⟩⟩
    · rw [if_neg e] at hB; exact ⟨B, hB, .inl rfl⟩
  refine g a w (Inv1.inv (μ := μ) (ok := ok) ⟨h3.defers, h3.size, ⟨h3.heap.mu, h3.heap.fresh, h3.heap.sub, h3.heap.lt, h3.heap.okNew, fun q B hB => ?_, fun q l B C b hB hC e3 e4 => ?_, h3.heap.frame, h3.heap.size, h3.heap.os, h3.heap.tape, h3.heap.output⟩, h3.tmps⟩)
  · obtain ⟨B0, e1, e2⟩ := key q B hB
    obtain hg | ⟨b, g1, g2, g3, g4, g5⟩ := h3.heap.own q B0 e1
    · rcases e2 with rfl | ⟨rfl, rfl⟩
      · exact .inl hg
      · exact hg.1.elim
    · refine .inr ⟨b, g1, g2, g3, g4, ?_⟩
      rcases e2 with rfl | ⟨rfl, rfl⟩
      · exact g5
      · obtain ⟨C, T, z, r1, r2, r3, r4⟩ := g5
        refine ⟨C, T, z, r1, r2, by simpa using r3, fun p x u hx hu => ?_⟩
        rw [List.getElem?_set] at hx
        split at hx
        · rename_i hjp
          split at hx
          · cases hx
            subst hjp
            rw [(r4 j _ u hj hu).nil']
            exact .ownNil _ _ _ _
          · cases hx
        · exact r4 p x u hx hu
  · obtain ⟨B0, e1, _⟩ := key q B hB
    obtain ⟨C0, e2, _⟩ := key l C hC
    exact h3.heap.inj q l B0 C0 b e1 e2 e3 e4

def slLen : SV → Nat
  | .d (.sl _ xs) => xs.length
  | .own _ _ _ n _ => n
  | _ => 0

theorem isSl_nil {x : SV} {u : Value} (h : Den μ ok w x u) (hs : isSl x = true) : ∃ a n c, u = .slice a n c ∧ (a = none → slLen x = 0) := by
  unfold isSl at hs
  split at hs <;> first | (cases hs; done) | skip
  · exact ⟨_, _, _, h.nil', fun _ => rfl⟩
  · cases h with | d h =>
    rcases slOf h with ⟨rfl, rfl⟩ | ⟨a, c, rfl, _⟩
    · exact ⟨_, _, _, rfl, fun _ => rfl⟩
    · exact ⟨_, _, _, rfl, fun h => by cases h⟩
  · cases h with
    | own h h1 h2 => exact ⟨_, _, _, rfl, fun h => by cases h⟩
    | ownNil a _ _ _ => exact ⟨_, _, _, rfl, fun _ => rfl⟩

/-- A slice that is compared with nil, and may be either. -/
theorem AWP.nilq (e : Env cx P fn lo) (hT : TabOk P T) {op : BinOp} {t t' : TypeId} {x y : Operand} {sx : SV} {y0 : Ty} (v : Bool) (hd : Nat.blt d fn.ntmps = true) (h1 : opd ⟨tm, hp, nx⟩ x = some sx) (hs : isSl sx = true) (h2 : opd ⟨tm, hp, nx⟩ y = some (.d .nil)) (ht : aget t T = some y0) (hsl : (match y0.td with | .slice _ => true | _ => false) = true) (hop : (op = .eql ∧ v = true) ∨ (op = .neq ∧ v = false))
    (g : ∀ b, (b = v → slLen sx = 0) → AWP cx (.ops all rest :: k) ⟨(d, .b b) :: tm, hp, nx⟩) : AWP cx (.ops all (⟨some d, .binOp op t x y t', ty, pos, after, none⟩ :: rest) :: k) ⟨tm, hp, nx⟩ := by
  obtain ⟨rfl, rfl, _⟩ := e
  refine AWP.op rfl fun a w hi => ?_
  obtain ⟨μ, ok, hi⟩ := hi.one
  obtain ⟨a0, n, c, hu, hnil⟩ := isSl_nil (opd_den hi.tmps h1) hs
  have hy := (opd_den hi.tmps h2).nil'
  have hb : ∃ te, cx.P.underlying t = some (.slice te) := by
    have := (hT _ _ ht).td
    cases htd : y0.td <;> rw [htd] at hsl this <;> first | (cases hsl; done) | exact ⟨_, this⟩
  obtain ⟨te, hb⟩ := hb
  have hgd : (eqGuard op t x y (.slice a0 n c) (.slice none 0 0)).run cx.P w = .ok () w := run_eqGuard_none op t x y _ _ (by intro cs; simp) (by simp)
  have hrun : ∃ b, (b = v → slLen sx = 0) ∧ (execOp a.eval ⟨some d, .binOp op t x y t', ty, pos, after, none⟩).run cx.P w = .ok (.value (.bool b)) w := by
    rcases hop with ⟨rfl, rfl⟩ | ⟨rfl, rfl⟩
    · refine ⟨a0.isNone, fun h => hnil (by simpa using h), by simp only [execOp, hu, hy, Sem.run_bind, hgd, Result.andThen_ok, Lib.run_eql_slice_nil w t te a0 n c 0 0 hb, Sem.run_pure]⟩
    · refine ⟨!a0.isNone, fun h => hnil (by simpa using h), by simp only [execOp, hu, hy, Sem.run_bind, hgd, Result.andThen_ok, run_neq_slice_nil_any w t te a0 n c 0 0 hb, Sem.run_pure]⟩
  obtain ⟨b, hbv, hrun⟩ := hrun
  rw [hrun, Oper.upon_value]
  exact g b hbv _ _ (hi.put (Nat.le_of_ble_eq_true hd) (.d (.v _))).inv

theorem CallQ.mkV {P : Program} {f : FuncId} {xs cs : List SV} {r : SV} {G : SV → Prop} (hE : Eff P f cs [] 0 (fun r' _ _ => r' = r)) (hcv : ∀ hp, CvL hp [] xs cs) (hno : SV.noIds.go cs = true) (hr : SV.noIds r = true) (g : G r) : CallQ P f xs G :=
  ⟨cs, _, hE, hcv, hno, fun _ _ _ h => by subst h; exact ⟨hr, g⟩⟩
theorem CallVQ.mkV {P : Program} {f : FuncId} {xs cs : List SV} {r : SV} {G : SV → Prop} (hE : Eff P f cs [] 0 (fun r' _ _ => r' = r)) (hcv : ∀ hp, CvL hp [] xs cs) (hno : SV.noIds.go cs = true) (hr : SV.noIds r = true) (g : G r) : CallVQ P f xs G := ⟨r, ⟨cs, hE, hcv, hno, hr⟩, g⟩

end
end Go.Sy
