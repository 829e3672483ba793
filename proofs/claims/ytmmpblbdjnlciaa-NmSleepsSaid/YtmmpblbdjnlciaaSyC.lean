/-
  SYMBOLIC STATES, over any program, part 38: where paths meet again; loops with one way on.
-/
import Derived.Test.YtmmpblbdjnlciaaSyB
namespace Go.Sy
open Go.RowKit
section
variable {cx : Cx} {P : Program} {fn : Func} {lo : Nat} {T : Tab} {k : List It} {s : St}

theorem K_inv (P : Program) (R : Exit → Act → World → Prop) (k : List It) : K P R (.inv (K P R k .normal) :: k) = K P R k := by
  funext e a w
  cases e <;> rfl

theorem K_congr {P : Program} {R : Exit → Act → World → Prop} {k k' : List It} (h : K P R k = K P R k') (i : It) : K P R (i :: k) = K P R (i :: k') := by
  funext e a w
  cases i <;> cases e <;> simp only [K, h]

/-- Where paths meet again: what is known there. -/
theorem AWP.join {ε : Type} (E : ε → St) (J : ε → Prop) {i : It} (fin : ∀ x, J x → AWP cx k (E x))
    (body : ∀ Ψ, (∀ x, J x → AWP cx (.inv Ψ :: k) (E x)) → AWP cx (i :: .inv Ψ :: k) s) : AWP cx (i :: k) s := by
  have h := body (K cx.P cx.R k .normal) (fun x hx a w hi => by rw [K_inv]; exact fin x hx a w hi)
  intro a w hi
  have := h a w hi
  rw [K_congr (K_inv cx.P cx.R k) i] at this
  exact this

def dropI : Nat → List It → List It
  | 0, l => l
  | _ + 1, [] => []
  | n + 1, _ :: l => dropI n l
def putI : Nat → It → List It → List It
  | 0, x, l => x :: l
  | _ + 1, x, [] => [x]
  | n + 1, x, y :: l => y :: putI n x l
theorem K_put (P : Program) (R : Exit → Act → World → Prop) : ∀ (n : Nat) (l : List It), K P R (putI n (.inv (K P R (dropI n l) .normal)) l) = K P R l
  | 0, l => K_inv P R l
  | n + 1, [] => K_inv P R []
  | n + 1, y :: l => K_congr (K_put P R n l) y
theorem K_put0 (P : Program) (R : Exit → Act → World → Prop) (k : List It) : K P R (.inv (K P R k .normal) :: k) = K P R k := K_inv P R k
/-- Where paths meet again, behind the next n items. -/
theorem AWP.joinN (n : Nat) {ε : Type} (E : ε → St) (J : ε → Prop) (fin : ∀ x, J x → AWP cx (dropI n k) (E x))
    (body : ∀ Ψ, (∀ x, J x → AWP cx (.inv Ψ :: dropI n k) (E x)) → AWP cx (putI n (.inv Ψ) k) s) : AWP cx k s := by
  have h := body (K cx.P cx.R (dropI n k) .normal) (fun x hx a w hi => by rw [K_inv]; exact fin x hx a w hi)
  intro a w hi
  have := h a w hi
  rw [K_put cx.P cx.R n k] at this
  exact this

/-- A LOOP, and what is known behind it. -/
theorem AWP.loopX {ι ε : Type} (S : ι → St) (I : ι → Prop) (m : ι → Nat) (i0 : ι) (hI : I i0) (E : ε → St) (J : ε → Prop) {c : Code} {b : Nat} (fin : ∀ x, J x → AWP cx k (E x))
    (start : ∀ kk, AWP cx kk (S i0) → AWP cx kk s)
    (round : ∀ i Φ Ψ, I i → (∀ j, I j → m j < m i → AWP cx (.inv Φ :: .blk b :: .inv Ψ :: k) (S j)) → (∀ x, J x → AWP cx (.inv Ψ :: k) (E x)) → AWP cx (.code c :: .inv Φ :: .blk b :: .inv Ψ :: k) (S i)) : AWP cx (.code (.loop c) :: .blk b :: k) s := by
  let Ψ := K cx.P cx.R k .normal
  have e1 : K cx.P cx.R (.blk b :: .inv Ψ :: k) = K cx.P cx.R (.blk b :: k) := K_congr (K_inv cx.P cx.R k) _
  have hfin : ∀ x, J x → AWP cx (.inv Ψ :: k) (E x) := fun x hx a w hi => by
    show K cx.P cx.R (.inv Ψ :: k) .normal a w
    rw [K_inv]; exact fin x hx a w hi
  refine AWP.loop S I m i0 hI (start _) fun i Φ hi next => ?_
  have h := round i Φ Ψ hi (fun j hj hm => by
    intro a w hi
    have h2 := next j hj hm a w hi
    rw [K_congr e1 (.inv Φ)]
    exact h2) hfin
  intro a w hi
  have h2 := h a w hi
  rw [K_congr (K_congr e1 (.inv Φ)) (.code c)] at h2
  exact h2

variable {tm : List (Nat × SV)} {hp : List (Nat × Blk)} {nx M : Nat} {all : Array Oper} {R : List Rec} {id : Nat}
variable {d q : Nat} {rest : List Oper} {ty : TypeId} {pos : String} {after : Array Edge}
/-- Structs compared, in a region that draws its order. -/
theorem DrG.eq_agg (e : Env cx P fn lo) (hT : TabOk P T) {op : BinOp} {t t' : TypeId} {x z : Operand} {cs es : List SV} {β r : Bool} {y : Ty} (hd : Nat.blt d fn.ntmps = true) (h1 : opd ⟨tmS R tm, [], 0⟩ x = some (.agg cs)) (h2 : opd ⟨tmS R tm, [], 0⟩ z = some (.agg es))
    (hop : op = .eql ∧ r = β ∨ op = .neq ∧ r = !β) (hg : P.eqGuardType P.depth t = false) (n : Nat) (hn : n ≤ 10000) (ha : argTy T n t = true) (hq : eqChk P n t = true) (hy : aget t T = some y) (hag : y.td.agg = true) (z1 : cs.length = y.size) (z2 : es.length = y.size)
    (l1 : lvOk (lv T n t) cs = true) (l2 : lvOk (lv T n t) es = true) (hβ : eqCells cs es = some β) (h : DrG cx all id k tm hp nx M (Nat.succ q) rest (⟨q, some d, .b r, [], [], []⟩ :: R)) :
    DrG cx all id k tm hp nx M q (⟨some d, .binOp op t x z t', ty, pos, after, none⟩ :: rest) R :=
  DrG.v (x := .b r) rfl (fun hp0 => VStep.eq_agg (hp := hp0) (nx := M) e hT hd h1 h2 hop hg n hn ha hq hy hag z1 z2 l1 l2 hβ) rfl h
theorem DrG.eq_aggGo (e : Env cx P fn lo) (hT : TabOk P T) {op : BinOp} {t t' : TypeId} {x z : Operand} {cs es : List SV} {β r : Bool} {y : Ty} {jg dj : Nat} {wg : Bool} (hgd : guardS all (tmS R tm) jg = .told dj wg) (hd : Nat.blt d fn.ntmps = true) (h1 : opd ⟨tmS R tm, [], 0⟩ x = some (.agg cs)) (h2 : opd ⟨tmS R tm, [], 0⟩ z = some (.agg es))
    (hop : op = .eql ∧ r = β ∨ op = .neq ∧ r = !β) (hg : P.eqGuardType P.depth t = false) (n : Nat) (hn : n ≤ 10000) (ha : argTy T n t = true) (hq : eqChk P n t = true) (hy : aget t T = some y) (hag : y.td.agg = true) (z1 : cs.length = y.size) (z2 : es.length = y.size)
    (l1 : lvOk (lv T n t) cs = true) (l2 : lvOk (lv T n t) es = true) (hβ : eqCells cs es = some β) (h : DrG cx all id k tm hp nx M (Nat.succ q) rest (⟨q, some d, .b r, [], [], []⟩ :: R)) :
    DrG cx all id k tm hp nx M q (⟨some d, .binOp op t x z t', ty, pos, after, some (jg, wg)⟩ :: rest) R :=
  DrG.v (x := .b r) rfl (fun hp0 => VStep.go hgd (VStep.eq_agg (hp := hp0) (nx := M) e hT hd h1 h2 hop hg n hn ha hq hy hag z1 z2 l1 l2 hβ)) rfl h

/-- The text of a row of bytes, in a region that draws its order. -/
theorem VStep.bytesStr (e : Env cx P fn lo) (hT : TabOk P T) {src dst te : TypeId} {x : Operand} {ys yt ye : Ty} {b o n C C0 : Nat} {xs : List (List SV)} {te' : TypeId} {fz : Bool} (l : List UInt8) (hd : Nat.blt d fn.ntmps = true) (h1 : opd ⟨tm, hp, nx⟩ x = some (.own b 1 o n C)) (h2 : aget src T = some ys) (h3 : ys.td = .slice te) (h4 : aget dst T = some yt) (h5 : yt.td = .str) (h6 : aget te T = some ye) (h7 : ye.td = .int .u8)
    (hrow : aget b hp = some (.row te' fz 1 xs C0)) (hn : n = l.length) (hl : ∀ j b, l[j]? = some b → xs[o + j]? = some (u8S b)) : VStep cx all hp nx ⟨some d, .convert src dst x, ty, pos, after, none⟩ tm d (.s (strL l)) := by
  intro tm' k ha g
  exact AWP.bytesStr e hT l hd ((opd_eq fun u hu => ha u (looks_ops (by simp [Op.operands]) hu)).trans h1) h2 h3 h4 h5 h6 h7 hrow hn hl g
theorem DrG.bytesStr (e : Env cx P fn lo) (hT : TabOk P T) {src dst te : TypeId} {x : Operand} {ys yt ye : Ty} {b o n C C0 : Nat} {xs : List (List SV)} {te' : TypeId} {fz : Bool} (l : List UInt8) (hd : Nat.blt d fn.ntmps = true) (h1 : opd ⟨tmS R tm, [], 0⟩ x = some (.own b 1 o n C)) (h2 : aget src T = some ys) (h3 : ys.td = .slice te) (h4 : aget dst T = some yt) (h5 : yt.td = .str) (h6 : aget te T = some ye) (h7 : ye.td = .int .u8)
    (hrow : aget b (hpS R hp) = some (.row te' fz 1 xs C0)) (hn : n = l.length) (hl : ∀ j b, l[j]? = some b → xs[o + j]? = some (u8S b)) (h : DrG cx all id k tm hp nx M (Nat.succ q) rest (⟨q, some d, .s (strL l), [b], [], []⟩ :: R)) :
    DrG cx all id k tm hp nx M q (⟨some d, .convert src dst x, ty, pos, after, none⟩ :: rest) R :=
  DrG.v1 rfl hrow (fun hp0 hb => VStep.bytesStr (hp := hp0) (nx := M) e hT l hd h1 h2 h3 h4 h5 h6 h7 hb hn hl) rfl h
theorem DrG.bytesStrGo (e : Env cx P fn lo) (hT : TabOk P T) {src dst te : TypeId} {x : Operand} {ys yt ye : Ty} {b o n C C0 : Nat} {xs : List (List SV)} {te' : TypeId} {fz : Bool} {jg dj : Nat} {wg : Bool} (l : List UInt8) (hgd : guardS all (tmS R tm) jg = .told dj wg) (hd : Nat.blt d fn.ntmps = true) (h1 : opd ⟨tmS R tm, [], 0⟩ x = some (.own b 1 o n C)) (h2 : aget src T = some ys) (h3 : ys.td = .slice te) (h4 : aget dst T = some yt) (h5 : yt.td = .str) (h6 : aget te T = some ye) (h7 : ye.td = .int .u8)
    (hrow : aget b (hpS R hp) = some (.row te' fz 1 xs C0)) (hn : n = l.length) (hl : ∀ j b, l[j]? = some b → xs[o + j]? = some (u8S b)) (h : DrG cx all id k tm hp nx M (Nat.succ q) rest (⟨q, some d, .s (strL l), [b], [], []⟩ :: R)) :
    DrG cx all id k tm hp nx M q (⟨some d, .convert src dst x, ty, pos, after, some (jg, wg)⟩ :: rest) R :=
  DrG.v1 rfl hrow (fun hp0 hb => VStep.go hgd (VStep.bytesStr (hp := hp0) (nx := M) e hT l hd h1 h2 h3 h4 h5 h6 h7 hb hn hl)) rfl h

end
end Go.Sy
