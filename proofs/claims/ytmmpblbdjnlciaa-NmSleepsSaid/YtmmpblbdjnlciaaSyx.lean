/-
  SYMBOLIC STATES, over any program, part 33: slices by three numbers and an append without room, in a region that draws its order.
-/
import Derived.Test.YtmmpblbdjnlciaaSyw
namespace Go.Sy
open Go.RowKit

section
variable {cx : Cx} {P : Program} {fn : Func} {lo : Nat} {T : Tab} {k : List It} {tm : List (Nat × SV)} {hp : List (Nat × Blk)} {nx M : Nat} {all : Array Oper} {id : Nat} {R : Caps → List Rec}
variable {d q : Nat} {rest : List Oper} {ty : TypeId} {pos : String} {after : Array Edge}

/-- A slice of a row of one's own, told by three numbers. -/
theorem VStep.slice3 (e : Env cx P fn lo) (hT : TabOk P T) {t te : TypeId} {m0 : Nat} {x ol oh om : Operand} {id q n C : Nat} {kl kh km : IntKind} {l h m : Int} (hd : Nat.blt d fn.ntmps = true) (h1 : opd ⟨tm, hp, nx⟩ x = some (.own id m0 q n C)) (h3 : tySl T t = some (te, m0))
    (hl : opd ⟨tm, hp, nx⟩ ol = some (.d (.v (.int kl l)))) (hh : opd ⟨tm, hp, nx⟩ oh = some (.d (.v (.int kh h)))) (hm : opd ⟨tm, hp, nx⟩ om = some (.d (.v (.int km m)))) (l' h' m' : Nat) (el : l = l') (eh : h = h') (em : m = m')
    (p1 : l' ≤ h') (p2 : h' ≤ m') (p3 : m' ≤ n) : VStep cx all hp nx ⟨some d, .slice t x (some ol) (some oh) (some om), ty, pos, after, none⟩ tm d (.own id m0 (q + l') (h' - l') (q + m')) := by
  intro tm' k ha g
  exact AWP.slice3 e hT hd ((opd_eq fun u hu => ha u (looks_ops (by simp [Op.operands]) hu)).trans h1) h3 ((opd_eq fun u hu => ha u (looks_ops (by simp [Op.operands]) hu)).trans hl) ((opd_eq fun u hu => ha u (looks_ops (by simp [Op.operands]) hu)).trans hh) ((opd_eq fun u hu => ha u (looks_ops (by simp [Op.operands]) hu)).trans hm) l' h' m' el eh em p1 p2 p3 g

/-- APPEND to a row that has no room more, in a region that draws its order. -/
theorem DrC.appendN (N : Nat) (e : Env cx P fn lo) (hT : TabOk P T) {s0 sx : Operand} {t te : TypeId} {y : Ty} {i m o n C C0 : Nat} {xs ys : List (List SV)} {i2 n2 : Nat} {C2f C2r : Caps → Nat} {fz fz2 : Bool} {te2 : TypeId} (hd : Nat.blt d fn.ntmps = true) (h1 : ∀ c, opd ⟨tmS (R c) tm, [], 0⟩ s0 = some (.own i m o n C)) (h2 : ∀ c, opd ⟨tmS (R c) tm, [], 0⟩ sx = some (.own i2 m 0 n2 (C2f c)))
    (hrow : ∀ c, aget i (hpS (R c) hp) = some (.row te fz m xs C0)) (ht : tySl T t = some (te, m)) (hy : aget te T = some y) (hrow2 : ∀ c, aget i2 (hpS (R c) hp) = some (.row te2 fz2 m ys (C2r c))) (hn2 : n2 = ys.length) (hC : C = o + n) (hn : o + n ≤ xs.length) (hne : 0 < ys.length) (hb : (n + ys.length) * y.bytes ≤ 140737488355328) (hsz : n + ys.length ≤ 9223372036854775807)
    (hN : Nat.blt N M = true) (hlo : Nat.ble lo N = true) (hok : ∀ e ∈ (xs.drop o).take n ++ ys, SV.idsLt.go 0 e = true)
    (h : DrC cx all id k tm hp nx M (Nat.succ q) rest fun c => ⟨q, some d, .own N m 0 (n + ys.length) (c q), [i, i2], [(N, some (.row te false m ((xs.drop o).take n ++ ys) (c q)))], [N]⟩ :: R c) :
    DrC cx all id k tm hp nx M q (⟨some d, .call ⟨.builtin .append, #[s0, sx], #[t, t]⟩, ty, pos, after, none⟩ :: rest) R := by
  have hN' := Nat.le_of_ble_eq_true hN
  refine DrC.app (d := some d) (x := fun _ C => .own N m 0 (n + ys.length) C) (rds := fun c => [(i, .row te fz m xs C0), (i2, .row te2 fz2 m ys (C2r c))]) (eff := fun _ C => [(N, some (.row te false m ((xs.drop o).take n ++ ys) C))]) (nw := [N]) (rd := [i, i2]) (fun t ht => ht) (fun c p hp => by simp only [List.mem_cons, List.not_mem_nil, or_false] at hp; rcases hp with rfl | rfl <;> first | exact hrow c | exact hrow2 c) (fun _ => rfl)
    (fun _ _ => hN) (fun _ _ => ⟨⟨hN, hok⟩, trivial⟩) (fun c tm' hp' k a1 a2 a3 a4 g => ?_) (fun _ _ => ⟨rfl, rfl⟩) h
  obtain ⟨rfl, rfl, e3⟩ := e
  have hb' := a2 (i, .row te fz m xs C0) (by simp)
  have h1' : opd ⟨tm', hp', M⟩ s0 = some (.own i m o n C) := ((opd_eq fun u hu => a1 u (looks_ops (by simp [Op.operands, Call.operands]) hu)).trans (opd_heap _)).trans (h1 c)
  have hb2 := a2 (i2, .row te2 fz2 m ys (C2r c)) (by simp)
  have h2' : opd ⟨tm', hp', M⟩ sx = some (.own i2 m 0 n2 (C2f c)) := ((opd_eq fun u hu => a1 u (looks_ops (by simp [Op.operands, Call.operands]) hu)).trans (opd_heap _)).trans (h2 c)
  refine AWP.append_new ⟨rfl, rfl, e3⟩ hT hd h1' h2' hb' ht hy (.own hb2 hn2) hC hn hne hb hsz fun C2 _ => ?_
  refine AWP.ext (tm2 := tput (some d) (.own M m 0 (n + ys.length) C2) tm') (hp2 := effH [(M, some (.row te false m ((xs.drop o).take n ++ ys) C2))] hp') (fun t => rfl) (fun j => ?_) ?_
  · rw [aget_effH, aget_cons, aget_cons]
    by_cases hj : j = M <;> simp [hj, aget]
  · refine AWP.newName ⟨rfl, rfl, e3⟩ (N := N) (d := some d) (x := .own N m 0 (n + ys.length) C2) (x1 := .own M m 0 (n + ys.length) C2) (eff := [(N, some (.row te false m ((xs.drop o).take n ++ ys) C2))]) (eff1 := [(M, some (.row te false m ((xs.drop o).take n ++ ys) C2))]) hN' (Nat.le_of_ble_eq_true hlo) ?_ hN a3 (a4 N (by simp)) (fun j hj => ?_) ⟨⟨hN, hok⟩, trivial⟩ (g C2)
    · simp [renS, renI, aget, Nat.beq_refl]
    · unfold renI
      simp only [aget]
      by_cases h : j = N
      · subst h
        simp [Nat.beq_refl, renB]
      · simp only [beq_ne h, cond_false]
        rw [beq_ne (by omega)]
        rfl

end
end Go.Sy
