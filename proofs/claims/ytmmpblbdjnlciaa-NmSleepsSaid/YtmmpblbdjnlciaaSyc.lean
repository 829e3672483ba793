/-
  SYMBOLIC STATES, over any program, part 12: a table of types, checked.
-/
import Derived.Test.YtmmpblbdjnlciaaSyb
namespace Go.Sy
open Go.RowKit

def valIs : Value → Value → Bool
  | .int k a, .int k' b => Nat.beq (kn k) (kn k') && a == b
  | .bool a, .bool b => a == b
  | .string a, .string b => a.data == b.data
  | .pointer none, .pointer none => true
  | .map none, .map none => true
  | .nilFunc, .nilFunc => true
  | .nilIface, .nilIface => true
  | _, _ => false

theorem valIs_eq {a b : Value} (h : valIs a b = true) : a = b := by
  unfold valIs at h
  split at h <;> first | rfl | (cases h; done) | skip
  · simp only [Bool.and_eq_true, beq_iff_eq] at h
    rw [kn_inj h.1, h.2]
  · simp only [beq_iff_eq] at h; rw [h]
  · rename_i a b
    obtain ⟨a⟩ := a
    obtain ⟨b⟩ := b
    simp only [beq_iff_eq] at h
    rw [h]

def cellIs : Value → DV → Bool
  | x, .v y => valIs x y
  | .slice none 0 0, .nil => true
  | _, _ => false

theorem cellIs_eq {x : Value} {y : DV} (h : cellIs x y = true) : some x = dvCell y := by
  unfold cellIs at h
  split at h
  · rw [valIs_eq h]; rfl
  · rfl
  · cases h

def cellsAre : List Value → List DV → Bool
  | [], [] => true
  | x :: l, y :: m => cellIs x y && cellsAre l m
  | _, _ => false

theorem cellsAre_eq : ∀ {l : List Value} {m : List DV}, cellsAre l m = true → l.map some = m.map dvCell
  | [], [], _ => rfl
  | x :: l, y :: m, h => by
    simp only [cellsAre, Bool.and_eq_true] at h
    simp [cellIs_eq h.1, cellsAre_eq h.2]
  | [], _ :: _, h => by cases h
  | _ :: _, [], h => by cases h

def tdChk (P : Program) (t : TypeId) : TD → Bool
  | .int k => match P.underlying t with | some (.int k') => Nat.beq (kn k') (kn k) | _ => false
  | .bool => match P.underlying t with | some .bool => true | _ => false
  | .str => match P.underlying t with | some .string => true | _ => false
  | .slice e => match P.underlying t with | some (.slice e') => e' == e | _ => false
  | .arr n e => match P.underlying t with | some (.array n' e') => n' == n && e' == e | _ => false
  | .struct fs => match P.underlying t with | some (.struct F) => F.toList.map (fun f => (f.type, f.offset)) == fs && (F.toList.all fun f => (P.info? f.type).isSome) | _ => false
  | .ptr e => match P.underlying t with | some (.pointer e') => e' == e | _ => false
  | .oth => match P.underlying t with | some (.struct _) | some (.array ..) | none => false | _ => true

def tyChk (P : Program) (t : TypeId) (y : Ty) : Bool :=
  match P.info? t with
  | some i => (i.size == y.size) && ((y.zero.length == y.size) && ((y.td.agg || y.size == 1) && ((i.bytes == y.bytes) && ((match i.zero with | some z => cellsAre z.cells.toList y.zero | none => false) && tdChk P t y.td))))
  | none => false

theorem tyChk_ok {P : Program} {t : TypeId} {y : Ty} (h : tyChk P t y = true) : TyOk P t y := by
  unfold tyChk at h
  split at h
  · rename_i i hi
    simp only [Bool.and_eq_true, beq_iff_eq] at h
    obtain ⟨h1, h0, h9, h2, h3, h4⟩ := h
    refine ⟨?_, h0, fun hg => by rw [hg] at h9; simpa using h9, ?_⟩
    · split at h3
      · rename_i z hz
        exact ⟨i, z, hi, h1, h2, hz, cellsAre_eq h3⟩
      · cases h3
    · cases e : y.td <;> rw [e] at h4 <;> simp only [tdChk] at h4 ⊢
      case oth =>
        revert h4
        cases hu : P.underlying t with
        | none => intro h; cases h
        | some D =>
          intro h4
          refine ⟨D, rfl, ?_, ?_⟩
          · rintro F rfl; cases h4
          · rintro n e rfl; cases h4
      all_goals
        split at h4
        · rename_i hu
          first
            | (simp only [Bool.and_eq_true, beq_iff_eq] at h4; rw [hu]; exact ⟨_, rfl, h4.1, h4.2⟩)
            | (rw [hu, kn_inj h4]; done)
            | (simp only [Bool.and_eq_true, beq_iff_eq] at h4; rw [hu, h4.1, h4.2]; done)
            | (simp only [beq_iff_eq] at h4; rw [hu, h4]; done)
            | (rw [hu]; done)
        · cases h4
  · cases h

def tabChk (P : Program) : Tab → Bool
  | [] => true
  | (t, y) :: l => tyChk P t y && tabChk P l

theorem tabChk_ok {P : Program} {T : Tab} (h : tabChk P T = true) : TabOk P T := by
  induction T with
  | nil => intro t y hy; simp [aget] at hy
  | cons p l ih =>
    obtain ⟨u, z⟩ := p
    simp only [tabChk, Bool.and_eq_true] at h
    intro t y hy
    rw [aget_cons] at hy
    by_cases e : t = u
    · rw [if_pos e] at hy; cases hy; subst e; exact tyChk_ok h.1
    · rw [if_neg e] at hy; exact ih h.2 t y hy

end Go.Sy
