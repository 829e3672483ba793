/-
  SYMBOLIC STATES, over any program, part 37: bytes of a text, and the text of bytes.
-/
import Derived.Test.YtmmpblbdjnlciaaSyA
import Derived.Lib.ConvBytes
import Derived.Laws.IdiomStrings
namespace Go.Sy
open Go.RowKit
section
variable {cx : Cx} {P : Program} {fn : Func} {lo : Nat} {T : Tab} {k : List It} {tm : List (Nat × SV)} {hp : List (Nat × Blk)} {nx M : Nat} {all : Array Oper} {R : List Rec} {id : Nat}
variable {d : Nat} {rest : List Oper} {ty : TypeId} {pos : String} {after : Array Edge}

/-- A byte's element in a row. -/
abbrev u8D (b : UInt8) : List DV := [.v (.int .u8 (b.toNat : Int))]
abbrev u8S (b : UInt8) : List SV := [.d (.v (.int .u8 (b.toNat : Int)))]
/-- The text of these bytes. -/
def strL (l : List UInt8) : ByteArray := ⟨l.toArray⟩
theorem strL_size (l : List UInt8) : (strL l).size = l.length := by simp [strL, ByteArray.size]
theorem strL_data (l : List UInt8) : (strL l).data.toList = l := by simp [strL]
theorem strL_of (s : ByteArray) : strL s.data.toList = s := by cases s; simp [strL]
theorem strL_toList (l : List UInt8) : (strL l).toList = l := by
  rw [ByteArray.toList_eq]; exact strL_data l

theorem upd_freeze (w : World) (a : Addr) (n : Nat) : Upd w (w.freeze a n) a.block := by
  unfold World.freeze
  by_cases h : n = 0
  · rw [if_pos h]; exact Upd.refl w _
  · rw [if_neg h]
    refine ⟨fun b' hb => ?_, by simp, rfl, rfl, rfl⟩
    simp only [Array.getElem?_modify]
    rw [if_neg (fun e => hb e.symm)]

/-- The bytes of a text, as a row of one's own. -/
theorem AWP.strBytes (e : Env cx P fn lo) (hT : TabOk P T) {src dst te : TypeId} {x : Operand} {s : ByteArray} {ys yt ye : Ty} (hd : Nat.blt d fn.ntmps = true) (h1 : opd ⟨tm, hp, nx⟩ x = some (.s s)) (h2 : aget src T = some ys) (h3 : ys.td = .str) (h4 : aget dst T = some yt) (h5 : yt.td = .slice te) (h6 : aget te T = some ye) (h7 : ye.td = .int .u8)
    (hs : s.size ≤ 9223372036854775807) (g : ∀ C, s.size ≤ C → AWP cx (.ops all rest :: k) ⟨(d, .own nx 1 0 s.size C) :: tm, (nx, .row te true 1 (s.data.toList.map u8S) C) :: hp, Nat.succ nx⟩) :
    AWP cx (.ops all (⟨some d, .convert src dst x, ty, pos, after, none⟩ :: rest) :: k) ⟨tm, hp, nx⟩ := by
  obtain ⟨rfl, rfl, _⟩ := e
  refine AWP.op rfl fun a w hi => ?_
  obtain ⟨μ, ok, hI⟩ := hi.one
  have hx := (opd_den hI.tmps h1).vv
  have u1 : cx.P.underlying src = some .string := by have := (hT _ _ h2).td; rw [h3] at this; exact this
  have u2 : cx.P.underlying dst = some (.slice te) := by have := (hT _ _ h4).td; rw [h5] at this; exact this
  have u3 : cx.P.underlying te = some (.int .u8) := by have := (hT _ _ h6).td; rw [h7] at this; exact this
  have hrun := Go.Lib.run_convert_string_bytes w src dst te s u1 u2 u3
  have hge := grownCap_ge w s.size 0 te
  have hle := grownCap_le_maxLen w s.size 0 te (by have : maxLen = 9223372036854775807 := rfl; omega)
  generalize hC : grownCap w s.size 0 te = C at hrun hge hle
  have hex : (execOp a.eval ⟨some d, .convert src dst x, ty, pos, after, none⟩).run cx.P w = .ok (.value (.slice (some ⟨w.heap.size, 0, none⟩) s.size C)) (Go.Lib.bytesWorld w te s) := by
    simp only [execOp, hx, Sem.run_bind, hrun, Result.andThen_ok, Sem.run_pure]
  rw [hex, Oper.upon_value]
  have hcs : (Go.Lib.bytesCells w te s).size = C * 1 := by
    simp only [Go.Lib.bytesCells, hC, Array.size_append, Array.size_map, Array.size_replicate, Nat.mul_one]
    have : s.data.size = s.size := rfl
    omega
  have hcell : ∀ (z : Nat) (fz : Bool) (w' : World) (q : Nat × Nat), w'.heap[z]? = some (.cells (Go.Lib.bytesCells w te s) te q) → (fz = false → q = (0, 0)) → (∀ j, j < (Go.Lib.bytesCells w te s).size → ¬ (q.1 ≤ j ∧ j < q.2)) → DenB μ ok w' z (.row te fz 1 (s.data.toList.map u8S) C) := by
    intro z fz w' q hz hq hj
    refine ⟨_, q, hz, hq, hj, hcs, by simpa using hge, fun i e he => ?_, fun i e j x u he hx hu => ?_⟩
    · rw [List.getElem?_map] at he
      cases hb : s.data.toList[i]? with
      | none => rw [hb] at he; cases he
      | some b => rw [hb] at he; cases he; rfl
    · rw [List.getElem?_map] at he
      cases hb : s.data.toList[i]? with
      | none => rw [hb] at he; cases he
      | some b =>
        rw [hb] at he; cases he
        have hb' : s.data[i]? = some b := by rw [← Array.getElem?_toList]; exact hb
        have hi : i < s.data.size := (Array.getElem?_eq_some_iff.1 hb').1
        cases j with
        | zero =>
          cases hx
          simp only [Nat.mul_one, Nat.add_zero, Go.Lib.bytesCells] at hu
          rw [Array.getElem?_append_left (by simpa using hi), Array.getElem?_map, hb'] at hu
          cases hu
          exact .d (.v _)
        | succ j => simp at hx
  let w1 := w.drew.alloc (.cells (Go.Lib.bytesCells w te s) te)
  have hw1 : w1.heap[w.heap.size]? = some (.cells (Go.Lib.bytesCells w te s) te (0, 0)) := (MapKept.heap_alloc w.drew _).1
  have a1 := (hI.drew).alloc (.cells (Go.Lib.bytesCells w te s) te) (.row te false 1 (s.data.toList.map u8S) C) (hcell _ false w1 (0, 0) hw1 (fun _ => rfl) (fun j _ hj => by omega))
  have hu : Upd w1 (Go.Lib.bytesWorld w te s) w.heap.size := upd_freeze w1 ⟨w.heap.size, (Go.Lib.bytesCells w te s).size, none⟩ 1
  have hget : aget nx ((nx, Blk.row te false 1 (s.data.toList.map u8S) C) :: hp) = some (.row te false 1 (s.data.toList.map u8S) C) := by rw [aget_cons, if_pos rfl]
  have hμ : upd μ nx w.heap.size nx = some w.heap.size := by simp [upd]
  have hB2 : DenB (upd μ nx w.heap.size) ok (Go.Lib.bytesWorld w te s) w.heap.size (.row te true 1 (s.data.toList.map u8S) C) := by
    have h0 := hcell w.heap.size true (Go.Lib.bytesWorld w te s) _ (Go.Lib.bytesWorld_at_new w te s) (fun h => by cases h) (fun j hj h => by omega)
    exact h0.mono (w := Go.Lib.bytesWorld w te s) (fun i b hb => upd_mono (hI.heap.fresh nx (Nat.le_refl _)) i b hb) (fun _ h => h) (fun _ _ => rfl) rfl
  have a2 := a1.set hget hμ hu hB2
  have a3 := a2.put (Nat.le_of_ble_eq_true hd) (x := .own nx 1 0 s.size C) (v := .slice (some ⟨w.heap.size, 0, none⟩) s.size C) (by
    have := Den.own (μ := upd μ nx w.heap.size) (ok := ok) (w := Go.Lib.bytesWorld w te s) (id := nx) (k := 1) (lo := 0) (n := s.size) (C := C) (b := w.heap.size) hμ (by omega) hle
    simpa using this)
  refine g C hge _ _ (Inv1.inv (μ := upd μ nx w.heap.size) (ok := ok) ⟨a3.defers, a3.size, a3.heap.drop fun i B hB => ?_, a3.tmps⟩)
  rw [aget_cons] at hB ⊢
  by_cases h : i = nx
  · rw [if_pos h] at hB ⊢; exact hB
  · rw [if_neg h] at hB ⊢; rw [aget_cons, if_neg h]; exact hB

/-- The text of a row of bytes. -/
theorem bytes_run (hT : TabOk P T) {w : World} {src dst te : TypeId} {ys yt ye : Ty} (h2 : aget src T = some ys) (h3 : ys.td = .slice te) (h4 : aget dst T = some yt) (h5 : yt.td = .str) (h6 : aget te T = some ye) (h7 : ye.td = .int .u8) (a : Addr) (cap : Nat) (l : List UInt8)
    (hc : ∀ j (hj : j < l.length), w.cell? (a.add j) = some (.int .u8 (l[j].toNat : Int))) : (convert src dst (.slice (some a) l.length cap)).run P w = .ok (.string (strL l)) w := by
  have u1 : P.underlying src = some (.slice te) := by have := (hT _ _ h2).td; rw [h3] at this; exact this
  have u2 : P.underlying dst = some .string := by have := (hT _ _ h4).td; rw [h5] at this; exact this
  have u3 : P.underlying te = some (.int .u8) := by have := (hT _ _ h6).td; rw [h7] at this; exact this
  exact run_convert_bytes_back w src dst te a cap l u1 u3 u2 hc
theorem bytes_run0 (hT : TabOk P T) {w : World} {src dst te : TypeId} {ys yt ye : Ty} (h2 : aget src T = some ys) (h3 : ys.td = .slice te) (h4 : aget dst T = some yt) (h5 : yt.td = .str) (h6 : aget te T = some ye) (h7 : ye.td = .int .u8) (a : Option Addr) (cap : Nat) : (convert src dst (.slice a 0 cap)).run P w = .ok (.string (strL [])) w := by
  cases a with
  | some a => exact bytes_run hT h2 h3 h4 h5 h6 h7 a cap [] (fun j hj => by simp at hj)
  | none =>
    have u1 : P.underlying src = some (.slice te) := by have := (hT _ _ h2).td; rw [h3] at this; exact this
    have u2 : P.underlying dst = some .string := by have := (hT _ _ h4).td; rw [h5] at this; exact this
    have u3 : P.underlying te = some (.int .u8) := by have := (hT _ _ h6).td; rw [h7] at this; exact this
    exact run_convert_bytes_nil w src te u1 u3 0 cap dst u2

theorem AWP.bytesStr (e : Env cx P fn lo) (hT : TabOk P T) {src dst te : TypeId} {x : Operand} {ys yt ye : Ty} {id q n C C0 : Nat} {xs : List (List SV)} {te' : TypeId} {fz : Bool} (l : List UInt8) (hd : Nat.blt d fn.ntmps = true) (h1 : opd ⟨tm, hp, nx⟩ x = some (.own id 1 q n C)) (h2 : aget src T = some ys) (h3 : ys.td = .slice te) (h4 : aget dst T = some yt) (h5 : yt.td = .str) (h6 : aget te T = some ye) (h7 : ye.td = .int .u8)
    (hrow : aget id hp = some (.row te' fz 1 xs C0)) (hn : n = l.length) (hl : ∀ j b, l[j]? = some b → xs[q + j]? = some (u8S b)) (g : AWP cx (.ops all rest :: k) ⟨(d, .s (strL l)) :: tm, hp, nx⟩) :
    AWP cx (.ops all (⟨some d, .convert src dst x, ty, pos, after, none⟩ :: rest) :: k) ⟨tm, hp, nx⟩ := by
  refine AWP.op_run e (Nat.le_of_ble_eq_true hd) (fun μ ok ac w hI => ?_) g
  have hx := opd_den hI.tmps h1
  generalize hv : ac.eval x = u at hx
  subst hn
  refine ⟨.string (strL l), ?_, .d (.v _)⟩
  have key : (convert src dst u).run P w = .ok (.string (strL l)) w := by
    generalize hnn : l.length = nn at hx
    cases hx with
    | ownNil a0 _ _ _ =>
      obtain rfl : l = [] := List.eq_nil_of_length_eq_zero hnn
      exact bytes_run0 hT h2 h3 h4 h5 h6 h7 a0 0
    | own hb p1 p2 =>
      rename_i b
      subst hnn
      refine bytes_run hT h2 h3 h4 h5 h6 h7 _ _ l fun j hj => ?_
      obtain ⟨_, hn⟩ | ⟨b', q1, q2, hB⟩ := hI.hh id _ hrow
      · rw [hn] at hb; cases hb
      rw [hb] at q1
      cases q1
      obtain ⟨u, r1, r2⟩ := row_cell hB (hl j l[j] (by simp [hj])) (j := 0) rfl
      rw [add_add', show q * 1 + j = (q + j) * 1 + 0 by omega, r1]
      exact congrArg some r2.vv
  simp only [execOp, hv, Sem.run_bind, key, Result.andThen_ok, Sem.run_pure]

theorem AWP.bytesStrD (e : Env cx P fn lo) (hT : TabOk P T) {src dst te : TypeId} {x : Operand} {ys yt ye : Ty} {xs : List (List DV)} (l : List UInt8) (hd : Nat.blt d fn.ntmps = true) (h1 : opd ⟨tm, hp, nx⟩ x = some (.d (.sl 1 xs))) (h2 : aget src T = some ys) (h3 : ys.td = .slice te) (h4 : aget dst T = some yt) (h5 : yt.td = .str) (h6 : aget te T = some ye) (h7 : ye.td = .int .u8)
    (hl : xs = l.map u8D) (g : AWP cx (.ops all rest :: k) ⟨(d, .s (strL l)) :: tm, hp, nx⟩) :
    AWP cx (.ops all (⟨some d, .convert src dst x, ty, pos, after, none⟩ :: rest) :: k) ⟨tm, hp, nx⟩ := by
  refine AWP.op_run e (Nat.le_of_ble_eq_true hd) (fun μ ok ac w hI => ?_) g
  have hx := opd_den hI.tmps h1
  generalize hv : ac.eval x = u at hx
  subst hl
  refine ⟨.string (strL l), ?_, .d (.v _)⟩
  have key : (convert src dst u).run P w = .ok (.string (strL l)) w := by
    cases hx with | d hx =>
    rcases slOf hx with ⟨h, rfl⟩ | ⟨a, cap, rfl, c1, c2, c3, c4⟩
    · obtain rfl : l = [] := List.map_eq_nil_iff.1 h
      exact bytes_run0 hT h2 h3 h4 h5 h6 h7 none 0
    · rw [List.length_map]
      refine bytes_run hT h2 h3 h4 h5 h6 h7 _ _ l fun j hj => ?_
      obtain ⟨_, u, r1, r2⟩ := c4 j (u8D l[j]) 0 (.v (.int .u8 (l[j].toNat : Int))) (by simp [hj]) rfl
      rw [Nat.mul_one, Nat.add_zero] at r1
      cases r2
      exact r1
  simp only [execOp, hv, Sem.run_bind, key, Result.andThen_ok, Sem.run_pure]

end
end Go.Sy
