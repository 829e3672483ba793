/-
  How a builder that a function holds is called; what it holds. Condition: what the theorems state ahead.
-/
import Derived.Test.YthdcegeampcalaaGreatDoorF9
open Go Go.Proofs
namespace Go.Sy
open Go.RowKit
section
variable {c0 cx : Cx} {P : Program} {fn : Func} {lo : Nat} {T : Tab} {k : List It} {tm : List (Nat × SV)} {hp : List (Nat × Blk)} {nx : Nat} {all : Array Oper} {rest : List Oper} {d : Nat} {dst : Option Tmp} {ty : TypeId} {pos : String} {after : Array Edge} {S : Nat → Prop}

theorem vals_of {μ : Nat → Option Nat} {ok : Nat → Prop} {w : World} {vals : List Value} {vs : Array Value} (h : VL μ ok w (vals.map fun x => .d (.v x)) vs) : vs = vals.toArray := by
  apply Array.ext
  · simpa using h.1
  · intro j h1 h2
    have h3 : j < vals.length := by simpa using h2
    have := (h.2 j (.d (.v vals[j])) vs[j] (by simp [h3]) (by simp [h1])).vv
    simpa using this
/-- A call that turns blocks of one's own that stand outside the symbolic heap. -/
theorem AWP.callW (m : MapCx c0 cx S) (e : Env cx P fn lo) {f : FuncId} {fn2 : Func} (hf : P.funcs[f]? = some fn2) (hn : (fn2.name == "runtime.NumGoroutine") = false) (hb : fn2.body.isNone = false) {c : Call} (vals : List Value) (r : Value)
    (hc : acall ⟨tm, hp, nx⟩ c = some (f, vals.map fun x => .d (.v x))) (hd : dstOk fn.ntmps dst = true) (Good : (Nat → Prop) → World → Prop)
    (hR : ∀ w, (∀ q, S q → w.heap[q]? = cx.w0.heap[q]?) → Calls P f vals.toArray w fun ex w' => ex = .returned r ∧ (w.heap.size ≤ w'.heap.size ∧ w'.os = w.os ∧ w'.tape = w.tape ∧ w'.output = w.output ∧ ∀ b, b < w.heap.size → ¬ S b → w'.heap[b]? = w.heap[b]?) ∧
      ∃ S2, (∀ b, S2 b → b < w'.heap.size ∧ (S b ∨ w.heap.size ≤ b)) ∧ Good S2 w')
    (g : ∀ cx2 S2, MapCx c0 cx2 S2 → Env cx2 P fn nx → cx2.Post = cx.Post → Good S2 cx2.w0 → AWP cx2 (.ops all rest :: k) ⟨tput dst (.d (.v r)) tm, hp, nx⟩) :
    AWP cx (.ops all (⟨dst, .call c, ty, pos, after, none⟩ :: rest) :: k) ⟨tm, hp, nx⟩ := by
  refine AWP.op rfl fun a w hi => ?_
  obtain ⟨μ, ok, hi⟩ := hi.one
  obtain ⟨vs, h1, h2⟩ := acall_ok (P := cx.P) hi.tmps hc (⟨dst, .call c, ty, pos, after, none⟩ : Oper) rfl (by rw [e.P]; exact enters hf hn hb)
  rw [h1, Oper.upon_enter, vals_of h2, e.P]
  refine (hR w fun q hq => (m.free hi.heap hq).2.2.1).mono ?_
  rintro ex w' ⟨rfl, ⟨g1, g2, g3, g4, g5⟩, S2, g6, g7⟩
  obtain ⟨k1, k2, k3⟩ := m.go e hi g1 g2 g3 g4 g5 g6
  have hg := g _ _ k1 k2 rfl g7
  have hdl : dstOk (cx.at' μ ok hp w').fn.ntmps dst = true := by rw [k2.fn]; exact hd
  have := hg _ _ (k3.dput (dstOk_lt hdl) (.d (.v r))).inv
  rw [← e.P]
  exact K_eqR rfl rfl this
/-- A new block of one's own, outside the symbolic heap. -/
theorem AWP.newW (m : MapCx c0 cx S) (e : Env cx P fn lo) {op : Op} (c : Array Value) (t : TypeId) (hd : Nat.blt d fn.ntmps = true)
    (hr : ∀ μ ok (a : Act) w, Inv1 cx μ ok ⟨tm, hp, nx⟩ a w → (execOp a.eval ⟨some d, op, ty, pos, after, none⟩).run P w = .ok (.value (.pointer (some ⟨w.heap.size, 0, none⟩))) (w.alloc (.cells c t)))
    (g : ∀ cx2 b, MapCx c0 cx2 (fun q => q = b ∨ S q) → Env cx2 P fn nx → cx2.Post = cx.Post → cx2.w0.heap[b]? = some (.cells c t (0, 0)) → (∀ q, S q → q ≠ b ∧ cx2.w0.heap[q]? = cx.w0.heap[q]?) →
      AWP cx2 (.ops all rest :: k) ⟨(d, .d (.v (.pointer (some ⟨b, 0, none⟩)))) :: tm, hp, nx⟩) : AWP cx (.ops all (⟨some d, op, ty, pos, after, none⟩ :: rest) :: k) ⟨tm, hp, nx⟩ := by
  refine AWP.op rfl fun a w hi => ?_
  obtain ⟨μ, ok, hi⟩ := hi.one
  have h0 := hr μ ok a w hi
  rw [e.P, h0, Oper.upon_value]
  have hsz : (w.alloc (.cells c t)).heap.size = w.heap.size + 1 := by simp
  obtain ⟨h1, h2, h3⟩ := m.go e hi (w' := w.alloc (.cells c t)) (S' := fun q => q = w.heap.size ∨ S q) (by omega) rfl rfl rfl (fun b hb _ => Below.heap_alloc _ _ _ hb) (fun b hb => by
    rcases hb with rfl | hb
    · exact ⟨by omega, .inr (Nat.le_refl _)⟩
    · exact ⟨by have := (m.free hi.heap hb).2.2.2; omega, .inl hb⟩)
  have hg := g _ _ h1 h2 rfl (World.alloc_heap_new w _) (fun q hq => by
    have hf := m.free hi.heap hq
    exact ⟨by have := hf.2.2.2; omega, (Below.heap_alloc _ _ _ hf.2.2.2).trans hf.2.2.1⟩)
  have hdl : d < cx.fn.ntmps := by rw [e.fn]; exact Nat.le_of_ble_eq_true hd
  rw [← e.P]
  exact K_eqR rfl rfl (hg _ _ (h3.put hdl (.d (.v _))).inv)
/-- A field's address, and a check that it is there. -/
theorem AWP.nilW (e : Env cx P fn lo) {x : Operand} {a : Addr} (hd : Nat.blt d fn.ntmps = true) (h1 : opd ⟨tm, hp, nx⟩ x = some (.d (.v (.pointer (some a)))))
    (g : AWP cx (.ops all rest :: k) ⟨(d, .d (.v (.pointer (some a)))) :: tm, hp, nx⟩) : AWP cx (.ops all (⟨some d, .nilCheck x, ty, pos, after, none⟩ :: rest) :: k) ⟨tm, hp, nx⟩ := by
  refine AWP.op_run e (Nat.le_of_ble_eq_true hd) (fun μ ok s w hI => ⟨_, ?_, .d (.v _)⟩) g
  have e1 := (opd_den hI.tmps h1).vv
  unfold execOp
  simp only [e1]
  rfl
theorem AWP.fieldW (e : Env cx P fn lo) (hT : TabOk P T) {t : TypeId} {x : Operand} {f : Nat} {a : Addr} {fs : List (TypeId × Nat)} {z y : Ty} {ft off : Nat} (hd : Nat.blt d fn.ntmps = true) (h1 : opd ⟨tm, hp, nx⟩ x = some (.d (.v (.pointer (some a)))))
    (ht : aget t T = some z) (hz : z.td = .struct fs) (hf : nth fs f = some (ft, off)) (hy : aget ft T = some y) (hs : y.size ≠ 0)
    (g : AWP cx (.ops all rest :: k) ⟨(d, .d (.v (.pointer (some (a.add off))))) :: tm, hp, nx⟩) : AWP cx (.ops all (⟨some d, .fieldAddr t x f, ty, pos, after, none⟩ :: rest) :: k) ⟨tm, hp, nx⟩ := by
  refine AWP.op_run e (Nat.le_of_ble_eq_true hd) (fun μ ok s w hI => ⟨_, ?_, .d (.v _)⟩) g
  have e1 := (opd_den hI.tmps h1).vv
  have hx : execOp s.eval ⟨some d, .fieldAddr t x f, ty, pos, after, none⟩ = (do pure (.value (← Instr.fieldAt t (s.eval x) f))) := rfl
  rw [hx, e1, Sem.run_bind, run_fieldAt hT hz ht f ft off hf hy hs]
  rfl
end
end Go.Sy
namespace Go.Proofs.YthdcegeampcalaaGreatDoor
open Go.Sy Go.RowKit
section
variable {c0 cx : Cx} {fn : Func} {lo : Nat} {k : List It} {tm : List (Nat × SV)} {hp : List (Nat × Blk)} {nx : Nat} {all : Array Oper} {rest : List Oper} {d : Nat} {dst : Option Tmp} {ty : TypeId} {pos : String} {after : Array Edge} {S : Nat → Prop}
/-- A builder, with what it holds, in a world; its blocks are one's own. -/
def HasB (T : TypeId) (b : Nat) (l : List UInt8) (S : Nat → Prop) (w : World) : Prop := ∃ v, Bld T b v (Lib.byteCells l) w ∧ S b ∧ ∀ q, v.ownBlock = some q → S q
/-- The builder in any world that is alike in what is one's own. -/
theorem HasB.moved {T : TypeId} {b : Nat} {l : List UInt8} {w w2 : World} (h : HasB T b l S w) (hw : ∀ q, S q → w2.heap[q]? = w.heap[q]?) : ∃ v, Bld T b v (Lib.byteCells l) w2 ∧ S b ∧ ∀ q, v.ownBlock = some q → S q := by
  obtain ⟨v, h1, h2, h3⟩ := h
  obtain ⟨p, hp, hb⟩ := h1.at'
  refine ⟨v, ⟨⟨p, hp, (hw b h2).trans hb⟩, ⟨h1.own.1, ?_⟩, h1.ne⟩, h2, h3⟩
  rcases h1.own.2 with h | ⟨g, cap, cur, fz, rfl, r1, r2, r3⟩
  · exact .inl h
  · exact .inr ⟨g, cap, cur, fz, rfl, r1, (hw g (h3 g rfl)).trans r2, r3⟩
theorem HasB.next {T : TypeId} {b : Nat} {v v' : Value} {l : List UInt8} {w w' : World} (h : Bld T b v' (Lib.byteCells l) w') (ha : Apart b v w w') (ho : Orig v v' w) (hS : S b) (hv : ∀ q, v.ownBlock = some q → S q) (hlt : b < w.heap.size) :
    (w.heap.size ≤ w'.heap.size ∧ w'.os = w.os ∧ w'.tape = w.tape ∧ w'.output = w.output ∧ ∀ q, q < w.heap.size → ¬ S q → w'.heap[q]? = w.heap[q]?) ∧
    ∃ S2 : Nat → Prop, (∀ q, S2 q → q < w'.heap.size ∧ (S q ∨ w.heap.size ≤ q)) ∧ HasB T b l S2 w' := by
  refine ⟨⟨ha.1, ha.2.1, ha.2.2.1, ha.2.2.2.1, fun q hq hn => ha.2.2.2.2 q hq (fun e => hn (e ▸ hS)) (fun e => hn (hv q e))⟩, fun q => q = b ∨ v'.ownBlock = some q, ?_, v', h, .inl rfl, fun q hq => .inr hq⟩
  rintro q (rfl | hq)
  · exact ⟨h.lt, .inl hS⟩
  · refine ⟨?_, (ho q hq).elim (fun h => .inl (hv q h)) .inr⟩
    rcases h.own.2 with ⟨rfl, _⟩ | ⟨g, _, cur, _, rfl, _, hg, _⟩
    · simp [Value.ownBlock] at hq
    · simp only [Value.ownBlock, Option.some.injEq] at hq
      subst hq
      rcases Nat.lt_or_ge g w'.heap.size with h' | h'
      · exact h'
      · simp [Array.getElem?_eq_none h'] at hg
theorem HasB.new {T : TypeId} {b : Nat} {w : World} (hb : w.heap[b]? = some (.cells #[.pointer none, .slice none 0 0] T (0, 0))) (hS : S b) : HasB T b [] S w :=
  ⟨.slice none 0 0, ⟨⟨_, .inl rfl, hb⟩, ⟨rfl, .inl ⟨rfl, rfl⟩⟩, by simp [Value.ownBlock]⟩, hS, fun q hq => by simp [Value.ownBlock] at hq⟩
theorem cells_app (l : List UInt8) (m : List UInt8) : Lib.byteCells l ++ Lib.strCells (strL m) = Lib.byteCells (l ++ m) := by
  rw [Lib.byteCells_append, Lib.strCells_eq, strL_data]
/-- Bytes written. -/
theorem AWP.writeB {T : TypeId} {b : Nat} {l : List UInt8} (m : MapCx c0 cx S) (e : Env cx Tryz.prog fn lo) (hT : Bty T) (hB : HasB T b l S cx.w0) (u : List UInt8) (hlen : l.length + u.length ≤ 100000) {c : Call}
    (hc : acall ⟨tm, hp, nx⟩ c = some (35, [.d (.v (pB b)), .s (strL u)])) (hd : dstOk fn.ntmps dst = true)
    (g : ∀ cx2 S2, MapCx c0 cx2 S2 → Env cx2 Tryz.prog fn nx → cx2.Post = cx.Post → HasB T b (l ++ u) S2 cx2.w0 → AWP cx2 (.ops all rest :: k) ⟨tput dst (.d (.v (.tuple #[.int .i64 (strL u).size, .nilIface]))) tm, hp, nx⟩) :
    AWP cx (.ops all (⟨dst, .call c, ty, pos, after, none⟩ :: rest) :: k) ⟨tm, hp, nx⟩ := by
  refine AWP.callW m e Tryz.func35 (by kernel_rfl) (by kernel_rfl) [pB b, .string (strL u)] _ hc hd (HasB T b (l ++ u)) (fun w hw => ?_) g
  obtain ⟨v, h1, h2, h3⟩ := hB.moved hw
  refine (write_any hT (strL u) h1 (by rw [Lib.byteCells_length, strL_size]; omega)).mono ?_
  rintro ex w' ⟨rfl, v', k1, k2, k3⟩
  rw [cells_app] at k1
  exact ⟨rfl, HasB.next k1 k2 k3 h2 h3 h1.lt⟩
/-- One byte written. -/
theorem AWP.byteB {T : TypeId} {b : Nat} {l : List UInt8} (m : MapCx c0 cx S) (e : Env cx Tryz.prog fn lo) (hT : Bty T) (hB : HasB T b l S cx.w0) (u : UInt8) (hlen : l.length ≤ 100000) {c : Call}
    (hc : acall ⟨tm, hp, nx⟩ c = some (43, [.d (.v (pB b)), U u])) (hd : dstOk fn.ntmps dst = true)
    (g : ∀ cx2 S2, MapCx c0 cx2 S2 → Env cx2 Tryz.prog fn nx → cx2.Post = cx.Post → HasB T b (l ++ [u]) S2 cx2.w0 → AWP cx2 (.ops all rest :: k) ⟨tput dst (.d (.v .nilIface)) tm, hp, nx⟩) :
    AWP cx (.ops all (⟨dst, .call c, ty, pos, after, none⟩ :: rest) :: k) ⟨tm, hp, nx⟩ := by
  refine AWP.callW m e Tryz.func43 (by kernel_rfl) (by kernel_rfl) [pB b, .int .u8 u.toNat] _ hc hd (HasB T b (l ++ [u])) (fun w hw => ?_) g
  obtain ⟨v, h1, h2, h3⟩ := hB.moved hw
  refine (byte_any hT (u.toNat : Int) h1 (by rw [Lib.byteCells_length]; omega)).mono ?_
  rintro ex w' ⟨rfl, v', k1, k2, k3⟩
  rw [show Lib.byteCells l ++ [.int .u8 u.toNat] = Lib.byteCells (l ++ [u]) from (Lib.byteCells_append l [u]).symm] at k1
  exact ⟨rfl, HasB.next k1 k2 k3 h2 h3 h1.lt⟩
/-- How many there are. -/
theorem AWP.lenB {T : TypeId} {b : Nat} {l : List UInt8} (m : MapCx c0 cx S) (e : Env cx Tryz.prog fn lo) (hB : HasB T b l S cx.w0) {c : Call}
    (hc : acall ⟨tm, hp, nx⟩ c = some (41, [.d (.v (pB b))])) (hd : dstOk fn.ntmps dst = true)
    (g : ∀ cx2 S2, MapCx c0 cx2 S2 → Env cx2 Tryz.prog fn nx → cx2.Post = cx.Post → HasB T b l S2 cx2.w0 → AWP cx2 (.ops all rest :: k) ⟨tput dst (.i l.length) tm, hp, nx⟩) :
    AWP cx (.ops all (⟨dst, .call c, ty, pos, after, none⟩ :: rest) :: k) ⟨tm, hp, nx⟩ := by
  refine AWP.callW m e Tryz.func41 (by kernel_rfl) (by kernel_rfl) [pB b] _ hc hd (HasB T b l) (fun w hw => ?_) g
  obtain ⟨v, h1, h2, h3⟩ := hB.moved hw
  refine (len_any h1).mono ?_
  rintro ex w' ⟨rfl, rfl⟩
  rw [Lib.byteCells_length]
  exact ⟨rfl, HasB.next (v := v) h1 ⟨Nat.le_refl _, rfl, rfl, rfl, fun _ _ _ _ => rfl⟩ (fun q hq => .inl hq) h2 h3 h1.lt⟩
/-- What is held, as a text. -/
theorem AWP.stringB {T : TypeId} {b : Nat} {l : List UInt8} (m : MapCx c0 cx S) (e : Env cx Tryz.prog fn lo) (hT : Bty T) (hB : HasB T b l S cx.w0) (hl : l ≠ []) {c : Call}
    (hc : acall ⟨tm, hp, nx⟩ c = some (36, [.d (.v (pB b))])) (hd : dstOk fn.ntmps dst = true)
    (g : ∀ cx2 S2, MapCx c0 cx2 S2 → Env cx2 Tryz.prog fn nx → cx2.Post = cx.Post → HasB T b l S2 cx2.w0 → AWP cx2 (.ops all rest :: k) ⟨tput dst (.s (strL l)) tm, hp, nx⟩) :
    AWP cx (.ops all (⟨dst, .call c, ty, pos, after, none⟩ :: rest) :: k) ⟨tm, hp, nx⟩ := by
  refine AWP.callW m e Tryz.func36 (by kernel_rfl) (by kernel_rfl) [pB b] _ hc hd (HasB T b l) (fun w hw => ?_) g
  obtain ⟨v, h1, h2, h3⟩ := hB.moved hw
  refine (string_any h1 hT hl).mono ?_
  rintro ex w' ⟨rfl, k1, k2⟩
  exact ⟨rfl, HasB.next k1 k2 (fun q hq => .inl hq) h2 h3 h1.lt⟩
end
end Go.Proofs.YthdcegeampcalaaGreatDoor

open Go Go.Proofs Go.Sy Go.RowKit
namespace Go.Proofs.YthdcegeampcalaaGreatDoor

theorem calls_of_eff {P : Program} {f : FuncId} {r : SV} {val : Value} (vals : List Value) (h : Eff P f (vals.map fun x => .d (.v x)) [] 0 (fun r' _ _ => r' = r)) (hr : ∀ μ ok w v, Den μ ok w r v → v = val) (fn : Func) (w : World) :
    Calls P f vals.toArray w fun e w' => e = .returned val ∧ Below w.heap.size w w' := by
  refine (h.2 ⟨P, fn, w, fun _ => none, fun _ => False, fun _ => False, fun _ _ _ => True, fun _ _ _ => False⟩ vals.toArray rfl (fun b => ⟨fun h => h.elim, fun ⟨i, B, h, _⟩ => by simp [aget] at h⟩) ⟨fun _ _ h => h, fun _ _ => rfl, fun _ h => h, fun _ h => h.elim, fun _ h => .inl h, fun i B h => by simp [aget] at h, fun i j C D b h => by simp [aget] at h, fun _ _ _ => rfl, Nat.le_refl _, rfl, rfl, rfl⟩ (by simp) (fun j c u hc hu => ?_)).mono ?_
  · simp only [List.getElem?_map, Option.map_eq_some_iff] at hc
    obtain ⟨x, hx, rfl⟩ := hc
    have : u = x := by
      have hu : vals[j]? = some u := by simpa using hu
      rw [hx] at hu
      exact (Option.some.inj hu).symm
    subst this
    exact .d (.v _)
  · rintro e w' ⟨v, μ, ok, r', h', n', rfl, g1, g2, rfl⟩
    exact ⟨by rw [hr _ _ _ _ g2], ⟨g1.os, g1.tape, g1.output, g1.size, fun b hb => g1.frame b hb (fun h => h)⟩⟩
theorem of_calls (n : BitVec 64) (wd : Nat) (hw : wd ≤ 64) (hn : wd < 64 → n >>> wd = 0#64) (w : World) :
    Calls Tryz.prog 32 #[.int .u64 n.toNat, .int .i64 wd] w fun e w' => e = .returned (.tuple #[.string (strL (bitsOf n wd)), .int .i64 0]) ∧ Below w.heap.size w w' := by
  refine calls_of_eff [.int .u64 n.toNat, .int .i64 wd] (of_ok n wd hw hn) (fun μ ok w v hv => ?_) Tryz.f32 w
  cases hv with
  | tup vs h h1 =>
    congr 1
    apply Array.ext
    · simpa using h
    · intro j h2 h3
      have h4 : j = 0 ∨ j = 1 := by simp at h3; omega
      rcases h4 with rfl | rfl
      · exact (h1 0 _ _ rfl (Array.getElem?_eq_getElem h2)).vv
      · exact (h1 1 _ _ rfl (Array.getElem?_eq_getElem h2)).vv
theorem Bld.below {T : TypeId} {b : Nat} {v : Value} {bs : List Value} {w w1 : World} (h : Bld T b v bs w) (hb : Below w.heap.size w w1) : Bld T b v bs w1 ∧ Apart b v w w1 := by
  obtain ⟨p, hp, hc⟩ := h.at'
  refine ⟨⟨⟨p, hp, (hb.block b h.lt).trans hc⟩, ⟨h.own.1, ?_⟩, h.ne⟩, ⟨hb.size, hb.os, hb.tape, hb.output, fun k hk _ _ => hb.block k hk⟩⟩
  rcases h.own.2 with h | ⟨g, cap, cur, fz, rfl, r1, r2, r3⟩
  · exact .inl h
  · refine .inr ⟨g, cap, cur, fz, rfl, r1, (hb.block g ?_).trans r2, r3⟩
    rcases Nat.lt_or_ge g w.heap.size with h' | h'
    · exact h'
    · simp [Array.getElem?_eq_none h'] at r2
theorem Apart.trans {b : Nat} {v v' : Value} {w w1 w2 : World} (h : Apart b v w w1) (h' : Apart b v w1 w2) (ho : Orig v v' w1) : Apart b v w w2 ∧ Orig v v' w := by
  have h1 := h.1
  refine ⟨⟨Nat.le_trans h.1 h'.1, h'.2.1.trans h.2.1, h'.2.2.1.trans h.2.2.1, h'.2.2.2.1.trans h.2.2.2.1, fun k hk q1 q2 => (h'.2.2.2.2 k (by omega) q1 q2).trans (h.2.2.2.2 k hk q1 q2)⟩, fun k hk => ?_⟩
  rcases ho k hk with h | h
  · exact .inl h
  · exact .inr (by omega)
set_option maxRecDepth 100000 in
set_option maxHeartbeats 1000000 in
theorem truth_any {b : Nat} {v : Value} {bs : List Value} {w : World} (t : Bool) (h : Bld 87 b v bs w) (hlen : bs.length + 1 ≤ 140737488355328) :
    Calls Tryz.prog 33 #[pB b, .bool t] w fun e w' => e = .returned (.tuple #[]) ∧ ∃ v', Bld 87 b v' (bs ++ Lib.strCells (strL [bv t])) w' ∧ Apart b v w w' ∧ Orig v v' w := by
  cases t
  · go_enter Tryz.func33, Tryz.ntmps33
    go_wp2_with (go_at_call 35; refine (write_any bty87 _ h (by show bs.length + 1 ≤ _; omega)).mono ?_)
    rintro e w1 ⟨rfl, v', k1, k2, k3⟩
    go_wp2
    go_end0
    exact ⟨rfl, v', k1, k2, k3⟩
  · go_enter Tryz.func33, Tryz.ntmps33
    go_wp2_with (go_at_call 35; refine (write_any bty87 _ h (by show bs.length + 1 ≤ _; omega)).mono ?_)
    rintro e w1 ⟨rfl, v', k1, k2, k3⟩
    go_wp2
    go_end0
    exact ⟨rfl, v', k1, k2, k3⟩
set_option maxRecDepth 100000 in
set_option maxHeartbeats 1000000 in
theorem number_any {b : Nat} {v : Value} {bs : List Value} {w : World} (n : BitVec 64) (wd : Nat) (hw : wd ≤ 64) (hn : wd < 64 → n >>> wd = 0#64) (h : Bld 87 b v bs w) (hlen : bs.length + wd ≤ 140737488355328) :
    Calls Tryz.prog 34 #[pB b, .int .u64 n.toNat, .int .i64 wd] w fun e w' => e = .returned (.tuple #[]) ∧ ∃ v', Bld 87 b v' (bs ++ Lib.strCells (strL (bitsOf n wd))) w' ∧ Apart b v w w' ∧ Orig v v' w := by
  go_enter Tryz.func34, Tryz.ntmps34
  go_wp2_with (go_at_call 32; refine (of_calls n wd hw hn _).mono ?_)
  rintro e w1 ⟨rfl, hb⟩
  obtain ⟨h1, ha1⟩ := h.below hb
  clear hb h
  go_wp2_with (go_at_call 35; refine (write_any bty87 _ h1 (by rw [strL_size, bitsOf_len]; exact hlen)).mono ?_)
  rintro e w2 ⟨rfl, v', k1, k2, k3⟩
  obtain ⟨q1, q2⟩ := ha1.trans k2 k3
  go_wp2
  go_end0
  exact ⟨rfl, v', k1, q1, q2⟩
end Go.Proofs.YthdcegeampcalaaGreatDoor
