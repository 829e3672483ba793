import Derived.Test.YthibaeeoegoliaaF5
open Go Go.Proofs Go.RowKit Go.Shelf Go.Signal
namespace Go.Proofs.Ythibaeeoegoliaa
attribute [local go_sem] Oper.semAt_some

set_option maxHeartbeats 1000000 in
theorem up_in (F : Fence) (n : Nat) (h31 : F.fn 31) (hro : F.round = none) (a w : Int) (W : World) :
    CallsIn F n Try.prog 31 #[.int .i64 a, .int .i64 w] W fun e W' => e = .returned (.func (.func 36) #[] #[.pointer (some ⟨W.heap.size + 1, 0, none⟩), .pointer (some ⟨W.heap.size, 0, none⟩)]) ∧ W' = (W.alloc (.cells #[.int .i64 a] 3)).alloc (.cells #[.int .i64 w] 3) := by
  refine callsIn_of_wp Try.func31 rfl h31 ?_ hro
  simp only [Try.ntmps31, List.size_toArray, List.length_cons, List.length_nil, Nat.reduceAdd, Nat.reduceSub, Array.replicate_succ, Array.replicate_zero, List.push_toArray, List.append_toArray, List.nil_append, List.cons_append]
  gi_wp2
  go_ret
  exact ⟨rfl, rfl⟩
set_option maxHeartbeats 1000000 in
theorem down_in (F : Fence) (n : Nat) (h32 : F.fn 32) (hro : F.round = none) (a w : Int) (W : World) :
    CallsIn F n Try.prog 32 #[.int .i64 a, .int .i64 w] W fun e W' => e = .returned (.func (.func 37) #[] #[.pointer (some ⟨W.heap.size, 0, none⟩), .pointer (some ⟨W.heap.size + 1, 0, none⟩)]) ∧ W' = (W.alloc (.cells #[.int .i64 a] 3)).alloc (.cells #[.int .i64 w] 3) := by
  refine callsIn_of_wp Try.func32 rfl h32 ?_ hro
  simp only [Try.ntmps32, List.size_toArray, List.length_cons, List.length_nil, Nat.reduceAdd, Nat.reduceSub, Array.replicate_succ, Array.replicate_zero, List.push_toArray, List.append_toArray, List.nil_append, List.cons_append]
  gi_wp2
  go_ret
  exact ⟨rfl, rfl⟩


theorem KK.t {m n : Nat} {A B C : World} (h : KK m n A B) (h' : KK m n B C) : KK m n A C := h.trans h'
theorem KK.b {m n : Nat} {w : World} (hn : n ≤ w.heap.size) (W : World) (l : Nat) (o o' : Obj) (hl : w.heap.size ≤ l) (_ : W.heap[l]? = some o) (_ : o.isCells = false) (_ : o.isWalk = false) : KK m n W (W.putObj l o') :=
  fun b _ h2 => World.putObj_heap_other (by omega)
theorem up_stops (F : Fence) (n : Nat) (h36 : F.fn 36) (hro : F.round = none) (hn : 1 ≤ n) (Bw Bs m n₀ a k : Nat) (hb1 : m ≤ Bs) (hb2 : Bs < n₀) (ha : a ≤ 63) (hk : k ≤ 64) (w : World) (hn₀ : n₀ ≤ w.heap.size) (hw : Bw < w.heap.size)
    (hBw : w.cell? ⟨Bw, 0, none⟩ = some (.int .i64 (k : Int))) (hBs : w.cell? ⟨Bs, 0, none⟩ = some (.int .i64 (a : Int))) :
    SeqStopsK F n Try.prog 36 #[.pointer (some ⟨Bw, 0, none⟩), .pointer (some ⟨Bs, 0, none⟩)] (fun x : Nat => #[Value.int .i64 (x : Int)]) (KK m n₀) (fun ys => ys = ats false a k) (fun _ => True) k w := fun l J Jx W hW _ _ hY h0 =>
  up1_in F n h36 hro hn l Bw Bs m n₀ a k hb1 hb2 ha hk J Jx hY W ((hW.cell (p := ⟨Bw, 0, none⟩) hw).trans hBw) ((hW.cell (p := ⟨Bs, 0, none⟩) (Nat.lt_of_lt_of_le hb2 hn₀)).trans hBs) h0
theorem down_stops (F : Fence) (n : Nat) (h37 : F.fn 37) (hro : F.round = none) (hn : 1 ≤ n) (Bw Bs m n₀ a k : Nat) (hb1 : m ≤ Bs) (hb2 : Bs < n₀) (ha : a ≤ 63) (hk : k ≤ 64) (w : World) (hn₀ : n₀ ≤ w.heap.size) (hw : Bw < w.heap.size)
    (hBw : w.cell? ⟨Bw, 0, none⟩ = some (.int .i64 (k : Int))) (hBs : w.cell? ⟨Bs, 0, none⟩ = some (.int .i64 (a : Int))) :
    SeqStopsK F n Try.prog 37 #[.pointer (some ⟨Bs, 0, none⟩), .pointer (some ⟨Bw, 0, none⟩)] (fun x : Nat => #[Value.int .i64 (x : Int)]) (KK m n₀) (fun ys => ys = ats true a k) (fun _ => True) k w := fun l J Jx W hW _ _ hY h0 =>
  down1_in F n h37 hro hn l Bw Bs m n₀ a k hb1 hb2 ha hk J Jx hY W ((hW.cell (p := ⟨Bw, 0, none⟩) hw).trans hBw) ((hW.cell (p := ⟨Bs, 0, none⟩) (Nat.lt_of_lt_of_le hb2 hn₀)).trans hBs) h0
end Go.Proofs.Ythibaeeoegoliaa
