import Derived.RangeFuncNested
import Derived.RangeFuncBound
import Derived.RangeFuncCalls
import Derived.RangeFuncLeaves
import Derived.Shelf.Abstract
import Derived.OwnWalkIn
import Derived.TacticsInMore
import Derived.LoopNIn
import Derived.LoopIn
import Derived.Maps.AppendAt
import Derived.Test.YthibaeeoegoliaaF4
open Go Go.Proofs Go.RowKit Go.Shelf Go.Signal
namespace Go.Proofs.Ythibaeeoegoliaa
attribute [local go_sem] Oper.semAt_some
/-- The blocks from m on, below n, lie as they lay. -/
def KK (m n : Nat) (W W' : World) : Prop := ∀ b, m ≤ b → b < n → W'.heap[b]? = W.heap[b]?
theorem KK.cell {m n : Nat} {W W' : World} (h : KK m n W W') {b j : Nat} (h1 : m ≤ b) (h2 : b < n) : W'.cell? ⟨b, j, none⟩ = W.cell? ⟨b, j, none⟩ := World.cell?_of_block (h b h1 h2)
theorem KK.refl (m n : Nat) (W : World) : KK m n W W := fun _ _ _ => rfl
theorem KK.trans {m n : Nat} {A B C : World} (h : KK m n A B) (h' : KK m n B C) : KK m n A C := fun b h1 h2 => (h' b h1 h2).trans (h b h1 h2)

set_option maxRecDepth 100000 in
set_option maxHeartbeats 2000000 in
theorem up1_in (F : Fence) (n : Nat) (h36 : F.fn 36) (hro : F.round = none) (hn : 1 ≤ n) (l Bw Bs m n₀ a w : Nat) (hb1 : m ≤ Bs) (hb2 : Bs < n₀) (ha : a ≤ 63) (hw : w ≤ 64) (J Jx : List Nat → World → Prop)
    (hY : ∀ (pre : List Nat) (x : Nat) W, J pre W → pre.length < w → YieldAt F (n - 1) Try.prog l #[.int .i64 (x : Int)] W fun e W' =>
      (e = .returned (.bool true) ∧ J (pre ++ [x]) W' ∧ KK m n₀ W W') ∨ (e = .returned (.bool false) ∧ Jx (pre ++ [x]) W'))
    (W : World) (hBw : W.cell? ⟨Bw, 0, none⟩ = some (.int .i64 (w : Int))) (hBs : W.cell? ⟨Bs, 0, none⟩ = some (.int .i64 (a : Int))) (h0 : J [] W) :
    CallsIn F n Try.prog 36 #[.func (.yield l) #[] #[], .pointer (some ⟨Bw, 0, none⟩), .pointer (some ⟨Bs, 0, none⟩)] W fun e W' => (∃ v, e = .returned v) ∧
      ((∃ ys, ys = ats false a w ∧ J ys W') ∨ (∃ pre, True ∧ Jx pre W')) := by
  refine callsIn_of_wp Try.func36 rfl h36 ?_ hro
  simp only [Try.ntmps36, List.size_toArray, List.length_cons, List.length_nil, Nat.reduceAdd, Nat.reduceSub, Array.replicate_succ, Array.replicate_zero, List.push_toArray, List.append_toArray, List.nil_append, List.cons_append]
  gi_wp2
  gi_loopw [6] (fun i wr => ∃ k : Nat, k ≤ w ∧ i = .int .i64 (k : Int) ∧ J (ats false a k) wr ∧ KK m n₀ W wr)
    (fun i _ => w - (intOf i).toNat)
  case atStart => exact ⟨0, Nat.zero_le _, rfl, h0, KK.refl _ _ _⟩
  case round =>
    obtain ⟨k, hk, rfl, hJs, hnx⟩ := hrel
    have hcx : wr.cell? ⟨Bs, 0, none⟩ = some (.int .i64 (a : Int)) := (hnx.cell hb1 hb2).trans hBs
    have hit : (a : Int) + (k : Int) = ((iter false a k : Nat) : Int) := by
      have : ∀ m, iter false a m = a + m := fun m => by
        induction m with
        | zero => rfl
        | succ m ih => show nxt false _ = _; rw [ih]; rfl
      rw [this]; omega
    by_cases hlt : k < w
    · obtain ⟨fn, tmps, assign, body, hy, hR⟩ := hY _ (iter false a k) wr hJs (by rw [ats_len]; exact hlt)
      gi_wp2
      refine hR.mono ?_
      rintro e W3 (⟨rfl, hJ3, hk3⟩ | ⟨rfl, hJx3⟩)
      · gi_wp2
        go_roundw
        case rel => exact ⟨k + 1, by omega, by simp, by rw [ats_snoc]; exact hJ3, hnx.trans hk3⟩
        case measure => simp [intOf]; omega
      · gi_wp2
        refine bodyPost_ret (results_none rfl _ _ _) rfl ?_
        exact ⟨⟨_, rfl⟩, .inr ⟨_, trivial, hJx3⟩⟩
    · obtain rfl : k = w := by omega
      gi_wp2
      go_end0
      exact ⟨⟨_, rfl⟩, .inl ⟨_, rfl, hJs⟩⟩

set_option maxRecDepth 100000 in
set_option maxHeartbeats 2000000 in
theorem down1_in (F : Fence) (n : Nat) (h37 : F.fn 37) (hro : F.round = none) (hn : 1 ≤ n) (l Bw Bs m n₀ a w : Nat) (_hb1 : m ≤ Bs) (_hb2 : Bs < n₀) (ha : a ≤ 63) (hw : w ≤ 64) (J Jx : List Nat → World → Prop)
    (hY : ∀ (pre : List Nat) (x : Nat) W, J pre W → pre.length < w → YieldAt F (n - 1) Try.prog l #[.int .i64 (x : Int)] W fun e W' =>
      (e = .returned (.bool true) ∧ J (pre ++ [x]) W' ∧ KK m n₀ W W') ∨ (e = .returned (.bool false) ∧ Jx (pre ++ [x]) W'))
    (W : World) (hBw : W.cell? ⟨Bw, 0, none⟩ = some (.int .i64 (w : Int))) (hBs : W.cell? ⟨Bs, 0, none⟩ = some (.int .i64 (a : Int))) (h0 : J [] W) :
    CallsIn F n Try.prog 37 #[.func (.yield l) #[] #[], .pointer (some ⟨Bs, 0, none⟩), .pointer (some ⟨Bw, 0, none⟩)] W fun e W' => (∃ v, e = .returned v) ∧
      ((∃ ys, ys = ats true a w ∧ J ys W') ∨ (∃ pre, True ∧ Jx pre W')) := by
  refine callsIn_of_wp Try.func37 rfl h37 ?_ hro
  simp only [Try.ntmps37, List.size_toArray, List.length_cons, List.length_nil, Nat.reduceAdd, Nat.reduceSub, Array.replicate_succ, Array.replicate_zero, List.push_toArray, List.append_toArray, List.nil_append, List.cons_append]
  gi_wp2
  gi_loopw [7, 4] (fun i at' wr => ∃ k : Nat, k ≤ w ∧ i = .int .i64 (k : Int) ∧ at' = .int .i64 ((iter true a k : Nat) : Int) ∧ J (ats true a k) wr ∧ KK m n₀ W wr)
    (fun i _ _ => w - (intOf i).toNat)
  case atStart => exact ⟨0, Nat.zero_le _, rfl, rfl, h0, KK.refl _ _ _⟩
  case round =>
    obtain ⟨k, hk, rfl, rfl, hJs, hnx⟩ := hrel
    have hle := iter_le true a k
    have hs : iter true a (k + 1) = if iter true a k % 8 = 0 then iter true a k + 15 else iter true a k - 1 := rfl
    by_cases hlt : k < w
    · obtain ⟨fn, tmps, assign, body, hy, hR⟩ := hY _ (iter true a k) wr hJs (by rw [ats_len]; exact hlt)
      rw [← ats_snoc] at hR
      have hb : ((((iter true a k : Nat) : Int)).tmod 8 == 0) = decide (iter true a k % 8 = 0) := by
        rw [Int.tmod_eq_emod_of_nonneg (by omega), Bool.eq_iff_iff, beq_iff_eq, decide_eq_true_eq]; omega
      generalize iter true a k = q at *
      obtain ⟨q2, hq2⟩ : ∃ q2, q2 = iter true a (k + 1) := ⟨_, rfl⟩
      rw [← hq2] at hs
      gi_wp2
      refine hR.mono ?_
      rintro e W3 (⟨rfl, hJ3, hk3⟩ | ⟨rfl, hJx3⟩)
      · by_cases h8 : q % 8 = 0
        · rw [decide_eq_true h8] at hb
          rw [if_pos h8] at hs
          gi_wp2
          go_roundw
          case rel => exact ⟨k + 1, by omega, by simp, by rw [← hq2, hs]; congr 1; omega, hJ3, hnx.trans hk3⟩
          case measure => simp [intOf]; omega
        · rw [decide_eq_false h8] at hb
          rw [if_neg h8] at hs
          gi_wp2
          go_roundw
          case rel => exact ⟨k + 1, by omega, by simp, by rw [← hq2, hs]; congr 1; omega, hJ3, hnx.trans hk3⟩
          case measure => simp [intOf]; omega
      · gi_wp2
        refine bodyPost_ret (results_none rfl _ _ _) rfl ?_
        exact ⟨⟨_, rfl⟩, .inr ⟨_, trivial, hJx3⟩⟩
    · obtain rfl : k = w := by omega
      gi_wp2
      go_end0
      exact ⟨⟨_, rfl⟩, .inl ⟨_, rfl, hJs⟩⟩
end Go.Proofs.Ythibaeeoegoliaa
