import Derived.Test.YtclmbbcchgfedaaDoorF2
open Go Go.Proofs Go.Sy
namespace Go.Proofs.YtclmbbcchgfedaaDoor

theorem strL_of (s : ByteArray) : s = strL s.data.toList := by
  apply ByteArray.ext
  simp [strL]
theorem cut_str (l : List UInt8) (N : Nat) : (strL l).extract 0 (if (N : Int) < ((strL l).size : Int) then (N : Int) else ((strL l).size : Int)).toNat = strL (l.take N) := by
  rw [strL_size]
  have : (if (N : Int) < (l.length : Int) then (N : Int) else (l.length : Int)).toNat = min N l.length := by split <;> omega
  rw [this]
  apply ByteArray.ext
  simp [strL]
theorem beq_str (a b : List UInt8) : ((strL a).toList == (strL b).toList) = (a == b) := by rw [strL_toList, strL_toList]

set_option maxRecDepth 100000 in
theorem alive_eff : Eff Tryd.prog 13 [] [] 0 (fun r _ _ => r = .b true) := by
  have c1 := of_ok 5#64 4 (by decide) (fun _ => by decide)
  have c2 := right_eff (bitsOf 5#64 4)
  have e1 : bitsOf 5#64 4 = [48, 49, 48, 49] := by decide
  have h1 : ((strL (bitsOf 5#64 4)).toList == (ByteArray.mk #[48, 49, 48, 49]).toList) = true := by rw [e1]; exact (beq_str [48, 49, 48, 49] [48, 49, 48, 49]).trans (by decide)
  have h2 : wellB (bitsOf 5#64 4) = true := by rw [e1]; decide
  rw [h2] at c2
  clear e1 h2
  refine eff_of Tryd.func13 rfl rfl rfl fun cx e hP => ?_
  refine AWP.runL e tab_ok L13 300 rfl (by first | trivial | (simp [in64] <;> omega) | (simp only [in64, true_and, and_true]; omega)) ?_
  repeat (
    first
      | (refine AWP.askT rfl ?_; (first | (refine Told.t rfl ?_) | (refine Told.f rfl ?_) | (refine Told.t ?_ ?_; (focus assumption)) | (refine Told.f ?_ ?_; (focus assumption)) | (refine Told.t ?_ ?_; (focus (first | (simp; omega) | (simp [*]; done)); done)) | (refine Told.f ?_ ?_; (focus (first | (simp; omega) | (simp [*]; done)); done))); refine AWP.runL e tab_ok L13 300 rfl (by first | trivial | (simp [in64] <;> omega) | (simp only [in64, true_and, and_true]; omega)) ?_)
      | (refine AWP.callQ e rfl rfl ?_; (first | refine CallQ.mk (c1) rfl rfl ?_ | refine CallQ.mk (c2) rfl rfl ?_); refine AWP.runL e tab_ok L13 300 rfl (by first | trivial | (simp [in64] <;> omega) | (simp only [in64, true_and, and_true]; omega)) ?_)
      | (refine AWP.eq_agg e tab_ok rfl rfl rfl (.inl ⟨rfl, rfl⟩) ?_ 5 (by omega) rfl ?_ rfl rfl rfl rfl rfl rfl rfl ?_; (focus kernel_rfl); (focus kernel_rfl); refine AWP.runL e tab_ok L13 300 rfl (by first | trivial | (simp [in64] <;> omega) | (simp only [in64, true_and, and_true]; omega)) ?_)
      | (refine AWP.eq_agg e tab_ok rfl rfl rfl (.inr ⟨rfl, rfl⟩) ?_ 5 (by omega) rfl ?_ rfl rfl rfl rfl rfl rfl rfl ?_; (focus kernel_rfl); (focus kernel_rfl); refine AWP.runL e tab_ok L13 300 rfl (by first | trivial | (simp [in64] <;> omega) | (simp only [in64, true_and, and_true]; omega)) ?_)
    )
  refine AWP.ret e tab_ok rfl ?_
  rw [hP]
  all_goals first | rfl | (simp [strip]; done)

/-- The reference's number. -/
theorem dbl (x : BitVec 64) : IntKind.wrap .u64 (2 * (x.toNat : Int)) = ((x <<< 1).toNat : Int) := by
  rw [← u64shl]
  congr 1
  rw [Int.mul_comm]
  rfl
theorem add1 (x : BitVec 64) : IntKind.wrap .u64 (((x <<< 1).toNat : Int) + 1) = ((x <<< 1 ||| 1#64).toNat : Int) := by
  have e : x <<< 1 + 1#64 = x <<< 1 ||| 1#64 := BitVec.add_eq_or_of_and_eq_zero _ _ (by
    apply BitVec.eq_of_getLsbD_eq
    intro i hi
    rw [BitVec.getLsbD_and, BitVec.getLsbD_one, BitVec.getLsbD_shiftLeft]
    cases i <;> simp)
  have h : ∀ m : Nat, IntKind.wrap .u64 ((m : Int) + 1) = (((m + 1) % 2 ^ 64 : Nat) : Int) := fun m => wrapN .u64 rfl (m + 1)
  rw [← e, BitVec.toNat_add]
  exact h _
set_option maxRecDepth 100000 in
theorem refnum_eff (l : List UInt8) (hl : l.length ≤ 1000000) : Eff Tryd.prog 15 [.s (strL l)] [] 0 (fun r _ _ => r = U64 (numOf l)) := by
  have hsz : (strL l).size = l.length := strL_size l
  refine eff_of Tryd.func15 rfl rfl rfl fun cx e hP => ?_
  refine AWP.runL e tab_ok L15 300 rfl (by first | trivial | (simp [in64] <;> omega) | (simp only [in64, true_and, and_true]; omega)) ?_
  refine AWP.loop (ι := Nat) (fun i => ⟨[(4, .i i), (3, U64 (numOf (l.take i))), (0, .s (strL l))], [], 0⟩) (fun i => i ≤ l.length) (fun i => l.length - i) 0 (Nat.zero_le _) ?_ ?_
  · intro g
    refine AWP.less e ?_ ?_ ?_ ?_ ?_ (g) <;> (repeat' (first | exact True.intro | (refine And.intro ?_ ?_) | rfl | assumption))
  rintro i Φ hi next
  have hi : i ≤ l.length := hi
  refine AWP.runL e tab_ok L15 300 rfl (by first | trivial | (simp [in64] <;> omega) | (simp only [in64, true_and, and_true]; omega)) ?_
  refine AWP.cond2 rfl (fun hlt => ?_) (fun hlt => ?_)
  · have hlt : i < l.length := by rw [hsz] at hlt; simpa using hlt
    have nx := next (i + 1) hlt (by show l.length - (i + 1) < l.length - i; omega)
    rw [num_succ hlt] at nx
    have hb : byteAt (strL l) i = ((l[i]).toNat : Int) := b_at l i hlt
    have h1 : (byteAt (strL l) i == 49) = (l[i] == 49) := by rw [hb]; exact u_eq l[i] 49
    rcases cases_b (l[i] == 49) with h | h <;> rw [h] at h1 nx
    · refine AWP.runL e tab_ok L15 300 rfl (by first | trivial | (simp [] <;> omega) | (simp only [in64, true_and, and_true]; omega)) ?_
      repeat (
        first
          | (refine AWP.askT rfl ?_; (first | (refine Told.t rfl ?_) | (refine Told.f rfl ?_) | (refine Told.t ?_ ?_; (focus assumption)) | (refine Told.f ?_ ?_; (focus assumption)) | (refine Told.t ?_ ?_; (focus (first | (simp; omega) | (simp [*]; done)); done)) | (refine Told.f ?_ ?_; (focus (first | (simp; omega) | (simp [*]; done)); done))); refine AWP.runL e tab_ok L15 300 rfl (by first | trivial | (simp [in64] <;> omega) | (simp only [in64, true_and, and_true]; omega)) ?_)
          | (refine AWP.eq_agg e tab_ok rfl rfl rfl (.inl ⟨rfl, rfl⟩) ?_ 5 (by omega) rfl ?_ rfl rfl rfl rfl rfl rfl rfl ?_; (focus kernel_rfl); (focus kernel_rfl); refine AWP.runL e tab_ok L15 300 rfl (by first | trivial | (simp [in64] <;> omega) | (simp only [in64, true_and, and_true]; omega)) ?_)
          | (refine AWP.eq_agg e tab_ok rfl rfl rfl (.inr ⟨rfl, rfl⟩) ?_ 5 (by omega) rfl ?_ rfl rfl rfl rfl rfl rfl rfl ?_; (focus kernel_rfl); (focus kernel_rfl); refine AWP.runL e tab_ok L15 300 rfl (by first | trivial | (simp [in64] <;> omega) | (simp only [in64, true_and, and_true]; omega)) ?_)
        )
      refine AWP.less e ?_ ?_ ?_ ?_ ?_ (nx) <;> (repeat' (first | exact True.intro | (refine And.intro ?_ ?_) | rfl | assumption))
      exact congrArg (fun z => some (SV.d (.v (.int .u64 z)))) ((congrArg (fun z => IntKind.wrap .u64 (z + 1)) (dbl _)).trans (add1 _))
    · refine AWP.runL e tab_ok L15 300 rfl (by first | trivial | (simp [] <;> omega) | (simp only [in64, true_and, and_true]; omega)) ?_
      repeat (
        first
          | (refine AWP.askT rfl ?_; (first | (refine Told.t rfl ?_) | (refine Told.f rfl ?_) | (refine Told.t ?_ ?_; (focus assumption)) | (refine Told.f ?_ ?_; (focus assumption)) | (refine Told.t ?_ ?_; (focus (first | (simp; omega) | (simp [*]; done)); done)) | (refine Told.f ?_ ?_; (focus (first | (simp; omega) | (simp [*]; done)); done))); refine AWP.runL e tab_ok L15 300 rfl (by first | trivial | (simp [in64] <;> omega) | (simp only [in64, true_and, and_true]; omega)) ?_)
          | (refine AWP.eq_agg e tab_ok rfl rfl rfl (.inl ⟨rfl, rfl⟩) ?_ 5 (by omega) rfl ?_ rfl rfl rfl rfl rfl rfl rfl ?_; (focus kernel_rfl); (focus kernel_rfl); refine AWP.runL e tab_ok L15 300 rfl (by first | trivial | (simp [in64] <;> omega) | (simp only [in64, true_and, and_true]; omega)) ?_)
          | (refine AWP.eq_agg e tab_ok rfl rfl rfl (.inr ⟨rfl, rfl⟩) ?_ 5 (by omega) rfl ?_ rfl rfl rfl rfl rfl rfl rfl ?_; (focus kernel_rfl); (focus kernel_rfl); refine AWP.runL e tab_ok L15 300 rfl (by first | trivial | (simp [in64] <;> omega) | (simp only [in64, true_and, and_true]; omega)) ?_)
        )
      refine AWP.less e ?_ ?_ ?_ ?_ ?_ (nx) <;> (repeat' (first | exact True.intro | (refine And.intro ?_ ?_) | rfl | assumption))
      exact congrArg (fun z => some (SV.d (.v (.int .u64 z)))) ((dbl _).trans (by rw [if_neg (by decide), BitVec.or_zero]))
  · have hlt : ¬ i < l.length := by rw [hsz] at hlt; simpa using hlt
    obtain rfl : i = l.length := by omega
    refine AWP.runL e tab_ok L15 300 rfl (by first | trivial | (simp [in64] <;> omega) | (simp only [in64, true_and, and_true]; omega)) ?_
    rw [List.take_length]
    refine AWP.ret e tab_ok rfl ?_
    rw [hP]
    all_goals first | rfl | (simp [strip]; done)
end Go.Proofs.YtclmbbcchgfedaaDoor
