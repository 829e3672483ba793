/-
  What stuffing knows behind a bit, for every bit and state. Condition: what the theorems state ahead.
-/
import Derived.Test.YthdcegeampcalaaGreatDoorF1
import Derived.Test.YthdcegeampcalaaGreatDoorM3
open Go Go.Proofs Go.Sy Go.Stuff
namespace Go.Proofs.YthdcegeampcalaaGreatDoor

theorem strL_of (s : ByteArray) : s = strL s.data.toList := by
  apply ByteArray.ext
  simp [strL]
theorem cut_str (l : List UInt8) (N : Nat) : (strL l).extract 0 (if (N : Int) < ((strL l).size : Int) then (N : Int) else ((strL l).size : Int)).toNat = strL (l.take N) := by
  rw [strL_size]
  have : (if (N : Int) < (l.length : Int) then (N : Int) else (l.length : Int)).toNat = min N l.length := by split <;> omega
  rw [this]
  apply ByteArray.ext
  simp [strL]
theorem beq_str (a b : List UInt8) : ((strL a).toList == (strL b).toList) = (a == b) := by rw [strL_toList, strL_toList]

set_option maxRecDepth 100000 in
theorem bit_eff (b : UInt8) : Eff Tryz.prog 64 [U b] [] 0 (fun r _ _ => r = .b (bit b)) := by
  have h1 := u_eq b 48
  have h2 := u_eq b 49
  unfold bit
  refine eff_of Tryz.func64 rfl rfl rfl fun cx e hP => ?_
  rcases cases_b (b == 48) with g | g <;> rw [g] at h1 hP
  · refine AWP.runL e tab_ok L64 300 rfl (by trivial ) ?_
    repeat (
      (refine AWP.askT rfl ?_; ( (refine Told.t ?_ ?_; (focus assumption)) ); refine AWP.runL e tab_ok L64 300 rfl (by trivial ) ?_)

      )
    refine AWP.ret e tab_ok rfl ?_
    rw [hP]
    all_goals rfl
  · refine AWP.runL e tab_ok L64 300 rfl (by trivial ) ?_
    repeat (
      (refine AWP.askT rfl ?_; ( (refine Told.f ?_ ?_; (focus assumption)) ); refine AWP.runL e tab_ok L64 300 rfl (by trivial ) ?_)

      )
    refine AWP.ret e tab_ok rfl ?_
    rw [hP]
    exact congrArg SV.b h2
theorem xx (b k : UInt8) : IntKind.wrap .u8 (((BitVec.ofInt IntKind.u8.bits (b.toNat : Int) ^^^ BitVec.ofInt IntKind.u8.bits (k.toNat : Int)).toNat : Nat) : Int) = ((b ^^^ k).toNat : Int) := u8xor b.toBitVec k.toBitVec
set_option maxRecDepth 100000 in
theorem other_eff (b : UInt8) : Eff Tryz.prog 39 [U b] [] 0 (fun r _ _ => r = U (oth b)) := by
  have h1 := xx b 48
  have h2 := xx (b ^^^ 48) 49
  refine eff_of Tryz.func39 rfl rfl rfl fun cx e hP => ?_
  refine AWP.runL e tab_ok L39 300 rfl (by trivial ) ?_
  refine AWP.eqT 2 (U (oth b)) rfl (congrArg (fun z => SV.d (.v (.int .u8 z))) ((congrArg (fun z => IntKind.wrap .u8 (((BitVec.ofInt IntKind.u8.bits z ^^^ BitVec.ofInt IntKind.u8.bits 49).toNat : Nat) : Int)) h1).trans h2)) ?_
  refine AWP.ret e tab_ok rfl ?_
  rw [hP]
  all_goals rfl
abbrev xC (b : UInt8) (n : Int) : List SV := [U b, .i n]
/-- What may be known. -/
def rightS (b : UInt8) (n : Int) : Bool := if b == 0 then n == 0 else bit b && (decide (n ≥ 1) && decide (n ≤ 5))
set_option maxRecDepth 100000 in
theorem rights_eff (b : UInt8) (n : Int) : Eff Tryz.prog 63 [.agg (xC b n)] [] 0 (fun r _ _ => r = .b (rightS b n)) := by
  have h1 := u_eq b 0
  have c1 := bit_eff b
  unfold rightS
  refine eff_of Tryz.func63 rfl rfl rfl fun cx e hP => ?_
  rcases cases_b (b == 0) with g | g <;> rw [g] at h1 hP
  · refine AWP.runL e tab_ok L63 300 rfl (by trivial ) ?_
    repeat (
      (refine AWP.askT rfl ?_; ( (refine Told.t ?_ ?_; (focus assumption)) ); refine AWP.runL e tab_ok L63 300 rfl (by trivial ) ?_)

      )
    refine AWP.ret e tab_ok rfl ?_
    rw [hP]
    all_goals rfl
  · rcases cases_b (bit b) with q | q <;> rw [q] at c1 hP
    · rcases cases_b (decide (n ≥ 1)) with q1 | q1 <;> rw [q1] at hP
      · refine AWP.runL e tab_ok L63 300 rfl (by trivial ) ?_
        repeat (
          first
            | (refine AWP.askT rfl ?_; (first | (refine Told.t rfl ?_) | (refine Told.t ?_ ?_; (focus assumption)) | (refine Told.f ?_ ?_; (focus assumption)) ); refine AWP.runL e tab_ok L63 300 rfl (by trivial ) ?_)
            | (refine AWP.callQ e rfl rfl ?_; (first | refine CallQ.mk (c1) rfl rfl ?_); refine AWP.runL e tab_ok L63 300 rfl (by trivial ) ?_)

          )
        refine AWP.ret e tab_ok rfl ?_
        rw [hP]
        all_goals rfl
      · refine AWP.runL e tab_ok L63 300 rfl (by trivial ) ?_
        repeat (
          first
            | (refine AWP.askT rfl ?_; (first | (refine Told.t rfl ?_) | (refine Told.f ?_ ?_; (focus assumption)) ); refine AWP.runL e tab_ok L63 300 rfl (by trivial ) ?_)
            | (refine AWP.callQ e rfl rfl ?_; (first | refine CallQ.mk (c1) rfl rfl ?_); refine AWP.runL e tab_ok L63 300 rfl (by trivial ) ?_)

          )
        refine AWP.ret e tab_ok rfl ?_
        rw [hP]
        all_goals rfl
    · refine AWP.runL e tab_ok L63 300 rfl (by trivial ) ?_
      repeat (
        first
          | (refine AWP.askT rfl ?_; (first | (refine Told.f rfl ?_) | (refine Told.f ?_ ?_; (focus assumption)) ); refine AWP.runL e tab_ok L63 300 rfl (by trivial ) ?_)
          | (refine AWP.callQ e rfl rfl ?_; (first | refine CallQ.mk (c1) rfl rfl ?_); refine AWP.runL e tab_ok L63 300 rfl (by trivial ) ?_)

        )
      refine AWP.ret e tab_ok rfl ?_
      rw [hP]
      all_goals rfl
/-! ### Steps -/
/-- The kinds: data, put in, an error. -/
def stepR (b : UInt8) (n : Nat) (c : UInt8) : SV := .tup [.agg (xC (sst (b, n) c).1 (sst (b, n) c).2), .i (kind (b, n) c), .i 0]
theorem right_nat {b : UInt8} {n : Int} (h : rightS b n = true) : ∃ k : Nat, n = k ∧ k ≤ 5 ∧ (b = 0 → k = 0) ∧ (b ≠ 0 → 1 ≤ k ∧ bit b = true) := by
  unfold rightS at h
  split at h
  · rename_i hb
    refine ⟨0, by simpa using h, by omega, fun _ => rfl, fun hn => absurd (by simpa using hb) hn⟩
  · rename_i hb
    simp only [Bool.and_eq_true, decide_eq_true_eq] at h
    refine ⟨n.toNat, by omega, by omega, fun h0 => absurd h0 (by simpa using hb), fun _ => ⟨by omega, h.1⟩⟩
set_option maxRecDepth 100000 in
theorem step_bad (b : UInt8) (n : Int) (c : UInt8) (h : rightS b n = false ∨ bit c = false) : Eff Tryz.prog 42 [.agg (xC b n), U c] [] 0 (fun r _ _ => r = .tup [.agg (xC 0 0), .i 0, .i 1]) := by
  have c1 := rights_eff b n
  have c2 := bit_eff c
  refine eff_of Tryz.func42 rfl rfl rfl fun cx e hP => ?_
  rcases cases_b (rightS b n) with q | q <;> rw [q] at c1
  · have h : bit c = false := by rcases h with h | h; (rw [q] at h; cases h); exact h
    rw [h] at c2
    refine AWP.runL e tab_ok L42 300 rfl (by trivial ) ?_
    repeat (
      first
        | (refine AWP.askT rfl ?_; (first | (refine Told.t rfl ?_) | (refine Told.f rfl ?_) ); refine AWP.runL e tab_ok L42 300 rfl (by trivial ) ?_)
        | (refine AWP.callQ e rfl rfl ?_; (first | refine CallQ.mk (c1) rfl rfl ?_ | refine CallQ.mk (c2) rfl rfl ?_); refine AWP.runL e tab_ok L42 300 rfl (by trivial ) ?_)

      )
    refine AWP.ret e tab_ok rfl ?_
    rw [hP]
    all_goals rfl
  · refine AWP.runL e tab_ok L42 300 rfl (by trivial ) ?_
    repeat (
      first
        | (refine AWP.askT rfl ?_; ((refine Told.t rfl ?_) ); refine AWP.runL e tab_ok L42 300 rfl (by trivial ) ?_)
        | (refine AWP.callQ e rfl rfl ?_; (first | refine CallQ.mk (c1) rfl rfl ?_); refine AWP.runL e tab_ok L42 300 rfl (by trivial ) ?_)

      )
    refine AWP.ret e tab_ok rfl ?_
    rw [hP]
    all_goals rfl
set_option maxRecDepth 100000 in
theorem step_ok (b : UInt8) (n : Nat) (c : UInt8) (h : rightS b n = true) (hc : bit c = true) (hn : n ≤ 5) : Eff Tryz.prog 42 [.agg (xC b n), U c] [] 0 (fun r _ _ => r = stepR b n c) := by
  have c1 := rights_eff b n
  have c2 := bit_eff c
  rw [h] at c1
  rw [hc] at c2
  have h1 := u_eq c b
  unfold stepR sst kind
  refine eff_of Tryz.func42 rfl rfl rfl fun cx e hP => ?_
  rcases cases_b (c == b) with g | g <;> rw [g] at h1
  · have gb : c = b := by simpa using g
    by_cases h5 : n = 5
    · rw [if_pos (show (b, n).2 = 5 from h5), if_pos (show (b, n).2 = 5 from h5), if_pos (show c = (b, n).1 from gb), if_pos (show c = (b, n).1 from gb)] at hP
      refine AWP.runL e tab_ok L42 300 rfl (by trivial ) ?_
      repeat (
        first
          | (refine AWP.askT rfl ?_; ( (refine Told.f rfl ?_) ); refine AWP.runL e tab_ok L42 300 rfl (by trivial ) ?_)
          | (refine AWP.callQ e rfl rfl ?_; (first | refine CallQ.mk (c1) rfl rfl ?_ | refine CallQ.mk (c2) rfl rfl ?_); refine AWP.runL e tab_ok L42 300 rfl (by trivial ) ?_)

        )
      refine AWP.enter e rfl Tryz.func38 rfl rfl rfl rfl fun cx' e' hP' => ?_
      refine AWP.runL e' tab_ok L38 300 rfl (by trivial ) ?_
      repeat (
        (refine AWP.askT rfl ?_; (first | (refine Told.t ?_ ?_; (focus assumption)) | (refine Told.t ?_ ?_; (focus ((simp; omega)); done))); refine AWP.runL e' tab_ok L38 300 rfl (by trivial ) ?_)

        )
      ((refine AWP.ret e' tab_ok rfl ?_)); rw [hP']; show AWP cx _ _
      refine AWP.runL e tab_ok L42 300 rfl (by trivial ) ?_
      refine AWP.ret e tab_ok rfl ?_
      rw [hP]
      all_goals rfl
    · rw [if_neg (show ¬ (b, n).2 = 5 from h5), if_neg (show ¬ (b, n).2 = 5 from h5), if_pos (show c = (b, n).1 from gb)] at hP
      refine AWP.runL e tab_ok L42 300 rfl (by trivial ) ?_
      repeat (
        first
          | (refine AWP.askT rfl ?_; ( (refine Told.f rfl ?_) ); refine AWP.runL e tab_ok L42 300 rfl (by trivial ) ?_)
          | (refine AWP.callQ e rfl rfl ?_; (first | refine CallQ.mk (c1) rfl rfl ?_ | refine CallQ.mk (c2) rfl rfl ?_); refine AWP.runL e tab_ok L42 300 rfl (by trivial ) ?_)

        )
      refine AWP.enter e rfl Tryz.func38 rfl rfl rfl rfl fun cx' e' hP' => ?_
      refine AWP.runL e' tab_ok L38 300 rfl (by trivial ) ?_
      repeat (
        (refine AWP.askT rfl ?_; (first | (refine Told.t ?_ ?_; (focus assumption)) | (refine Told.f ?_ ?_; (focus ((simp; omega)); done))); refine AWP.runL e' tab_ok L38 300 rfl (by first | trivial | (simp [in64] <;> omega)) ?_)

        )
      ((refine AWP.ret e' tab_ok rfl ?_)); rw [hP']; show AWP cx _ _
      refine AWP.runL e tab_ok L42 300 rfl (by trivial ) ?_
      refine AWP.ret e tab_ok rfl ?_
      rw [hP]
      all_goals rfl
  · have gb : ¬ c = b := by simpa using g
    by_cases h5 : n = 5
    · rw [if_pos (show (b, n).2 = 5 from h5), if_pos (show (b, n).2 = 5 from h5), if_neg (show ¬ c = (b, n).1 from gb), if_neg (show ¬ c = (b, n).1 from gb)] at hP
      refine AWP.runL e tab_ok L42 300 rfl (by trivial ) ?_
      repeat (
        first
          | (refine AWP.askT rfl ?_; ( (refine Told.f rfl ?_) ); refine AWP.runL e tab_ok L42 300 rfl (by trivial ) ?_)
          | (refine AWP.callQ e rfl rfl ?_; (first | refine CallQ.mk (c1) rfl rfl ?_ | refine CallQ.mk (c2) rfl rfl ?_); refine AWP.runL e tab_ok L42 300 rfl (by trivial ) ?_)

        )
      refine AWP.enter e rfl Tryz.func38 rfl rfl rfl rfl fun cx' e' hP' => ?_
      refine AWP.runL e' tab_ok L38 300 rfl (by trivial ) ?_
      repeat (
        (refine AWP.askT rfl ?_; (first | (refine Told.f ?_ ?_; (focus assumption)) | (refine Told.t ?_ ?_; (focus ((simp; omega)); done))); refine AWP.runL e' tab_ok L38 300 rfl (by trivial ) ?_)

        )
      ((refine AWP.ret e' tab_ok rfl ?_)); rw [hP']; show AWP cx _ _
      refine AWP.runL e tab_ok L42 300 rfl (by trivial ) ?_
      refine AWP.ret e tab_ok rfl ?_
      rw [hP]
      all_goals rfl
    · rw [if_neg (show ¬ (b, n).2 = 5 from h5), if_neg (show ¬ (b, n).2 = 5 from h5), if_neg (show ¬ c = (b, n).1 from gb)] at hP
      refine AWP.runL e tab_ok L42 300 rfl (by trivial ) ?_
      repeat (
        first
          | (refine AWP.askT rfl ?_; ( (refine Told.f rfl ?_) ); refine AWP.runL e tab_ok L42 300 rfl (by trivial ) ?_)
          | (refine AWP.callQ e rfl rfl ?_; (first | refine CallQ.mk (c1) rfl rfl ?_ | refine CallQ.mk (c2) rfl rfl ?_); refine AWP.runL e tab_ok L42 300 rfl (by trivial ) ?_)

        )
      refine AWP.enter e rfl Tryz.func38 rfl rfl rfl rfl fun cx' e' hP' => ?_
      refine AWP.runL e' tab_ok L38 300 rfl (by trivial ) ?_
      repeat (
        (refine AWP.askT rfl ?_; (first | (refine Told.f ?_ ?_; (focus assumption)) | (refine Told.f ?_ ?_; (focus ((simp; omega)); done))); refine AWP.runL e' tab_ok L38 300 rfl (by trivial ) ?_)

        )
      ((refine AWP.ret e' tab_ok rfl ?_)); rw [hP']; show AWP cx _ _
      refine AWP.runL e tab_ok L42 300 rfl (by trivial ) ?_
      refine AWP.ret e tab_ok rfl ?_
      rw [hP]
      all_goals rfl
end Go.Proofs.YthdcegeampcalaaGreatDoor
