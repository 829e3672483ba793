/-
  Which frames may be, for every frame. Condition: what the theorems state ahead.
-/
import Derived.Test.YthdcegeampcalaaGreatDoorF7
open Go Go.Proofs Go.Sy
namespace Go.Proofs.YthdcegeampcalaaGreatDoor

structure Frm where
  id : BitVec 32
  ext : Bool
  rem : Bool
  dlc : Int
  data : List UInt8
abbrev fS (f : Frm) : List SV := [U32 f.id, .b f.ext, .b f.rem, .i f.dlc, .s (strL f.data)]
/-- Which frames may be. -/
def rightF (f : Frm) : Bool := decide (f.id.toNat < (bif f.ext then 536870912 else 2048)) && (decide (0 ≤ f.dlc) && (decide (f.dlc ≤ 8) && (bif f.rem then f.data == [] else decide ((f.data.length : Int) = f.dlc))))
theorem nil_str (l : List UInt8) : ((strL l).toList == (ByteArray.mk #[]).toList) = (l == []) := by
  rw [strL_toList, show (ByteArray.mk #[]).toList = [] from strL_toList []]
theorem nil_len (l : List UInt8) : (l == []) = decide (l.length = 0) := by cases l <;> simp
set_option maxRecDepth 100000 in
set_option maxHeartbeats 1000000 in
theorem refright_eff (f : Frm) : Eff Tryz.prog 5 [.agg (fS f)] [] 0 (fun r _ _ => r = .b (rightF f)) := by
  obtain ⟨id, ext, rem, dlc, data⟩ := f
  have h1 : (!((strL data).toList == (ByteArray.mk #[]).toList)) = !decide (data.length = 0) := by rw [nil_str, nil_len]
  have hsz : (strL data).size = data.length := strL_size data
  unfold rightF fS
  dsimp only
  rw [nil_len]
  refine eff_of Tryz.func5 rfl rfl rfl fun cx e hP => ?_
  rcases cases_b (decide (data.length = 0)) with g | g <;> rw [g] at h1 <;> simp only [Bool.not_true, Bool.not_false] at h1
  all_goals (cases ext <;> cases rem)
  all_goals (
    refine AWP.runL e tab_ok L5 300 rfl (by trivial ) ?_
    repeat' (
      first
        | (refine AWP.ret e tab_ok rfl ?_; rw [hP])
        | (first
          | (refine AWP.askT rfl ?_; (first | (refine Told.t rfl ?_) | (refine Told.f rfl ?_) | (refine Told.t ?_ ?_; (focus assumption)) | (refine Told.f ?_ ?_; (focus assumption)) | (refine Told.both (fun h => ?_) (fun h => ?_) <;> (try simp only [decide_eq_true_eq, decide_eq_false_iff_not, bne_iff_ne, beq_iff_eq, beq_eq_false_iff_ne, bne_eq_false_iff_eq, ne_eq, Bool.not_eq_true', Bool.not_eq_false', Bool.and_eq_true, Bool.and_eq_false_iff, Bool.or_eq_true, Bool.or_eq_false_iff] at h))))) <;>
          refine AWP.runL e tab_ok L5 300 rfl (by trivial ) ?_
      )
    clear h1
    all_goals (refine congrArg SV.b ?_; rw [Bool.eq_iff_iff]; simp only [strip, decide_eq_true_eq, Bool.and_eq_true, Bool.or_eq_true, Bool.not_eq_true', Bool.not_eq_true, Bool.not_eq_false', beq_iff_eq, bne_iff_ne, ne_eq, beq_eq_false_iff_ne, bne_eq_false_iff_eq, Bool.and_eq_false_iff, Bool.or_eq_false_iff, Bool.false_eq_true, Bool.true_eq_false, true_iff, false_iff, iff_true, iff_false, decide_eq_false_iff_not, not_true_eq_false, not_false_eq_true, List.length_map, cond_true, cond_false] at *; omega)
  )
theorem sh11 (x : BitVec 32) : (x.toNat : Int).fdiv (2 ^ min (Int.toNat 11) IntKind.u32.bits) = 0 ↔ x.toNat < 2048 := by
  rw [show min (Int.toNat 11) IntKind.u32.bits = 11 from rfl, Int.fdiv_eq_ediv_of_nonneg _ (by decide)]
  omega
theorem sh29 (x : BitVec 32) : (x.toNat : Int).fdiv (2 ^ min (Int.toNat 29) IntKind.u32.bits) = 0 ↔ x.toNat < 536870912 := by
  rw [show min (Int.toNat 29) IntKind.u32.bits = 29 from rfl, Int.fdiv_eq_ediv_of_nonneg _ (by decide)]
  omega
set_option maxRecDepth 100000 in
set_option maxHeartbeats 1000000 in
theorem fright_eff (f : Frm) : Eff Tryz.prog 18 [.agg (fS f)] [] 0 (fun r _ _ => r = .b (rightF f)) := by
  obtain ⟨id, ext, rem, dlc, data⟩ := f
  have hsz : (strL data).size = data.length := strL_size data
  unfold rightF fS
  dsimp only
  rw [nil_len]
  refine eff_of Tryz.func18 rfl rfl rfl fun cx e hP => ?_
  cases ext <;> cases rem
  all_goals (
    refine AWP.runL e tab_ok L18 300 rfl (by trivial ) ?_
    refine AWP.keep L18 rfl ?_
    refine AWP.drg 100 ?_
    (refine DrG.runN e tab_ok 200 rfl (by trivial ) ?_)
    refine DrG.finK e rfl ?_ rfl rfl rfl ?_ ?_
    (focus kernel_rfl)
    (focus (repeat' (first | exact True.intro | (refine And.intro ?_ ?_) | rfl )))
    dsimp only [tmS, hpS, tput, effH]
    refine AWP.runL e tab_ok L18 300 rfl (by trivial ) ?_
    repeat' (
      first
        | (refine AWP.ret e tab_ok rfl ?_; rw [hP])
        | (first
          | (refine AWP.askT rfl ?_; (first | (refine Told.t rfl ?_) | (refine Told.f rfl ?_) | (refine Told.both (fun h => ?_) (fun h => ?_) <;> (try simp only [decide_eq_true_eq, decide_eq_false_iff_not, bne_iff_ne, beq_iff_eq, beq_eq_false_iff_ne, bne_eq_false_iff_eq, ne_eq, Bool.not_eq_true', Bool.not_eq_false', Bool.and_eq_true, Bool.and_eq_false_iff, Bool.or_eq_true, Bool.or_eq_false_iff] at h))))) <;>
          refine AWP.runL e tab_ok L18 300 rfl (by trivial ) ?_
      )
    all_goals (refine congrArg SV.b ?_; rw [Bool.eq_iff_iff]; simp only [strip, decide_eq_true_eq, Bool.and_eq_true, Bool.or_eq_true, Bool.not_eq_true', Bool.not_eq_true, Bool.not_eq_false', beq_iff_eq, bne_iff_ne, ne_eq, beq_eq_false_iff_ne, bne_eq_false_iff_eq, Bool.and_eq_false_iff, Bool.or_eq_false_iff, Bool.false_eq_true, Bool.true_eq_false, true_iff, false_iff, iff_true, iff_false, decide_eq_false_iff_not, not_true_eq_false, not_false_eq_true, List.length_map, cond_true, cond_false, sh11, sh29] at *; omega)
  )
end Go.Proofs.YthdcegeampcalaaGreatDoor
