import Derived.Test.YtlmakgadjjpleaaSyo
import Derived.Test.YtlmakgadjjpleaaProg
open Go Go.Proofs Go.Sy
namespace Go.Proofs.Ytlmakgadjjpleaa
def tab : Tab := [
  (2, ⟨.int .i64, 1, 8, [.v (.int .i64 0)]⟩),
  (3, ⟨.int .i64, 1, 8, [.v (.int .i64 0)]⟩),
  (4, ⟨.bool, 1, 1, [.v (.bool false)]⟩),
  (22, ⟨.struct [(3, 0), (2, 1), (2, 2), (2, 3), (2, 4), (3, 5), (3, 6), (2, 7), (3, 8)], 9, 72, [.v (.int .i64 0), .v (.int .i64 0), .v (.int .i64 0), .v (.int .i64 0), .v (.int .i64 0), .v (.int .i64 0), .v (.int .i64 0), .v (.int .i64 0), .v (.int .i64 0)]⟩),
  (23, ⟨.struct [(3, 0), (2, 1), (2, 2), (2, 3), (2, 4), (3, 5), (3, 6), (2, 7), (3, 8)], 9, 72, [.v (.int .i64 0), .v (.int .i64 0), .v (.int .i64 0), .v (.int .i64 0), .v (.int .i64 0), .v (.int .i64 0), .v (.int .i64 0), .v (.int .i64 0), .v (.int .i64 0)]⟩),
  (24, ⟨.slice 2, 1, 24, [.nil]⟩),
  (25, ⟨.int .i64, 1, 8, [.v (.int .i64 0)]⟩),
  (34, ⟨.oth, 1, 8, [.v .nilFunc]⟩),
  (40, ⟨.arr 2 3, 2, 16, [.v (.int .i64 0), .v (.int .i64 0)]⟩),
  (41, ⟨.slice 40, 1, 24, [.nil]⟩),
  (43, ⟨.arr 9 34, 9, 72, [.v .nilFunc, .v .nilFunc, .v .nilFunc, .v .nilFunc, .v .nilFunc, .v .nilFunc, .v .nilFunc, .v .nilFunc, .v .nilFunc]⟩)]
theorem tab_ok : TabOk Try.prog tab := tabChk_ok (by kernel_rfl)

abbrev cells (k m x mn mx ev fr old cnt : Int) : List SV := [.i k, .i m, .i x, .i mn, .i mx, .i ev, .i fr, .i old, .i cnt]

abbrev andI (x y : Int) : Int := IntKind.i64.wrap (BitVec.ofInt IntKind.i64.bits x &&& BitVec.ofInt IntKind.i64.bits y).toNat
abbrev xorI (x y : Int) : Int := IntKind.i64.wrap (BitVec.ofInt IntKind.i64.bits x ^^^ BitVec.ofInt IntKind.i64.bits y).toNat

theorem wrap_toInt (b : BitVec 64) : IntKind.i64.wrap b.toNat = b.toInt := by
  rw [IntKind.wrap_i64, BitVec.toInt_eq_toNat_cond]
  have := b.isLt
  split <;> omega

theorem xor_and (v o m : Int) : (andI (xorI v o) m != 0) = (andI v m != andI o m) := by
  show (IntKind.i64.wrap (BitVec.ofInt 64 (IntKind.i64.wrap (BitVec.ofInt 64 v ^^^ BitVec.ofInt 64 o).toNat) &&& BitVec.ofInt 64 m).toNat != 0) = (IntKind.i64.wrap (BitVec.ofInt 64 v &&& BitVec.ofInt 64 m).toNat != IntKind.i64.wrap (BitVec.ofInt 64 o &&& BitVec.ofInt 64 m).toNat)
  rw [wrap_toInt, wrap_toInt, wrap_toInt, wrap_toInt, BitVec.ofInt_toInt]
  generalize BitVec.ofInt 64 v = a
  generalize BitVec.ofInt 64 o = b
  generalize BitVec.ofInt 64 m = c
  have h1 : ((a ^^^ b) &&& c).toInt = 0 ↔ (a &&& c).toInt = (b &&& c).toInt := by
    rw [show (0 : Int) = (0#64).toInt from rfl, BitVec.toInt_inj, BitVec.toInt_inj]
    constructor
    · intro h
      ext i hi
      have := congrArg (fun z => z[i]) h
      simp at this ⊢
      cases h1 : a[i] <;> cases h2 : b[i] <;> cases h3 : c[i] <;> simp_all
    · intro h
      ext i hi
      have := congrArg (fun z => z[i]) h
      simp at this ⊢
      cases h1 : a[i] <;> cases h2 : b[i] <;> cases h3 : c[i] <;> simp_all
  rw [Bool.eq_iff_iff, bne_iff_ne, bne_iff_ne, ne_eq, ne_eq, h1]

def rightB (k mn mx ev fr cnt : Int) : Bool := decide (1 ≤ k ∧ k ≤ 8 ∧ mn ≤ mx ∧ 0 ≤ cnt ∧ cnt ≤ 1099511627776 ∧ (k = 8 → 1 ≤ ev ∧ ev ≤ 1000000 ∧ 0 ≤ fr ∧ fr < ev))

set_option maxRecDepth 100000 in
theorem right_eff (k m x mn mx ev fr old cnt : Int) : Eff Try.prog 10 [.agg (cells k m x mn mx ev fr old cnt)] [] 0 (fun r _ _ => r = .b (rightB k mn mx ev fr cnt)) := by
  refine eff_of Try.func10 rfl rfl rfl fun cx e hP => ?_
  refine AWP.run e tab_ok 300 rfl (by first | trivial | (simp [in64] <;> omega)) ?_
  repeat' (
    first
      | (refine AWP.ret e tab_ok rfl ?_; rw [hP])
      | (refine AWP.fin e tab_ok rfl ?_; rw [hP])
      | (first
        | (refine AWP.guard rfl true ?_ ?_; (focus (first | rfl | (simp; omega) | (simp [*]; done)); done))
        | (refine AWP.guard rfl false ?_ ?_; (focus (first | rfl | (simp; omega) | (simp [*]; done)); done))
        | (refine AWP.guard2 rfl (fun h => ?_) (fun h => ?_) <;> (try simp only [decide_eq_true_eq, decide_eq_false_iff_not, bne_iff_ne, beq_iff_eq, beq_eq_false_iff_ne, bne_eq_false_iff_eq, ne_eq, Bool.not_eq_true', Bool.not_eq_false', Bool.and_eq_true, Bool.and_eq_false_iff, Bool.or_eq_true, Bool.or_eq_false_iff] at h))
        | (refine AWP.cond rfl true ?_ ?_; (focus (first | rfl | (simp; omega) | (simp [*]; done)); done))
        | (refine AWP.cond rfl false ?_ ?_; (focus (first | rfl | (simp; omega) | (simp [*]; done)); done))
        | (refine AWP.cond2 rfl (fun h => ?_) (fun h => ?_) <;> (try simp only [decide_eq_true_eq, decide_eq_false_iff_not, bne_iff_ne, beq_iff_eq, beq_eq_false_iff_ne, bne_eq_false_iff_eq, ne_eq, Bool.not_eq_true', Bool.not_eq_false', Bool.and_eq_true, Bool.and_eq_false_iff, Bool.or_eq_true, Bool.or_eq_false_iff] at h))
        | (refine AWP.pick rfl true ?_ ?_; (focus (first | rfl | (simp; omega) | (simp [*]; done)); done))
        | (refine AWP.pick rfl false ?_ ?_; (focus (first | rfl | (simp; omega) | (simp [*]; done)); done))
        | (refine AWP.pick2 rfl (fun h => ?_) (fun h => ?_) <;> (try simp only [decide_eq_true_eq, decide_eq_false_iff_not, bne_iff_ne, beq_iff_eq, beq_eq_false_iff_ne, bne_eq_false_iff_eq, ne_eq, Bool.not_eq_true', Bool.not_eq_false', Bool.and_eq_true, Bool.and_eq_false_iff, Bool.or_eq_true, Bool.or_eq_false_iff] at h))) <;>
        refine AWP.run e tab_ok 300 rfl (by first | trivial | (simp [in64] <;> omega)) ?_
    )
  all_goals first | (simp [strip, rightB]; done) | (simp [strip, rightB]; omega) | (simp [strip, rightB]; rw [Bool.eq_iff_iff]; simp; omega)

set_option maxRecDepth 100000 in
theorem refRight_eff (k m x mn mx ev fr old cnt : Int) : Eff Try.prog 11 [.agg (cells k m x mn mx ev fr old cnt)] [] 0 (fun r _ _ => r = .b (rightB k mn mx ev fr cnt)) := by
  refine eff_of Try.func11 rfl rfl rfl fun cx e hP => ?_
  refine AWP.run e tab_ok 300 rfl (by first | trivial | (simp [in64] <;> omega)) ?_
  repeat' (
    first
      | (refine AWP.ret e tab_ok rfl ?_; rw [hP])
      | (refine AWP.fin e tab_ok rfl ?_; rw [hP])
      | (first
        | (refine AWP.guard rfl true ?_ ?_; (focus (first | rfl | (simp; omega) | (simp [*]; done)); done))
        | (refine AWP.guard rfl false ?_ ?_; (focus (first | rfl | (simp; omega) | (simp [*]; done)); done))
        | (refine AWP.guard2 rfl (fun h => ?_) (fun h => ?_) <;> (try simp only [decide_eq_true_eq, decide_eq_false_iff_not, bne_iff_ne, beq_iff_eq, beq_eq_false_iff_ne, bne_eq_false_iff_eq, ne_eq, Bool.not_eq_true', Bool.not_eq_false', Bool.and_eq_true, Bool.and_eq_false_iff, Bool.or_eq_true, Bool.or_eq_false_iff] at h))
        | (refine AWP.cond rfl true ?_ ?_; (focus (first | rfl | (simp; omega) | (simp [*]; done)); done))
        | (refine AWP.cond rfl false ?_ ?_; (focus (first | rfl | (simp; omega) | (simp [*]; done)); done))
        | (refine AWP.cond2 rfl (fun h => ?_) (fun h => ?_) <;> (try simp only [decide_eq_true_eq, decide_eq_false_iff_not, bne_iff_ne, beq_iff_eq, beq_eq_false_iff_ne, bne_eq_false_iff_eq, ne_eq, Bool.not_eq_true', Bool.not_eq_false', Bool.and_eq_true, Bool.and_eq_false_iff, Bool.or_eq_true, Bool.or_eq_false_iff] at h))
        | (refine AWP.pick rfl true ?_ ?_; (focus (first | rfl | (simp; omega) | (simp [*]; done)); done))
        | (refine AWP.pick rfl false ?_ ?_; (focus (first | rfl | (simp; omega) | (simp [*]; done)); done))
        | (refine AWP.pick2 rfl (fun h => ?_) (fun h => ?_) <;> (try simp only [decide_eq_true_eq, decide_eq_false_iff_not, bne_iff_ne, beq_iff_eq, beq_eq_false_iff_ne, bne_eq_false_iff_eq, ne_eq, Bool.not_eq_true', Bool.not_eq_false', Bool.and_eq_true, Bool.and_eq_false_iff, Bool.or_eq_true, Bool.or_eq_false_iff] at h))) <;>
        refine AWP.run e tab_ok 300 rfl (by first | trivial | (simp [in64] <;> omega)) ?_
    )
  all_goals first | (simp [strip, rightB]; done) | (simp [strip, rightB]; omega) | (simp [strip, rightB]; rw [Bool.eq_iff_iff]; simp; omega)

set_option maxRecDepth 100000 in
theorem f18_eff (k m x mn mx ev fr old cnt v : Int) : Eff Try.prog 18 [.agg (cells k m x mn mx ev fr old cnt), .i v] [] 0 (fun r _ _ => r = .b (decide (mn ≤ v) && decide (v ≤ mx))) := by
  refine eff_of Try.func18 rfl rfl rfl fun cx e hP => ?_
  refine AWP.run e tab_ok 300 rfl (by first | trivial | (simp [in64] <;> omega)) ?_
  repeat' (
    first
      | (refine AWP.ret e tab_ok rfl ?_; rw [hP])
      | (refine AWP.fin e tab_ok rfl ?_; rw [hP])
      | (first
        | (refine AWP.guard rfl true ?_ ?_; (focus (first | rfl | (simp; omega) | (simp [*]; done)); done))
        | (refine AWP.guard rfl false ?_ ?_; (focus (first | rfl | (simp; omega) | (simp [*]; done)); done))
        | (refine AWP.guard2 rfl (fun h => ?_) (fun h => ?_) <;> (try simp only [decide_eq_true_eq, decide_eq_false_iff_not, bne_iff_ne, beq_iff_eq, beq_eq_false_iff_ne, bne_eq_false_iff_eq, ne_eq, Bool.not_eq_true', Bool.not_eq_false', Bool.and_eq_true, Bool.and_eq_false_iff, Bool.or_eq_true, Bool.or_eq_false_iff] at h))
        | (refine AWP.cond rfl true ?_ ?_; (focus (first | rfl | (simp; omega) | (simp [*]; done)); done))
        | (refine AWP.cond rfl false ?_ ?_; (focus (first | rfl | (simp; omega) | (simp [*]; done)); done))
        | (refine AWP.cond2 rfl (fun h => ?_) (fun h => ?_) <;> (try simp only [decide_eq_true_eq, decide_eq_false_iff_not, bne_iff_ne, beq_iff_eq, beq_eq_false_iff_ne, bne_eq_false_iff_eq, ne_eq, Bool.not_eq_true', Bool.not_eq_false', Bool.and_eq_true, Bool.and_eq_false_iff, Bool.or_eq_true, Bool.or_eq_false_iff] at h))
        | (refine AWP.pick rfl true ?_ ?_; (focus (first | rfl | (simp; omega) | (simp [*]; done)); done))
        | (refine AWP.pick rfl false ?_ ?_; (focus (first | rfl | (simp; omega) | (simp [*]; done)); done))
        | (refine AWP.pick2 rfl (fun h => ?_) (fun h => ?_) <;> (try simp only [decide_eq_true_eq, decide_eq_false_iff_not, bne_iff_ne, beq_iff_eq, beq_eq_false_iff_ne, bne_eq_false_iff_eq, ne_eq, Bool.not_eq_true', Bool.not_eq_false', Bool.and_eq_true, Bool.and_eq_false_iff, Bool.or_eq_true, Bool.or_eq_false_iff] at h))) <;>
        refine AWP.run e tab_ok 300 rfl (by first | trivial | (simp [in64] <;> omega)) ?_
    )
  all_goals first | (simp [strip, *]; done) | (simp [strip]; done) | (simp [strip]; omega) | (simp [strip]; rw [Bool.eq_iff_iff]; simp; omega) | rfl

set_option maxRecDepth 100000 in
theorem f19_eff (k m x mn mx ev fr old cnt v : Int) : Eff Try.prog 19 [.agg (cells k m x mn mx ev fr old cnt), .i v] [] 0 (fun r _ _ => r = .b (andI v m == x)) := by
  refine eff_of Try.func19 rfl rfl rfl fun cx e hP => ?_
  refine AWP.run e tab_ok 300 rfl (by first | trivial | (simp [in64] <;> omega)) ?_
  repeat' (
    first
      | (refine AWP.ret e tab_ok rfl ?_; rw [hP])
      | (refine AWP.fin e tab_ok rfl ?_; rw [hP])
      | (first
        | (refine AWP.guard rfl true ?_ ?_; (focus (first | rfl | (simp; omega) | (simp [*]; done)); done))
        | (refine AWP.guard rfl false ?_ ?_; (focus (first | rfl | (simp; omega) | (simp [*]; done)); done))
        | (refine AWP.guard2 rfl (fun h => ?_) (fun h => ?_) <;> (try simp only [decide_eq_true_eq, decide_eq_false_iff_not, bne_iff_ne, beq_iff_eq, beq_eq_false_iff_ne, bne_eq_false_iff_eq, ne_eq, Bool.not_eq_true', Bool.not_eq_false', Bool.and_eq_true, Bool.and_eq_false_iff, Bool.or_eq_true, Bool.or_eq_false_iff] at h))
        | (refine AWP.cond rfl true ?_ ?_; (focus (first | rfl | (simp; omega) | (simp [*]; done)); done))
        | (refine AWP.cond rfl false ?_ ?_; (focus (first | rfl | (simp; omega) | (simp [*]; done)); done))
        | (refine AWP.cond2 rfl (fun h => ?_) (fun h => ?_) <;> (try simp only [decide_eq_true_eq, decide_eq_false_iff_not, bne_iff_ne, beq_iff_eq, beq_eq_false_iff_ne, bne_eq_false_iff_eq, ne_eq, Bool.not_eq_true', Bool.not_eq_false', Bool.and_eq_true, Bool.and_eq_false_iff, Bool.or_eq_true, Bool.or_eq_false_iff] at h))
        | (refine AWP.pick rfl true ?_ ?_; (focus (first | rfl | (simp; omega) | (simp [*]; done)); done))
        | (refine AWP.pick rfl false ?_ ?_; (focus (first | rfl | (simp; omega) | (simp [*]; done)); done))
        | (refine AWP.pick2 rfl (fun h => ?_) (fun h => ?_) <;> (try simp only [decide_eq_true_eq, decide_eq_false_iff_not, bne_iff_ne, beq_iff_eq, beq_eq_false_iff_ne, bne_eq_false_iff_eq, ne_eq, Bool.not_eq_true', Bool.not_eq_false', Bool.and_eq_true, Bool.and_eq_false_iff, Bool.or_eq_true, Bool.or_eq_false_iff] at h))) <;>
        refine AWP.run e tab_ok 300 rfl (by first | trivial | (simp [in64] <;> omega)) ?_
    )
  all_goals first | (simp [strip, *]; done) | (simp [strip]; done) | (simp [strip]; omega) | (simp [strip]; rw [Bool.eq_iff_iff]; simp; omega) | rfl

set_option maxRecDepth 100000 in
theorem f22_eff (k m x mn mx ev fr old cnt v : Int) : Eff Try.prog 22 [.agg (cells k m x mn mx ev fr old cnt), .i v] [] 0 (fun r _ _ => r = .b (true)) := by
  refine eff_of Try.func22 rfl rfl rfl fun cx e hP => ?_
  refine AWP.run e tab_ok 300 rfl (by first | trivial | (simp [in64] <;> omega)) ?_
  repeat' (
    first
      | (refine AWP.ret e tab_ok rfl ?_; rw [hP])
      | (refine AWP.fin e tab_ok rfl ?_; rw [hP])
      | (first
        | (refine AWP.guard rfl true ?_ ?_; (focus (first | rfl | (simp; omega) | (simp [*]; done)); done))
        | (refine AWP.guard rfl false ?_ ?_; (focus (first | rfl | (simp; omega) | (simp [*]; done)); done))
        | (refine AWP.guard2 rfl (fun h => ?_) (fun h => ?_) <;> (try simp only [decide_eq_true_eq, decide_eq_false_iff_not, bne_iff_ne, beq_iff_eq, beq_eq_false_iff_ne, bne_eq_false_iff_eq, ne_eq, Bool.not_eq_true', Bool.not_eq_false', Bool.and_eq_true, Bool.and_eq_false_iff, Bool.or_eq_true, Bool.or_eq_false_iff] at h))
        | (refine AWP.cond rfl true ?_ ?_; (focus (first | rfl | (simp; omega) | (simp [*]; done)); done))
        | (refine AWP.cond rfl false ?_ ?_; (focus (first | rfl | (simp; omega) | (simp [*]; done)); done))
        | (refine AWP.cond2 rfl (fun h => ?_) (fun h => ?_) <;> (try simp only [decide_eq_true_eq, decide_eq_false_iff_not, bne_iff_ne, beq_iff_eq, beq_eq_false_iff_ne, bne_eq_false_iff_eq, ne_eq, Bool.not_eq_true', Bool.not_eq_false', Bool.and_eq_true, Bool.and_eq_false_iff, Bool.or_eq_true, Bool.or_eq_false_iff] at h))
        | (refine AWP.pick rfl true ?_ ?_; (focus (first | rfl | (simp; omega) | (simp [*]; done)); done))
        | (refine AWP.pick rfl false ?_ ?_; (focus (first | rfl | (simp; omega) | (simp [*]; done)); done))
        | (refine AWP.pick2 rfl (fun h => ?_) (fun h => ?_) <;> (try simp only [decide_eq_true_eq, decide_eq_false_iff_not, bne_iff_ne, beq_iff_eq, beq_eq_false_iff_ne, bne_eq_false_iff_eq, ne_eq, Bool.not_eq_true', Bool.not_eq_false', Bool.and_eq_true, Bool.and_eq_false_iff, Bool.or_eq_true, Bool.or_eq_false_iff] at h))) <;>
        refine AWP.run e tab_ok 300 rfl (by first | trivial | (simp [in64] <;> omega)) ?_
    )
  all_goals first | (simp [strip, *]; done) | (simp [strip]; done) | (simp [strip]; omega) | (simp [strip]; rw [Bool.eq_iff_iff]; simp; omega) | rfl

set_option maxRecDepth 100000 in
theorem f23_eff (k m x mn mx ev fr old cnt v : Int) : Eff Try.prog 23 [.agg (cells k m x mn mx ev fr old cnt), .i v] [] 0 (fun r _ _ => r = .b (andI (xorI v old) m != 0)) := by
  refine eff_of Try.func23 rfl rfl rfl fun cx e hP => ?_
  refine AWP.run e tab_ok 300 rfl (by first | trivial | (simp [in64] <;> omega)) ?_
  repeat' (
    first
      | (refine AWP.ret e tab_ok rfl ?_; rw [hP])
      | (refine AWP.fin e tab_ok rfl ?_; rw [hP])
      | (first
        | (refine AWP.guard rfl true ?_ ?_; (focus (first | rfl | (simp; omega) | (simp [*]; done)); done))
        | (refine AWP.guard rfl false ?_ ?_; (focus (first | rfl | (simp; omega) | (simp [*]; done)); done))
        | (refine AWP.guard2 rfl (fun h => ?_) (fun h => ?_) <;> (try simp only [decide_eq_true_eq, decide_eq_false_iff_not, bne_iff_ne, beq_iff_eq, beq_eq_false_iff_ne, bne_eq_false_iff_eq, ne_eq, Bool.not_eq_true', Bool.not_eq_false', Bool.and_eq_true, Bool.and_eq_false_iff, Bool.or_eq_true, Bool.or_eq_false_iff] at h))
        | (refine AWP.cond rfl true ?_ ?_; (focus (first | rfl | (simp; omega) | (simp [*]; done)); done))
        | (refine AWP.cond rfl false ?_ ?_; (focus (first | rfl | (simp; omega) | (simp [*]; done)); done))
        | (refine AWP.cond2 rfl (fun h => ?_) (fun h => ?_) <;> (try simp only [decide_eq_true_eq, decide_eq_false_iff_not, bne_iff_ne, beq_iff_eq, beq_eq_false_iff_ne, bne_eq_false_iff_eq, ne_eq, Bool.not_eq_true', Bool.not_eq_false', Bool.and_eq_true, Bool.and_eq_false_iff, Bool.or_eq_true, Bool.or_eq_false_iff] at h))
        | (refine AWP.pick rfl true ?_ ?_; (focus (first | rfl | (simp; omega) | (simp [*]; done)); done))
        | (refine AWP.pick rfl false ?_ ?_; (focus (first | rfl | (simp; omega) | (simp [*]; done)); done))
        | (refine AWP.pick2 rfl (fun h => ?_) (fun h => ?_) <;> (try simp only [decide_eq_true_eq, decide_eq_false_iff_not, bne_iff_ne, beq_iff_eq, beq_eq_false_iff_ne, bne_eq_false_iff_eq, ne_eq, Bool.not_eq_true', Bool.not_eq_false', Bool.and_eq_true, Bool.and_eq_false_iff, Bool.or_eq_true, Bool.or_eq_false_iff] at h))) <;>
        refine AWP.run e tab_ok 300 rfl (by first | trivial | (simp [in64] <;> omega)) ?_
    )
  all_goals first | (simp [strip, *]; done) | (simp [strip]; done) | (simp [strip]; omega) | (simp [strip]; rw [Bool.eq_iff_iff]; simp; omega) | rfl

set_option maxRecDepth 100000 in
theorem f24_eff (k m x mn mx ev fr old cnt v : Int) (h : ev ≠ 0) : Eff Try.prog 24 [.agg (cells k m x mn mx ev fr old cnt), .i v] [] 0 (fun r _ _ => r = .b (cnt.tmod ev == fr)) := by
  refine eff_of Try.func24 rfl rfl rfl fun cx e hP => ?_
  refine AWP.run e tab_ok 300 rfl (by first | trivial | (simp [in64] <;> omega)) ?_
  refine AWP.dr ?_
  repeat (
    first
      | (refine Dr.step rfl (VStep.ev e tab_ok rfl rfl ?_) ?_; (focus (first | assumption | with_reducible trivial | rfl | (simp; omega) | (simp [*]; done))))
      | (refine Dr.step rfl (VStep.go rfl (VStep.ev e tab_ok rfl rfl ?_)) ?_; (focus (first | assumption | with_reducible trivial | rfl | (simp; omega) | (simp [*]; done))))
      | (refine Dr.step rfl (VStep.goA rfl ?_ (VStep.ev e tab_ok rfl rfl ?_)) ?_; (focus (first | assumption | with_reducible trivial | rfl | (simp; omega) | (simp [*]; done))); (focus (first | assumption | with_reducible trivial | rfl | (simp; omega) | (simp [*]; done))))
      | refine Dr.step rfl (VStep.not e rfl rfl rfl) ?_
      | (refine Dr.step rfl (VStep.notA e rfl rfl ?_) ?_; (focus (first | assumption | with_reducible trivial | rfl | (simp; omega) | (simp [*]; done))))
      | refine Dr.step rfl (VStep.un e rfl rfl) ?_
      | (refine Dr.step rfl (VStep.pickA e rfl rfl (v := true) ?_ rfl) ?_; (focus (first | assumption | with_reducible trivial | rfl | (simp; omega) | (simp [*]; done))))
      | (refine Dr.step rfl (VStep.pickA e rfl rfl (v := false) ?_ rfl) ?_; (focus (first | assumption | with_reducible trivial | rfl | (simp; omega) | (simp [*]; done))))
    )
  refine Dr.fin e rfl rfl (by kernel_rfl) ?_
  refine AWP.run e tab_ok 300 rfl (by first | trivial | (simp [in64] <;> omega)) ?_
  repeat' (
    first
      | (refine AWP.ret e tab_ok rfl ?_; rw [hP])
      | (refine AWP.fin e tab_ok rfl ?_; rw [hP])
      | (first
        | (refine AWP.guard rfl true ?_ ?_; (focus (first | rfl | (simp; omega) | (simp [*]; done)); done))
        | (refine AWP.guard rfl false ?_ ?_; (focus (first | rfl | (simp; omega) | (simp [*]; done)); done))
        | (refine AWP.guard2 rfl (fun h => ?_) (fun h => ?_) <;> (try simp only [decide_eq_true_eq, decide_eq_false_iff_not, bne_iff_ne, beq_iff_eq, beq_eq_false_iff_ne, bne_eq_false_iff_eq, ne_eq, Bool.not_eq_true', Bool.not_eq_false', Bool.and_eq_true, Bool.and_eq_false_iff, Bool.or_eq_true, Bool.or_eq_false_iff] at h))
        | (refine AWP.cond rfl true ?_ ?_; (focus (first | rfl | (simp; omega) | (simp [*]; done)); done))
        | (refine AWP.cond rfl false ?_ ?_; (focus (first | rfl | (simp; omega) | (simp [*]; done)); done))
        | (refine AWP.cond2 rfl (fun h => ?_) (fun h => ?_) <;> (try simp only [decide_eq_true_eq, decide_eq_false_iff_not, bne_iff_ne, beq_iff_eq, beq_eq_false_iff_ne, bne_eq_false_iff_eq, ne_eq, Bool.not_eq_true', Bool.not_eq_false', Bool.and_eq_true, Bool.and_eq_false_iff, Bool.or_eq_true, Bool.or_eq_false_iff] at h))
        | (refine AWP.pick rfl true ?_ ?_; (focus (first | rfl | (simp; omega) | (simp [*]; done)); done))
        | (refine AWP.pick rfl false ?_ ?_; (focus (first | rfl | (simp; omega) | (simp [*]; done)); done))
        | (refine AWP.pick2 rfl (fun h => ?_) (fun h => ?_) <;> (try simp only [decide_eq_true_eq, decide_eq_false_iff_not, bne_iff_ne, beq_iff_eq, beq_eq_false_iff_ne, bne_eq_false_iff_eq, ne_eq, Bool.not_eq_true', Bool.not_eq_false', Bool.and_eq_true, Bool.and_eq_false_iff, Bool.or_eq_true, Bool.or_eq_false_iff] at h))) <;>
        refine AWP.run e tab_ok 300 rfl (by first | trivial | (simp [in64] <;> omega)) ?_
    )
  all_goals first | (simp [strip, *]; done) | (simp [strip]; done) | (simp [strip]; omega) | (simp [strip]; rw [Bool.eq_iff_iff]; simp; omega) | rfl

set_option maxRecDepth 100000 in
theorem not18_eff (k m x mn mx ev fr old cnt v : Int) : Eff Try.prog 21 [.agg (cells k m x mn mx ev fr old cnt), .i v, .ip [.v (.func (.func 18) #[] #[])]] [] 0 (fun r _ _ => r = .b (!(decide (mn ≤ v) && decide (v ≤ mx)))) := by
  refine eff_of Try.func21 rfl rfl rfl fun cx e hP => ?_
  refine AWP.run e tab_ok 300 rfl (by first | trivial | (simp [in64] <;> omega)) ?_
  refine AWP.call e (f18_eff k m x mn mx ev fr old cnt v) rfl [] (.cons (.refl _) (.cons (.refl _) .nil)) rfl rfl ?_
  rintro _ _ _ rfl
  refine ⟨rfl, .inl rfl, ?_⟩
  refine AWP.run e tab_ok 300 rfl (by first | trivial | (simp [in64] <;> omega)) ?_
  repeat' (
    first
      | (refine AWP.ret e tab_ok rfl ?_; rw [hP])
      | (refine AWP.fin e tab_ok rfl ?_; rw [hP])
      | (first
        | (refine AWP.guard rfl true ?_ ?_; (focus (first | rfl | (simp; omega) | (simp [*]; done)); done))
        | (refine AWP.guard rfl false ?_ ?_; (focus (first | rfl | (simp; omega) | (simp [*]; done)); done))
        | (refine AWP.guard2 rfl (fun h => ?_) (fun h => ?_) <;> (try simp only [decide_eq_true_eq, decide_eq_false_iff_not, bne_iff_ne, beq_iff_eq, beq_eq_false_iff_ne, bne_eq_false_iff_eq, ne_eq, Bool.not_eq_true', Bool.not_eq_false', Bool.and_eq_true, Bool.and_eq_false_iff, Bool.or_eq_true, Bool.or_eq_false_iff] at h))
        | (refine AWP.cond rfl true ?_ ?_; (focus (first | rfl | (simp; omega) | (simp [*]; done)); done))
        | (refine AWP.cond rfl false ?_ ?_; (focus (first | rfl | (simp; omega) | (simp [*]; done)); done))
        | (refine AWP.cond2 rfl (fun h => ?_) (fun h => ?_) <;> (try simp only [decide_eq_true_eq, decide_eq_false_iff_not, bne_iff_ne, beq_iff_eq, beq_eq_false_iff_ne, bne_eq_false_iff_eq, ne_eq, Bool.not_eq_true', Bool.not_eq_false', Bool.and_eq_true, Bool.and_eq_false_iff, Bool.or_eq_true, Bool.or_eq_false_iff] at h))
        | (refine AWP.pick rfl true ?_ ?_; (focus (first | rfl | (simp; omega) | (simp [*]; done)); done))
        | (refine AWP.pick rfl false ?_ ?_; (focus (first | rfl | (simp; omega) | (simp [*]; done)); done))
        | (refine AWP.pick2 rfl (fun h => ?_) (fun h => ?_) <;> (try simp only [decide_eq_true_eq, decide_eq_false_iff_not, bne_iff_ne, beq_iff_eq, beq_eq_false_iff_ne, bne_eq_false_iff_eq, ne_eq, Bool.not_eq_true', Bool.not_eq_false', Bool.and_eq_true, Bool.and_eq_false_iff, Bool.or_eq_true, Bool.or_eq_false_iff] at h))) <;>
        refine AWP.run e tab_ok 300 rfl (by first | trivial | (simp [in64] <;> omega)) ?_
    )
  all_goals rfl

set_option maxRecDepth 100000 in
theorem not19_eff (k m x mn mx ev fr old cnt v : Int) : Eff Try.prog 21 [.agg (cells k m x mn mx ev fr old cnt), .i v, .ip [.v (.func (.func 19) #[] #[])]] [] 0 (fun r _ _ => r = .b (!(andI v m == x))) := by
  refine eff_of Try.func21 rfl rfl rfl fun cx e hP => ?_
  refine AWP.run e tab_ok 300 rfl (by first | trivial | (simp [in64] <;> omega)) ?_
  refine AWP.call e (f19_eff k m x mn mx ev fr old cnt v) rfl [] (.cons (.refl _) (.cons (.refl _) .nil)) rfl rfl ?_
  rintro _ _ _ rfl
  refine ⟨rfl, .inl rfl, ?_⟩
  refine AWP.run e tab_ok 300 rfl (by first | trivial | (simp [in64] <;> omega)) ?_
  repeat' (
    first
      | (refine AWP.ret e tab_ok rfl ?_; rw [hP])
      | (refine AWP.fin e tab_ok rfl ?_; rw [hP])
      | (first
        | (refine AWP.guard rfl true ?_ ?_; (focus (first | rfl | (simp; omega) | (simp [*]; done)); done))
        | (refine AWP.guard rfl false ?_ ?_; (focus (first | rfl | (simp; omega) | (simp [*]; done)); done))
        | (refine AWP.guard2 rfl (fun h => ?_) (fun h => ?_) <;> (try simp only [decide_eq_true_eq, decide_eq_false_iff_not, bne_iff_ne, beq_iff_eq, beq_eq_false_iff_ne, bne_eq_false_iff_eq, ne_eq, Bool.not_eq_true', Bool.not_eq_false', Bool.and_eq_true, Bool.and_eq_false_iff, Bool.or_eq_true, Bool.or_eq_false_iff] at h))
        | (refine AWP.cond rfl true ?_ ?_; (focus (first | rfl | (simp; omega) | (simp [*]; done)); done))
        | (refine AWP.cond rfl false ?_ ?_; (focus (first | rfl | (simp; omega) | (simp [*]; done)); done))
        | (refine AWP.cond2 rfl (fun h => ?_) (fun h => ?_) <;> (try simp only [decide_eq_true_eq, decide_eq_false_iff_not, bne_iff_ne, beq_iff_eq, beq_eq_false_iff_ne, bne_eq_false_iff_eq, ne_eq, Bool.not_eq_true', Bool.not_eq_false', Bool.and_eq_true, Bool.and_eq_false_iff, Bool.or_eq_true, Bool.or_eq_false_iff] at h))
        | (refine AWP.pick rfl true ?_ ?_; (focus (first | rfl | (simp; omega) | (simp [*]; done)); done))
        | (refine AWP.pick rfl false ?_ ?_; (focus (first | rfl | (simp; omega) | (simp [*]; done)); done))
        | (refine AWP.pick2 rfl (fun h => ?_) (fun h => ?_) <;> (try simp only [decide_eq_true_eq, decide_eq_false_iff_not, bne_iff_ne, beq_iff_eq, beq_eq_false_iff_ne, bne_eq_false_iff_eq, ne_eq, Bool.not_eq_true', Bool.not_eq_false', Bool.and_eq_true, Bool.and_eq_false_iff, Bool.or_eq_true, Bool.or_eq_false_iff] at h))) <;>
        refine AWP.run e tab_ok 300 rfl (by first | trivial | (simp [in64] <;> omega)) ?_
    )
  all_goals rfl

set_option maxRecDepth 100000 in
theorem not22_eff (k m x mn mx ev fr old cnt v : Int) : Eff Try.prog 21 [.agg (cells k m x mn mx ev fr old cnt), .i v, .ip [.v (.func (.func 22) #[] #[])]] [] 0 (fun r _ _ => r = .b (!(true))) := by
  refine eff_of Try.func21 rfl rfl rfl fun cx e hP => ?_
  refine AWP.run e tab_ok 300 rfl (by first | trivial | (simp [in64] <;> omega)) ?_
  refine AWP.call e (f22_eff k m x mn mx ev fr old cnt v) rfl [] (.cons (.refl _) (.cons (.refl _) .nil)) rfl rfl ?_
  rintro _ _ _ rfl
  refine ⟨rfl, .inl rfl, ?_⟩
  refine AWP.run e tab_ok 300 rfl (by first | trivial | (simp [in64] <;> omega)) ?_
  repeat' (
    first
      | (refine AWP.ret e tab_ok rfl ?_; rw [hP])
      | (refine AWP.fin e tab_ok rfl ?_; rw [hP])
      | (first
        | (refine AWP.guard rfl true ?_ ?_; (focus (first | rfl | (simp; omega) | (simp [*]; done)); done))
        | (refine AWP.guard rfl false ?_ ?_; (focus (first | rfl | (simp; omega) | (simp [*]; done)); done))
        | (refine AWP.guard2 rfl (fun h => ?_) (fun h => ?_) <;> (try simp only [decide_eq_true_eq, decide_eq_false_iff_not, bne_iff_ne, beq_iff_eq, beq_eq_false_iff_ne, bne_eq_false_iff_eq, ne_eq, Bool.not_eq_true', Bool.not_eq_false', Bool.and_eq_true, Bool.and_eq_false_iff, Bool.or_eq_true, Bool.or_eq_false_iff] at h))
        | (refine AWP.cond rfl true ?_ ?_; (focus (first | rfl | (simp; omega) | (simp [*]; done)); done))
        | (refine AWP.cond rfl false ?_ ?_; (focus (first | rfl | (simp; omega) | (simp [*]; done)); done))
        | (refine AWP.cond2 rfl (fun h => ?_) (fun h => ?_) <;> (try simp only [decide_eq_true_eq, decide_eq_false_iff_not, bne_iff_ne, beq_iff_eq, beq_eq_false_iff_ne, bne_eq_false_iff_eq, ne_eq, Bool.not_eq_true', Bool.not_eq_false', Bool.and_eq_true, Bool.and_eq_false_iff, Bool.or_eq_true, Bool.or_eq_false_iff] at h))
        | (refine AWP.pick rfl true ?_ ?_; (focus (first | rfl | (simp; omega) | (simp [*]; done)); done))
        | (refine AWP.pick rfl false ?_ ?_; (focus (first | rfl | (simp; omega) | (simp [*]; done)); done))
        | (refine AWP.pick2 rfl (fun h => ?_) (fun h => ?_) <;> (try simp only [decide_eq_true_eq, decide_eq_false_iff_not, bne_iff_ne, beq_iff_eq, beq_eq_false_iff_ne, bne_eq_false_iff_eq, ne_eq, Bool.not_eq_true', Bool.not_eq_false', Bool.and_eq_true, Bool.and_eq_false_iff, Bool.or_eq_true, Bool.or_eq_false_iff] at h))) <;>
        refine AWP.run e tab_ok 300 rfl (by first | trivial | (simp [in64] <;> omega)) ?_
    )
  all_goals rfl

end Go.Proofs.Ytlmakgadjjpleaa
