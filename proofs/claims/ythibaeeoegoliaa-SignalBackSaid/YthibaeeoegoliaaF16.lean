import Derived.Test.YthibaeeoegoliaaM2
import Derived.Test.YthibaeeoegoliaaF15
open Go Go.Proofs Go.RowKit Go.Sy Go.Signal
namespace Go.Proofs.Ythibaeeoegoliaa

theorem u8_ids (l : List UInt8) (m : Nat) : ∀ e ∈ l.map u8S, SV.idsLt.go m e = true := by
  intro e he
  obtain ⟨b, _, rfl⟩ := List.mem_map.1 he
  rfl
theorem u8_set (l : List UInt8) (j : Nat) (b : UInt8) : (l.map u8S).set j (u8S b) = (l.set j b).map u8S := by rw [List.map_set]
theorem u8_at (l : List UInt8) {j : Nat} (h : j < l.length) : (l.map u8S)[j]? = some (u8S (l.getD j 0)) := by simp [h]
/-- What a signal's bytes must be. -/
def wellE (s : Sig) (n : Nat) : Int := match places s with
  | none => 1
  | some _ => if n ≤ 8 ∧ rightB s n = true then 0 else 23
set_option maxRecDepth 100000 in
theorem well_eff (d : List UInt8) (s : Sig) : Eff Try.prog 29 [.s (strL d), .agg (sC s)] [] 0 (fun r _ _ => r = .i (wellE s d.length)) := by
  have c1 := places_eff s
  have c2 := Right_eff s ((strL d).size : Int)
  have hz : (strL d).size = d.length := strL_size d
  cases h : places s with
  | none =>
    rw [plR_none h] at c1
    rw [show wellE s d.length = 1 from by unfold wellE; rw [h]]
    refine eff_of Try.func29 rfl rfl rfl fun cx e hP => ?_
    refine AWP.runL e tab_ok L29 300 rfl (by first | trivial | (simp [in64] <;> omega) | (simp only [in64, true_and, and_true]; omega)) ?_
    repeat (
      first
        | (refine AWP.askT rfl ?_; (first | (refine Told.t rfl ?_) | (refine Told.f rfl ?_) | (refine Told.t ?_ ?_; (focus assumption)) | (refine Told.f ?_ ?_; (focus assumption)) | (refine Told.t ?_ ?_; (focus (first | (simp; omega) | (simp [*]; done)); done)) | (refine Told.f ?_ ?_; (focus (first | (simp; omega) | (simp [*]; done)); done))); refine AWP.runL e tab_ok L29 300 rfl (by first | trivial | (simp [in64] <;> omega) | (simp only [in64, true_and, and_true]; omega)) ?_)
        | (refine AWP.callQ e rfl rfl ?_; (first | refine CallQ.mk (c1) rfl rfl ?_); refine AWP.runL e tab_ok L29 300 rfl (by first | trivial | (simp [in64] <;> omega) | (simp only [in64, true_and, and_true]; omega)) ?_)
        | (refine AWP.eq_agg e tab_ok rfl rfl rfl (.inl ⟨rfl, rfl⟩) ?_ 5 (by omega) rfl ?_ rfl rfl rfl rfl rfl rfl rfl ?_; (focus kernel_rfl); (focus kernel_rfl); refine AWP.runL e tab_ok L29 300 rfl (by first | trivial | (simp [in64] <;> omega) | (simp only [in64, true_and, and_true]; omega)) ?_)
        | (refine AWP.eq_agg e tab_ok rfl rfl rfl (.inr ⟨rfl, rfl⟩) ?_ 5 (by omega) rfl ?_ rfl rfl rfl rfl rfl rfl rfl ?_; (focus kernel_rfl); (focus kernel_rfl); refine AWP.runL e tab_ok L29 300 rfl (by first | trivial | (simp [in64] <;> omega) | (simp only [in64, true_and, and_true]; omega)) ?_)
      )
    refine AWP.ret e tab_ok rfl ?_
    rw [hP]
    all_goals first | rfl | (simp [strip]; done)
  | some l =>
    rw [plR_some h] at c1
    have hl := places_len h
    have hn : (rowI (intsN l)).length = l.length := by simp
    have hne : rowI (intsN l) ≠ [] := fun h0 => by rw [h0] at hn; simp at hn; omega
    have hW : wellE s d.length = if d.length ≤ 8 ∧ rightB s d.length = true then 0 else 23 := by unfold wellE; rw [h]
    rw [hW]
    rw [hz] at c2
    by_cases h8 : (d.length : Int) > 8
    · rw [if_neg (by omega)]
      have h8' : decide (((strL d).size : Int) > 8) = true := decide_eq_true (by rw [hz]; exact h8)
      refine eff_of Try.func29 rfl rfl rfl fun cx e hP => ?_
      refine AWP.runL e tab_ok L29 300 rfl (by first | trivial | (simp [in64] <;> omega) | (simp only [in64, true_and, and_true]; omega)) ?_
      repeat (
        first
          | (refine AWP.askT rfl ?_; (first | (refine Told.t rfl ?_) | (refine Told.f rfl ?_) | (refine Told.t ?_ ?_; (focus assumption)) | (refine Told.f ?_ ?_; (focus assumption)) | (refine Told.t ?_ ?_; (focus (first | (simp; omega) | (simp [*]; done)); done)) | (refine Told.f ?_ ?_; (focus (first | (simp; omega) | (simp [*]; done)); done))); refine AWP.runL e tab_ok L29 300 rfl (by first | trivial | (simp [in64] <;> omega) | (simp only [in64, true_and, and_true]; omega)) ?_)
          | (refine AWP.callQ e rfl rfl ?_; (first | refine CallQ.mk (c1) rfl rfl ?_ | refine CallQ.mk (c2) rfl rfl ?_); refine AWP.runL e tab_ok L29 300 rfl (by first | trivial | (simp [in64] <;> omega) | (simp only [in64, true_and, and_true]; omega)) ?_)
          | (refine AWP.eq_agg e tab_ok rfl rfl rfl (.inl ⟨rfl, rfl⟩) ?_ 5 (by omega) rfl ?_ rfl rfl rfl rfl rfl rfl rfl ?_; (focus kernel_rfl); (focus kernel_rfl); refine AWP.runL e tab_ok L29 300 rfl (by first | trivial | (simp [in64] <;> omega) | (simp only [in64, true_and, and_true]; omega)) ?_)
          | (refine AWP.eq_agg e tab_ok rfl rfl rfl (.inr ⟨rfl, rfl⟩) ?_ 5 (by omega) rfl ?_ rfl rfl rfl rfl rfl rfl rfl ?_; (focus kernel_rfl); (focus kernel_rfl); refine AWP.runL e tab_ok L29 300 rfl (by first | trivial | (simp [in64] <;> omega) | (simp only [in64, true_and, and_true]; omega)) ?_)
        )
      refine AWP.ret e tab_ok rfl ?_
      rw [hP]
      all_goals first | rfl | (simp [strip]; done)
    · have h8' : decide (((strL d).size : Int) > 8) = false := decide_eq_false (by rw [hz]; exact h8)
      have c2 : Eff Try.prog 10 [.agg (sC s), .i ((strL d).size : Int)] [] 0 (fun r _ _ => r = .b (rightB s d.length)) := by rw [hz]; exact c2
      rcases cases_b (rightB s d.length) with q | q
      · rw [q] at c2
        rw [if_pos ⟨by omega, q⟩]
        refine eff_of Try.func29 rfl rfl rfl fun cx e hP => ?_
        refine AWP.runL e tab_ok L29 300 rfl (by first | trivial | (simp [in64] <;> omega) | (simp only [in64, true_and, and_true]; omega)) ?_
        repeat (
          first
            | (refine AWP.askT rfl ?_; (first | (refine Told.t rfl ?_) | (refine Told.f rfl ?_) | (refine Told.t ?_ ?_; (focus assumption)) | (refine Told.f ?_ ?_; (focus assumption)) | (refine Told.t ?_ ?_; (focus (first | (simp; omega) | (simp [*]; done)); done)) | (refine Told.f ?_ ?_; (focus (first | (simp; omega) | (simp [*]; done)); done))); refine AWP.runL e tab_ok L29 300 rfl (by first | trivial | (simp [in64] <;> omega) | (simp only [in64, true_and, and_true]; omega)) ?_)
            | (refine AWP.callQ e rfl rfl ?_; (first | refine CallQ.mk (c1) rfl rfl ?_ | refine CallQ.mk (c2) rfl rfl ?_); refine AWP.runL e tab_ok L29 300 rfl (by first | trivial | (simp [in64] <;> omega) | (simp only [in64, true_and, and_true]; omega)) ?_)
            | (refine AWP.eq_agg e tab_ok rfl rfl rfl (.inl ⟨rfl, rfl⟩) ?_ 5 (by omega) rfl ?_ rfl rfl rfl rfl rfl rfl rfl ?_; (focus kernel_rfl); (focus kernel_rfl); refine AWP.runL e tab_ok L29 300 rfl (by first | trivial | (simp [in64] <;> omega) | (simp only [in64, true_and, and_true]; omega)) ?_)
            | (refine AWP.eq_agg e tab_ok rfl rfl rfl (.inr ⟨rfl, rfl⟩) ?_ 5 (by omega) rfl ?_ rfl rfl rfl rfl rfl rfl rfl ?_; (focus kernel_rfl); (focus kernel_rfl); refine AWP.runL e tab_ok L29 300 rfl (by first | trivial | (simp [in64] <;> omega) | (simp only [in64, true_and, and_true]; omega)) ?_)
          )
        refine AWP.ret e tab_ok rfl ?_
        rw [hP]
        all_goals first | rfl | (simp [strip]; done)
      · rw [q] at c2
        rw [if_neg (by rw [q]; simp)]
        refine eff_of Try.func29 rfl rfl rfl fun cx e hP => ?_
        refine AWP.runL e tab_ok L29 300 rfl (by first | trivial | (simp [in64] <;> omega) | (simp only [in64, true_and, and_true]; omega)) ?_
        repeat (
          first
            | (refine AWP.askT rfl ?_; (first | (refine Told.t rfl ?_) | (refine Told.f rfl ?_) | (refine Told.t ?_ ?_; (focus assumption)) | (refine Told.f ?_ ?_; (focus assumption)) | (refine Told.t ?_ ?_; (focus (first | (simp; omega) | (simp [*]; done)); done)) | (refine Told.f ?_ ?_; (focus (first | (simp; omega) | (simp [*]; done)); done))); refine AWP.runL e tab_ok L29 300 rfl (by first | trivial | (simp [in64] <;> omega) | (simp only [in64, true_and, and_true]; omega)) ?_)
            | (refine AWP.callQ e rfl rfl ?_; (first | refine CallQ.mk (c1) rfl rfl ?_ | refine CallQ.mk (c2) rfl rfl ?_); refine AWP.runL e tab_ok L29 300 rfl (by first | trivial | (simp [in64] <;> omega) | (simp only [in64, true_and, and_true]; omega)) ?_)
            | (refine AWP.eq_agg e tab_ok rfl rfl rfl (.inl ⟨rfl, rfl⟩) ?_ 5 (by omega) rfl ?_ rfl rfl rfl rfl rfl rfl rfl ?_; (focus kernel_rfl); (focus kernel_rfl); refine AWP.runL e tab_ok L29 300 rfl (by first | trivial | (simp [in64] <;> omega) | (simp only [in64, true_and, and_true]; omega)) ?_)
            | (refine AWP.eq_agg e tab_ok rfl rfl rfl (.inr ⟨rfl, rfl⟩) ?_ 5 (by omega) rfl ?_ rfl rfl rfl rfl rfl rfl rfl ?_; (focus kernel_rfl); (focus kernel_rfl); refine AWP.runL e tab_ok L29 300 rfl (by first | trivial | (simp [in64] <;> omega) | (simp only [in64, true_and, and_true]; omega)) ?_)
          )
        refine AWP.ret e tab_ok rfl ?_
        rw [hP]
        all_goals first | rfl | (simp [strip]; done)

/-! ### a byte with a bit so -/
theorem put_chk : all8 (fun x k => [0, 1].all fun (b : Nat) => IntKind.wrap .u8 ((BitVec.ofInt IntKind.u8.bits (IntKind.wrap .u8 ((BitVec.ofInt IntKind.u8.bits (x : Int) &&& ~~~ BitVec.ofInt IntKind.u8.bits (IntKind.wrap .u8 (1 * 2 ^ (min ((k : Nat) : Int).toNat IntKind.u8.bits)))).toNat : Int)) |||
    BitVec.ofInt IntKind.u8.bits (IntKind.wrap .u8 ((b : Int) * 2 ^ (min ((k : Nat) : Int).toNat IntKind.u8.bits)))).toNat : Int) == ((setN x k (b == 1) : Nat) : Int)) = true := by kernel_rfl
abbrev bI (b : Bool) : Int := if b then 1 else 0
theorem put_byte (x : UInt8) {k : Nat} (hk : k < 8) (b : Bool) : IntKind.wrap .u8 ((BitVec.ofInt IntKind.u8.bits (IntKind.wrap .u8 ((BitVec.ofInt IntKind.u8.bits (x.toNat : Int) &&& ~~~ BitVec.ofInt IntKind.u8.bits (IntKind.wrap .u8 (1 * 2 ^ (min ((k : Nat) : Int).toNat IntKind.u8.bits)))).toNat : Int)) |||
    BitVec.ofInt IntKind.u8.bits (IntKind.wrap .u8 (bI b * 2 ^ (min ((k : Nat) : Int).toNat IntKind.u8.bits)))).toNat : Int) = ((setU x k b).toNat : Int) := by
  have h := all8_at put_chk x.toNat_lt hk
  rw [setU_nat x hk]
  cases b
  · exact eq_of_beq (List.all_eq_true.1 h 0 (by simp))
  · exact eq_of_beq (List.all_eq_true.1 h 1 (by simp))
theorem pow64 (i : Nat) (hi : i ≤ 64) : ((2 : Int) ^ (min ((i : Nat) : Int).toNat IntKind.i64.bits)) = ((2 ^ i : Nat) : Int) := by
  rw [show min ((i : Nat) : Int).toNat IntKind.i64.bits = i from by rw [Int.toNat_natCast]; exact Nat.min_eq_left hi]
  push_cast
  rfl
/-- A number's bit. -/
def bitI (v : Int) (i : Nat) : Bool := (v / ((2 ^ i : Nat) : Int)) % 2 == 1
theorem and_one (q : Int) : ((BitVec.ofInt 64 q &&& BitVec.ofInt 64 1).toNat : Int) = q % 2 := by
  rw [BitVec.toNat_and, show (BitVec.ofInt 64 1).toNat = 2 ^ 1 - 1 from by decide, Nat.and_two_pow_sub_one_eq_mod, BitVec.toNat_ofInt]
  have : (2 ^ 64 : Nat) = 18446744073709551616 := by decide
  rw [this]
  omega
theorem wrap_small (k : IntKind) {z : Int} (h0 : 0 ≤ z) (h1 : z ≤ 1) : k.wrap z = z := by
  have : z = 0 ∨ z = 1 := by omega
  rcases this with rfl | rfl <;> cases k <;> decide
theorem bit_of (v : Int) (i : Nat) (hi : i ≤ 64) : IntKind.wrap .u8 (IntKind.wrap .i64 ((BitVec.ofInt IntKind.i64.bits (v.fdiv (2 ^ (min ((i : Nat) : Int).toNat IntKind.i64.bits))) &&& BitVec.ofInt IntKind.i64.bits 1).toNat : Int)) = bI (bitI v i) := by
  rw [pow64 i hi, show IntKind.i64.bits = 64 from rfl, and_one]
  have h2 := Int.emod_nonneg (v.fdiv ((2 ^ i : Nat) : Int)) (show (2 : Int) ≠ 0 by decide)
  have h3 := Int.emod_lt_of_pos (v.fdiv ((2 ^ i : Nat) : Int)) (show (0 : Int) < 2 by decide)
  rw [wrap_small .i64 h2 (by omega), wrap_small .u8 h2 (by omega)]
  have hp : (0 : Int) < ((2 ^ i : Nat) : Int) := p2_pos i
  rw [Int.fdiv_eq_ediv_of_nonneg _ (by omega)] at h2 h3 ⊢
  unfold bI bitI
  generalize (v / ((2 ^ i : Nat) : Int)) % 2 = q at *
  have : q = 0 ∨ q = 1 := by omega
  rcases this with rfl | rfl <;> rfl
theorem div8 (x : Nat) : ((x : Int)).tdiv 8 = ((x / 8 : Nat) : Int) := by
  rw [Int.tdiv_eq_ediv_of_nonneg (by omega)]; rfl
theorem mod8 (x : Nat) : ((x : Int)).tmod 8 = ((x % 8 : Nat) : Int) := by
  rw [Int.tmod_eq_emod_of_nonneg (by omega)]; rfl
end Go.Proofs.Ythibaeeoegoliaa
