import Derived.Test.YtokhongbpnkinaaDoorEd
import Derived.Test.YtokhongbpnkinaaDoorL
import Derived.Test.YtokhongbpnkinaaDoorShelf
import Derived.Test.YtokhongbpnkinaaDoorM
import Derived.Test.YtokhongbpnkinaaDoorProg
open Go Go.Proofs Go.Sy
namespace Go.Proofs.YtokhongbpnkinaaDoor
def tab : Tab := [
  (3, ⟨.int .i64, 1, 8, [.v (.int .i64 0)]⟩),
  (4, ⟨.bool, 1, 1, [.v (.bool false)]⟩),
  (5, ⟨.int .u8, 1, 1, [.v (.int .u8 0)]⟩),
  (9, ⟨.str, 1, 16, [.v (.string .empty)]⟩),
  (23, ⟨.struct [(3, 0), (3, 1), (3, 2), (3, 3), (3, 4)], 5, 40, [.v (.int .i64 0), .v (.int .i64 0), .v (.int .i64 0), .v (.int .i64 0), .v (.int .i64 0)]⟩),
  (24, ⟨.int .i64, 1, 8, [.v (.int .i64 0)]⟩),
  (57, ⟨.arr 3 5, 3, 3, [.v (.int .u8 0), .v (.int .u8 0), .v (.int .u8 0)]⟩)]
theorem tab_ok : TabOk Tryd.prog tab := tabChk_ok (by kernel_rfl)
abbrev U (b : UInt8) : SV := .d (.v (.int .u8 (b.toNat : Int)))
theorem u_eq (a b : UInt8) : ((a.toNat : Int) == (b.toNat : Int)) = (a == b) := by
  rw [Bool.eq_iff_iff, beq_iff_eq, beq_iff_eq]
  constructor
  · intro h; exact UInt8.toNat_inj.1 (by omega)
  · rintro rfl; rfl
theorem str_tl (a : UInt8) (m : List UInt8) : (strL (a :: m)).extract 1 (strL (a :: m)).size = strL m := by
  rw [strL_size]
  apply ByteArray.ext
  simp [strL]

theorem cases_b (b : Bool) : b = true ∨ b = false := by cases b <;> simp
theorem b_at (l : List UInt8) (i : Nat) (h : i < l.length) : byteAt (strL l) i = ((l[i]).toNat : Int) := by
  unfold byteAt
  rw [strL_data, Int.toNat_natCast, List.getD_eq_getElem?_getD, List.getElem?_eq_getElem h]
  rfl
theorem b_hd (a : UInt8) (m : List UInt8) : byteAt (strL (a :: m)) 0 = (a.toNat : Int) := b_at (a :: m) 0 (by simp)
theorem sz_pos (a : UInt8) (m : List UInt8) : decide (((strL (a :: m)).size : Int) > 0) = true := by rw [strL_size]; simp

/-- What is a bit's sign. -/
def bit (b : UInt8) : Bool := b == 48 || b == 49
abbrev c01 : ByteArray := ⟨#[48, 49]⟩
theorem trim_eff (s cs : ByteArray) (hcs : cs.size < 4294967281) (ha : ∀ (j : Nat) b, cs.data.toList[j]? = some b → b.toNat < 128) : Eff Tryd.prog 27 [.s s, .s cs] [] 0 (fun r _ _ => r = .s (strL (Lib.trimLeftS s.data.toList cs.data.toList))) :=
  eff_calls [.string s, .string cs] Tryd.func27 rfl rfl fun w => Any.strings_TrimLeft_laid Tryd.lays161 (by kernel_rfl) s cs w hcs ha
theorem trim01_eff (l : List UInt8) : Eff Tryd.prog 27 [.s (strL l), .s c01] [] 0 (fun r _ _ => r = .s (strL (l.dropWhile bit))) := by
  have h := trim_eff (strL l) c01 (by decide) (ascii_of_all (by decide))
  rw [strL_data] at h
  have e : Lib.trimLeftS l c01.data.toList = l.dropWhile bit := by
    unfold Lib.trimLeftS
    congr 1
    funext b
    rw [Bool.eq_iff_iff]
    simp [bit]
  rwa [e] at h
theorem trim1_eff (l : List UInt8) (c : UInt8) (hc : c.toNat < 128) : Eff Tryd.prog 27 [.s (strL l), .s (strL [c])] [] 0 (fun r _ _ => r = .s (strL (l.dropWhile (· == c)))) := by
  have h := trim_eff (strL l) (strL [c]) (by rw [strL_size]; simp) (by
    rw [strL_data]
    exact ascii_of_all (by simpa using hc))
  rw [strL_data, strL_data] at h
  have e : Lib.trimLeftS l [c] = l.dropWhile (· == c) := by
    unfold Lib.trimLeftS
    congr 1
    funext b
    rw [Bool.eq_iff_iff]
    simp
  rwa [e] at h

/-- Which rows may be. -/
def wellB (l : List UInt8) : Bool := decide (l.length ≤ 4000) && l.all bit
theorem all_drop (l : List UInt8) : ((strL (l.dropWhile bit)).toList == (ByteArray.mk #[]).toList) = l.all bit := by
  rw [strL_toList, show (ByteArray.mk #[]).toList = [] from strL_toList []]
  rw [Bool.eq_iff_iff, beq_iff_eq]
  induction l with
  | nil => simp
  | cons a l ih =>
    rw [List.dropWhile_cons, List.all_cons]
    cases bit a <;> simp [ih]

set_option maxRecDepth 100000 in
theorem right_eff (l : List UInt8) : Eff Tryd.prog 18 [.s (strL l)] [] 0 (fun r _ _ => r = .b (wellB l)) := by
  have c1 := trim01_eff l
  have c2 := all_drop l
  refine eff_of Tryd.func18 rfl rfl rfl fun cx e hP => ?_
  refine AWP.runL e tab_ok L18 300 rfl (by first | trivial | (simp [in64] <;> omega) | (simp only [in64, true_and, and_true]; omega)) ?_
  by_cases h : l.length ≤ 4000
  · have h0 : decide (((strL l).size : Int) ≤ 4000) = true := by rw [strL_size]; simp; omega
    repeat (
      first
        | (refine AWP.askT rfl ?_; (first | (refine Told.t rfl ?_) | (refine Told.f rfl ?_) | (refine Told.t ?_ ?_; (focus assumption)) | (refine Told.f ?_ ?_; (focus assumption)) | (refine Told.t ?_ ?_; (focus (first | (simp; omega) | (simp [*]; done)); done)) | (refine Told.f ?_ ?_; (focus (first | (simp; omega) | (simp [*]; done)); done))); refine AWP.runL e tab_ok L18 300 rfl (by first | trivial | (simp [in64] <;> omega) | (simp only [in64, true_and, and_true]; omega)) ?_)
        | (refine AWP.callQ e rfl rfl ?_; (first | refine CallQ.mk (c1) rfl rfl ?_); refine AWP.runL e tab_ok L18 300 rfl (by first | trivial | (simp [in64] <;> omega) | (simp only [in64, true_and, and_true]; omega)) ?_)
        | (refine AWP.eq_agg e tab_ok rfl rfl rfl (.inl ⟨rfl, rfl⟩) ?_ 5 (by omega) rfl ?_ rfl rfl rfl rfl rfl rfl rfl ?_; (focus kernel_rfl); (focus kernel_rfl); refine AWP.runL e tab_ok L18 300 rfl (by first | trivial | (simp [in64] <;> omega) | (simp only [in64, true_and, and_true]; omega)) ?_)
        | (refine AWP.eq_agg e tab_ok rfl rfl rfl (.inr ⟨rfl, rfl⟩) ?_ 5 (by omega) rfl ?_ rfl rfl rfl rfl rfl rfl rfl ?_; (focus kernel_rfl); (focus kernel_rfl); refine AWP.runL e tab_ok L18 300 rfl (by first | trivial | (simp [in64] <;> omega) | (simp only [in64, true_and, and_true]; omega)) ?_)
      )
    refine AWP.ret e tab_ok rfl ?_
    rw [hP]
    unfold wellB
    rw [show decide (l.length ≤ 4000) = true by simpa using h]
    exact congrArg SV.b c2
  · have h0 : decide (((strL l).size : Int) ≤ 4000) = false := by rw [strL_size]; simp; omega
    repeat (
      first
        | (refine AWP.askT rfl ?_; (first | (refine Told.t rfl ?_) | (refine Told.f rfl ?_) | (refine Told.t ?_ ?_; (focus assumption)) | (refine Told.f ?_ ?_; (focus assumption)) | (refine Told.t ?_ ?_; (focus (first | (simp; omega) | (simp [*]; done)); done)) | (refine Told.f ?_ ?_; (focus (first | (simp; omega) | (simp [*]; done)); done))); refine AWP.runL e tab_ok L18 300 rfl (by first | trivial | (simp [in64] <;> omega) | (simp only [in64, true_and, and_true]; omega)) ?_)
        | (refine AWP.callQ e rfl rfl ?_; (first | refine CallQ.mk (c1) rfl rfl ?_); refine AWP.runL e tab_ok L18 300 rfl (by first | trivial | (simp [in64] <;> omega) | (simp only [in64, true_and, and_true]; omega)) ?_)
        | (refine AWP.eq_agg e tab_ok rfl rfl rfl (.inl ⟨rfl, rfl⟩) ?_ 5 (by omega) rfl ?_ rfl rfl rfl rfl rfl rfl rfl ?_; (focus kernel_rfl); (focus kernel_rfl); refine AWP.runL e tab_ok L18 300 rfl (by first | trivial | (simp [in64] <;> omega) | (simp only [in64, true_and, and_true]; omega)) ?_)
        | (refine AWP.eq_agg e tab_ok rfl rfl rfl (.inr ⟨rfl, rfl⟩) ?_ 5 (by omega) rfl ?_ rfl rfl rfl rfl rfl rfl rfl ?_; (focus kernel_rfl); (focus kernel_rfl); refine AWP.runL e tab_ok L18 300 rfl (by first | trivial | (simp [in64] <;> omega) | (simp only [in64, true_and, and_true]; omega)) ?_)
      )
    refine AWP.ret e tab_ok rfl ?_
    rw [hP]
    unfold wellB
    rw [show decide (l.length ≤ 4000) = false by simpa using h]
    rfl

set_option maxRecDepth 100000 in
theorem refright_eff (l : List UInt8) (hl : l.length ≤ 1099511627776) : Eff Tryd.prog 13 [.s (strL l)] [] 0 (fun r _ _ => r = .b (wellB l)) := by
  refine eff_of Tryd.func13 rfl rfl rfl fun cx e hP => ?_
  refine AWP.runL e tab_ok L13 300 rfl (by first | trivial | (simp [in64] <;> omega) | (simp only [in64, true_and, and_true]; omega)) ?_
  refine AWP.loop (ι := Nat) (fun i => ⟨[(3, .i i), (0, .s (strL l)), (2, .b false)], [], 0⟩) (fun i => i ≤ l.length ∧ (l.take i).all bit = true) (fun i => l.length - i) 0 ⟨Nat.zero_le _, rfl⟩ ?_ ?_
  · intro g
    refine AWP.less e ?_ ?_ ?_ ?_ ?_ (g) <;> (repeat' (first | exact True.intro | (refine And.intro ?_ ?_) | rfl | assumption))
  rintro i Φ ⟨hi, hb⟩ next
  have hi : i ≤ l.length := hi
  have hb : (l.take i).all bit = true := hb
  by_cases h : i < l.length
  · have h0 : decide ((i : Int) < ((strL l).size : Int)) = true := by rw [strL_size]; simp; omega
    have h1 : (!(byteAt (strL l) i == 48)) = !(l[i] == 48) := by rw [b_at l i h]; exact congrArg _ (u_eq l[i] 48)
    have h2 : (!(byteAt (strL l) i == 49)) = !(l[i] == 49) := by rw [b_at l i h]; exact congrArg _ (u_eq l[i] 49)
    have key : (l.take (i + 1)).all bit = bit l[i] := by
      rw [List.take_succ_eq_append_getElem h, List.all_append, hb, Bool.true_and, List.all_cons, List.all_nil, Bool.and_true]
    unfold bit at key
    have hbm : l[i] ∈ l := List.getElem_mem h
    generalize l[i] = b at *
    have h3 : i < (strL l).size := by rw [strL_size]; exact h
    rcases cases_b (b == 48) with q | q <;> rw [q] at h1 key
    · refine AWP.runL e tab_ok L13 300 rfl (by first | trivial | (simp [in64] <;> omega) | (simp only [in64, true_and, and_true]; omega)) ?_
      repeat (
        first
          | (refine AWP.askT rfl ?_; (first | (refine Told.t rfl ?_) | (refine Told.f rfl ?_) | (refine Told.t ?_ ?_; (focus assumption)) | (refine Told.f ?_ ?_; (focus assumption)) | (refine Told.t ?_ ?_; (focus (first | (simp; omega) | (simp [*]; done)); done)) | (refine Told.f ?_ ?_; (focus (first | (simp; omega) | (simp [*]; done)); done))); refine AWP.runL e tab_ok L13 300 rfl (by first | trivial | (simp [in64] <;> omega) | (simp only [in64, true_and, and_true]; omega)) ?_)
          | (refine AWP.eq_agg e tab_ok rfl rfl rfl (.inl ⟨rfl, rfl⟩) ?_ 5 (by omega) rfl ?_ rfl rfl rfl rfl rfl rfl rfl ?_; (focus kernel_rfl); (focus kernel_rfl); refine AWP.runL e tab_ok L13 300 rfl (by first | trivial | (simp [in64] <;> omega) | (simp only [in64, true_and, and_true]; omega)) ?_)
          | (refine AWP.eq_agg e tab_ok rfl rfl rfl (.inr ⟨rfl, rfl⟩) ?_ 5 (by omega) rfl ?_ rfl rfl rfl rfl rfl rfl rfl ?_; (focus kernel_rfl); (focus kernel_rfl); refine AWP.runL e tab_ok L13 300 rfl (by first | trivial | (simp [in64] <;> omega) | (simp only [in64, true_and, and_true]; omega)) ?_)
        )
      refine AWP.less e ?_ ?_ ?_ ?_ ?_ (next (i + 1) ⟨h, key⟩ (by show l.length - (i + 1) < l.length - i; omega)) <;> (repeat' (first | exact True.intro | (refine And.intro ?_ ?_) | rfl | assumption))
    · rcases cases_b (b == 49) with q2 | q2 <;> rw [q2] at h2 key
      · refine AWP.runL e tab_ok L13 300 rfl (by first | trivial | (simp [in64] <;> omega) | (simp only [in64, true_and, and_true]; omega)) ?_
        repeat (
          first
            | (refine AWP.askT rfl ?_; (first | (refine Told.t rfl ?_) | (refine Told.f rfl ?_) | (refine Told.t ?_ ?_; (focus assumption)) | (refine Told.f ?_ ?_; (focus assumption)) | (refine Told.t ?_ ?_; (focus (first | (simp; omega) | (simp [*]; done)); done)) | (refine Told.f ?_ ?_; (focus (first | (simp; omega) | (simp [*]; done)); done))); refine AWP.runL e tab_ok L13 300 rfl (by first | trivial | (simp [in64] <;> omega) | (simp only [in64, true_and, and_true]; omega)) ?_)
            | (refine AWP.eq_agg e tab_ok rfl rfl rfl (.inl ⟨rfl, rfl⟩) ?_ 5 (by omega) rfl ?_ rfl rfl rfl rfl rfl rfl rfl ?_; (focus kernel_rfl); (focus kernel_rfl); refine AWP.runL e tab_ok L13 300 rfl (by first | trivial | (simp [in64] <;> omega) | (simp only [in64, true_and, and_true]; omega)) ?_)
            | (refine AWP.eq_agg e tab_ok rfl rfl rfl (.inr ⟨rfl, rfl⟩) ?_ 5 (by omega) rfl ?_ rfl rfl rfl rfl rfl rfl rfl ?_; (focus kernel_rfl); (focus kernel_rfl); refine AWP.runL e tab_ok L13 300 rfl (by first | trivial | (simp [in64] <;> omega) | (simp only [in64, true_and, and_true]; omega)) ?_)
          )
        refine AWP.less e ?_ ?_ ?_ ?_ ?_ (next (i + 1) ⟨h, key⟩ (by show l.length - (i + 1) < l.length - i; omega)) <;> (repeat' (first | exact True.intro | (refine And.intro ?_ ?_) | rfl | assumption))
      · refine AWP.runL e tab_ok L13 300 rfl (by first | trivial | (simp [in64] <;> omega) | (simp only [in64, true_and, and_true]; omega)) ?_
        repeat (
          first
            | (refine AWP.askT rfl ?_; (first | (refine Told.t rfl ?_) | (refine Told.f rfl ?_) | (refine Told.t ?_ ?_; (focus assumption)) | (refine Told.f ?_ ?_; (focus assumption)) | (refine Told.t ?_ ?_; (focus (first | (simp; omega) | (simp [*]; done)); done)) | (refine Told.f ?_ ?_; (focus (first | (simp; omega) | (simp [*]; done)); done))); refine AWP.runL e tab_ok L13 300 rfl (by first | trivial | (simp [] <;> omega) | (simp only [in64, true_and, and_true]; omega)) ?_)
            | (refine AWP.eq_agg e tab_ok rfl rfl rfl (.inl ⟨rfl, rfl⟩) ?_ 5 (by omega) rfl ?_ rfl rfl rfl rfl rfl rfl rfl ?_; (focus kernel_rfl); (focus kernel_rfl); refine AWP.runL e tab_ok L13 300 rfl (by first | trivial | (simp [in64] <;> omega) | (simp only [in64, true_and, and_true]; omega)) ?_)
            | (refine AWP.eq_agg e tab_ok rfl rfl rfl (.inr ⟨rfl, rfl⟩) ?_ 5 (by omega) rfl ?_ rfl rfl rfl rfl rfl rfl rfl ?_; (focus kernel_rfl); (focus kernel_rfl); refine AWP.runL e tab_ok L13 300 rfl (by first | trivial | (simp [in64] <;> omega) | (simp only [in64, true_and, and_true]; omega)) ?_)
          )
        refine AWP.ret e tab_ok rfl ?_
        rw [hP]
        have : l.all bit = false := by
          rw [List.all_eq_false]
          exact ⟨b, hbm, by unfold bit; rw [q, q2]; simp⟩
        unfold wellB
        rw [this, Bool.and_false]
        rfl
  · obtain rfl : i = l.length := by omega
    have h0 : decide (((l.length : Nat) : Int) < ((strL l).size : Int)) = false := by rw [strL_size]; simp
    refine AWP.runL e tab_ok L13 300 rfl (by first | trivial | (simp [in64] <;> omega) | (simp only [in64, true_and, and_true]; omega)) ?_
    repeat (
      first
        | (refine AWP.askT rfl ?_; (first | (refine Told.t rfl ?_) | (refine Told.f rfl ?_) | (refine Told.t ?_ ?_; (focus assumption)) | (refine Told.f ?_ ?_; (focus assumption)) | (refine Told.t ?_ ?_; (focus (first | (simp; omega) | (simp [*]; done)); done)) | (refine Told.f ?_ ?_; (focus (first | (simp; omega) | (simp [*]; done)); done))); refine AWP.runL e tab_ok L13 300 rfl (by first | trivial | (simp [in64] <;> omega) | (simp only [in64, true_and, and_true]; omega)) ?_)
        | (refine AWP.eq_agg e tab_ok rfl rfl rfl (.inl ⟨rfl, rfl⟩) ?_ 5 (by omega) rfl ?_ rfl rfl rfl rfl rfl rfl rfl ?_; (focus kernel_rfl); (focus kernel_rfl); refine AWP.runL e tab_ok L13 300 rfl (by first | trivial | (simp [in64] <;> omega) | (simp only [in64, true_and, and_true]; omega)) ?_)
        | (refine AWP.eq_agg e tab_ok rfl rfl rfl (.inr ⟨rfl, rfl⟩) ?_ 5 (by omega) rfl ?_ rfl rfl rfl rfl rfl rfl rfl ?_; (focus kernel_rfl); (focus kernel_rfl); refine AWP.runL e tab_ok L13 300 rfl (by first | trivial | (simp [in64] <;> omega) | (simp only [in64, true_and, and_true]; omega)) ?_)
      )
    refine AWP.ret e tab_ok rfl ?_
    rw [hP]
    rw [List.take_length] at hb
    unfold wellB
    rw [hb, Bool.and_true, strL_size]
    exact congrArg SV.b (by rw [Bool.eq_iff_iff]; simp; omega)
end Go.Proofs.YtokhongbpnkinaaDoor
