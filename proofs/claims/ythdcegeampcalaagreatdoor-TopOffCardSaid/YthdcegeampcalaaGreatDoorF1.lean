/-
  Which texts are bits, which bits are the same, a number's bits and the lesser of bits are what the plain law says, for every input of which the premise holds. Condition: what the theorems state ahead.
-/
import Derived.Test.YthdcegeampcalaaGreatDoorEd
import Derived.Test.YthdcegeampcalaaGreatDoorL
import Derived.Test.YthdcegeampcalaaGreatDoorShelf
import Derived.Test.YthdcegeampcalaaGreatDoorProg
open Go Go.Proofs Go.Sy
namespace Go.Proofs.YthdcegeampcalaaGreatDoor
def tab : Tab := [
  (3, ⟨.int .i64, 1, 8, [.v (.int .i64 0)]⟩),
  (4, ⟨.bool, 1, 1, [.v (.bool false)]⟩),
  (5, ⟨.int .u8, 1, 1, [.v (.int .u8 0)]⟩),
  (9, ⟨.str, 1, 16, [.v (.string .empty)]⟩),
  (22, ⟨.int .u32, 1, 4, [.v (.int .u32 0)]⟩),
  (24, ⟨.struct [(22, 0), (4, 1), (4, 2), (3, 3), (9, 4)], 5, 32, [.v (.int .u32 0), .v (.bool false), .v (.bool false), .v (.int .i64 0), .v (.string .empty)]⟩),
  (28, ⟨.slice 38, 1, 24, [.nil]⟩),
  (30, ⟨.struct [(28, 0), (3, 1)], 2, 32, [.nil, .v (.int .i64 0)]⟩),
  (34, ⟨.struct [(3, 0), (3, 1), (4, 2), (3, 3)], 4, 32, [.v (.int .i64 0), .v (.int .i64 0), .v (.bool false), .v (.int .i64 0)]⟩),
  (36, ⟨.struct [(5, 0), (3, 1)], 2, 16, [.v (.int .u8 0), .v (.int .i64 0)]⟩),
  (38, ⟨.struct [(34, 0), (3, 4), (3, 5), (4, 6), (4, 7), (4, 8), (24, 9), (4, 14), (9, 15), (3, 16), (36, 17), (9, 19), (4, 20), (3, 21), (4, 22)], 23, 176, [.v (.int .i64 0), .v (.int .i64 0), .v (.bool false), .v (.int .i64 0), .v (.int .i64 0), .v (.int .i64 0), .v (.bool false), .v (.bool false), .v (.bool false), .v (.int .u32 0), .v (.bool false), .v (.bool false), .v (.int .i64 0), .v (.string .empty), .v (.bool false), .v (.string .empty), .v (.int .i64 0), .v (.int .u8 0), .v (.int .i64 0), .v (.string .empty), .v (.bool false), .v (.int .i64 0), .v (.bool false)]⟩),
  (40, ⟨.int .i64, 1, 8, [.v (.int .i64 0)]⟩),
  (43, ⟨.slice 49, 1, 24, [.nil]⟩),
  (47, ⟨.struct [(3, 0), (24, 1), (40, 6)], 7, 48, [.v (.int .i64 0), .v (.int .u32 0), .v (.bool false), .v (.bool false), .v (.int .i64 0), .v (.string .empty), .v (.int .i64 0)]⟩),
  (49, ⟨.struct [(3, 0), (3, 1), (47, 2)], 9, 64, [.v (.int .i64 0), .v (.int .i64 0), .v (.int .i64 0), .v (.int .u32 0), .v (.bool false), .v (.bool false), .v (.int .i64 0), .v (.string .empty), .v (.int .i64 0)]⟩),
  (60, ⟨.slice 47, 1, 24, [.nil]⟩),
  (73, ⟨.slice 4, 1, 24, [.nil]⟩),
  (80, ⟨.int .u64, 1, 8, [.v (.int .u64 0)]⟩),
  (81, ⟨.ptr 87, 1, 8, [.v (.pointer none)]⟩),
  (82, ⟨.ptr 85, 1, 8, [.v (.pointer none)]⟩),
  (83, ⟨.slice 5, 1, 24, [.nil]⟩),
  (85, ⟨.struct [(82, 0), (83, 1)], 2, 32, [.v (.pointer none), .nil]⟩),
  (87, ⟨.struct [(85, 0)], 2, 32, [.v (.pointer none), .nil]⟩),
  (96, ⟨.ptr 98, 1, 8, [.v (.pointer none)]⟩),
  (98, ⟨.struct [(36, 0)], 2, 16, [.v (.int .u8 0), .v (.int .i64 0)]⟩),
  (113, ⟨.slice 9, 1, 24, [.nil]⟩),
  (117, ⟨.ptr 119, 1, 8, [.v (.pointer none)]⟩),
  (119, ⟨.struct [(38, 0), (47, 23)], 30, 224, [.v (.int .i64 0), .v (.int .i64 0), .v (.bool false), .v (.int .i64 0), .v (.int .i64 0), .v (.int .i64 0), .v (.bool false), .v (.bool false), .v (.bool false), .v (.int .u32 0), .v (.bool false), .v (.bool false), .v (.int .i64 0), .v (.string .empty), .v (.bool false), .v (.string .empty), .v (.int .i64 0), .v (.int .u8 0), .v (.int .i64 0), .v (.string .empty), .v (.bool false), .v (.int .i64 0), .v (.bool false), .v (.int .i64 0), .v (.int .u32 0), .v (.bool false), .v (.bool false), .v (.int .i64 0), .v (.string .empty), .v (.int .i64 0)]⟩),
  (120, ⟨.oth, 1, 8, [.v .nilFunc]⟩),
  (121, ⟨.arr 9 120, 9, 72, [.v .nilFunc, .v .nilFunc, .v .nilFunc, .v .nilFunc, .v .nilFunc, .v .nilFunc, .v .nilFunc, .v .nilFunc, .v .nilFunc]⟩),
  (125, ⟨.ptr 5, 1, 8, [.v (.pointer none)]⟩),
  (164, ⟨.ptr 34, 1, 8, [.v (.pointer none)]⟩)]
theorem tab_ok : TabOk Tryz.prog tab := tabChk_ok (by kernel_rfl)
abbrev U (b : UInt8) : SV := .d (.v (.int .u8 (b.toNat : Int)))
theorem u_eq (a b : UInt8) : ((a.toNat : Int) == (b.toNat : Int)) = (a == b) := by
  rw [Bool.eq_iff_iff, beq_iff_eq, beq_iff_eq]
  constructor
  · intro h; exact UInt8.toNat_inj.1 (by omega)
  · rintro rfl; rfl
theorem str_tl (a : UInt8) (m : List UInt8) : (strL (a :: m)).extract 1 (strL (a :: m)).size = strL m := by
  rw [strL_size]
  apply ByteArray.ext
  simp [strL]

theorem cases_b (b : Bool) : b = true ∨ b = false := by cases b <;> simp
theorem b_at (l : List UInt8) (i : Nat) (h : i < l.length) : byteAt (strL l) i = ((l[i]).toNat : Int) := by
  unfold byteAt
  rw [strL_data, Int.toNat_natCast, List.getD_eq_getElem?_getD, List.getElem?_eq_getElem h]
  rfl
theorem b_hd (a : UInt8) (m : List UInt8) : byteAt (strL (a :: m)) 0 = (a.toNat : Int) := b_at (a :: m) 0 (by simp)
theorem sz_pos (a : UInt8) (m : List UInt8) : decide (((strL (a :: m)).size : Int) > 0) = true := by rw [strL_size]; simp

/-- What is a bit's sign. -/
def bit (b : UInt8) : Bool := b == 48 || b == 49
abbrev c01 : ByteArray := ⟨#[48, 49]⟩
theorem trim_eff (s cs : ByteArray) (hcs : cs.size < 4294967281) (ha : ∀ (j : Nat) b, cs.data.toList[j]? = some b → b.toNat < 128) : Eff Tryz.prog 40 [.s s, .s cs] [] 0 (fun r _ _ => r = .s (strL (Lib.trimLeftS s.data.toList cs.data.toList))) :=
  eff_calls [.string s, .string cs] Tryz.func40 rfl rfl fun w => Any.strings_TrimLeft_laid Tryz.lays161 (by kernel_rfl) s cs w hcs ha
theorem trim01_eff (l : List UInt8) : Eff Tryz.prog 40 [.s (strL l), .s c01] [] 0 (fun r _ _ => r = .s (strL (l.dropWhile bit))) := by
  have h := trim_eff (strL l) c01 (by decide) (ascii_of_all (by decide))
  rw [strL_data] at h
  have e : Lib.trimLeftS l c01.data.toList = l.dropWhile bit := by
    unfold Lib.trimLeftS
    congr 1
    funext b
    rw [Bool.eq_iff_iff]
    simp [bit]
  rwa [e] at h
theorem trim1_eff (l : List UInt8) (c : UInt8) (hc : c.toNat < 128) : Eff Tryz.prog 40 [.s (strL l), .s (strL [c])] [] 0 (fun r _ _ => r = .s (strL (l.dropWhile (· == c)))) := by
  have h := trim_eff (strL l) (strL [c]) (by rw [strL_size]; simp) (by
    rw [strL_data]
    exact ascii_of_all (by simpa using hc))
  rw [strL_data, strL_data] at h
  have e : Lib.trimLeftS l [c] = l.dropWhile (· == c) := by
    unfold Lib.trimLeftS
    congr 1
    funext b
    rw [Bool.eq_iff_iff]
    simp
  rwa [e] at h

/-- Which rows may be. -/
def wellB (l : List UInt8) : Bool := decide (l.length ≤ 4000) && l.all bit
theorem all_drop (l : List UInt8) : ((strL (l.dropWhile bit)).toList == (ByteArray.mk #[]).toList) = l.all bit := by
  rw [strL_toList, show (ByteArray.mk #[]).toList = [] from strL_toList []]
  rw [Bool.eq_iff_iff, beq_iff_eq]
  induction l with
  | nil => simp
  | cons a l ih =>
    rw [List.dropWhile_cons, List.all_cons]
    cases bit a <;> simp [ih]

set_option maxRecDepth 100000 in
theorem right_eff (l : List UInt8) : Eff Tryz.prog 22 [.s (strL l)] [] 0 (fun r _ _ => r = .b (wellB l)) := by
  have c1 := trim01_eff l
  have c2 := all_drop l
  refine eff_of Tryz.func22 rfl rfl rfl fun cx e hP => ?_
  refine AWP.runL e tab_ok L22 300 rfl (by trivial ) ?_
  by_cases h : l.length ≤ 4000
  · have h0 : decide (((strL l).size : Int) ≤ 4000) = true := by rw [strL_size]; simp; omega
    repeat (
      first
        | (refine AWP.askT rfl ?_; ( (refine Told.t ?_ ?_; (focus assumption)) ); refine AWP.runL e tab_ok L22 300 rfl (by trivial ) ?_)
        | (refine AWP.callQ e rfl rfl ?_; (first | refine CallQ.mk (c1) rfl rfl ?_); refine AWP.runL e tab_ok L22 300 rfl (by trivial ) ?_)

      )
    refine AWP.ret e tab_ok rfl ?_
    rw [hP]
    unfold wellB
    rw [show decide (l.length ≤ 4000) = true by simpa using h]
    exact congrArg SV.b c2
  · have h0 : decide (((strL l).size : Int) ≤ 4000) = false := by rw [strL_size]; simp; omega
    repeat (
      (refine AWP.askT rfl ?_; ( (refine Told.f ?_ ?_; (focus assumption)) ); refine AWP.runL e tab_ok L22 300 rfl (by trivial ) ?_)

      )
    refine AWP.ret e tab_ok rfl ?_
    rw [hP]
    unfold wellB
    rw [show decide (l.length ≤ 4000) = false by simpa using h]
    rfl

end Go.Proofs.YthdcegeampcalaaGreatDoor

open Go Go.Proofs Go.Sy
namespace Go.Proofs.YthdcegeampcalaaGreatDoor
/-- A number's bits. -/
def bv (b : Bool) : UInt8 := if b then 49 else 48
def bitsOf (n : BitVec 64) (w : Nat) : List UInt8 := (List.range w).map fun j => bv (n.getLsbD (w - 1 - j))
theorem bitsOf_len (n : BitVec 64) (w : Nat) : (bitsOf n w).length = w := by simp [bitsOf]
def rowK (n : BitVec 64) (w i : Nat) : List (List SV) := (List.range w).map fun j => u8S (if j < i then bv (n.getLsbD (w - 1 - j)) else 0)
theorem row_at (n : BitVec 64) {w i j : Nat} (h : j < w) : (rowK n w i)[j]? = some (u8S (if j < i then bv (n.getLsbD (w - 1 - j)) else 0)) := by simp [rowK, h]
theorem row_0 (n : BitVec 64) (w : Nat) : List.replicate w [SV.d (.v (.int .u8 0))] = rowK n w 0 := by
  apply List.ext_getElem?
  intro i
  by_cases h : i < w
  · rw [row_at n h, List.getElem?_replicate, if_pos h]
    rfl
  · rw [List.getElem?_eq_none (by simp; omega), List.getElem?_eq_none (by simp [rowK]; omega)]
theorem row_set (n : BitVec 64) {w i : Nat} (h : i < w) : (rowK n w i).set i (u8S (bv (n.getLsbD (w - 1 - i)))) = rowK n w (i + 1) := by
  apply List.ext_getElem?
  intro j
  by_cases hj : j < w
  · rw [row_at n hj, List.getElem?_set]
    split
    · rename_i e
      subst e
      rw [if_pos (by simp [rowK]; omega), if_pos (by omega)]
    · rename_i e
      rw [row_at n hj]
      congr 2
      by_cases q : j < i
      · rw [if_pos q, if_pos (by omega)]
      · rw [if_neg q, if_neg (by omega)]
  · rw [List.getElem?_eq_none (by simp [rowK]; omega), List.getElem?_eq_none (by simp [rowK]; omega)]

theorem row_ids (n : BitVec 64) (w i m : Nat) : ∀ e ∈ rowK n w i, SV.idsLt.go m e = true := by
  intro e he
  obtain ⟨j, _, rfl⟩ := List.mem_map.1 he
  rfl
theorem and1 (x : BitVec 64) (k : Nat) : x >>> k &&& 1#64 = if x.getLsbD k then 1#64 else 0#64 := by
  apply BitVec.eq_of_getLsbD_eq
  intro i hi
  rw [BitVec.getLsbD_and, BitVec.getLsbD_ushiftRight]
  by_cases h0 : i = 0
  · subst h0
    rw [Nat.add_zero]
    cases x.getLsbD k <;> simp
  · have : (1#64).getLsbD i = false := by
      rw [BitVec.getLsbD_one]; simp; omega
    rw [this, Bool.and_false]
    cases x.getLsbD k
    · simp
    · rw [if_pos rfl, this]
theorem of_bit (n : BitVec 64) {w i : Nat} (h : i < w) : IntKind.wrap .u8 (48 + IntKind.wrap .u8 (IntKind.wrap .u64 (((BitVec.ofInt IntKind.u64.bits ((n.toNat : Int).fdiv (2 ^ min ((w : Int) - 1 - (i : Int)).toNat IntKind.u64.bits)) &&& BitVec.ofInt IntKind.u64.bits 1).toNat : Nat) : Int))) = ((bv (n.getLsbD (w - 1 - i))).toNat : Int) := by
  have e1 : (n.toNat : Int).fdiv (2 ^ min ((w : Int) - 1 - (i : Int)).toNat IntKind.u64.bits) = ((n >>> (w - 1 - i)).toNat : Int) := by
    rw [show ((w : Int) - 1 - (i : Int)) = ((w - 1 - i : Nat) : Int) by omega]
    exact u64shr n _
  rw [e1, show (1 : Int) = ((1#64).toNat : Int) from rfl, u64and, and1]
  cases n.getLsbD (w - 1 - i) <;> rfl
set_option maxRecDepth 100000 in
theorem of_ok (n : BitVec 64) (w : Nat) (hw : w ≤ 64) (hn : w < 64 → n >>> w = 0#64) : Eff Tryz.prog 32 [U64 n, .i w] [] 0 (fun r _ _ => r = .tup [.s (strL (bitsOf n w)), .i 0]) := by
  refine eff_of Tryz.func32 rfl rfl rfl fun cx e hP => ?_
  refine AWP.runL e tab_ok L32 300 rfl (by trivial ) ?_
  rcases Nat.lt_or_ge w 64 with h | h
  · have i1 : (!(((n.toNat : Int)).fdiv (2 ^ (min ((w : Nat) : Int).toNat 64)) == 0)) = false := by
      rw [u64shr, hn h]; rfl
    repeat (
      (refine AWP.askT rfl ?_; (first | (refine Told.f rfl ?_) | (refine Told.f ?_ ?_; (focus assumption)) | (refine Told.t ?_ ?_; (focus ((simp; omega)); done)) | (refine Told.f ?_ ?_; (focus ((simp; omega)); done))); refine AWP.runL e tab_ok L32 300 rfl (by first | trivial | (simp [in64] <;> omega)) ?_)

      )
    clear i1
    refine AWP.make1 e tab_ok w rfl rfl rfl rfl rfl rfl rfl rfl rfl (by show 1 * w ≤ _; omega) (by omega) ?_
    refine AWP.runL e tab_ok L32 300 rfl (by trivial ) ?_
    refine AWP.loop (ι := Nat) (fun i => ⟨[(28, .i i), (27, .i w), (6, .own 0 1 0 w w), (0, U64 n), (1, .i w)], [(0, .row 5 false 1 (rowK n w i) w)], 1⟩) (fun i => i ≤ w) (fun i => w - i) 0 (Nat.zero_le _) ?_ ?_
    · intro g
      refine AWP.less e ?_ ?_ ?_ ?_ ?_ (g) <;> (repeat' (first | exact True.intro | (refine And.intro ?_ ?_) | rfl))
      · exact congrArg (fun z => some (Blk.row 5 false 1 z w)) (row_0 n w)
      · exact row_ids n w 0 1
    rintro i Φ hi next
    have hi : i ≤ w := hi
    refine AWP.runL e tab_ok L32 300 rfl (by trivial ) ?_
    refine AWP.cond2 rfl (fun hlt => ?_) (fun hlt => ?_)
    · have hlt : i < w := by simpa using hlt
      refine AWP.runL e tab_ok L32 300 rfl (by  (simp [in64] <;> omega)) ?_
      refine AWP.eqT 41 (U (bv (n.getLsbD (w - 1 - i)))) rfl (congrArg (fun z => SV.d (.v (.int .u8 z))) (of_bit n hlt)) ?_
      refine AWP.idx_own e tab_ok rfl rfl rfl rfl i rfl hlt ?_
      refine AWP.runL e tab_ok L32 300 rfl (by trivial ) ?_
      refine AWP.store_el e tab_ok rfl rfl rfl rfl rfl (by rw [Nat.zero_add]; exact row_at n hlt) rfl rfl rfl rfl ?_
      refine AWP.runL e tab_ok L32 300 rfl (by  (simp [in64] <;> omega)) ?_
      refine AWP.less e ?_ ?_ ?_ ?_ ?_ (next (i + 1) hlt (by show w - (i + 1) < w - i; omega)) <;> (repeat' (first | exact True.intro | (refine And.intro ?_ ?_) | rfl))
      · rw [Nat.zero_add]
        exact congrArg (fun z => some (Blk.row 5 false 1 z w)) (row_set n hlt)
      · exact row_ids n w _ 1
    · obtain rfl : i = w := by have : ¬ i < w := by simpa using hlt
                               omega
      refine AWP.runL e tab_ok L32 300 rfl (by trivial ) ?_
      refine AWP.bytesStr e tab_ok (bitsOf n i) rfl rfl rfl rfl rfl rfl rfl rfl rfl (bitsOf_len n i).symm ?_ ?_
      · intro j b hb
        have hj : j < i := by have := (List.getElem?_eq_some_iff.1 hb).1; rwa [bitsOf_len] at this
        rw [Nat.zero_add, row_at n hj, if_pos hj]
        unfold bitsOf at hb
        rw [List.getElem?_map, List.getElem?_range hj] at hb
        cases hb
        rfl
      refine AWP.runL e tab_ok L32 300 rfl (by trivial ) ?_
      refine AWP.ret e tab_ok rfl ?_
      rw [hP]
      all_goals rfl
  · have i1 := hw
    repeat (
      (refine AWP.askT rfl ?_; (first | (refine Told.f rfl ?_) | (refine Told.f ?_ ?_; (focus ((simp; omega)); done))); refine AWP.runL e tab_ok L32 300 rfl (by trivial ) ?_)

      )
    clear i1
    refine AWP.make1 e tab_ok w rfl rfl rfl rfl rfl rfl rfl rfl rfl (by show 1 * w ≤ _; omega) (by omega) ?_
    refine AWP.runL e tab_ok L32 300 rfl (by trivial ) ?_
    refine AWP.loop (ι := Nat) (fun i => ⟨[(28, .i i), (27, .i w), (6, .own 0 1 0 w w), (0, U64 n), (1, .i w)], [(0, .row 5 false 1 (rowK n w i) w)], 1⟩) (fun i => i ≤ w) (fun i => w - i) 0 (Nat.zero_le _) ?_ ?_
    · intro g
      refine AWP.less e ?_ ?_ ?_ ?_ ?_ (g) <;> (repeat' (first | exact True.intro | (refine And.intro ?_ ?_) | rfl))
      · exact congrArg (fun z => some (Blk.row 5 false 1 z w)) (row_0 n w)
      · exact row_ids n w 0 1
    rintro i Φ hi next
    have hi : i ≤ w := hi
    refine AWP.runL e tab_ok L32 300 rfl (by trivial ) ?_
    refine AWP.cond2 rfl (fun hlt => ?_) (fun hlt => ?_)
    · have hlt : i < w := by simpa using hlt
      refine AWP.runL e tab_ok L32 300 rfl (by  (simp [in64] <;> omega)) ?_
      refine AWP.eqT 41 (U (bv (n.getLsbD (w - 1 - i)))) rfl (congrArg (fun z => SV.d (.v (.int .u8 z))) (of_bit n hlt)) ?_
      refine AWP.idx_own e tab_ok rfl rfl rfl rfl i rfl hlt ?_
      refine AWP.runL e tab_ok L32 300 rfl (by trivial ) ?_
      refine AWP.store_el e tab_ok rfl rfl rfl rfl rfl (by rw [Nat.zero_add]; exact row_at n hlt) rfl rfl rfl rfl ?_
      refine AWP.runL e tab_ok L32 300 rfl (by  (simp [in64] <;> omega)) ?_
      refine AWP.less e ?_ ?_ ?_ ?_ ?_ (next (i + 1) hlt (by show w - (i + 1) < w - i; omega)) <;> (repeat' (first | exact True.intro | (refine And.intro ?_ ?_) | rfl))
      · rw [Nat.zero_add]
        exact congrArg (fun z => some (Blk.row 5 false 1 z w)) (row_set n hlt)
      · exact row_ids n w _ 1
    · obtain rfl : i = w := by have : ¬ i < w := by simpa using hlt
                               omega
      refine AWP.runL e tab_ok L32 300 rfl (by trivial ) ?_
      refine AWP.bytesStr e tab_ok (bitsOf n i) rfl rfl rfl rfl rfl rfl rfl rfl rfl (bitsOf_len n i).symm ?_ ?_
      · intro j b hb
        have hj : j < i := by have := (List.getElem?_eq_some_iff.1 hb).1; rwa [bitsOf_len] at this
        rw [Nat.zero_add, row_at n hj, if_pos hj]
        unfold bitsOf at hb
        rw [List.getElem?_map, List.getElem?_range hj] at hb
        cases hb
        rfl
      refine AWP.runL e tab_ok L32 300 rfl (by trivial ) ?_
      refine AWP.ret e tab_ok rfl ?_
      rw [hP]
      all_goals rfl

set_option maxRecDepth 100000 in
theorem of_bad (n : BitVec 64) (w : Int) (h : w < 0 ∨ 64 < w ∨ ∃ k : Nat, w = k ∧ k < 64 ∧ n >>> k ≠ 0#64) : Eff Tryz.prog 32 [U64 n, .i w] [] 0 (fun r _ _ => r = .tup [.s ⟨#[]⟩, .i 1]) := by
  refine eff_of Tryz.func32 rfl rfl rfl fun cx e hP => ?_
  rcases h with h | h | ⟨k, rfl, hk, h⟩
  · refine AWP.runL e tab_ok L32 300 rfl (by trivial ) ?_
    repeat (
      (refine AWP.askT rfl ?_; ( (refine Told.t ?_ ?_; (focus ((simp; omega)); done))); refine AWP.runL e tab_ok L32 300 rfl (by trivial ) ?_)

      )
    refine AWP.ret e tab_ok rfl ?_
    rw [hP]
    all_goals rfl
  · refine AWP.runL e tab_ok L32 300 rfl (by trivial ) ?_
    repeat (
      (refine AWP.askT rfl ?_; (first | (refine Told.t ?_ ?_; (focus ((simp; omega)); done)) | (refine Told.f ?_ ?_; (focus ((simp; omega)); done))); refine AWP.runL e tab_ok L32 300 rfl (by trivial ) ?_)

      )
    refine AWP.ret e tab_ok rfl ?_
    rw [hP]
    all_goals rfl
  · have i1 : (!(((n.toNat : Int)).fdiv (2 ^ (min ((k : Nat) : Int).toNat 64)) == 0)) = true := by
      rw [u64shr]
      have : ((n >>> k).toNat : Int) ≠ 0 := fun q => h ((bv_eq0 _).1 q)
      simpa using this
    refine AWP.runL e tab_ok L32 300 rfl (by trivial ) ?_
    repeat (
      (refine AWP.askT rfl ?_; (first | (refine Told.f rfl ?_) | (refine Told.t ?_ ?_; (focus assumption)) | (refine Told.t ?_ ?_; (focus ((simp; omega)); done)) | (refine Told.f ?_ ?_; (focus ((simp; omega)); done))); refine AWP.runL e tab_ok L32 300 rfl (by first | trivial | (simp [in64] <;> omega)) ?_)

      )
    refine AWP.ret e tab_ok rfl ?_
    rw [hP]
    all_goals rfl

theorem str_app (a b : List UInt8) : strL a ++ strL b = strL (a ++ b) := by
  apply ByteArray.ext
  simp [strL]
theorem str_cons (c : UInt8) (l : List UInt8) : ByteArray.mk #[c] ++ strL l = strL (c :: l) := str_app [c] l
theorem bitsOf_succ (n : BitVec 64) (i : Nat) : bitsOf n (i + 1) = bv (n.getLsbD i) :: bitsOf n i := by
  unfold bitsOf
  rw [List.range_succ_eq_map, List.map_cons, List.map_map]
  refine congr (congrArg _ (by simp)) (List.map_congr_left fun j hj => ?_)
  simp only [Function.comp_apply]
  rw [show i + 1 - 1 - (j + 1) = i - 1 - j by omega]
end Go.Proofs.YthdcegeampcalaaGreatDoor

open Go Go.Proofs Go.Sy
namespace Go.Proofs.YthdcegeampcalaaGreatDoor
/-- A row's number. -/
def numOf (l : List UInt8) : BitVec 64 := l.foldl (fun n b => n <<< 1 ||| (if b == 49 then 1#64 else 0#64)) 0#64
theorem num_succ {l : List UInt8} {i : Nat} (h : i < l.length) : numOf (l.take (i + 1)) = numOf (l.take i) <<< 1 ||| (if l[i] == 49 then 1#64 else 0#64) := by
  unfold numOf
  rw [List.take_succ_eq_append_getElem h, List.foldl_append]
  rfl

set_option maxRecDepth 100000 in
theorem num_bad (l : List UInt8) (h : wellB l = false ∨ 64 < l.length) : Eff Tryz.prog 46 [.s (strL l)] [] 0 (fun r _ _ => r = .tup [U64 0#64, .i 1]) := by
  have c := right_eff l
  have hsz : (strL l).size = l.length := strL_size l
  refine eff_of Tryz.func46 rfl rfl rfl fun cx e hP => ?_
  rcases cases_b (wellB l) with q | q <;> rw [q] at c
  · rw [q] at h
    have h : 64 < l.length := by simpa using h
    refine AWP.runL e tab_ok L46 300 rfl (by trivial ) ?_
    repeat (
      first
        | (refine AWP.askT rfl ?_; (first | (refine Told.f rfl ?_) | (refine Told.t ?_ ?_; (focus ((simp; omega)); done))); refine AWP.runL e tab_ok L46 300 rfl (by trivial ) ?_)
        | (refine AWP.callQ e rfl rfl ?_; (first | refine CallQ.mk (c) rfl rfl ?_); refine AWP.runL e tab_ok L46 300 rfl (by trivial ) ?_)

      )
    refine AWP.ret e tab_ok rfl ?_
    rw [hP]
    all_goals rfl
  · refine AWP.runL e tab_ok L46 300 rfl (by trivial ) ?_
    repeat (
      first
        | (refine AWP.askT rfl ?_; ((refine Told.t rfl ?_) ); refine AWP.runL e tab_ok L46 300 rfl (by trivial ) ?_)
        | (refine AWP.callQ e rfl rfl ?_; (first | refine CallQ.mk (c) rfl rfl ?_); refine AWP.runL e tab_ok L46 300 rfl (by trivial ) ?_)

      )
    refine AWP.ret e tab_ok rfl ?_
    rw [hP]
    all_goals rfl

theorem num_bit (x : BitVec 64) {l : List UInt8} {i : Nat} (h : i < l.length) (hb : l[i] = 48 ∨ l[i] = 49) : IntKind.wrap .u64 (((BitVec.ofInt IntKind.u64.bits (IntKind.wrap .u64 ((x.toNat : Int) * 2 ^ (min (1 : Int).toNat IntKind.u64.bits))) ||| BitVec.ofInt IntKind.u64.bits (IntKind.wrap .u64 (IntKind.wrap .u8 (byteAt (strL l) i - 48)))).toNat : Nat) : Int) = ((x <<< 1 ||| if l[i] == 49 then 1#64 else 0#64).toNat : Int) := by
  rw [show IntKind.wrap .u64 ((x.toNat : Int) * 2 ^ (min (1 : Int).toNat IntKind.u64.bits)) = ((x <<< 1).toNat : Int) from u64shl x 1, b_at l i h]
  rcases hb with hb | hb <;> rw [hb]
  · exact u64or (x <<< 1) 0#64
  · exact u64or (x <<< 1) 1#64
theorem bit_or {b : UInt8} (h : bit b = true) : b = 48 ∨ b = 49 := by simpa [bit] using h
theorem well_bits {l : List UInt8} (h : wellB l = true) (i : Nat) (hi : i < l.length) : l[i] = 48 ∨ l[i] = 49 := by
  unfold wellB at h
  simp only [Bool.and_eq_true] at h
  exact bit_or (List.all_eq_true.1 h.2 _ (List.getElem_mem hi))
set_option maxRecDepth 100000 in
theorem num_ok (l : List UInt8) (hw : wellB l = true) (hl : l.length ≤ 64) : Eff Tryz.prog 46 [.s (strL l)] [] 0 (fun r _ _ => r = .tup [U64 (numOf l), .i 0]) := by
  have c := right_eff l
  rw [hw] at c
  have hsz : (strL l).size = l.length := strL_size l
  have hbits := well_bits hw
  refine eff_of Tryz.func46 rfl rfl rfl fun cx e hP => ?_
  refine AWP.runL e tab_ok L46 300 rfl (by trivial ) ?_
  repeat (
    first
      | (refine AWP.askT rfl ?_; (first | (refine Told.f rfl ?_) | (refine Told.f ?_ ?_; (focus ((simp; omega)); done))); refine AWP.runL e tab_ok L46 300 rfl (by trivial ) ?_)
      | (refine AWP.callQ e rfl rfl ?_; (first | refine CallQ.mk (c) rfl rfl ?_); refine AWP.runL e tab_ok L46 300 rfl (by trivial ) ?_)

    )
  refine AWP.loop (ι := Nat) (fun i => ⟨[(16, .i i), (15, .i l.length), (4, U64 (numOf (l.take i))), (0, .s (strL l))], [], 0⟩) (fun i => i ≤ l.length) (fun i => l.length - i) 0 (Nat.zero_le _) ?_ ?_
  · intro g
    refine AWP.less e ?_ ?_ ?_ ?_ ?_ (g) <;> (repeat' (first | exact True.intro | (refine And.intro ?_ ?_) | rfl))
  rintro i Φ hi next
  have hi : i ≤ l.length := hi
  refine AWP.runL e tab_ok L46 300 rfl (by trivial ) ?_
  refine AWP.cond2 rfl (fun hlt => ?_) (fun hlt => ?_)
  · have hlt : i < l.length := by simpa using hlt
    have nx := next (i + 1) hlt (by show l.length - (i + 1) < l.length - i; omega)
    rw [num_succ hlt] at nx
    refine AWP.runL e tab_ok L46 300 rfl (by  (simp [in64] <;> omega)) ?_
    refine AWP.less e ?_ ?_ ?_ ?_ ?_ (nx) <;> (repeat' (first | exact True.intro | (refine And.intro ?_ ?_) | rfl))
    exact congrArg (fun z => some (SV.d (.v (.int .u64 z)))) (num_bit (numOf (l.take i)) hlt (hbits i hlt))
  · have hlt : ¬ i < l.length := by simpa using hlt
    obtain rfl : i = l.length := by omega
    refine AWP.runL e tab_ok L46 300 rfl (by trivial ) ?_
    refine AWP.ret e tab_ok rfl ?_
    rw [hP]
    all_goals  (simp [strip]; done)

end Go.Proofs.YthdcegeampcalaaGreatDoor

open Go Go.Proofs Go.Sy
namespace Go.Proofs.YthdcegeampcalaaGreatDoor

def mn (a b : UInt8) : UInt8 := if b.toNat < a.toNat then b else a
theorem mn_int (a b : UInt8) : (if (b.toNat : Int) < (a.toNat : Int) then (b.toNat : Int) else (a.toNat : Int)) = ((mn a b).toNat : Int) := by
  unfold mn
  by_cases h : b.toNat < a.toNat
  · rw [if_pos h, if_pos (by omega)]
  · rw [if_neg h, if_neg (by omega)]
/-- The lesser of two rows' bits, for the first j of them. -/
def zipK (o s : List UInt8) (j : Nat) : List UInt8 := (List.range o.length).map fun k => if k < j then mn (o.getD k 0) (s.getD k 0) else o.getD k 0
def zipA (o s : List UInt8) : List UInt8 := zipK o s o.length
theorem zipK_len (o s : List UInt8) (j : Nat) : (zipK o s j).length = o.length := by simp [zipK]
theorem zipK_at (o s : List UInt8) (j : Nat) {k : Nat} (h : k < o.length) : (zipK o s j)[k]? = some (if k < j then mn (o.getD k 0) (s.getD k 0) else o.getD k 0) := by simp [zipK, h]
theorem zipK_0 (o s : List UInt8) : zipK o s 0 = o := by
  apply List.ext_getElem (zipK_len _ _ _)
  intro i h1 h2
  have := zipK_at o s 0 h2
  rw [List.getElem?_eq_getElem h1, if_neg (Nat.not_lt_zero _), List.getD_eq_getElem?_getD, List.getElem?_eq_getElem h2] at this
  exact Option.some.inj this
theorem zipK_set (o s : List UInt8) {j : Nat} (h : j < o.length) : (zipK o s j).set j (mn (o.getD j 0) (s.getD j 0)) = zipK o s (j + 1) := by
  apply List.ext_getElem?
  intro i
  by_cases hi : i < o.length
  · rw [zipK_at _ _ _ hi, List.getElem?_set]
    split
    · rename_i e
      subst e
      rw [if_pos (by rw [zipK_len]; exact h), if_pos (by omega)]
    · rename_i e
      rw [zipK_at _ _ _ hi]
      congr 1
      by_cases g : i < j
      · rw [if_pos g, if_pos (by omega)]
      · rw [if_neg g, if_neg (by omega)]
  · rw [List.getElem?_eq_none (by rw [List.length_set, zipK_len]; omega), List.getElem?_eq_none (by rw [zipK_len]; omega)]
def andL (o : List UInt8) (rs : List (List UInt8)) : List UInt8 := rs.foldl zipA o
theorem andL_len (rs : List (List UInt8)) : ∀ o, (andL o rs).length = o.length := by
  induction rs with
  | nil => intro o; rfl
  | cons r rs ih => intro o; exact (ih _).trans (zipK_len _ _ _)
theorem andL_succ (o : List UInt8) {rs : List (List UInt8)} {i : Nat} (h : i < rs.length) : andL o (rs.take (i + 1)) = zipA (andL o (rs.take i)) rs[i] := by
  unfold andL
  rw [List.take_succ_eq_append_getElem h, List.foldl_append]
  rfl
def andG (n : Nat) (r : List UInt8) : Bool := wellB r && (r.length == n)
def andR (rows : List (List UInt8)) : List UInt8 × Int := match rows with
  | [] => ([], 1)
  | r0 :: rest => if (r0 :: rest).all (andG r0.length) then (andL r0 (r0 :: rest), 0) else ([], 1)
abbrev rowsV (rows : List (List UInt8)) : SV := .d (.sl 1 (rows.map fun r => [.v (.string (strL r))]))
theorem rows_at {rows : List (List UInt8)} {i : Nat} (h : i < rows.length) : (rows.map fun r => [DV.v (.string (strL r))])[i]? = some [DV.v (.string (strL rows[i]))] := by simp [h]
theorem u8_ids (l : List UInt8) (m : Nat) : ∀ e ∈ l.map u8S, SV.idsLt.go m e = true := by
  intro e he
  obtain ⟨b, _, rfl⟩ := List.mem_map.1 he
  rfl
theorem u8_set (l : List UInt8) (j : Nat) (b : UInt8) : (l.map u8S).set j (u8S b) = (l.set j b).map u8S := by rw [List.map_set]
theorem u8_at (l : List UInt8) {j : Nat} (h : j < l.length) : (l.map u8S)[j]? = some (u8S (l.getD j 0)) := by simp [h]
theorem strL_dat (l : List UInt8) : (strL l).data.toList.map u8S = l.map u8S := by rw [strL_data]

set_option maxRecDepth 100000 in
set_option maxHeartbeats 1000000 in
theorem and_eff (rows : List (List UInt8)) (hr : rows.length ≤ 8) (hl : ∀ r ∈ rows, r.length ≤ 4100) : Eff Tryz.prog 53 [rowsV rows] [] 0 (fun r _ _ => r = .tup [.s (strL (andR rows).1), .i (andR rows).2]) := by
  cases rows with
  | nil =>
    refine eff_of Tryz.func53 rfl rfl rfl fun cx e hP => ?_
    refine AWP.runL e tab_ok L53 300 rfl (by first | trivial | (simp [in64] <;> omega) | (simp only [in64, true_and, and_true]; omega)) ?_
    repeat (
      first
        | (refine AWP.askT rfl ?_; (first | (refine Told.t rfl ?_) | (refine Told.f rfl ?_) | (refine Told.t ?_ ?_; (focus assumption)) | (refine Told.f ?_ ?_; (focus assumption)) | (refine Told.t ?_ ?_; (focus (first | (simp; omega) | (simp [*]; done)); done)) | (refine Told.f ?_ ?_; (focus (first | (simp; omega) | (simp [*]; done)); done))); refine AWP.runL e tab_ok L53 300 rfl (by first | trivial | (simp [in64] <;> omega) | (simp only [in64, true_and, and_true]; omega)) ?_)
        | (refine AWP.eq_agg e tab_ok rfl rfl rfl (.inl ⟨rfl, rfl⟩) ?_ 5 (by omega) rfl ?_ rfl rfl rfl rfl rfl rfl rfl ?_; (focus kernel_rfl); (focus kernel_rfl); refine AWP.runL e tab_ok L53 300 rfl (by first | trivial | (simp [in64] <;> omega) | (simp only [in64, true_and, and_true]; omega)) ?_)
        | (refine AWP.eq_agg e tab_ok rfl rfl rfl (.inr ⟨rfl, rfl⟩) ?_ 5 (by omega) rfl ?_ rfl rfl rfl rfl rfl rfl rfl ?_; (focus kernel_rfl); (focus kernel_rfl); refine AWP.runL e tab_ok L53 300 rfl (by first | trivial | (simp [in64] <;> omega) | (simp only [in64, true_and, and_true]; omega)) ?_)
      )
    refine AWP.ret e tab_ok rfl ?_
    rw [hP]
    all_goals first | rfl | (simp [strip]; done)
  | cons r0 rest =>
    generalize hrs : r0 :: rest = rows at *
    have hpos : 0 < rows.length := by rw [← hrs]; simp
    have h00 : rows[0] = r0 := by simp [← hrs]
    have hl0 : r0.length ≤ 4100 := hl r0 (by rw [← hrs]; simp)
    have hne : rows ≠ [] := by rw [← hrs]; simp
    have hR : andR rows = if rows.all (andG r0.length) then (andL r0 rows, 0) else ([], 1) := by rw [← hrs]; rfl
    rw [hR]
    clear hR
    have hsz0 : (strL r0).size = r0.length := strL_size r0
    refine eff_of Tryz.func53 rfl rfl rfl fun cx e hP => ?_
    have g0 : ((((rows.map fun r => [DV.v (Value.string (strL r))]).length : Nat) : Int) == 0) = false := by simp; omega
    refine AWP.runL e tab_ok L53 300 rfl (by first | trivial | (simp [in64] <;> omega) | (simp only [in64, true_and, and_true]; omega)) ?_
    repeat (
      first
        | (refine AWP.askT rfl ?_; (first | (refine Told.t rfl ?_) | (refine Told.f rfl ?_) | (refine Told.t ?_ ?_; (focus assumption)) | (refine Told.f ?_ ?_; (focus assumption)) | (refine Told.t ?_ ?_; (focus (first | (simp; omega) | (simp [*]; done)); done)) | (refine Told.f ?_ ?_; (focus (first | (simp; omega) | (simp [*]; done)); done))); refine AWP.runL e tab_ok L53 300 rfl (by first | trivial | (simp [in64] <;> omega) | (simp only [in64, true_and, and_true]; omega)) ?_)
        | (refine AWP.eq_agg e tab_ok rfl rfl rfl (.inl ⟨rfl, rfl⟩) ?_ 5 (by omega) rfl ?_ rfl rfl rfl rfl rfl rfl rfl ?_; (focus kernel_rfl); (focus kernel_rfl); refine AWP.runL e tab_ok L53 300 rfl (by first | trivial | (simp [in64] <;> omega) | (simp only [in64, true_and, and_true]; omega)) ?_)
        | (refine AWP.eq_agg e tab_ok rfl rfl rfl (.inr ⟨rfl, rfl⟩) ?_ 5 (by omega) rfl ?_ rfl rfl rfl rfl rfl rfl rfl ?_; (focus kernel_rfl); (focus kernel_rfl); refine AWP.runL e tab_ok L53 300 rfl (by first | trivial | (simp [in64] <;> omega) | (simp only [in64, true_and, and_true]; omega)) ?_)
      )
    refine AWP.idx_elt 0 e tab_ok rfl rfl rfl rfl rfl (rows_at hpos) ?_
    rw [h00]
    refine AWP.runL e tab_ok L53 300 rfl (by first | trivial | (simp [in64] <;> omega) | (simp only [in64, true_and, and_true]; omega)) ?_
    refine AWP.strBytes e tab_ok rfl rfl rfl rfl rfl rfl rfl rfl (by rw [hsz0]; omega) fun C hC => ?_
    rw [hsz0, strL_dat]
    rw [hsz0] at hC
    refine AWP.runL e tab_ok L53 300 rfl (by first | trivial | (simp [in64] <;> omega) | (simp only [in64, true_and, and_true]; omega)) ?_
    have hlen : ((rows.map fun r => [DV.v (Value.string (strL r))]).length) = rows.length := List.length_map _
    rw [hlen]
    refine AWP.loop (ι := Nat) (fun i => ⟨[(17, .i i), (16, .i rows.length), (15, rowsV rows), (4, .own 0 1 0 r0.length C)], [(0, .row 5 true 1 ((andL r0 (rows.take i)).map u8S) C)], 1⟩) (fun i => i ≤ rows.length ∧ (rows.take i).all (andG r0.length) = true) (fun i => rows.length - i) 0 ⟨Nat.zero_le _, rfl⟩ ?_ ?_
    · intro g
      refine AWP.less e ?_ ?_ ?_ ?_ ?_ (g) <;> (repeat' (first | exact True.intro | (refine And.intro ?_ ?_) | rfl | assumption))
      exact u8_ids _ 1
    rintro i Φ ⟨hi, hg⟩ next
    have hi : i ≤ rows.length := hi
    have hg : (rows.take i).all (andG r0.length) = true := hg
    refine AWP.runL e tab_ok L53 300 rfl (by first | trivial | (simp [in64] <;> omega) | (simp only [in64, true_and, and_true]; omega)) ?_
    refine AWP.cond2 rfl (fun hlt => ?_) (fun hlt => ?_)
    · have hlt : i < rows.length := by simpa using hlt
      have hs : (rows[i]).length ≤ 4100 := hl _ (List.getElem_mem hlt)
      have nx := next (i + 1)
      have key : (rows.take (i + 1)).all (andG r0.length) = andG r0.length rows[i] := by
        rw [List.take_succ_eq_append_getElem hlt, List.all_append, hg, Bool.true_and, List.all_cons, List.all_nil, Bool.and_true]
      rw [andL_succ r0 hlt, key] at nx
      have bad : andG r0.length rows[i] = false → rows.all (andG r0.length) = false := fun h => List.all_eq_false.2 ⟨_, List.getElem_mem hlt, by rw [h]; decide⟩
      have hz : (strL rows[i]).size = (rows[i]).length := strL_size _
      have ho : (andL r0 (rows.take i)).length = r0.length := andL_len _ _
      refine AWP.runL e tab_ok L53 300 rfl (by first | trivial | (simp [in64] <;> omega) | (simp only [in64, true_and, and_true]; omega)) ?_
      refine AWP.idx_elt i e tab_ok rfl rfl rfl rfl rfl (rows_at hlt) ?_
      have c1 := right_eff rows[i]
      generalize rows[i] = s at *
      generalize andL r0 (rows.take i) = o at *
      rcases cases_b (wellB s) with hw | hw
      · rw [hw] at c1
        rcases cases_b (s.length == r0.length) with hn | hn
        · have hn' : s.length = r0.length := by simpa using hn
          have nx := nx ⟨hlt, by unfold andG; rw [hw, hn]; rfl⟩ (by show rows.length - (i + 1) < rows.length - i; omega)
          clear next bad key
          refine AWP.runL e tab_ok L53 300 rfl (by first | trivial | (simp [in64] <;> omega) | (simp only [in64, true_and, and_true]; omega)) ?_
          repeat (
            first
              | (refine AWP.askT rfl ?_; (first | (refine Told.t rfl ?_) | (refine Told.f rfl ?_) | (refine Told.t ?_ ?_; (focus assumption)) | (refine Told.f ?_ ?_; (focus assumption)) | (refine Told.t ?_ ?_; (focus (first | (simp; omega) | (simp [*]; done)); done)) | (refine Told.f ?_ ?_; (focus (first | (simp; omega) | (simp [*]; done)); done))); refine AWP.runL e tab_ok L53 300 rfl (by first | trivial | (simp [in64] <;> omega) | (simp only [in64, true_and, and_true]; omega)) ?_)
              | (refine AWP.callQ e rfl rfl ?_; (first | refine CallQ.mk (c1) rfl rfl ?_); refine AWP.runL e tab_ok L53 300 rfl (by first | trivial | (simp [in64] <;> omega) | (simp only [in64, true_and, and_true]; omega)) ?_)
              | (refine AWP.eq_agg e tab_ok rfl rfl rfl (.inl ⟨rfl, rfl⟩) ?_ 5 (by omega) rfl ?_ rfl rfl rfl rfl rfl rfl rfl ?_; (focus kernel_rfl); (focus kernel_rfl); refine AWP.runL e tab_ok L53 300 rfl (by first | trivial | (simp [in64] <;> omega) | (simp only [in64, true_and, and_true]; omega)) ?_)
              | (refine AWP.eq_agg e tab_ok rfl rfl rfl (.inr ⟨rfl, rfl⟩) ?_ 5 (by omega) rfl ?_ rfl rfl rfl rfl rfl rfl rfl ?_; (focus kernel_rfl); (focus kernel_rfl); refine AWP.runL e tab_ok L53 300 rfl (by first | trivial | (simp [in64] <;> omega) | (simp only [in64, true_and, and_true]; omega)) ?_)
            )
          refine AWP.loop (ι := Nat) (fun j => ⟨[(33, .i j), (32, .i r0.length), (6, .s (strL s)), (17, .i i), (16, .i rows.length), (15, rowsV rows), (4, .own 0 1 0 r0.length C)], [(0, .row 5 true 1 ((zipK o s j).map u8S) C)], 1⟩) (fun j => j ≤ r0.length) (fun j => r0.length - j) 0 (Nat.zero_le _) ?_ ?_
          · intro g
            rw [zipK_0] at g
            refine AWP.less e ?_ ?_ ?_ ?_ ?_ (g) <;> (repeat' (first | exact True.intro | (refine And.intro ?_ ?_) | rfl | assumption))
            exact u8_ids _ 1
          rintro j Ψ hj nxt
          have hj : j ≤ r0.length := hj
          refine AWP.runL e tab_ok L53 300 rfl (by first | trivial | (simp [in64] <;> omega) | (simp only [in64, true_and, and_true]; omega)) ?_
          refine AWP.cond2 rfl (fun hjl => ?_) (fun hjl => ?_)
          · have hjl : j < r0.length := by simpa using hjl
            have hz' := b_at s j (by omega)
            refine AWP.runL e tab_ok L53 300 rfl (by first | trivial | (simp [in64] <;> omega) | (simp only [in64, true_and, and_true]; omega)) ?_
            refine AWP.keep L53 rfl ?_
            refine AWP.drg 9 ?_
            (refine DrG.runS e tab_ok 200 rfl (by first | trivial | (simp [in64] <;> omega) | (simp only [in64, true_and, and_true]; omega)) ?_)
            repeat (
              first
                | (refine DrG.askT rfl ?_; (first | (refine Told.t rfl ?_) | (refine Told.f rfl ?_) | (refine Told.t ?_ ?_; (focus assumption)) | (refine Told.f ?_ ?_; (focus assumption)) | (refine Told.t ?_ ?_; (focus (first | (simp; omega) | (simp [*]; done)); done)) | (refine Told.f ?_ ?_; (focus (first | (simp; omega) | (simp [*]; done)); done))); (refine DrG.runS e tab_ok 200 rfl (by first | trivial | (simp [in64] <;> omega) | (simp only [in64, true_and, and_true]; omega)) ?_))
                | (refine DrG.eq_agg e tab_ok rfl rfl rfl (.inl ⟨rfl, rfl⟩) ?_ 5 (by omega) rfl ?_ rfl rfl rfl rfl rfl rfl rfl ?_; (focus kernel_rfl); (focus kernel_rfl); (refine DrG.runS e tab_ok 200 rfl (by first | trivial | (simp [in64] <;> omega) | (simp only [in64, true_and, and_true]; omega)) ?_))
                | (refine DrG.eq_aggGo e tab_ok rfl rfl rfl rfl (.inl ⟨rfl, rfl⟩) ?_ 5 (by omega) rfl ?_ rfl rfl rfl rfl rfl rfl rfl ?_; (focus kernel_rfl); (focus kernel_rfl); (refine DrG.runS e tab_ok 200 rfl (by first | trivial | (simp [in64] <;> omega) | (simp only [in64, true_and, and_true]; omega)) ?_))
                | (refine DrG.eq_agg e tab_ok rfl rfl rfl (.inr ⟨rfl, rfl⟩) ?_ 5 (by omega) rfl ?_ rfl rfl rfl rfl rfl rfl rfl ?_; (focus kernel_rfl); (focus kernel_rfl); (refine DrG.runS e tab_ok 200 rfl (by first | trivial | (simp [in64] <;> omega) | (simp only [in64, true_and, and_true]; omega)) ?_))
                | (refine DrG.eq_aggGo e tab_ok rfl rfl rfl rfl (.inr ⟨rfl, rfl⟩) ?_ 5 (by omega) rfl ?_ rfl rfl rfl rfl rfl rfl rfl ?_; (focus kernel_rfl); (focus kernel_rfl); (refine DrG.runS e tab_ok 200 rfl (by first | trivial | (simp [in64] <;> omega) | (simp only [in64, true_and, and_true]; omega)) ?_))
              )
            have hzl : j < (zipK o s j).length := by rw [zipK_len, ho]; exact hjl
            have hzj : (zipK o s j).getD j 0 = o.getD j 0 := by
              rw [List.getD_eq_getElem?_getD, zipK_at o s j (by omega), if_neg (Nat.lt_irrefl _)]; rfl
            have hel := u8_at (zipK o s j) hzl
            rw [hzj] at hel
            have hb : byteAt (strL s) j = ((s.getD j 0).toNat : Int) := by
              rw [hz', List.getD_eq_getElem?_getD, List.getElem?_eq_getElem (by omega)]; rfl
            have hid0 := u8_ids (zipK o s j) 0
            have hid1 := u8_ids (zipK o s (j + 1)) 0
            refine DrG.idx_own j e tab_ok rfl rfl rfl rfl rfl hjl rfl ?_
            refine DrG.load_el (U (o.getD j 0)) e tab_ok rfl rfl rfl rfl (by rw [Nat.zero_add]; exact hel) rfl rfl ?_
            (refine DrG.runS e tab_ok 200 rfl (by first | trivial | (simp [in64] <;> omega) | (simp only [in64, true_and, and_true]; omega)) ?_)
            repeat (
              first
                | (refine DrG.askT rfl ?_; (first | (refine Told.t rfl ?_) | (refine Told.f rfl ?_) | (refine Told.t ?_ ?_; (focus assumption)) | (refine Told.f ?_ ?_; (focus assumption)) | (refine Told.t ?_ ?_; (focus (first | (simp; omega) | (simp [*]; done)); done)) | (refine Told.f ?_ ?_; (focus (first | (simp; omega) | (simp [*]; done)); done))); (refine DrG.runS e tab_ok 200 rfl (by first | trivial | (simp [in64] <;> omega) | (simp only [in64, true_and, and_true]; omega)) ?_))
                | (refine DrG.eq_agg e tab_ok rfl rfl rfl (.inl ⟨rfl, rfl⟩) ?_ 5 (by omega) rfl ?_ rfl rfl rfl rfl rfl rfl rfl ?_; (focus kernel_rfl); (focus kernel_rfl); (refine DrG.runS e tab_ok 200 rfl (by first | trivial | (simp [in64] <;> omega) | (simp only [in64, true_and, and_true]; omega)) ?_))
                | (refine DrG.eq_aggGo e tab_ok rfl rfl rfl rfl (.inl ⟨rfl, rfl⟩) ?_ 5 (by omega) rfl ?_ rfl rfl rfl rfl rfl rfl rfl ?_; (focus kernel_rfl); (focus kernel_rfl); (refine DrG.runS e tab_ok 200 rfl (by first | trivial | (simp [in64] <;> omega) | (simp only [in64, true_and, and_true]; omega)) ?_))
                | (refine DrG.eq_agg e tab_ok rfl rfl rfl (.inr ⟨rfl, rfl⟩) ?_ 5 (by omega) rfl ?_ rfl rfl rfl rfl rfl rfl rfl ?_; (focus kernel_rfl); (focus kernel_rfl); (refine DrG.runS e tab_ok 200 rfl (by first | trivial | (simp [in64] <;> omega) | (simp only [in64, true_and, and_true]; omega)) ?_))
                | (refine DrG.eq_aggGo e tab_ok rfl rfl rfl rfl (.inr ⟨rfl, rfl⟩) ?_ 5 (by omega) rfl ?_ rfl rfl rfl rfl rfl rfl rfl ?_; (focus kernel_rfl); (focus kernel_rfl); (refine DrG.runS e tab_ok 200 rfl (by first | trivial | (simp [in64] <;> omega) | (simp only [in64, true_and, and_true]; omega)) ?_))
              )
            refine DrG.eqV (x' := U (mn (o.getD j 0) (s.getD j 0))) ?_ ?_
            · exact congrArg (fun z => SV.d (.v (.int .u8 z))) ((congrArg (fun z => if z < ((o.getD j 0).toNat : Int) then z else ((o.getD j 0).toNat : Int)) hb).trans (mn_int _ _))
            refine DrG.idx_own j e tab_ok rfl rfl rfl rfl rfl hjl rfl ?_
            refine DrG.store_el e tab_ok rfl rfl rfl rfl rfl (by rw [Nat.zero_add]; exact hel) rfl rfl rfl rfl (by rw [Nat.zero_add, u8_set, zipK_set o s (by omega)]; exact hid1) rfl ?_
            refine DrG.finK e rfl ?_ rfl rfl rfl ?_ ?_
            (focus kernel_rfl)
            (focus (repeat' (first | exact True.intro | (refine And.intro ?_ ?_) | rfl | assumption | exact okRow _)))
            dsimp only [tmS, hpS, tput, effH]
            refine AWP.runL e tab_ok L53 300 rfl (by first | trivial | (simp [in64] <;> omega) | (simp only [in64, true_and, and_true]; omega)) ?_
            refine AWP.less e ?_ ?_ ?_ ?_ ?_ (nxt (j + 1) hjl (by show r0.length - (j + 1) < r0.length - j; omega)) <;> (repeat' (first | exact True.intro | (refine And.intro ?_ ?_) | rfl | assumption))
            · rw [Nat.zero_add, u8_set, zipK_set o s (by omega)]
              rfl
            · exact u8_ids _ 1
          · have hjl : ¬ j < r0.length := by simpa using hjl
            obtain rfl : j = r0.length := by omega
            refine AWP.runL e tab_ok L53 300 rfl (by first | trivial | (simp [in64] <;> omega) | (simp only [in64, true_and, and_true]; omega)) ?_
            unfold zipA at nx
            rw [ho] at nx
            refine AWP.less e ?_ ?_ ?_ ?_ ?_ (nx) <;> (repeat' (first | exact True.intro | (refine And.intro ?_ ?_) | rfl | assumption))
            exact u8_ids _ 1
        · have hn' : ¬ s.length = r0.length := by simpa using hn
          rw [bad (by unfold andG; rw [hn, Bool.and_false])] at hP
          refine AWP.runL e tab_ok L53 300 rfl (by first | trivial | (simp [in64] <;> omega) | (simp only [in64, true_and, and_true]; omega)) ?_
          repeat (
            first
              | (refine AWP.askT rfl ?_; (first | (refine Told.t rfl ?_) | (refine Told.f rfl ?_) | (refine Told.t ?_ ?_; (focus assumption)) | (refine Told.f ?_ ?_; (focus assumption)) | (refine Told.t ?_ ?_; (focus (first | (simp; omega) | (simp [*]; done)); done)) | (refine Told.f ?_ ?_; (focus (first | (simp; omega) | (simp [*]; done)); done))); refine AWP.runL e tab_ok L53 300 rfl (by first | trivial | (simp [in64] <;> omega) | (simp only [in64, true_and, and_true]; omega)) ?_)
              | (refine AWP.callQ e rfl rfl ?_; (first | refine CallQ.mk (c1) rfl rfl ?_); refine AWP.runL e tab_ok L53 300 rfl (by first | trivial | (simp [in64] <;> omega) | (simp only [in64, true_and, and_true]; omega)) ?_)
              | (refine AWP.eq_agg e tab_ok rfl rfl rfl (.inl ⟨rfl, rfl⟩) ?_ 5 (by omega) rfl ?_ rfl rfl rfl rfl rfl rfl rfl ?_; (focus kernel_rfl); (focus kernel_rfl); refine AWP.runL e tab_ok L53 300 rfl (by first | trivial | (simp [in64] <;> omega) | (simp only [in64, true_and, and_true]; omega)) ?_)
              | (refine AWP.eq_agg e tab_ok rfl rfl rfl (.inr ⟨rfl, rfl⟩) ?_ 5 (by omega) rfl ?_ rfl rfl rfl rfl rfl rfl rfl ?_; (focus kernel_rfl); (focus kernel_rfl); refine AWP.runL e tab_ok L53 300 rfl (by first | trivial | (simp [in64] <;> omega) | (simp only [in64, true_and, and_true]; omega)) ?_)
            )
          refine AWP.ret e tab_ok rfl ?_
          rw [hP]
          all_goals first | rfl | (simp [strip]; done)
      · rw [hw] at c1
        rw [bad (by unfold andG; rw [hw, Bool.false_and])] at hP
        refine AWP.runL e tab_ok L53 300 rfl (by first | trivial | (simp [in64] <;> omega) | (simp only [in64, true_and, and_true]; omega)) ?_
        repeat (
          first
            | (refine AWP.askT rfl ?_; (first | (refine Told.t rfl ?_) | (refine Told.f rfl ?_) | (refine Told.t ?_ ?_; (focus assumption)) | (refine Told.f ?_ ?_; (focus assumption)) | (refine Told.t ?_ ?_; (focus (first | (simp; omega) | (simp [*]; done)); done)) | (refine Told.f ?_ ?_; (focus (first | (simp; omega) | (simp [*]; done)); done))); refine AWP.runL e tab_ok L53 300 rfl (by first | trivial | (simp [in64] <;> omega) | (simp only [in64, true_and, and_true]; omega)) ?_)
            | (refine AWP.callQ e rfl rfl ?_; (first | refine CallQ.mk (c1) rfl rfl ?_); refine AWP.runL e tab_ok L53 300 rfl (by first | trivial | (simp [in64] <;> omega) | (simp only [in64, true_and, and_true]; omega)) ?_)
            | (refine AWP.eq_agg e tab_ok rfl rfl rfl (.inl ⟨rfl, rfl⟩) ?_ 5 (by omega) rfl ?_ rfl rfl rfl rfl rfl rfl rfl ?_; (focus kernel_rfl); (focus kernel_rfl); refine AWP.runL e tab_ok L53 300 rfl (by first | trivial | (simp [in64] <;> omega) | (simp only [in64, true_and, and_true]; omega)) ?_)
            | (refine AWP.eq_agg e tab_ok rfl rfl rfl (.inr ⟨rfl, rfl⟩) ?_ 5 (by omega) rfl ?_ rfl rfl rfl rfl rfl rfl rfl ?_; (focus kernel_rfl); (focus kernel_rfl); refine AWP.runL e tab_ok L53 300 rfl (by first | trivial | (simp [in64] <;> omega) | (simp only [in64, true_and, and_true]; omega)) ?_)
          )
        refine AWP.ret e tab_ok rfl ?_
        rw [hP]
        all_goals first | rfl | (simp [strip]; done)
    · have hlt : ¬ i < rows.length := by simpa using hlt
      obtain rfl : i = rows.length := by omega
      rw [List.take_length] at hg
      rw [hg] at hP
      refine AWP.runL e tab_ok L53 300 rfl (by first | trivial | (simp [in64] <;> omega) | (simp only [in64, true_and, and_true]; omega)) ?_
      refine AWP.bytesStr e tab_ok (andL r0 rows) rfl rfl rfl rfl rfl rfl rfl rfl rfl ?_ ?_ ?_
      · rw [andL_len]
      · intro q b hb
        rw [List.take_length, Nat.zero_add, List.getElem?_map, hb]
        rfl
      refine AWP.runL e tab_ok L53 300 rfl (by first | trivial | (simp [in64] <;> omega) | (simp only [in64, true_and, and_true]; omega)) ?_
      refine AWP.ret e tab_ok rfl ?_
      rw [hP]
      all_goals first | rfl | (simp [strip]; done)

end Go.Proofs.YthdcegeampcalaaGreatDoor
