import Derived.Test.YtldbeeiabgmfhaaDoorF1
open Go Go.Proofs Go.Sy
namespace Go.Proofs.YtldbeeiabgmfhaaDoor
/-- A number's bits. -/
def bv (b : Bool) : UInt8 := if b then 49 else 48
def bitsOf (n : BitVec 64) (w : Nat) : List UInt8 := (List.range w).map fun j => bv (n.getLsbD (w - 1 - j))
theorem bitsOf_len (n : BitVec 64) (w : Nat) : (bitsOf n w).length = w := by simp [bitsOf]
def rowK (n : BitVec 64) (w i : Nat) : List (List SV) := (List.range w).map fun j => u8S (if j < i then bv (n.getLsbD (w - 1 - j)) else 0)
theorem row_at (n : BitVec 64) {w i j : Nat} (h : j < w) : (rowK n w i)[j]? = some (u8S (if j < i then bv (n.getLsbD (w - 1 - j)) else 0)) := by simp [rowK, h]
theorem row_0 (n : BitVec 64) (w : Nat) : List.replicate w [SV.d (.v (.int .u8 0))] = rowK n w 0 := by
  apply List.ext_getElem?
  intro i
  by_cases h : i < w
  · rw [row_at n h, List.getElem?_replicate, if_pos h]
    rfl
  · rw [List.getElem?_eq_none (by simp; omega), List.getElem?_eq_none (by simp [rowK]; omega)]
theorem row_set (n : BitVec 64) {w i : Nat} (h : i < w) : (rowK n w i).set i (u8S (bv (n.getLsbD (w - 1 - i)))) = rowK n w (i + 1) := by
  apply List.ext_getElem?
  intro j
  by_cases hj : j < w
  · rw [row_at n hj, List.getElem?_set]
    split
    · rename_i e
      subst e
      rw [if_pos (by simp [rowK]; omega), if_pos (by omega)]
    · rename_i e
      rw [row_at n hj]
      congr 2
      by_cases q : j < i
      · rw [if_pos q, if_pos (by omega)]
      · rw [if_neg q, if_neg (by omega)]
  · rw [List.getElem?_eq_none (by simp [rowK]; omega), List.getElem?_eq_none (by simp [rowK]; omega)]

theorem row_ids (n : BitVec 64) (w i m : Nat) : ∀ e ∈ rowK n w i, SV.idsLt.go m e = true := by
  intro e he
  obtain ⟨j, _, rfl⟩ := List.mem_map.1 he
  rfl
theorem and1 (x : BitVec 64) (k : Nat) : x >>> k &&& 1#64 = if x.getLsbD k then 1#64 else 0#64 := by
  apply BitVec.eq_of_getLsbD_eq
  intro i hi
  rw [BitVec.getLsbD_and, BitVec.getLsbD_ushiftRight]
  by_cases h0 : i = 0
  · subst h0
    rw [Nat.add_zero]
    cases x.getLsbD k <;> simp
  · have : (1#64).getLsbD i = false := by
      rw [BitVec.getLsbD_one]; simp; omega
    rw [this, Bool.and_false]
    cases x.getLsbD k
    · simp
    · rw [if_pos rfl, this]
theorem of_bit (n : BitVec 64) {w i : Nat} (h : i < w) : IntKind.wrap .u8 (48 + IntKind.wrap .u8 (IntKind.wrap .u64 (((BitVec.ofInt IntKind.u64.bits ((n.toNat : Int).fdiv (2 ^ min ((w : Int) - 1 - (i : Int)).toNat IntKind.u64.bits)) &&& BitVec.ofInt IntKind.u64.bits 1).toNat : Nat) : Int))) = ((bv (n.getLsbD (w - 1 - i))).toNat : Int) := by
  have e1 : (n.toNat : Int).fdiv (2 ^ min ((w : Int) - 1 - (i : Int)).toNat IntKind.u64.bits) = ((n >>> (w - 1 - i)).toNat : Int) := by
    rw [show ((w : Int) - 1 - (i : Int)) = ((w - 1 - i : Nat) : Int) by omega]
    exact u64shr n _
  rw [e1, show (1 : Int) = ((1#64).toNat : Int) from rfl, u64and, and1]
  cases n.getLsbD (w - 1 - i) <;> rfl
set_option maxRecDepth 100000 in
theorem of_ok (n : BitVec 64) (w : Nat) (hw : w ≤ 64) (hn : w < 64 → n >>> w = 0#64) : Eff Tryd.prog 22 [U64 n, .i w] [] 0 (fun r _ _ => r = .tup [.s (strL (bitsOf n w)), .i 0]) := by
  refine eff_of Tryd.func22 rfl rfl rfl fun cx e hP => ?_
  refine AWP.runL e tab_ok L22 300 rfl (by first | trivial | (simp [in64] <;> omega) | (simp only [in64, true_and, and_true]; omega)) ?_
  rcases Nat.lt_or_ge w 64 with h | h
  · have i1 : (!(((n.toNat : Int)).fdiv (2 ^ (min ((w : Nat) : Int).toNat 64)) == 0)) = false := by
      rw [u64shr, hn h]; rfl
    repeat (
      first
        | (refine AWP.askT rfl ?_; (first | (refine Told.t rfl ?_) | (refine Told.f rfl ?_) | (refine Told.t ?_ ?_; (focus assumption)) | (refine Told.f ?_ ?_; (focus assumption)) | (refine Told.t ?_ ?_; (focus (first | (simp; omega) | (simp [*]; done)); done)) | (refine Told.f ?_ ?_; (focus (first | (simp; omega) | (simp [*]; done)); done))); refine AWP.runL e tab_ok L22 300 rfl (by first | trivial | (simp [] <;> omega) | (simp only [in64, true_and, and_true]; omega)) ?_)
        | (refine AWP.eq_agg e tab_ok rfl rfl rfl (.inl ⟨rfl, rfl⟩) ?_ 5 (by omega) rfl ?_ rfl rfl rfl rfl rfl rfl rfl ?_; (focus kernel_rfl); (focus kernel_rfl); refine AWP.runL e tab_ok L22 300 rfl (by first | trivial | (simp [in64] <;> omega) | (simp only [in64, true_and, and_true]; omega)) ?_)
        | (refine AWP.eq_agg e tab_ok rfl rfl rfl (.inr ⟨rfl, rfl⟩) ?_ 5 (by omega) rfl ?_ rfl rfl rfl rfl rfl rfl rfl ?_; (focus kernel_rfl); (focus kernel_rfl); refine AWP.runL e tab_ok L22 300 rfl (by first | trivial | (simp [in64] <;> omega) | (simp only [in64, true_and, and_true]; omega)) ?_)
      )
    clear i1
    refine AWP.make1 e tab_ok w rfl rfl rfl rfl rfl rfl rfl rfl rfl (by show 1 * w ≤ _; omega) (by omega) ?_
    refine AWP.runL e tab_ok L22 300 rfl (by first | trivial | (simp [in64] <;> omega) | (simp only [in64, true_and, and_true]; omega)) ?_
    refine AWP.loop (ι := Nat) (fun i => ⟨[(28, .i i), (27, .i w), (6, .own 0 1 0 w w), (0, U64 n), (1, .i w)], [(0, .row 5 false 1 (rowK n w i) w)], 1⟩) (fun i => i ≤ w) (fun i => w - i) 0 (Nat.zero_le _) ?_ ?_
    · intro g
      refine AWP.less e ?_ ?_ ?_ ?_ ?_ (g) <;> (repeat' (first | exact True.intro | (refine And.intro ?_ ?_) | rfl | assumption))
      · exact congrArg (fun z => some (Blk.row 5 false 1 z w)) (row_0 n w)
      · exact row_ids n w 0 1
    rintro i Φ hi next
    have hi : i ≤ w := hi
    refine AWP.runL e tab_ok L22 300 rfl (by first | trivial | (simp [in64] <;> omega) | (simp only [in64, true_and, and_true]; omega)) ?_
    refine AWP.cond2 rfl (fun hlt => ?_) (fun hlt => ?_)
    · have hlt : i < w := by simpa using hlt
      refine AWP.runL e tab_ok L22 300 rfl (by first | trivial | (simp [in64] <;> omega) | (simp only [in64, true_and, and_true]; omega)) ?_
      refine AWP.eqT 41 (U (bv (n.getLsbD (w - 1 - i)))) rfl (congrArg (fun z => SV.d (.v (.int .u8 z))) (of_bit n hlt)) ?_
      refine AWP.idx_own e tab_ok rfl rfl rfl rfl i rfl hlt ?_
      refine AWP.runL e tab_ok L22 300 rfl (by first | trivial | (simp [in64] <;> omega) | (simp only [in64, true_and, and_true]; omega)) ?_
      refine AWP.store_el e tab_ok rfl rfl rfl rfl rfl (by rw [Nat.zero_add]; exact row_at n hlt) rfl rfl rfl rfl ?_
      refine AWP.runL e tab_ok L22 300 rfl (by first | trivial | (simp [in64] <;> omega) | (simp only [in64, true_and, and_true]; omega)) ?_
      refine AWP.less e ?_ ?_ ?_ ?_ ?_ (next (i + 1) hlt (by show w - (i + 1) < w - i; omega)) <;> (repeat' (first | exact True.intro | (refine And.intro ?_ ?_) | rfl | assumption))
      · rw [Nat.zero_add]
        exact congrArg (fun z => some (Blk.row 5 false 1 z w)) (row_set n hlt)
      · exact row_ids n w _ 1
    · obtain rfl : i = w := by have : ¬ i < w := by simpa using hlt
                               omega
      refine AWP.runL e tab_ok L22 300 rfl (by first | trivial | (simp [in64] <;> omega) | (simp only [in64, true_and, and_true]; omega)) ?_
      refine AWP.bytesStr e tab_ok (bitsOf n i) rfl rfl rfl rfl rfl rfl rfl rfl rfl (bitsOf_len n i).symm ?_ ?_
      · intro j b hb
        have hj : j < i := by have := (List.getElem?_eq_some_iff.1 hb).1; rwa [bitsOf_len] at this
        rw [Nat.zero_add, row_at n hj, if_pos hj]
        unfold bitsOf at hb
        rw [List.getElem?_map, List.getElem?_range hj] at hb
        cases hb
        rfl
      refine AWP.runL e tab_ok L22 300 rfl (by first | trivial | (simp [in64] <;> omega) | (simp only [in64, true_and, and_true]; omega)) ?_
      refine AWP.ret e tab_ok rfl ?_
      rw [hP]
      all_goals first | rfl | (simp [strip]; done)
  · have i1 := hw
    repeat (
      first
        | (refine AWP.askT rfl ?_; (first | (refine Told.t rfl ?_) | (refine Told.f rfl ?_) | (refine Told.t ?_ ?_; (focus assumption)) | (refine Told.f ?_ ?_; (focus assumption)) | (refine Told.t ?_ ?_; (focus (first | (simp; omega) | (simp [*]; done)); done)) | (refine Told.f ?_ ?_; (focus (first | (simp; omega) | (simp [*]; done)); done))); refine AWP.runL e tab_ok L22 300 rfl (by first | trivial | (simp [in64] <;> omega) | (simp only [in64, true_and, and_true]; omega)) ?_)
        | (refine AWP.eq_agg e tab_ok rfl rfl rfl (.inl ⟨rfl, rfl⟩) ?_ 5 (by omega) rfl ?_ rfl rfl rfl rfl rfl rfl rfl ?_; (focus kernel_rfl); (focus kernel_rfl); refine AWP.runL e tab_ok L22 300 rfl (by first | trivial | (simp [in64] <;> omega) | (simp only [in64, true_and, and_true]; omega)) ?_)
        | (refine AWP.eq_agg e tab_ok rfl rfl rfl (.inr ⟨rfl, rfl⟩) ?_ 5 (by omega) rfl ?_ rfl rfl rfl rfl rfl rfl rfl ?_; (focus kernel_rfl); (focus kernel_rfl); refine AWP.runL e tab_ok L22 300 rfl (by first | trivial | (simp [in64] <;> omega) | (simp only [in64, true_and, and_true]; omega)) ?_)
      )
    clear i1
    refine AWP.make1 e tab_ok w rfl rfl rfl rfl rfl rfl rfl rfl rfl (by show 1 * w ≤ _; omega) (by omega) ?_
    refine AWP.runL e tab_ok L22 300 rfl (by first | trivial | (simp [in64] <;> omega) | (simp only [in64, true_and, and_true]; omega)) ?_
    refine AWP.loop (ι := Nat) (fun i => ⟨[(28, .i i), (27, .i w), (6, .own 0 1 0 w w), (0, U64 n), (1, .i w)], [(0, .row 5 false 1 (rowK n w i) w)], 1⟩) (fun i => i ≤ w) (fun i => w - i) 0 (Nat.zero_le _) ?_ ?_
    · intro g
      refine AWP.less e ?_ ?_ ?_ ?_ ?_ (g) <;> (repeat' (first | exact True.intro | (refine And.intro ?_ ?_) | rfl | assumption))
      · exact congrArg (fun z => some (Blk.row 5 false 1 z w)) (row_0 n w)
      · exact row_ids n w 0 1
    rintro i Φ hi next
    have hi : i ≤ w := hi
    refine AWP.runL e tab_ok L22 300 rfl (by first | trivial | (simp [in64] <;> omega) | (simp only [in64, true_and, and_true]; omega)) ?_
    refine AWP.cond2 rfl (fun hlt => ?_) (fun hlt => ?_)
    · have hlt : i < w := by simpa using hlt
      refine AWP.runL e tab_ok L22 300 rfl (by first | trivial | (simp [in64] <;> omega) | (simp only [in64, true_and, and_true]; omega)) ?_
      refine AWP.eqT 41 (U (bv (n.getLsbD (w - 1 - i)))) rfl (congrArg (fun z => SV.d (.v (.int .u8 z))) (of_bit n hlt)) ?_
      refine AWP.idx_own e tab_ok rfl rfl rfl rfl i rfl hlt ?_
      refine AWP.runL e tab_ok L22 300 rfl (by first | trivial | (simp [in64] <;> omega) | (simp only [in64, true_and, and_true]; omega)) ?_
      refine AWP.store_el e tab_ok rfl rfl rfl rfl rfl (by rw [Nat.zero_add]; exact row_at n hlt) rfl rfl rfl rfl ?_
      refine AWP.runL e tab_ok L22 300 rfl (by first | trivial | (simp [in64] <;> omega) | (simp only [in64, true_and, and_true]; omega)) ?_
      refine AWP.less e ?_ ?_ ?_ ?_ ?_ (next (i + 1) hlt (by show w - (i + 1) < w - i; omega)) <;> (repeat' (first | exact True.intro | (refine And.intro ?_ ?_) | rfl | assumption))
      · rw [Nat.zero_add]
        exact congrArg (fun z => some (Blk.row 5 false 1 z w)) (row_set n hlt)
      · exact row_ids n w _ 1
    · obtain rfl : i = w := by have : ¬ i < w := by simpa using hlt
                               omega
      refine AWP.runL e tab_ok L22 300 rfl (by first | trivial | (simp [in64] <;> omega) | (simp only [in64, true_and, and_true]; omega)) ?_
      refine AWP.bytesStr e tab_ok (bitsOf n i) rfl rfl rfl rfl rfl rfl rfl rfl rfl (bitsOf_len n i).symm ?_ ?_
      · intro j b hb
        have hj : j < i := by have := (List.getElem?_eq_some_iff.1 hb).1; rwa [bitsOf_len] at this
        rw [Nat.zero_add, row_at n hj, if_pos hj]
        unfold bitsOf at hb
        rw [List.getElem?_map, List.getElem?_range hj] at hb
        cases hb
        rfl
      refine AWP.runL e tab_ok L22 300 rfl (by first | trivial | (simp [in64] <;> omega) | (simp only [in64, true_and, and_true]; omega)) ?_
      refine AWP.ret e tab_ok rfl ?_
      rw [hP]
      all_goals first | rfl | (simp [strip]; done)

set_option maxRecDepth 100000 in
theorem of_bad (n : BitVec 64) (w : Int) (h : w < 0 ∨ 64 < w ∨ ∃ k : Nat, w = k ∧ k < 64 ∧ n >>> k ≠ 0#64) : Eff Tryd.prog 22 [U64 n, .i w] [] 0 (fun r _ _ => r = .tup [.s ⟨#[]⟩, .i 1]) := by
  refine eff_of Tryd.func22 rfl rfl rfl fun cx e hP => ?_
  rcases h with h | h | ⟨k, rfl, hk, h⟩
  · refine AWP.runL e tab_ok L22 300 rfl (by first | trivial | (simp [in64] <;> omega) | (simp only [in64, true_and, and_true]; omega)) ?_
    repeat (
      first
        | (refine AWP.askT rfl ?_; (first | (refine Told.t rfl ?_) | (refine Told.f rfl ?_) | (refine Told.t ?_ ?_; (focus assumption)) | (refine Told.f ?_ ?_; (focus assumption)) | (refine Told.t ?_ ?_; (focus (first | (simp; omega) | (simp [*]; done)); done)) | (refine Told.f ?_ ?_; (focus (first | (simp; omega) | (simp [*]; done)); done))); refine AWP.runL e tab_ok L22 300 rfl (by first | trivial | (simp [in64] <;> omega) | (simp only [in64, true_and, and_true]; omega)) ?_)
        | (refine AWP.eq_agg e tab_ok rfl rfl rfl (.inl ⟨rfl, rfl⟩) ?_ 5 (by omega) rfl ?_ rfl rfl rfl rfl rfl rfl rfl ?_; (focus kernel_rfl); (focus kernel_rfl); refine AWP.runL e tab_ok L22 300 rfl (by first | trivial | (simp [in64] <;> omega) | (simp only [in64, true_and, and_true]; omega)) ?_)
        | (refine AWP.eq_agg e tab_ok rfl rfl rfl (.inr ⟨rfl, rfl⟩) ?_ 5 (by omega) rfl ?_ rfl rfl rfl rfl rfl rfl rfl ?_; (focus kernel_rfl); (focus kernel_rfl); refine AWP.runL e tab_ok L22 300 rfl (by first | trivial | (simp [in64] <;> omega) | (simp only [in64, true_and, and_true]; omega)) ?_)
      )
    refine AWP.ret e tab_ok rfl ?_
    rw [hP]
    all_goals first | rfl | (simp [strip]; done)
  · refine AWP.runL e tab_ok L22 300 rfl (by first | trivial | (simp [in64] <;> omega) | (simp only [in64, true_and, and_true]; omega)) ?_
    repeat (
      first
        | (refine AWP.askT rfl ?_; (first | (refine Told.t rfl ?_) | (refine Told.f rfl ?_) | (refine Told.t ?_ ?_; (focus assumption)) | (refine Told.f ?_ ?_; (focus assumption)) | (refine Told.t ?_ ?_; (focus (first | (simp; omega) | (simp [*]; done)); done)) | (refine Told.f ?_ ?_; (focus (first | (simp; omega) | (simp [*]; done)); done))); refine AWP.runL e tab_ok L22 300 rfl (by first | trivial | (simp [in64] <;> omega) | (simp only [in64, true_and, and_true]; omega)) ?_)
        | (refine AWP.eq_agg e tab_ok rfl rfl rfl (.inl ⟨rfl, rfl⟩) ?_ 5 (by omega) rfl ?_ rfl rfl rfl rfl rfl rfl rfl ?_; (focus kernel_rfl); (focus kernel_rfl); refine AWP.runL e tab_ok L22 300 rfl (by first | trivial | (simp [in64] <;> omega) | (simp only [in64, true_and, and_true]; omega)) ?_)
        | (refine AWP.eq_agg e tab_ok rfl rfl rfl (.inr ⟨rfl, rfl⟩) ?_ 5 (by omega) rfl ?_ rfl rfl rfl rfl rfl rfl rfl ?_; (focus kernel_rfl); (focus kernel_rfl); refine AWP.runL e tab_ok L22 300 rfl (by first | trivial | (simp [in64] <;> omega) | (simp only [in64, true_and, and_true]; omega)) ?_)
      )
    refine AWP.ret e tab_ok rfl ?_
    rw [hP]
    all_goals first | rfl | (simp [strip]; done)
  · have i1 : (!(((n.toNat : Int)).fdiv (2 ^ (min ((k : Nat) : Int).toNat 64)) == 0)) = true := by
      rw [u64shr]
      have : ((n >>> k).toNat : Int) ≠ 0 := fun q => h ((bv_eq0 _).1 q)
      simpa using this
    refine AWP.runL e tab_ok L22 300 rfl (by first | trivial | (simp [in64] <;> omega) | (simp only [in64, true_and, and_true]; omega)) ?_
    repeat (
      first
        | (refine AWP.askT rfl ?_; (first | (refine Told.t rfl ?_) | (refine Told.f rfl ?_) | (refine Told.t ?_ ?_; (focus assumption)) | (refine Told.f ?_ ?_; (focus assumption)) | (refine Told.t ?_ ?_; (focus (first | (simp; omega) | (simp [*]; done)); done)) | (refine Told.f ?_ ?_; (focus (first | (simp; omega) | (simp [*]; done)); done))); refine AWP.runL e tab_ok L22 300 rfl (by first | trivial | (simp [] <;> omega) | (simp only [in64, true_and, and_true]; omega)) ?_)
        | (refine AWP.eq_agg e tab_ok rfl rfl rfl (.inl ⟨rfl, rfl⟩) ?_ 5 (by omega) rfl ?_ rfl rfl rfl rfl rfl rfl rfl ?_; (focus kernel_rfl); (focus kernel_rfl); refine AWP.runL e tab_ok L22 300 rfl (by first | trivial | (simp [in64] <;> omega) | (simp only [in64, true_and, and_true]; omega)) ?_)
        | (refine AWP.eq_agg e tab_ok rfl rfl rfl (.inr ⟨rfl, rfl⟩) ?_ 5 (by omega) rfl ?_ rfl rfl rfl rfl rfl rfl rfl ?_; (focus kernel_rfl); (focus kernel_rfl); refine AWP.runL e tab_ok L22 300 rfl (by first | trivial | (simp [in64] <;> omega) | (simp only [in64, true_and, and_true]; omega)) ?_)
      )
    refine AWP.ret e tab_ok rfl ?_
    rw [hP]
    all_goals first | rfl | (simp [strip]; done)

theorem str_app (a b : List UInt8) : strL a ++ strL b = strL (a ++ b) := by
  apply ByteArray.ext
  simp [strL]
theorem str_cons (c : UInt8) (l : List UInt8) : ByteArray.mk #[c] ++ strL l = strL (c :: l) := str_app [c] l
theorem bitsOf_succ (n : BitVec 64) (i : Nat) : bitsOf n (i + 1) = bv (n.getLsbD i) :: bitsOf n i := by
  unfold bitsOf
  rw [List.range_succ_eq_map, List.map_cons, List.map_map]
  refine congr (congrArg _ (by simp)) (List.map_congr_left fun j hj => ?_)
  simp only [Function.comp_apply]
  rw [show i + 1 - 1 - (j + 1) = i - 1 - j by omega]
theorem bv_mod2 (x : BitVec 64) (i : Nat) : ((((x >>> i).toNat : Nat) : Int).tmod 2 == 1) = x.getLsbD i := by
  rw [show (((x >>> i).toNat : Nat) : Int).tmod 2 = (((x >>> i).toNat % 2 : Nat) : Int) by rw [Int.tmod_eq_emod_of_nonneg (by omega)]; rfl]
  rw [BitVec.toNat_ushiftRight, BitVec.getLsbD, Nat.testBit, Nat.and_comm, Nat.and_one_is_mod, Bool.eq_iff_iff]
  have : (x.toNat >>> i) % 2 = 0 ∨ (x.toNat >>> i) % 2 = 1 := by omega
  rcases this with h | h <;> rw [h] <;> simp
theorem bv_div2 (x : BitVec 64) (i : Nat) : (((x >>> i).toNat : Nat) : Int).tdiv 2 = ((x >>> (i + 1)).toNat : Int) := by
  rw [Int.tdiv_eq_ediv_of_nonneg (by omega), BitVec.toNat_ushiftRight, BitVec.toNat_ushiftRight, Nat.shiftRight_succ]
  rfl

set_option maxRecDepth 100000 in
theorem refof_eff (n : BitVec 64) (w : Nat) (hw : w ≤ 1000000) : Eff Tryd.prog 17 [U64 n, .i w] [] 0 (fun r _ _ => r = .s (strL (bitsOf n w))) := by
  refine eff_of Tryd.func17 rfl rfl rfl fun cx e hP => ?_
  refine AWP.runL e tab_ok L17 300 rfl (by first | trivial | (simp [in64] <;> omega) | (simp only [in64, true_and, and_true]; omega)) ?_
  refine AWP.loop (ι := Nat) (fun i => ⟨[(6, .i i), (5, .s (strL (bitsOf n i))), (0, U64 (n >>> i)), (1, .i w), (4, .s ⟨#[]⟩)], [], 0⟩) (fun i => i ≤ w) (fun i => w - i) 0 (Nat.zero_le _) ?_ ?_
  · intro g
    refine AWP.less e ?_ ?_ ?_ ?_ ?_ (g) <;> (repeat' (first | exact True.intro | (refine And.intro ?_ ?_) | rfl | assumption))
  rintro i Φ hi next
  have hi : i ≤ w := hi
  refine AWP.runL e tab_ok L17 300 rfl (by first | trivial | (simp [in64] <;> omega) | (simp only [in64, true_and, and_true]; omega)) ?_
  refine AWP.cond2 rfl (fun hlt => ?_) (fun hlt => ?_)
  · have hlt : i < w := by simpa using hlt
    have hsz : (strL (bitsOf n i)).size = i := by rw [strL_size, bitsOf_len]
    have hs1 : (ByteArray.mk #[49]).size = 1 := rfl
    have hs0 : (ByteArray.mk #[48]).size = 1 := rfl
    have h1 := bv_mod2 n i
    have h2 := bv_div2 n i
    have nx := next (i + 1) hlt (by show w - (i + 1) < w - i; omega)
    rw [bitsOf_succ] at nx
    rcases cases_b (n.getLsbD i) with h | h <;> rw [h] at h1 nx
    · refine AWP.runL e tab_ok L17 300 rfl (by first | trivial | (simp [in64] <;> omega) | (simp only [in64, true_and, and_true]; omega)) ?_
      repeat (
        first
          | (refine AWP.askT rfl ?_; (first | (refine Told.t rfl ?_) | (refine Told.f rfl ?_) | (refine Told.t ?_ ?_; (focus assumption)) | (refine Told.f ?_ ?_; (focus assumption)) | (refine Told.t ?_ ?_; (focus (first | (simp; omega) | (simp [*]; done)); done)) | (refine Told.f ?_ ?_; (focus (first | (simp; omega) | (simp [*]; done)); done))); refine AWP.runL e tab_ok L17 300 rfl (by first | trivial | (simp [in64] <;> omega) | (simp only [in64, true_and, and_true]; omega)) ?_)
          | (refine AWP.eq_agg e tab_ok rfl rfl rfl (.inl ⟨rfl, rfl⟩) ?_ 5 (by omega) rfl ?_ rfl rfl rfl rfl rfl rfl rfl ?_; (focus kernel_rfl); (focus kernel_rfl); refine AWP.runL e tab_ok L17 300 rfl (by first | trivial | (simp [in64] <;> omega) | (simp only [in64, true_and, and_true]; omega)) ?_)
          | (refine AWP.eq_agg e tab_ok rfl rfl rfl (.inr ⟨rfl, rfl⟩) ?_ 5 (by omega) rfl ?_ rfl rfl rfl rfl rfl rfl rfl ?_; (focus kernel_rfl); (focus kernel_rfl); refine AWP.runL e tab_ok L17 300 rfl (by first | trivial | (simp [in64] <;> omega) | (simp only [in64, true_and, and_true]; omega)) ?_)
        )
      refine AWP.less e ?_ ?_ ?_ ?_ ?_ (nx) <;> (repeat' (first | exact True.intro | (refine And.intro ?_ ?_) | rfl | assumption))
      exact congrArg (fun z => some (SV.d (.v (.int .u64 z)))) ((congrArg _ h2).trans (u64w _))
    · refine AWP.runL e tab_ok L17 300 rfl (by first | trivial | (simp [in64] <;> omega) | (simp only [in64, true_and, and_true]; omega)) ?_
      repeat (
        first
          | (refine AWP.askT rfl ?_; (first | (refine Told.t rfl ?_) | (refine Told.f rfl ?_) | (refine Told.t ?_ ?_; (focus assumption)) | (refine Told.f ?_ ?_; (focus assumption)) | (refine Told.t ?_ ?_; (focus (first | (simp; omega) | (simp [*]; done)); done)) | (refine Told.f ?_ ?_; (focus (first | (simp; omega) | (simp [*]; done)); done))); refine AWP.runL e tab_ok L17 300 rfl (by first | trivial | (simp [in64] <;> omega) | (simp only [in64, true_and, and_true]; omega)) ?_)
          | (refine AWP.eq_agg e tab_ok rfl rfl rfl (.inl ⟨rfl, rfl⟩) ?_ 5 (by omega) rfl ?_ rfl rfl rfl rfl rfl rfl rfl ?_; (focus kernel_rfl); (focus kernel_rfl); refine AWP.runL e tab_ok L17 300 rfl (by first | trivial | (simp [in64] <;> omega) | (simp only [in64, true_and, and_true]; omega)) ?_)
          | (refine AWP.eq_agg e tab_ok rfl rfl rfl (.inr ⟨rfl, rfl⟩) ?_ 5 (by omega) rfl ?_ rfl rfl rfl rfl rfl rfl rfl ?_; (focus kernel_rfl); (focus kernel_rfl); refine AWP.runL e tab_ok L17 300 rfl (by first | trivial | (simp [in64] <;> omega) | (simp only [in64, true_and, and_true]; omega)) ?_)
        )
      refine AWP.less e ?_ ?_ ?_ ?_ ?_ (nx) <;> (repeat' (first | exact True.intro | (refine And.intro ?_ ?_) | rfl | assumption))
      exact congrArg (fun z => some (SV.d (.v (.int .u64 z)))) ((congrArg _ h2).trans (u64w _))
  · obtain rfl : i = w := by have : ¬ i < w := by simpa using hlt
                             omega
    refine AWP.runL e tab_ok L17 300 rfl (by first | trivial | (simp [in64] <;> omega) | (simp only [in64, true_and, and_true]; omega)) ?_
    refine AWP.ret e tab_ok rfl ?_
    rw [hP]
    all_goals first | rfl | (simp [strip]; done)

theorem strL_of (s : ByteArray) : s = strL s.data.toList := by
  apply ByteArray.ext
  simp [strL]
theorem cut_str (l : List UInt8) (N : Nat) : (strL l).extract 0 (if (N : Int) < ((strL l).size : Int) then (N : Int) else ((strL l).size : Int)).toNat = strL (l.take N) := by
  rw [strL_size]
  have : (if (N : Int) < (l.length : Int) then (N : Int) else (l.length : Int)).toNat = min N l.length := by split <;> omega
  rw [this]
  apply ByteArray.ext
  simp [strL]
theorem beq_str (a b : List UInt8) : ((strL a).toList == (strL b).toList) = (a == b) := by rw [strL_toList, strL_toList]

theorem bit_or {b : UInt8} (h : bit b = true) : b = 48 ∨ b = 49 := by simpa [bit] using h
theorem well_bits {l : List UInt8} (h : wellB l = true) (i : Nat) (hi : i < l.length) : l[i] = 48 ∨ l[i] = 49 := by
  unfold wellB at h
  simp only [Bool.and_eq_true] at h
  exact bit_or (List.all_eq_true.1 h.2 _ (List.getElem_mem hi))
theorem bitsOf_at (n : BitVec 64) {w i : Nat} (h : i < w) : (bitsOf n w)[i]'(by rw [bitsOf_len]; exact h) = bv (n.getLsbD (w - 1 - i)) := by
  simp [bitsOf]
theorem bv_49 (b : Bool) : (bv b == 49) = b := by cases b <;> rfl
theorem bv_bit (b : Bool) : bit (bv b) = true := by cases b <;> rfl
theorem bitsOf_well (n : BitVec 64) (w : Nat) (h : w ≤ 4000) : wellB (bitsOf n w) = true := by
  unfold wellB
  rw [bitsOf_len]
  simp only [Bool.and_eq_true, decide_eq_true_eq]
  refine ⟨h, List.all_eq_true.2 fun b hb => ?_⟩
  unfold bitsOf at hb
  obtain ⟨j, _, rfl⟩ := List.mem_map.1 hb
  exact bv_bit _
theorem str_take (l : List UInt8) (i : Nat) (h : i ≤ l.length) : (strL l).extract 0 i = strL (l.take i) := by
  apply ByteArray.ext
  simp [strL]
theorem str_drop (l : List UInt8) (i : Nat) : (strL l).extract i l.length = strL (l.drop i) := by
  apply ByteArray.ext
  simp [strL]
  exact List.take_of_length_le (by simp)
def opp (c : UInt8) : UInt8 := if c == 48 then 49 else 48
theorem turn_join (l : List UInt8) {i : Nat} (h : i < l.length) (c : UInt8) : (strL l).extract 0 i ++ strL [c] ++ (strL l).extract (i + 1) l.length = strL (l.set i c) := by
  rw [str_take l i (by omega), str_drop, str_app, str_app]
  congr 1
  rw [List.set_eq_take_append_cons_drop, if_pos h]
  simp
set_option maxRecDepth 100000 in
theorem turn_eff (l : List UInt8) (i : Nat) (hi : i < l.length) (hl : l.length ≤ 1000000) : Eff Tryd.prog 18 [.s (strL l), .i i] [] 0 (fun r _ _ => r = .s (strL (l.set i (opp (l.getD i 0))))) := by
  have hsz : (strL l).size = l.length := strL_size l
  have hz1 : (ByteArray.mk #[49]).size = 1 := rfl
  have hz0 : (ByteArray.mk #[48]).size = 1 := rfl
  have hq1 : ((strL l).extract 0 i).size = i := by rw [str_take l i (by omega), strL_size, List.length_take]; omega
  have hq2 : ((strL l).extract (i + 1) l.length).size = l.length - (i + 1) := by rw [str_drop, strL_size, List.length_drop]
  have hb : byteAt (strL l) i = ((l.getD i 0).toNat : Int) := by
    rw [b_at l i hi, List.getD_eq_getElem?_getD, List.getElem?_eq_getElem hi]; rfl
  have h1 : (byteAt (strL l) i == 48) = (l.getD i 0 == 48) := by rw [hb]; exact u_eq _ 48
  have tj : ∀ c, (strL l).extract 0 i ++ strL [c] ++ (strL l).extract (i + 1) (strL l).size = strL (l.set i c) := fun c => by rw [hsz]; exact turn_join l hi c
  unfold opp
  generalize l.getD i 0 = c at *
  refine eff_of Tryd.func18 rfl rfl rfl fun cx e hP => ?_
  rcases cases_b (c == 48) with h | h <;> rw [h] at h1 hP
  · refine AWP.runL e tab_ok L18 300 rfl (by first | trivial | (simp [] <;> omega) | (simp only [in64, true_and, and_true]; omega)) ?_
    repeat (
      first
        | (refine AWP.askT rfl ?_; (first | (refine Told.t rfl ?_) | (refine Told.f rfl ?_) | (refine Told.t ?_ ?_; (focus assumption)) | (refine Told.f ?_ ?_; (focus assumption)) | (refine Told.t ?_ ?_; (focus (first | (simp; omega) | (simp [*]; done)); done)) | (refine Told.f ?_ ?_; (focus (first | (simp; omega) | (simp [*]; done)); done))); refine AWP.runL e tab_ok L18 300 rfl (by first | trivial | (simp [in64] <;> omega) | (simp only [in64, true_and, and_true]; omega)) ?_)
        | (refine AWP.eq_agg e tab_ok rfl rfl rfl (.inl ⟨rfl, rfl⟩) ?_ 5 (by omega) rfl ?_ rfl rfl rfl rfl rfl rfl rfl ?_; (focus kernel_rfl); (focus kernel_rfl); refine AWP.runL e tab_ok L18 300 rfl (by first | trivial | (simp [in64] <;> omega) | (simp only [in64, true_and, and_true]; omega)) ?_)
        | (refine AWP.eq_agg e tab_ok rfl rfl rfl (.inr ⟨rfl, rfl⟩) ?_ 5 (by omega) rfl ?_ rfl rfl rfl rfl rfl rfl rfl ?_; (focus kernel_rfl); (focus kernel_rfl); refine AWP.runL e tab_ok L18 300 rfl (by first | trivial | (simp [in64] <;> omega) | (simp only [in64, true_and, and_true]; omega)) ?_)
      )
    refine AWP.keep L18 rfl ?_
    refine AWP.drg 9 ?_
    (refine DrG.runS e tab_ok 200 rfl (by first | trivial | (simp [in64] <;> omega) | (simp only [in64, true_and, and_true]; omega)) ?_)
    repeat (
      first
        | (refine DrG.askT rfl ?_; (first | (refine Told.t rfl ?_) | (refine Told.f rfl ?_) | (refine Told.t ?_ ?_; (focus assumption)) | (refine Told.f ?_ ?_; (focus assumption)) | (refine Told.t ?_ ?_; (focus (first | (simp; omega) | (simp [*]; done)); done)) | (refine Told.f ?_ ?_; (focus (first | (simp; omega) | (simp [*]; done)); done))); (refine DrG.runS e tab_ok 200 rfl (by first | trivial | (simp [in64] <;> omega) | (simp only [in64, true_and, and_true]; omega)) ?_))
        | (refine DrG.eq_agg e tab_ok rfl rfl rfl (.inl ⟨rfl, rfl⟩) ?_ 5 (by omega) rfl ?_ rfl rfl rfl rfl rfl rfl rfl ?_; (focus kernel_rfl); (focus kernel_rfl); (refine DrG.runS e tab_ok 200 rfl (by first | trivial | (simp [in64] <;> omega) | (simp only [in64, true_and, and_true]; omega)) ?_))
        | (refine DrG.eq_aggGo e tab_ok rfl rfl rfl rfl (.inl ⟨rfl, rfl⟩) ?_ 5 (by omega) rfl ?_ rfl rfl rfl rfl rfl rfl rfl ?_; (focus kernel_rfl); (focus kernel_rfl); (refine DrG.runS e tab_ok 200 rfl (by first | trivial | (simp [in64] <;> omega) | (simp only [in64, true_and, and_true]; omega)) ?_))
        | (refine DrG.eq_agg e tab_ok rfl rfl rfl (.inr ⟨rfl, rfl⟩) ?_ 5 (by omega) rfl ?_ rfl rfl rfl rfl rfl rfl rfl ?_; (focus kernel_rfl); (focus kernel_rfl); (refine DrG.runS e tab_ok 200 rfl (by first | trivial | (simp [in64] <;> omega) | (simp only [in64, true_and, and_true]; omega)) ?_))
        | (refine DrG.eq_aggGo e tab_ok rfl rfl rfl rfl (.inr ⟨rfl, rfl⟩) ?_ 5 (by omega) rfl ?_ rfl rfl rfl rfl rfl rfl rfl ?_; (focus kernel_rfl); (focus kernel_rfl); (refine DrG.runS e tab_ok 200 rfl (by first | trivial | (simp [in64] <;> omega) | (simp only [in64, true_and, and_true]; omega)) ?_))
      )
    refine DrG.finK e rfl ?_ rfl rfl rfl ?_ ?_
    (focus kernel_rfl)
    (focus (repeat' (first | exact True.intro | (refine And.intro ?_ ?_) | rfl | assumption | exact okRow _)))
    dsimp only [tmS, hpS, tput, effH]
    refine AWP.eqT 4 (.s (strL (l.set i 49))) rfl (congrArg SV.s (tj 49)) ?_
    refine AWP.ret e tab_ok rfl ?_
    rw [hP]
    all_goals first | rfl | (simp [strip]; done)
  · refine AWP.runL e tab_ok L18 300 rfl (by first | trivial | (simp [] <;> omega) | (simp only [in64, true_and, and_true]; omega)) ?_
    repeat (
      first
        | (refine AWP.askT rfl ?_; (first | (refine Told.t rfl ?_) | (refine Told.f rfl ?_) | (refine Told.t ?_ ?_; (focus assumption)) | (refine Told.f ?_ ?_; (focus assumption)) | (refine Told.t ?_ ?_; (focus (first | (simp; omega) | (simp [*]; done)); done)) | (refine Told.f ?_ ?_; (focus (first | (simp; omega) | (simp [*]; done)); done))); refine AWP.runL e tab_ok L18 300 rfl (by first | trivial | (simp [in64] <;> omega) | (simp only [in64, true_and, and_true]; omega)) ?_)
        | (refine AWP.eq_agg e tab_ok rfl rfl rfl (.inl ⟨rfl, rfl⟩) ?_ 5 (by omega) rfl ?_ rfl rfl rfl rfl rfl rfl rfl ?_; (focus kernel_rfl); (focus kernel_rfl); refine AWP.runL e tab_ok L18 300 rfl (by first | trivial | (simp [in64] <;> omega) | (simp only [in64, true_and, and_true]; omega)) ?_)
        | (refine AWP.eq_agg e tab_ok rfl rfl rfl (.inr ⟨rfl, rfl⟩) ?_ 5 (by omega) rfl ?_ rfl rfl rfl rfl rfl rfl rfl ?_; (focus kernel_rfl); (focus kernel_rfl); refine AWP.runL e tab_ok L18 300 rfl (by first | trivial | (simp [in64] <;> omega) | (simp only [in64, true_and, and_true]; omega)) ?_)
      )
    refine AWP.keep L18 rfl ?_
    refine AWP.drg 9 ?_
    (refine DrG.runS e tab_ok 200 rfl (by first | trivial | (simp [in64] <;> omega) | (simp only [in64, true_and, and_true]; omega)) ?_)
    repeat (
      first
        | (refine DrG.askT rfl ?_; (first | (refine Told.t rfl ?_) | (refine Told.f rfl ?_) | (refine Told.t ?_ ?_; (focus assumption)) | (refine Told.f ?_ ?_; (focus assumption)) | (refine Told.t ?_ ?_; (focus (first | (simp; omega) | (simp [*]; done)); done)) | (refine Told.f ?_ ?_; (focus (first | (simp; omega) | (simp [*]; done)); done))); (refine DrG.runS e tab_ok 200 rfl (by first | trivial | (simp [in64] <;> omega) | (simp only [in64, true_and, and_true]; omega)) ?_))
        | (refine DrG.eq_agg e tab_ok rfl rfl rfl (.inl ⟨rfl, rfl⟩) ?_ 5 (by omega) rfl ?_ rfl rfl rfl rfl rfl rfl rfl ?_; (focus kernel_rfl); (focus kernel_rfl); (refine DrG.runS e tab_ok 200 rfl (by first | trivial | (simp [in64] <;> omega) | (simp only [in64, true_and, and_true]; omega)) ?_))
        | (refine DrG.eq_aggGo e tab_ok rfl rfl rfl rfl (.inl ⟨rfl, rfl⟩) ?_ 5 (by omega) rfl ?_ rfl rfl rfl rfl rfl rfl rfl ?_; (focus kernel_rfl); (focus kernel_rfl); (refine DrG.runS e tab_ok 200 rfl (by first | trivial | (simp [in64] <;> omega) | (simp only [in64, true_and, and_true]; omega)) ?_))
        | (refine DrG.eq_agg e tab_ok rfl rfl rfl (.inr ⟨rfl, rfl⟩) ?_ 5 (by omega) rfl ?_ rfl rfl rfl rfl rfl rfl rfl ?_; (focus kernel_rfl); (focus kernel_rfl); (refine DrG.runS e tab_ok 200 rfl (by first | trivial | (simp [in64] <;> omega) | (simp only [in64, true_and, and_true]; omega)) ?_))
        | (refine DrG.eq_aggGo e tab_ok rfl rfl rfl rfl (.inr ⟨rfl, rfl⟩) ?_ 5 (by omega) rfl ?_ rfl rfl rfl rfl rfl rfl rfl ?_; (focus kernel_rfl); (focus kernel_rfl); (refine DrG.runS e tab_ok 200 rfl (by first | trivial | (simp [in64] <;> omega) | (simp only [in64, true_and, and_true]; omega)) ?_))
      )
    refine DrG.finK e rfl ?_ rfl rfl rfl ?_ ?_
    (focus kernel_rfl)
    (focus (repeat' (first | exact True.intro | (refine And.intro ?_ ?_) | rfl | assumption | exact okRow _)))
    dsimp only [tmS, hpS, tput, effH]
    refine AWP.eqT 4 (.s (strL (l.set i 48))) rfl (congrArg SV.s (tj 48)) ?_
    refine AWP.ret e tab_ok rfl ?_
    rw [hP]
    all_goals first | rfl | (simp [strip]; done)
end Go.Proofs.YtldbeeiabgmfhaaDoor
