import Derived.Test.YthibaeeoegoliaaF18
open Go Go.Proofs Go.RowKit Go.Sy Go.Signal
namespace Go.Proofs.Ythibaeeoegoliaa

theorem tmod2 (q : Int) : (q.tmod 2 != 0) = (q % 2 == 1) := by
  have h1 : q = 2 * q.tdiv 2 + q.tmod 2 := (Int.mul_tdiv_add_tmod q 2).symm
  have h2 := Int.tmod_lt_of_pos q (show (0 : Int) < 2 by decide)
  have h3 : -2 < q.tmod 2 := by
    have := Int.tmod_lt_of_pos (-q) (show (0 : Int) < 2 by decide)
    rw [Int.neg_tmod] at this
    omega
  rw [Bool.eq_iff_iff, bne_iff_ne, beq_iff_eq]
  generalize q.tdiv 2 = a at *
  generalize q.tmod 2 = b at *
  omega
theorem tdiv2_pos {q : Int} (h : 0 ≤ q) : q.tdiv 2 = q / 2 := Int.tdiv_eq_ediv_of_nonneg h
theorem tdiv2_even {q : Int} (h : q % 2 = 0) : q.tdiv 2 = q / 2 := Int.tdiv_eq_ediv_of_dvd (Int.dvd_of_emod_eq_zero h)
theorem tdiv2_odd {q : Int} (h : q % 2 = 1) : (q - 1).tdiv 2 = q / 2 := by
  rw [tdiv2_even (by omega)]; omega
theorem bitI_half (v : Int) (i : Nat) : v / ((2 ^ (i + 1) : Nat) : Int) = (v / ((2 ^ i : Nat) : Int)) / 2 := by
  rw [Int.ediv_ediv_of_nonneg (Int.natCast_nonneg _), Nat.pow_succ]
  push_cast
  rfl
theorem div_in (v : Int) (i : Nat) (hv : -9223372036854775808 ≤ v ∧ v ≤ 9223372036854775807) : -9223372036854775808 ≤ v / ((2 ^ i : Nat) : Int) ∧ v / ((2 ^ i : Nat) : Int) ≤ 9223372036854775807 := by
  have hp : (0 : Int) < ((2 ^ i : Nat) : Int) := p2_pos i
  generalize ((2 ^ i : Nat) : Int) = p at *
  constructor
  · rw [Int.le_ediv_iff_mul_le hp]
    have : -9223372036854775808 * p ≤ -9223372036854775808 := by
      have := Int.mul_le_mul_of_nonneg_left (show (1 : Int) ≤ p by omega) (show (0 : Int) ≤ 9223372036854775808 by decide)
      omega
    omega
  · by_cases h : 0 ≤ v
    · have := Int.ediv_le_self p h
      omega
    · have := Int.ediv_neg_of_neg_of_pos (show v < 0 by omega) hp
      omega
set_option maxRecDepth 100000 in
set_option maxHeartbeats 4000000 in
theorem refPut_eff (d : List UInt8) (s : Sig) (v : Int) {l : List Nat} (h : places s = some l) (hd : d.length ≤ 1000) (hlt : ∀ x ∈ l, x < 8 * d.length) (hv : -9223372036854775808 ≤ v ∧ v ≤ 9223372036854775807) :
    Eff Try.prog 21 [.s (strL d), .agg (sC s), .i v] [] 0 (fun r _ _ => r = .s (strL (putL d l v))) := by
  have c1 := refplaces_eff s
  rw [plR_some h] at c1
  have hl := places_len h
  have hn : (rowI (intsN l)).length = l.length := by simp
  refine eff_of Try.func21 rfl rfl rfl fun cx e hP => ?_
  refine AWP.runL e tab_ok L21 300 rfl (by first | trivial | (simp [in64] <;> omega) | (simp only [in64, true_and, and_true]; omega)) ?_
  repeat (
    first
      | (refine AWP.askT rfl ?_; (first | (refine Told.t rfl ?_) | (refine Told.f rfl ?_) | (refine Told.t ?_ ?_; (focus assumption)) | (refine Told.f ?_ ?_; (focus assumption)) | (refine Told.t ?_ ?_; (focus (first | (simp; omega) | (simp [*]; done)); done)) | (refine Told.f ?_ ?_; (focus (first | (simp; omega) | (simp [*]; done)); done))); refine AWP.runL e tab_ok L21 300 rfl (by first | trivial | (simp [in64] <;> omega) | (simp only [in64, true_and, and_true]; omega)) ?_)
      | (refine AWP.callQ e rfl rfl ?_; (first | refine CallQ.mk (c1) rfl rfl ?_); refine AWP.runL e tab_ok L21 300 rfl (by first | trivial | (simp [in64] <;> omega) | (simp only [in64, true_and, and_true]; omega)) ?_)
      | (refine AWP.eq_agg e tab_ok rfl rfl rfl (.inl ⟨rfl, rfl⟩) ?_ 5 (by omega) rfl ?_ rfl rfl rfl rfl rfl rfl rfl ?_; (focus kernel_rfl); (focus kernel_rfl); refine AWP.runL e tab_ok L21 300 rfl (by first | trivial | (simp [in64] <;> omega) | (simp only [in64, true_and, and_true]; omega)) ?_)
      | (refine AWP.eq_agg e tab_ok rfl rfl rfl (.inr ⟨rfl, rfl⟩) ?_ 5 (by omega) rfl ?_ rfl rfl rfl rfl rfl rfl rfl ?_; (focus kernel_rfl); (focus kernel_rfl); refine AWP.runL e tab_ok L21 300 rfl (by first | trivial | (simp [in64] <;> omega) | (simp only [in64, true_and, and_true]; omega)) ?_)
    )
  refine AWP.loop (ι := Nat) (fun i => ⟨[(12, .i i), (11, .i (rowI (intsN l)).length), (10, slI (intsN l)), (0, .s (strL (putL d (l.take i) v))), (2, .i (v / ((2 ^ i : Nat) : Int)))], [], 0⟩) (fun i => i ≤ l.length) (fun i => l.length - i) 0 (Nat.zero_le _) ?_ ?_
  · intro g
    rw [show v / ((2 ^ 0 : Nat) : Int) = v from Int.ediv_one v] at g
    refine AWP.less e ?_ ?_ ?_ ?_ ?_ (g) <;> (repeat' (first | exact True.intro | (refine And.intro ?_ ?_) | rfl | assumption))
  intro i Φ hi next
  refine AWP.runL e tab_ok L21 300 rfl (by first | trivial | (simp [in64] <;> omega) | (simp only [in64, true_and, and_true]; omega)) ?_
  refine AWP.cond2 rfl (fun hil => ?_) (fun hil => ?_)
  · have hil : i < l.length := by have := of_decide_eq_true hil; omega
    have hel := intsN_at hil
    have nx := next (i + 1) hil (by omega)
    rw [put_at d l v hil, bitI_half] at nx
    have hx := hlt _ (List.getElem_mem hil)
    have hpl : (putL d (l.take i) v).length = d.length := putL_len _ _ _
    have hq := div_in v i hv
    have hb := tmod2 (v / ((2 ^ i : Nat) : Int))
    have hbi : bitI v i = (v / ((2 ^ i : Nat) : Int) % 2 == 1) := rfl
    rw [hbi] at nx
    clear hbi next
    generalize putL d (l.take i) v = o at *
    generalize l[i] = x at *
    generalize v / ((2 ^ i : Nat) : Int) = q at *
    have c2 := With_eff o x (q % 2 == 1) (by omega) (by omega)
    refine AWP.runL e tab_ok L21 300 rfl (by first | trivial | (simp [in64] <;> omega) | (simp only [in64, true_and, and_true]; omega)) ?_
    refine AWP.idx e tab_ok rfl rfl rfl rfl i rfl hel ?_
    refine AWP.runL e tab_ok L21 300 rfl (by first | trivial | (simp [in64] <;> omega) | (simp only [in64, true_and, and_true]; omega)) ?_
    refine AWP.eqT 20 (.b (q % 2 == 1)) rfl (congrArg SV.b hb) ?_
    repeat (
      first
        | (refine AWP.askT rfl ?_; (first | (refine Told.t rfl ?_) | (refine Told.f rfl ?_) | (refine Told.t ?_ ?_; (focus assumption)) | (refine Told.f ?_ ?_; (focus assumption)) | (refine Told.t ?_ ?_; (focus (first | (simp; omega) | (simp [*]; done)); done)) | (refine Told.f ?_ ?_; (focus (first | (simp; omega) | (simp [*]; done)); done))); refine AWP.runL e tab_ok L21 300 rfl (by first | trivial | (simp [in64] <;> omega) | (simp only [in64, true_and, and_true]; omega)) ?_)
        | (refine AWP.callQ e rfl rfl ?_; (first | refine CallQ.mk (c2) rfl rfl ?_); refine AWP.runL e tab_ok L21 300 rfl (by first | trivial | (simp [in64] <;> omega) | (simp only [in64, true_and, and_true]; omega)) ?_)
        | (refine AWP.eq_agg e tab_ok rfl rfl rfl (.inl ⟨rfl, rfl⟩) ?_ 5 (by omega) rfl ?_ rfl rfl rfl rfl rfl rfl rfl ?_; (focus kernel_rfl); (focus kernel_rfl); refine AWP.runL e tab_ok L21 300 rfl (by first | trivial | (simp [in64] <;> omega) | (simp only [in64, true_and, and_true]; omega)) ?_)
        | (refine AWP.eq_agg e tab_ok rfl rfl rfl (.inr ⟨rfl, rfl⟩) ?_ 5 (by omega) rfl ?_ rfl rfl rfl rfl rfl rfl rfl ?_; (focus kernel_rfl); (focus kernel_rfl); refine AWP.runL e tab_ok L21 300 rfl (by first | trivial | (simp [in64] <;> omega) | (simp only [in64, true_and, and_true]; omega)) ?_)
      )
    rcases cases_b (q % 2 == 1) with k | k
    · have ho : q % 2 = 1 := eq_of_beq k
      rw [k] at hb
      by_cases h0 : q < 0
      · have ht := tdiv2_odd ho
        repeat (
          first
            | (refine AWP.askT rfl ?_; (first | (refine Told.t rfl ?_) | (refine Told.f rfl ?_) | (refine Told.t ?_ ?_; (focus assumption)) | (refine Told.f ?_ ?_; (focus assumption)) | (refine Told.t ?_ ?_; (focus (first | (simp; omega) | (simp [*]; done)); done)) | (refine Told.f ?_ ?_; (focus (first | (simp; omega) | (simp [*]; done)); done))); refine AWP.runL e tab_ok L21 300 rfl (by first | trivial | (simp [in64] <;> omega) | (simp only [in64, true_and, and_true]; omega)) ?_)
            | (refine AWP.eq_agg e tab_ok rfl rfl rfl (.inl ⟨rfl, rfl⟩) ?_ 5 (by omega) rfl ?_ rfl rfl rfl rfl rfl rfl rfl ?_; (focus kernel_rfl); (focus kernel_rfl); refine AWP.runL e tab_ok L21 300 rfl (by first | trivial | (simp [in64] <;> omega) | (simp only [in64, true_and, and_true]; omega)) ?_)
            | (refine AWP.eq_agg e tab_ok rfl rfl rfl (.inr ⟨rfl, rfl⟩) ?_ 5 (by omega) rfl ?_ rfl rfl rfl rfl rfl rfl rfl ?_; (focus kernel_rfl); (focus kernel_rfl); refine AWP.runL e tab_ok L21 300 rfl (by first | trivial | (simp [in64] <;> omega) | (simp only [in64, true_and, and_true]; omega)) ?_)
          )
        refine AWP.eqT 2 (.i (q / 2)) rfl (congrArg SV.i ht) ?_
        refine AWP.less e ?_ ?_ ?_ ?_ ?_ (nx) <;> (repeat' (first | exact True.intro | (refine And.intro ?_ ?_) | rfl | assumption))
      · have ht := tdiv2_pos (show 0 ≤ q by omega)
        repeat (
          first
            | (refine AWP.askT rfl ?_; (first | (refine Told.t rfl ?_) | (refine Told.f rfl ?_) | (refine Told.t ?_ ?_; (focus assumption)) | (refine Told.f ?_ ?_; (focus assumption)) | (refine Told.t ?_ ?_; (focus (first | (simp; omega) | (simp [*]; done)); done)) | (refine Told.f ?_ ?_; (focus (first | (simp; omega) | (simp [*]; done)); done))); refine AWP.runL e tab_ok L21 300 rfl (by first | trivial | (simp [in64] <;> omega) | (simp only [in64, true_and, and_true]; omega)) ?_)
            | (refine AWP.eq_agg e tab_ok rfl rfl rfl (.inl ⟨rfl, rfl⟩) ?_ 5 (by omega) rfl ?_ rfl rfl rfl rfl rfl rfl rfl ?_; (focus kernel_rfl); (focus kernel_rfl); refine AWP.runL e tab_ok L21 300 rfl (by first | trivial | (simp [in64] <;> omega) | (simp only [in64, true_and, and_true]; omega)) ?_)
            | (refine AWP.eq_agg e tab_ok rfl rfl rfl (.inr ⟨rfl, rfl⟩) ?_ 5 (by omega) rfl ?_ rfl rfl rfl rfl rfl rfl rfl ?_; (focus kernel_rfl); (focus kernel_rfl); refine AWP.runL e tab_ok L21 300 rfl (by first | trivial | (simp [in64] <;> omega) | (simp only [in64, true_and, and_true]; omega)) ?_)
          )
        refine AWP.eqT 2 (.i (q / 2)) rfl (congrArg SV.i ht) ?_
        refine AWP.less e ?_ ?_ ?_ ?_ ?_ (nx) <;> (repeat' (first | exact True.intro | (refine And.intro ?_ ?_) | rfl | assumption))
    · have ho : q % 2 = 0 := by rw [beq_eq_false_iff_ne] at k; omega
      have ht := tdiv2_even ho
      rw [k] at hb
      by_cases h0 : q < 0
      · repeat (
          first
            | (refine AWP.askT rfl ?_; (first | (refine Told.t rfl ?_) | (refine Told.f rfl ?_) | (refine Told.t ?_ ?_; (focus assumption)) | (refine Told.f ?_ ?_; (focus assumption)) | (refine Told.t ?_ ?_; (focus (first | (simp; omega) | (simp [*]; done)); done)) | (refine Told.f ?_ ?_; (focus (first | (simp; omega) | (simp [*]; done)); done))); refine AWP.runL e tab_ok L21 300 rfl (by first | trivial | (simp [in64] <;> omega) | (simp only [in64, true_and, and_true]; omega)) ?_)
            | (refine AWP.eq_agg e tab_ok rfl rfl rfl (.inl ⟨rfl, rfl⟩) ?_ 5 (by omega) rfl ?_ rfl rfl rfl rfl rfl rfl rfl ?_; (focus kernel_rfl); (focus kernel_rfl); refine AWP.runL e tab_ok L21 300 rfl (by first | trivial | (simp [in64] <;> omega) | (simp only [in64, true_and, and_true]; omega)) ?_)
            | (refine AWP.eq_agg e tab_ok rfl rfl rfl (.inr ⟨rfl, rfl⟩) ?_ 5 (by omega) rfl ?_ rfl rfl rfl rfl rfl rfl rfl ?_; (focus kernel_rfl); (focus kernel_rfl); refine AWP.runL e tab_ok L21 300 rfl (by first | trivial | (simp [in64] <;> omega) | (simp only [in64, true_and, and_true]; omega)) ?_)
          )
        refine AWP.eqT 2 (.i (q / 2)) rfl (congrArg SV.i ht) ?_
        refine AWP.less e ?_ ?_ ?_ ?_ ?_ (nx) <;> (repeat' (first | exact True.intro | (refine And.intro ?_ ?_) | rfl | assumption))
      · repeat (
          first
            | (refine AWP.askT rfl ?_; (first | (refine Told.t rfl ?_) | (refine Told.f rfl ?_) | (refine Told.t ?_ ?_; (focus assumption)) | (refine Told.f ?_ ?_; (focus assumption)) | (refine Told.t ?_ ?_; (focus (first | (simp; omega) | (simp [*]; done)); done)) | (refine Told.f ?_ ?_; (focus (first | (simp; omega) | (simp [*]; done)); done))); refine AWP.runL e tab_ok L21 300 rfl (by first | trivial | (simp [in64] <;> omega) | (simp only [in64, true_and, and_true]; omega)) ?_)
            | (refine AWP.eq_agg e tab_ok rfl rfl rfl (.inl ⟨rfl, rfl⟩) ?_ 5 (by omega) rfl ?_ rfl rfl rfl rfl rfl rfl rfl ?_; (focus kernel_rfl); (focus kernel_rfl); refine AWP.runL e tab_ok L21 300 rfl (by first | trivial | (simp [in64] <;> omega) | (simp only [in64, true_and, and_true]; omega)) ?_)
            | (refine AWP.eq_agg e tab_ok rfl rfl rfl (.inr ⟨rfl, rfl⟩) ?_ 5 (by omega) rfl ?_ rfl rfl rfl rfl rfl rfl rfl ?_; (focus kernel_rfl); (focus kernel_rfl); refine AWP.runL e tab_ok L21 300 rfl (by first | trivial | (simp [in64] <;> omega) | (simp only [in64, true_and, and_true]; omega)) ?_)
          )
        refine AWP.eqT 2 (.i (q / 2)) rfl (congrArg SV.i ht) ?_
        refine AWP.less e ?_ ?_ ?_ ?_ ?_ (nx) <;> (repeat' (first | exact True.intro | (refine And.intro ?_ ?_) | rfl | assumption))
  · have hil : ¬ i < l.length := by have := of_decide_eq_false hil; omega
    obtain rfl : i = l.length := by omega
    rw [List.take_length]
    refine AWP.runL e tab_ok L21 300 rfl (by first | trivial | (simp [in64] <;> omega) | (simp only [in64, true_and, and_true]; omega)) ?_
    refine AWP.ret e tab_ok rfl ?_
    rw [hP]
    all_goals first | rfl | (simp [strip]; done)
theorem byte_at (d : List UInt8) (x : Nat) (hx : x < 8 * d.length) : byteAt (strL d) ((x : Int).tdiv 8) = ((d.getD (x / 8) 0).toNat : Int) := by
  unfold byteAt
  rw [div8, strL_data, Int.toNat_natCast]
theorem bit_div (n k : Nat) : (((n / 2 ^ k : Nat) : Int)).tmod 2 = bI (n.testBit k) := by
  rw [Int.tmod_eq_emod_of_nonneg (Int.natCast_nonneg _), Nat.testBit_eq_decide_div_mod_eq]
  unfold bI
  by_cases h : n / 2 ^ k % 2 = 1
  · rw [if_pos (by simpa using h)]; omega
  · rw [if_neg (by simpa using h)]; omega
set_option maxRecDepth 100000 in
theorem Bit_eff (d : List UInt8) (x : Nat) (hd : d.length ≤ 1000) (hx : x < 8 * d.length) : Eff Try.prog 22 [.s (strL d), .i x] [] 0 (fun r _ _ => r = .i (bI (bitAt d x))) := by
  have hz : (strL d).size = d.length := strL_size d
  have hq := div8 x
  have hr := mod8 x
  have hb := byte_at d x hx
  have hq1 : 0 ≤ (x : Int).tdiv 8 := by rw [hq]; omega
  have hq2 : (x : Int).tdiv 8 < ((strL d).size : Int) := by rw [hq, hz]; omega
  have hN : ((d.getD (x / 8) 0).toNat : Int) < 256 := by have := (d.getD (x / 8) 0).toNat_lt; omega
  have hres : bitAt d x = (d.getD (x / 8) 0).toNat.testBit (x % 8) := rfl
  rw [hres]
  generalize (d.getD (x / 8) 0).toNat = N at *
  refine eff_of Try.func22 rfl rfl rfl fun cx e hP => ?_
  refine AWP.runL e tab_ok L22 300 rfl (by first | trivial | (simp [in64] <;> omega) | (simp only [in64, true_and, and_true]; omega)) ?_
  refine AWP.eqT 5 (.i ((N / 2 ^ 0 : Nat) : Int)) rfl (congrArg SV.i (hb.trans (by simp))) ?_
  refine AWP.loop (ι := Nat) (fun i => ⟨[(6, .i i), (5, .i ((N / 2 ^ i : Nat) : Int)), (1, .i x)], [], 0⟩) (fun i => i ≤ x % 8) (fun i => x % 8 - i) 0 (Nat.zero_le _) ?_ ?_
  · intro g
    refine AWP.less e ?_ ?_ ?_ ?_ ?_ (g) <;> (repeat' (first | exact True.intro | (refine And.intro ?_ ?_) | rfl | assumption))
  intro i Φ hi next
  refine AWP.runL e tab_ok L22 300 rfl (by first | trivial | (simp [in64] <;> omega) | (simp only [in64, true_and, and_true]; omega)) ?_
  refine AWP.cond2 rfl (fun hil => ?_) (fun hil => ?_)
  · have hil : i < x % 8 := by rw [hr] at hil; have := of_decide_eq_true hil; omega
    have nx := next (i + 1) hil (by omega)
    have ht : (((N / 2 ^ i : Nat) : Int)).tdiv 2 = ((N / 2 ^ (i + 1) : Nat) : Int) := by
      rw [tdiv2_pos (Int.natCast_nonneg _), Nat.pow_succ, ← Nat.div_div_eq_div_mul]; rfl
    have hle : N / 2 ^ i ≤ N := Nat.div_le_self _ _
    clear next
    generalize N / 2 ^ (i + 1) = z at *
    generalize N / 2 ^ i = y at *
    have hy1 := tdiv2_pos (show (0 : Int) ≤ (y : Int) by omega)
    refine AWP.runL e tab_ok L22 300 rfl (by first | trivial | (simp [in64] <;> omega) | (simp only [in64, true_and, and_true]; omega)) ?_
    refine AWP.eqT 5 (.i (z : Int)) rfl (congrArg SV.i ht) ?_
    refine AWP.less e ?_ ?_ ?_ ?_ ?_ (nx) <;> (repeat' (first | exact True.intro | (refine And.intro ?_ ?_) | rfl | assumption))
  · have hil : ¬ i < x % 8 := by rw [hr] at hil; have := of_decide_eq_false hil; omega
    obtain rfl : i = x % 8 := by have : i ≤ x % 8 := hi; omega
    have hbd := bit_div N (x % 8)
    refine AWP.runL e tab_ok L22 300 rfl (by first | trivial | (simp [in64] <;> omega) | (simp only [in64, true_and, and_true]; omega)) ?_
    refine AWP.ret e tab_ok rfl ?_
    rw [hP]
    exact congrArg SV.i hbd
end Go.Proofs.Ythibaeeoegoliaa
