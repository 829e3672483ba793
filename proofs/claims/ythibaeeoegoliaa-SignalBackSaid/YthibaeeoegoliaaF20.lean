import Derived.Test.YthibaeeoegoliaaF19
open Go Go.Proofs Go.RowKit Go.Sy Go.Signal
namespace Go.Proofs.Ythibaeeoegoliaa

def numN : List Bool → Nat
  | [] => 0
  | b :: l => (if b then 1 else 0) + 2 * numN l
theorem numL_N (l : List Bool) : numL l = ((numN l : Nat) : Int) := by
  induction l with
  | nil => rfl
  | cons b l ih =>
    show (if b then (1 : Int) else 0) + 2 * numL l = (((if b then 1 else 0) + 2 * numN l : Nat) : Int)
    rw [ih]
    cases b <;> simp <;> omega
theorem numN_lt (l : List Bool) : numN l < 2 ^ l.length := by
  have := numL_lt l
  rw [numL_N] at this
  omega
theorem numN_snoc (b : Bool) (l : List Bool) : numN (l ++ [b]) = numN l + (if b then 1 else 0) * 2 ^ l.length := by
  induction l with
  | nil => simp [numN]
  | cons c l ih =>
    show (if c then 1 else 0) + 2 * numN (l ++ [b]) = (if c then 1 else 0) + 2 * numN l + (if b then 1 else 0) * 2 ^ (l.length + 1)
    rw [ih, Nat.pow_succ]
    generalize 2 ^ l.length = p
    cases b <;> simp <;> omega
theorem sgn_num (l : List Bool) : ∀ b, sgnL (b :: l) = if numN (b :: l) < 2 ^ l.length then ((numN (b :: l) : Nat) : Int) else ((numN (b :: l) : Nat) : Int) - ((2 ^ (l.length + 1) : Nat) : Int) := by
  induction l with
  | nil => intro b; cases b <;> decide
  | cons c l ih =>
    intro b
    show (if b then (1 : Int) else 0) + 2 * sgnL (c :: l) = if (if b then 1 else 0) + 2 * numN (c :: l) < 2 ^ (l.length + 1) then ((((if b then 1 else 0) + 2 * numN (c :: l) : Nat)) : Int) else ((((if b then 1 else 0) + 2 * numN (c :: l) : Nat)) : Int) - ((2 ^ (l.length + 1 + 1) : Nat) : Int)
    have hq : 2 ^ (l.length + 1) = 2 * 2 ^ l.length := by rw [Nat.pow_succ]; omega
    have hr : 2 ^ (l.length + 1 + 1) = 4 * 2 ^ l.length := by rw [Nat.pow_succ, hq]; omega
    rw [ih c, hr, hq]
    generalize numN (c :: l) = n
    generalize 2 ^ l.length = p
    cases b <;> simp only [Bool.false_eq_true, if_false, if_true] <;> by_cases h : n < p
    · rw [if_pos h, if_pos (by omega)]; omega
    · rw [if_neg h, if_neg (by omega)]; omega
    · rw [if_pos h, if_pos (by omega)]; omega
    · rw [if_neg h, if_neg (by omega)]; omega
theorem two64 : (2 ^ 64 : Nat) = 18446744073709551616 := by decide
/-- The sign put on by a shift up and down. -/
theorem sgn_shift (b : Bool) (l : List Bool) (hl : l.length + 1 ≤ 64) : (IntKind.wrap .i64 (((numN (b :: l) * 2 ^ (64 - (l.length + 1)) : Nat) : Int))).fdiv (((2 ^ (64 - (l.length + 1)) : Nat) : Int)) = sgnL (b :: l) := by
  have h1 := numN_lt (b :: l)
  have hp : 2 ^ (l.length + 1) * 2 ^ (64 - (l.length + 1)) = 18446744073709551616 := by
    rw [← Nat.pow_add, ← two64]
    congr 1
    omega
  rw [sgn_num l b, wrap64_eq]
  rw [List.length_cons] at h1
  rw [Nat.pow_succ] at h1 hp ⊢
  generalize numN (b :: l) = n at *
  have hP := Nat.pow_pos (n := 64 - (l.length + 1)) (show 0 < 2 by decide)
  generalize 2 ^ (64 - (l.length + 1)) = P at *
  generalize 2 ^ l.length = q at *
  have e1 : n * P < q * 2 * P := Nat.mul_lt_mul_of_pos_right h1 hP
  rw [hp] at e1
  have e2 : q * P = 9223372036854775808 := by
    have : q * 2 * P = 2 * (q * P) := by rw [Nat.mul_assoc, Nat.mul_left_comm]
    omega
  by_cases h : n < q
  · have e3 : n * P < q * P := Nat.mul_lt_mul_of_pos_right h hP
    rw [if_pos h]
    have e4 : (((n * P : Nat) : Int) + 9223372036854775808) % 18446744073709551616 - 9223372036854775808 = (n : Int) * (P : Int) := by
      have : ((n * P : Nat) : Int) = (n : Int) * (P : Int) := by push_cast; rfl
      rw [← this]
      omega
    rw [e4, Int.fdiv_eq_ediv_of_nonneg _ (by omega), Int.mul_ediv_cancel _ (by omega)]
  · have e3 : q * P ≤ n * P := Nat.mul_le_mul_right _ (by omega)
    rw [if_neg h]
    have e4 : (((n * P : Nat) : Int) + 9223372036854775808) % 18446744073709551616 - 9223372036854775808 = ((n : Int) - ((q * 2 : Nat) : Int)) * (P : Int) := by
      have h5 : ((n * P : Nat) : Int) = (n : Int) * (P : Int) := by push_cast; rfl
      have h6 : ((q * 2 * P : Nat) : Int) = ((q * 2 : Nat) : Int) * (P : Int) := by push_cast; rfl
      rw [Int.sub_mul, ← h5, ← h6, hp]
      omega
    rw [e4, Int.fdiv_eq_ediv_of_nonneg _ (by omega), Int.mul_ediv_cancel _ (by omega)]
/-- What a signal is in bytes. -/
def valS (s : Sig) (l : List Bool) : Int := if s.sgn then sgnL l else numL l
def getR (d : List UInt8) (s : Sig) : SV := match places s with
  | none => .tup [.i 0, .i 1]
  | some l => if d.length ≤ 8 ∧ rightB s d.length = true then .tup [.i (valS s (l.map (bitAt d))), .i 0] else .tup [.i 0, .i 23]
theorem get_chk : all8 (fun x k => IntKind.wrap .u64 (IntKind.wrap .u8 ((BitVec.ofInt IntKind.u8.bits (((x : Int)).fdiv (2 ^ (min ((k : Nat) : Int).toNat IntKind.u8.bits))) &&& BitVec.ofInt IntKind.u8.bits 1).toNat : Int)) == bI (x.testBit k)) = true := by kernel_rfl
theorem get_byte (x : UInt8) {k : Nat} (hk : k < 8) : IntKind.wrap .u64 (IntKind.wrap .u8 ((BitVec.ofInt IntKind.u8.bits (((x.toNat : Int)).fdiv (2 ^ (min ((k : Nat) : Int).toNat IntKind.u8.bits))) &&& BitVec.ofInt IntKind.u8.bits 1).toNat : Int)) = bI (bitU x k) :=
  eq_of_beq (all8_at get_chk x.toNat_lt hk)
theorem or_step {n i : Nat} (hn : n < 2 ^ i) (hi : i < 64) (b : Bool) : IntKind.wrap .u64 ((BitVec.ofInt IntKind.u64.bits (n : Int) ||| BitVec.ofInt IntKind.u64.bits (IntKind.wrap .u64 (bI b * 2 ^ (min ((i : Nat) : Int).toNat IntKind.u64.bits)))).toNat : Int) = ((n + (if b then 1 else 0) * 2 ^ i : Nat) : Int) := by
  have hp : 2 ^ i < 2 ^ 64 := Nat.pow_lt_pow_right (by decide) hi
  have hm : ((2 : Int) ^ (min ((i : Nat) : Int).toNat IntKind.u64.bits)) = ((2 ^ i : Nat) : Int) := by
    rw [show min ((i : Nat) : Int).toNat IntKind.u64.bits = i from by rw [Int.toNat_natCast]; exact Nat.min_eq_left (by show i ≤ 64; omega)]
    push_cast
    rfl
  have hb : bI b * ((2 ^ i : Nat) : Int) = (((if b then 1 else 0) * 2 ^ i : Nat) : Int) := by cases b <;> simp [bI]
  rw [hm, hb]
  have hB : (if b then 1 else 0) * 2 ^ i < 2 ^ 64 := by cases b <;> simp <;> omega
  rw [wrap_nat .u64 rfl hB]
  have h1 : BitVec.ofInt IntKind.u64.bits (n : Int) = BitVec.ofNat 64 n := ofInt_lit n
  have h2 : BitVec.ofInt IntKind.u64.bits (((if b then 1 else 0) * 2 ^ i : Nat) : Int) = BitVec.ofNat 64 ((if b then 1 else 0) * 2 ^ i) := ofInt_lit _
  rw [h1, h2]
  show IntKind.wrap .u64 (((BitVec.ofNat 64 n ||| BitVec.ofNat 64 ((if b = true then 1 else 0) * 2 ^ i) : BitVec 64).toNat : Nat) : Int) = _
  rw [BitVec.toNat_or, BitVec.toNat_ofNat, BitVec.toNat_ofNat, Nat.mod_eq_of_lt (Nat.lt_trans hn hp), Nat.mod_eq_of_lt hB]
  have h3 : n ||| (if b then 1 else 0) * 2 ^ i = n + (if b then 1 else 0) * 2 ^ i := by
    rw [Nat.or_comm, Nat.mul_comm, ← Nat.two_pow_add_eq_or_of_lt hn, Nat.add_comm]
  rw [h3]
  refine wrap_nat .u64 rfl ?_
  have h4 : 2 ^ (i + 1) ≤ 2 ^ 64 := Nat.pow_le_pow_right (by decide) (by omega)
  rw [Nat.pow_succ] at h4
  show _ < 2 ^ 64
  cases b <;> simp <;> omega

set_option maxRecDepth 100000 in
set_option maxHeartbeats 4000000 in
theorem Get_eff (d : List UInt8) (s : Sig) (hd : d.length ≤ 1000) : Eff Try.prog 19 [.s (strL d), .agg (sC s)] [] 0 (fun r _ _ => r = getR d s) := by
  have c1 := well_eff d s
  have c3 := places_eff s
  have hz : (strL d).size = d.length := strL_size d
  cases h : places s with
  | none =>
    rw [show getR d s = .tup [.i 0, .i 1] from by unfold getR; rw [h]]
    rw [show wellE s d.length = 1 from by unfold wellE; rw [h]] at c1
    refine eff_of Try.func19 rfl rfl rfl fun cx e hP => ?_
    refine AWP.runL e tab_ok L19 300 rfl (by first | trivial | (simp [in64] <;> omega) | (simp only [in64, true_and, and_true]; omega)) ?_
    repeat (
      first
        | (refine AWP.askT rfl ?_; (first | (refine Told.t rfl ?_) | (refine Told.f rfl ?_) | (refine Told.t ?_ ?_; (focus assumption)) | (refine Told.f ?_ ?_; (focus assumption)) | (refine Told.t ?_ ?_; (focus (first | (simp; omega) | (simp [*]; done)); done)) | (refine Told.f ?_ ?_; (focus (first | (simp; omega) | (simp [*]; done)); done))); refine AWP.runL e tab_ok L19 300 rfl (by first | trivial | (simp [in64] <;> omega) | (simp only [in64, true_and, and_true]; omega)) ?_)
        | (refine AWP.callQ e rfl rfl ?_; (first | refine CallQ.mk (c1) rfl rfl ?_); refine AWP.runL e tab_ok L19 300 rfl (by first | trivial | (simp [in64] <;> omega) | (simp only [in64, true_and, and_true]; omega)) ?_)
        | (refine AWP.eq_agg e tab_ok rfl rfl rfl (.inl ⟨rfl, rfl⟩) ?_ 5 (by omega) rfl ?_ rfl rfl rfl rfl rfl rfl rfl ?_; (focus kernel_rfl); (focus kernel_rfl); refine AWP.runL e tab_ok L19 300 rfl (by first | trivial | (simp [in64] <;> omega) | (simp only [in64, true_and, and_true]; omega)) ?_)
        | (refine AWP.eq_agg e tab_ok rfl rfl rfl (.inr ⟨rfl, rfl⟩) ?_ 5 (by omega) rfl ?_ rfl rfl rfl rfl rfl rfl rfl ?_; (focus kernel_rfl); (focus kernel_rfl); refine AWP.runL e tab_ok L19 300 rfl (by first | trivial | (simp [in64] <;> omega) | (simp only [in64, true_and, and_true]; omega)) ?_)
      )
    refine AWP.ret e tab_ok rfl ?_
    rw [hP]
    all_goals first | rfl | (simp [strip]; done)
  | some l =>
    rw [plR_some h] at c3
    have hl := places_len h
    have hn : (rowI (intsN l)).length = l.length := by simp
    have hR : getR d s = if d.length ≤ 8 ∧ rightB s d.length = true then .tup [.i (valS s (l.map (bitAt d))), .i 0] else .tup [.i 0, .i 23] := by unfold getR; rw [h]
    have hW : wellE s d.length = if d.length ≤ 8 ∧ rightB s d.length = true then 0 else 23 := by unfold wellE; rw [h]
    rw [hR]
    rw [hW] at c1
    by_cases hw : d.length ≤ 8 ∧ rightB s d.length = true
    · rw [if_pos hw]
      rw [if_pos hw] at c1
      have hlt := right_lt h hw.2
      refine eff_of Try.func19 rfl rfl rfl fun cx e hP => ?_
      refine AWP.runL e tab_ok L19 300 rfl (by first | trivial | (simp [in64] <;> omega) | (simp only [in64, true_and, and_true]; omega)) ?_
      repeat (
        first
          | (refine AWP.askT rfl ?_; (first | (refine Told.t rfl ?_) | (refine Told.f rfl ?_) | (refine Told.t ?_ ?_; (focus assumption)) | (refine Told.f ?_ ?_; (focus assumption)) | (refine Told.t ?_ ?_; (focus (first | (simp; omega) | (simp [*]; done)); done)) | (refine Told.f ?_ ?_; (focus (first | (simp; omega) | (simp [*]; done)); done))); refine AWP.runL e tab_ok L19 300 rfl (by first | trivial | (simp [in64] <;> omega) | (simp only [in64, true_and, and_true]; omega)) ?_)
          | (refine AWP.callQ e rfl rfl ?_; (first | refine CallQ.mk (c1) rfl rfl ?_ | refine CallQ.mk (c3) rfl rfl ?_); refine AWP.runL e tab_ok L19 300 rfl (by first | trivial | (simp [in64] <;> omega) | (simp only [in64, true_and, and_true]; omega)) ?_)
          | (refine AWP.eq_agg e tab_ok rfl rfl rfl (.inl ⟨rfl, rfl⟩) ?_ 5 (by omega) rfl ?_ rfl rfl rfl rfl rfl rfl rfl ?_; (focus kernel_rfl); (focus kernel_rfl); refine AWP.runL e tab_ok L19 300 rfl (by first | trivial | (simp [in64] <;> omega) | (simp only [in64, true_and, and_true]; omega)) ?_)
          | (refine AWP.eq_agg e tab_ok rfl rfl rfl (.inr ⟨rfl, rfl⟩) ?_ 5 (by omega) rfl ?_ rfl rfl rfl rfl rfl rfl rfl ?_; (focus kernel_rfl); (focus kernel_rfl); refine AWP.runL e tab_ok L19 300 rfl (by first | trivial | (simp [in64] <;> omega) | (simp only [in64, true_and, and_true]; omega)) ?_)
        )
      refine AWP.loop (ι := Nat) (fun i => ⟨[(20, .i i), (19, .i (rowI (intsN l)).length), (18, slI (intsN l)), (7, .d (.v (.int .u64 (numN ((l.take i).map (bitAt d)) : Int)))), (0, .s (strL d)), (3, .ptr 0 0)], [(0, .box (sC s))], 1⟩) (fun i => i ≤ l.length) (fun i => l.length - i) 0 (Nat.zero_le _) ?_ ?_
      · intro g
        refine AWP.less e ?_ ?_ ?_ ?_ ?_ (g) <;> (repeat' (first | exact True.intro | (refine And.intro ?_ ?_) | rfl | assumption))
      intro i Φ hi next
      refine AWP.runL e tab_ok L19 300 rfl (by first | trivial | (simp [in64] <;> omega) | (simp only [in64, true_and, and_true]; omega)) ?_
      refine AWP.cond2 rfl (fun hil => ?_) (fun hil => ?_)
      · have hil : i < l.length := by have := of_decide_eq_true hil; omega
        have hel := intsN_at hil
        have nx := next (i + 1) hil (by omega)
        have hN := numN_lt ((l.take i).map (bitAt d))
        have hsn : numN ((l.take (i + 1)).map (bitAt d)) = numN ((l.take i).map (bitAt d)) + (if bitAt d l[i] then 1 else 0) * 2 ^ i := by
          rw [List.take_succ_eq_append_getElem hil, List.map_append, List.map_cons, List.map_nil, numN_snoc, List.length_map, List.length_take, Nat.min_eq_left (by omega)]
        rw [List.length_map, List.length_take, Nat.min_eq_left (by omega)] at hN
        rw [hsn] at nx
        have hor := or_step hN (show i < 64 by omega) (bitAt d l[i])
        have hx := hlt _ (List.getElem_mem hil)
        clear next hsn hN
        generalize numN ((l.take i).map (bitAt d)) = n at *
        generalize l[i] = x at *
        have hq := div8 x
        have hr := mod8 x
        have hb := byte_at d x hx
        have hq1 : 0 ≤ (x : Int).tdiv 8 := by rw [hq]; omega
        have hq2 : (x : Int).tdiv 8 < ((strL d).size : Int) := by rw [hq, hz]; omega
        have hm : 0 ≤ (x : Int).tmod 8 := by rw [hr]; omega
        have hgb := get_byte (d.getD (x / 8) 0) (Nat.mod_lt x (show 0 < 8 by decide))
        rw [show bitU (d.getD (x / 8) 0) (x % 8) = bitAt d x from rfl, ← hb, ← hr] at hgb
        generalize bitAt d x = b at *
        generalize (n + (if b then 1 else 0) * 2 ^ i : Nat) = n2 at *
        refine AWP.runL e tab_ok L19 300 rfl (by first | trivial | (simp [in64] <;> omega) | (simp only [in64, true_and, and_true]; omega)) ?_
        refine AWP.idx e tab_ok rfl rfl rfl rfl i rfl hel ?_
        refine AWP.runL e tab_ok L19 300 rfl (by first | trivial | (simp [in64] <;> omega) | (simp only [in64, true_and, and_true]; omega)) ?_
        refine AWP.eqT 7 (.d (.v (.int .u64 (n2 : Int)))) rfl (congrArg (fun z => SV.d (.v (.int .u64 z))) ?_) ?_
        · rw [hgb]; exact hor
        refine AWP.less e ?_ ?_ ?_ ?_ ?_ (nx) <;> (repeat' (first | exact True.intro | (refine And.intro ?_ ?_) | rfl | assumption))
      · have hil : ¬ i < l.length := by have := of_decide_eq_false hil; omega
        obtain rfl : i = l.length := by omega
        rw [List.take_length]
        have hbl : (l.map (bitAt d)).length = l.length := List.length_map _
        obtain ⟨b, bs, hbs⟩ : ∃ b bs, l.map (bitAt d) = b :: bs := by
          cases hc : l.map (bitAt d) with
          | nil => rw [hc] at hbl; simp at hbl; omega
          | cons b bs => exact ⟨b, bs, rfl⟩
        have hbn : bs.length + 1 = l.length := by rw [← hbl, hbs]; rfl
        have hN := numN_lt (l.map (bitAt d))
        rw [hbl] at hN
        rcases cases_b s.sgn with q | q
        · have hv : valS s (l.map (bitAt d)) = sgnL (l.map (bitAt d)) := by unfold valS; rw [if_pos q]
          have hsh := sgn_shift b bs (by omega)
          rw [← hbs, hbn] at hsh
          rw [hv, ← hsh] at hP
          have hwd : 64 - s.width = ((64 - l.length : Nat) : Int) := by omega
          have hp : 2 ^ l.length * 2 ^ (64 - l.length) = 18446744073709551616 := by
            rw [← Nat.pow_add, ← two64]
            congr 1
            omega
          have hmul : IntKind.wrap .u64 ((numN (l.map (bitAt d)) : Int) * 2 ^ (min (64 - s.width).toNat IntKind.u64.bits)) = ((numN (l.map (bitAt d)) * 2 ^ (64 - l.length) : Nat) : Int) := by
            rw [hwd, show ((2 : Int) ^ (min ((64 - l.length : Nat) : Int).toNat IntKind.u64.bits)) = ((2 ^ (64 - l.length) : Nat) : Int) from pow64 (64 - l.length) (by omega), show ((numN (l.map (bitAt d)) : Nat) : Int) * ((2 ^ (64 - l.length) : Nat) : Int) = ((numN (l.map (bitAt d)) * 2 ^ (64 - l.length) : Nat) : Int) from by push_cast; rfl]
            refine wrap_nat .u64 rfl ?_
            have := Nat.mul_lt_mul_of_pos_right hN (Nat.pow_pos (n := 64 - l.length) (show 0 < 2 by decide))
            rw [hp] at this
            exact this
          have hpw : ((2 : Int) ^ (min (64 - s.width).toNat IntKind.i64.bits)) = ((2 ^ (64 - l.length) : Nat) : Int) := by
            rw [hwd, pow64 (64 - l.length) (by omega)]
          clear hn hbl hbs hsh hN hv
          generalize numN (l.map (bitAt d)) = N at *
          refine AWP.runL e tab_ok L19 300 rfl (by first | trivial | (simp [in64] <;> omega) | (simp only [in64, true_and, and_true]; omega)) ?_
          refine AWP.cond rfl true q ?_
          refine AWP.runL e tab_ok L19 6 rfl (by first | trivial | (simp [] <;> omega) | (simp only [in64, true_and, and_true]; omega)) ?_
          refine AWP.eqT 46 (.d (.v (.int .u64 ((N * 2 ^ (64 - l.length) : Nat) : Int)))) rfl (congrArg (fun z => SV.d (.v (.int .u64 z))) hmul) ?_
          refine AWP.convW e tab_ok rfl rfl rfl rfl ?_
          refine AWP.runL e tab_ok L19 300 rfl (by first | trivial | (simp [] <;> omega) | (simp only [in64, true_and, and_true]; omega)) ?_
          refine AWP.ret e tab_ok rfl ?_
          rw [hP]
          exact congrArg (fun z => SV.tup [.i ((IntKind.wrap .i64 ((N * 2 ^ (64 - l.length) : Nat) : Int)).fdiv z), .i 0]) hpw
        · have hv : valS s (l.map (bitAt d)) = numL (l.map (bitAt d)) := by unfold valS; rw [if_neg (by rw [q]; decide)]
          have hw63 : l.length ≤ 63 := by
            have hg := good_of h
            unfold bad at hg
            simp only [Bool.or_eq_false_iff] at hg
            have h5 := hg.2
            rw [q] at h5
            simp at h5
            omega
          have hN2 : 2 ^ l.length ≤ 2 ^ 63 := Nat.pow_le_pow_right (by decide) hw63
          rw [show (2 ^ 63 : Nat) = 9223372036854775808 from by decide] at hN2
          have hN3 : numN (l.map (bitAt d)) < 9223372036854775808 := by omega
          rw [hv, numL_N] at hP
          clear hbs hN hN2
          generalize numN (l.map (bitAt d)) = N at *
          refine AWP.runL e tab_ok L19 300 rfl (by first | trivial | (simp [in64] <;> omega) | (simp only [in64, true_and, and_true]; omega)) ?_
          repeat (
            first
              | (refine AWP.askT rfl ?_; (first | (refine Told.t rfl ?_) | (refine Told.f rfl ?_) | (refine Told.t ?_ ?_; (focus assumption)) | (refine Told.f ?_ ?_; (focus assumption)) | (refine Told.t ?_ ?_; (focus (first | (simp; omega) | (simp [*]; done)); done)) | (refine Told.f ?_ ?_; (focus (first | (simp; omega) | (simp [*]; done)); done))); refine AWP.runL e tab_ok L19 300 rfl (by first | trivial | (simp [in64] <;> omega) | (simp only [in64, true_and, and_true]; omega)) ?_)
              | (refine AWP.eq_agg e tab_ok rfl rfl rfl (.inl ⟨rfl, rfl⟩) ?_ 5 (by omega) rfl ?_ rfl rfl rfl rfl rfl rfl rfl ?_; (focus kernel_rfl); (focus kernel_rfl); refine AWP.runL e tab_ok L19 300 rfl (by first | trivial | (simp [in64] <;> omega) | (simp only [in64, true_and, and_true]; omega)) ?_)
              | (refine AWP.eq_agg e tab_ok rfl rfl rfl (.inr ⟨rfl, rfl⟩) ?_ 5 (by omega) rfl ?_ rfl rfl rfl rfl rfl rfl rfl ?_; (focus kernel_rfl); (focus kernel_rfl); refine AWP.runL e tab_ok L19 300 rfl (by first | trivial | (simp [in64] <;> omega) | (simp only [in64, true_and, and_true]; omega)) ?_)
            )
          refine AWP.ret e tab_ok rfl ?_
          rw [hP]
          all_goals first | rfl | (simp [strip]; done)
    · rw [if_neg hw]
      rw [if_neg hw] at c1
      refine eff_of Try.func19 rfl rfl rfl fun cx e hP => ?_
      refine AWP.runL e tab_ok L19 300 rfl (by first | trivial | (simp [in64] <;> omega) | (simp only [in64, true_and, and_true]; omega)) ?_
      repeat (
        first
          | (refine AWP.askT rfl ?_; (first | (refine Told.t rfl ?_) | (refine Told.f rfl ?_) | (refine Told.t ?_ ?_; (focus assumption)) | (refine Told.f ?_ ?_; (focus assumption)) | (refine Told.t ?_ ?_; (focus (first | (simp; omega) | (simp [*]; done)); done)) | (refine Told.f ?_ ?_; (focus (first | (simp; omega) | (simp [*]; done)); done))); refine AWP.runL e tab_ok L19 300 rfl (by first | trivial | (simp [in64] <;> omega) | (simp only [in64, true_and, and_true]; omega)) ?_)
          | (refine AWP.callQ e rfl rfl ?_; (first | refine CallQ.mk (c1) rfl rfl ?_); refine AWP.runL e tab_ok L19 300 rfl (by first | trivial | (simp [in64] <;> omega) | (simp only [in64, true_and, and_true]; omega)) ?_)
          | (refine AWP.eq_agg e tab_ok rfl rfl rfl (.inl ⟨rfl, rfl⟩) ?_ 5 (by omega) rfl ?_ rfl rfl rfl rfl rfl rfl rfl ?_; (focus kernel_rfl); (focus kernel_rfl); refine AWP.runL e tab_ok L19 300 rfl (by first | trivial | (simp [in64] <;> omega) | (simp only [in64, true_and, and_true]; omega)) ?_)
          | (refine AWP.eq_agg e tab_ok rfl rfl rfl (.inr ⟨rfl, rfl⟩) ?_ 5 (by omega) rfl ?_ rfl rfl rfl rfl rfl rfl rfl ?_; (focus kernel_rfl); (focus kernel_rfl); refine AWP.runL e tab_ok L19 300 rfl (by first | trivial | (simp [in64] <;> omega) | (simp only [in64, true_and, and_true]; omega)) ?_)
        )
      refine AWP.ret e tab_ok rfl ?_
      rw [hP]
      all_goals first | rfl | (simp [strip]; done)
end Go.Proofs.Ythibaeeoegoliaa
