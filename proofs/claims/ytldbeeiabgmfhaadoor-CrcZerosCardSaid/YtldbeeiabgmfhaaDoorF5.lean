import Derived.Test.YtldbeeiabgmfhaaDoorF4
open Go Go.Proofs Go.Sy
namespace Go.Proofs.YtldbeeiabgmfhaaDoor

theorem sub48 {b : UInt8} (h : b = 48 ∨ b = 49) : IntKind.wrap .u8 ((b.toNat : Int) - 48) = (((if (b == 49) then 1 else 0 : UInt8)).toNat : Int) := by rcases h with rfl | rfl <;> rfl
theorem bb_succ {l : List UInt8} {i : Nat} (h : i < l.length) : bb (l.take (i + 1)) = bb (l.take i) ++ [l[i] == 49] := by
  unfold bb
  rw [List.take_succ_eq_append_getElem h, List.map_append]
  rfl
theorem rep_snoc (i : Nat) : List.replicate (i + 1) false = List.replicate i false ++ [false] := List.replicate_succ'
theorem p_at (k : Nat) (hk : k < 16) : IntKind.wrap .u8 (byteAt (strL (bitsOf 50585#64 16)) k - 48) = (((if pP k then 1 else 0 : UInt8)).toNat : Int) := by
  rw [b_at _ k (by rw [bitsOf_len]; exact hk), bitsOf_at _ hk]
  unfold pP
  rw [show 16 - 1 - k = 15 - k by omega]
  cases (50585#64).getLsbD (15 - k) <;> rfl
theorem xor_b (x y : Bool) : IntKind.wrap .u8 (((BitVec.ofInt IntKind.u8.bits (((if x then 1 else 0 : UInt8)).toNat : Int) ^^^ BitVec.ofInt IntKind.u8.bits (((if y then 1 else 0 : UInt8)).toNat : Int)).toNat : Nat) : Int) = (((if (x ^^ y) then 1 else 0 : UInt8)).toNat : Int) := by cases x <;> cases y <;> rfl
theorem one_b (x : Bool) : ((((if x then 1 else 0 : UInt8)).toNat : Int) == 1) = x := by cases x <;> rfl
theorem num_b (s : BitVec 15) {k : Nat} (hk : k < 15) : IntKind.wrap .u32 (IntKind.wrap .u32 (2 * ((s.toNat / 2 ^ (15 - k) : Nat) : Int)) + IntKind.wrap .u32 (((if s.getLsbD (14 - k) then 1 else 0 : UInt8)).toNat : Int)) = ((s.toNat / 2 ^ (15 - (k + 1)) : Nat) : Int) := by
  have h1 := s.isLt
  have e : s.toNat / 2 ^ (15 - k) = s.toNat / 2 ^ (15 - (k + 1)) / 2 := by
    rw [Nat.div_div_eq_div_mul, ← Nat.pow_succ]
    congr 2
    omega
  have e2 : s.getLsbD (14 - k) = decide (s.toNat / 2 ^ (15 - (k + 1)) % 2 = 1) := by
    rw [BitVec.getLsbD, Nat.testBit_eq_decide_div_mod_eq, show 15 - (k + 1) = 14 - k by omega]
  have h2 : s.toNat / 2 ^ (15 - (k + 1)) ≤ s.toNat := Nat.div_le_self _ _
  rw [e, e2]
  generalize s.toNat / 2 ^ (15 - (k + 1)) = q at *
  have h3 : q < 32768 := by omega
  by_cases h : q % 2 = 1
  · rw [show decide (q % 2 = 1) = true by simpa using h]
    rw [show IntKind.wrap .u32 (((if true = true then 1 else 0 : UInt8)).toNat : Int) = 1 from rfl]
    rw [show (2 * ((q / 2 : Nat) : Int)) = ((2 * (q / 2) : Nat) : Int) by omega, wrap_nat .u32 rfl (by show _ < 4294967296; omega)]
    rw [show (((2 * (q / 2) : Nat) : Int) + 1) = ((2 * (q / 2) + 1 : Nat) : Int) by omega, wrap_nat .u32 rfl (by show _ < 4294967296; omega)]
    omega
  · rw [show decide (q % 2 = 1) = false by simpa using h]
    rw [show IntKind.wrap .u32 (((if false = true then 1 else 0 : UInt8)).toNat : Int) = 0 from rfl]
    rw [show (2 * ((q / 2 : Nat) : Int)) = ((2 * (q / 2) : Nat) : Int) by omega, wrap_nat .u32 rfl (by show _ < 4294967296; omega)]
    rw [show (((2 * (q / 2) : Nat) : Int) + 0) = ((2 * (q / 2) : Nat) : Int) by omega, wrap_nat .u32 rfl (by show _ < 4294967296; omega)]
    omega

set_option maxRecDepth 100000 in
set_option maxHeartbeats 2000000 in
theorem refcrc_eff (l : List UInt8) (hw : wellB l = true) : Eff Tryd.prog 16 [.s (strL l)] [] 0 (fun r _ _ => r = U32 (crc l)) := by
  have hl : l.length ≤ 4000 := by unfold wellB at hw; simp only [Bool.and_eq_true, decide_eq_true_eq] at hw; exact hw.1
  have hsz : (strL l).size = l.length := strL_size l
  have cp := refof_eff 50585#64 16 (by decide)
  refine eff_of Tryd.func16 rfl rfl rfl fun cx e hP => ?_
  refine AWP.runL e tab_ok L16 300 rfl (by first | trivial | (simp [in64] <;> omega) | (simp only [in64, true_and, and_true]; omega)) ?_
  refine AWP.loop (ι := Nat × Nat) (fun x => ⟨[(4, .i x.1), (3, .own 0 1 0 (bb (l.take x.1)).length x.2), (0, .s (strL l))], [(0, .row 5 false 1 ((bb (l.take x.1)).map bC) x.2)], 1⟩) (fun x => x.1 ≤ l.length) (fun x => l.length - x.1) (0, 0) (Nat.zero_le _) ?_ ?_
  · intro g
    refine AWP.less e ?_ ?_ ?_ ?_ ?_ (g) <;> (repeat' (first | exact True.intro | (refine And.intro ?_ ?_) | rfl | assumption))
    exact bC_ids _ 1
  rintro ⟨i, C⟩ Φ hi next
  dsimp only at hi next ⊢
  refine AWP.runL e tab_ok L16 300 rfl (by first | trivial | (simp [in64] <;> omega) | (simp only [in64, true_and, and_true]; omega)) ?_
  refine AWP.cond2 rfl (fun hlt => ?_) (fun hlt => ?_)
  · have hlt : i < l.length := by rw [hsz] at hlt; simpa using hlt
    have hb := b_at l i hlt
    have hs := sub48 (well_bits hw i hlt)
    rw [← hb] at hs
    have hbl : (bb (l.take i)).length ≤ 4000 := by unfold bb; simp; omega
    refine AWP.runL e tab_ok L16 300 rfl (by first | trivial | (simp [] <;> omega) | (simp only [in64, true_and, and_true]; omega)) ?_
    refine AWP.append1 bC (bb (l.take i)) (l[i] == 49) e tab_ok rfl rfl rfl rfl rfl rfl rfl rfl rfl rfl rfl rfl ?_ rfl (by show (_ + 1) * 1 ≤ _; omega) (by omega) fun C2 => ?_
    · exact congrArg (fun z => [SV.d (.v (.int .u8 z))]) hs
    have nx := next (i + 1, C2) hlt (by show l.length - (i + 1) < l.length - i; omega)
    dsimp only at nx
    rw [bb_succ hlt] at nx
    clear next
    refine AWP.runL e tab_ok L16 300 rfl (by first | trivial | (simp [in64] <;> omega) | (simp only [in64, true_and, and_true]; omega)) ?_
    refine AWP.lessR e [(0, 2)] ?_ ?_ ?_ ?_ ?_ ?_ (nx) <;> (repeat' (first | exact True.intro | (refine And.intro ?_ ?_) | rfl | assumption))
    exact bC_ids _ 0
  · have hlt : ¬ i < l.length := by rw [hsz] at hlt; simpa using hlt
    obtain rfl : i = l.length := by omega
    rw [List.take_length]
    have hbl : (bb l).length = l.length := by unfold bb; simp
    clear next
    refine AWP.runL e tab_ok L16 300 rfl (by first | trivial | (simp [in64] <;> omega) | (simp only [in64, true_and, and_true]; omega)) ?_
    refine AWP.loop (ι := Nat × Nat) (fun x => ⟨[(5, .i x.1), (3, .own 0 1 0 (bb l ++ List.replicate x.1 false).length x.2)], [(0, .row 5 false 1 ((bb l ++ List.replicate x.1 false).map bC) x.2)], 1⟩) (fun x => x.1 ≤ 15) (fun x => 15 - x.1) (0, C) (Nat.zero_le _) ?_ ?_
    · intro g
      dsimp only at g
      rw [List.replicate_zero, List.append_nil] at g
      refine AWP.less e ?_ ?_ ?_ ?_ ?_ (g) <;> (repeat' (first | exact True.intro | (refine And.intro ?_ ?_) | rfl | assumption))
      exact bC_ids _ 1
    rintro ⟨i, C⟩ Φ hi next
    dsimp only at hi next ⊢
    refine AWP.runL e tab_ok L16 300 rfl (by first | trivial | (simp [in64] <;> omega) | (simp only [in64, true_and, and_true]; omega)) ?_
    refine AWP.cond2 rfl (fun hlt => ?_) (fun hlt => ?_)
    · have hlt : i < 15 := by have := of_decide_eq_true hlt; omega
      have hbl2 : (bb l ++ List.replicate i false).length ≤ 4100 := by simp; omega
      refine AWP.runL e tab_ok L16 300 rfl (by first | trivial | (simp [in64] <;> omega) | (simp only [in64, true_and, and_true]; omega)) ?_
      refine AWP.append1 bC (bb l ++ List.replicate i false) false e tab_ok rfl rfl rfl rfl rfl rfl rfl rfl rfl rfl rfl rfl rfl rfl (by show (_ + 1) * 1 ≤ _; omega) (by omega) fun C2 => ?_
      have nx := next (i + 1, C2) hlt (by show 15 - (i + 1) < 15 - i; omega)
      dsimp only at nx
      rw [rep_snoc, ← List.append_assoc] at nx
      clear next
      refine AWP.runL e tab_ok L16 300 rfl (by first | trivial | (simp [in64] <;> omega) | (simp only [in64, true_and, and_true]; omega)) ?_
      refine AWP.lessR e [(0, 2)] ?_ ?_ ?_ ?_ ?_ ?_ (nx) <;> (repeat' (first | exact True.intro | (refine And.intro ?_ ?_) | rfl | assumption))
      exact bC_ids _ 0
    · have hlt : ¬ i < 15 := by have := of_decide_eq_false hlt; omega
      obtain rfl : i = 15 := by omega
      clear next
      have hBe : bb l ++ List.replicate 15 false = padB l := rfl
      rw [hBe]
      have hB : (padB l).length = l.length + 15 := by unfold padB; simp [hbl]
      have hfin : Crc.run 0#15 ((padB l).take l.length) = Crc.run 0#15 (bb l) := by
        unfold padB
        rw [List.take_append_of_le_length (by omega), List.take_of_length_le (by omega)]
      have hpz : ∀ k, k < 15 → (padB l).getD (l.length + k) false = false := fun k hk => by
        unfold padB
        rw [List.getD_eq_getElem?_getD, List.getElem?_append_right (by omega), List.getElem?_replicate]
        split <;> rfl
      generalize padB l = B at *
      refine AWP.runL e tab_ok L16 300 rfl (by first | trivial | (simp [in64] <;> omega) | (simp only [in64, true_and, and_true]; omega)) ?_
      repeat (
        first
          | (refine AWP.askT rfl ?_; (first | (refine Told.t rfl ?_) | (refine Told.f rfl ?_) | (refine Told.t ?_ ?_; (focus assumption)) | (refine Told.f ?_ ?_; (focus assumption)) | (refine Told.t ?_ ?_; (focus (first | (simp; omega) | (simp [*]; done)); done)) | (refine Told.f ?_ ?_; (focus (first | (simp; omega) | (simp [*]; done)); done))); refine AWP.runL e tab_ok L16 300 rfl (by first | trivial | (simp [in64] <;> omega) | (simp only [in64, true_and, and_true]; omega)) ?_)
          | (refine AWP.callQ e rfl rfl ?_; (first | refine CallQ.mk (cp) rfl rfl ?_); refine AWP.runL e tab_ok L16 300 rfl (by first | trivial | (simp [in64] <;> omega) | (simp only [in64, true_and, and_true]; omega)) ?_)
          | (refine AWP.eq_agg e tab_ok rfl rfl rfl (.inl ⟨rfl, rfl⟩) ?_ 5 (by omega) rfl ?_ rfl rfl rfl rfl rfl rfl rfl ?_; (focus kernel_rfl); (focus kernel_rfl); refine AWP.runL e tab_ok L16 300 rfl (by first | trivial | (simp [in64] <;> omega) | (simp only [in64, true_and, and_true]; omega)) ?_)
          | (refine AWP.eq_agg e tab_ok rfl rfl rfl (.inr ⟨rfl, rfl⟩) ?_ 5 (by omega) rfl ?_ rfl rfl rfl rfl rfl rfl rfl ?_; (focus kernel_rfl); (focus kernel_rfl); refine AWP.runL e tab_ok L16 300 rfl (by first | trivial | (simp [in64] <;> omega) | (simp only [in64, true_and, and_true]; omega)) ?_)
        )
      rw [hB]
      refine AWP.loop (ι := Nat) (fun i => ⟨[(7, .i i), (6, .s (strL (bitsOf 50585#64 16))), (3, .own 0 1 0 (l.length + 15) C)], [(0, .row 5 false 1 ((rowD B i).map bC) C)], 1⟩) (fun i => i ≤ l.length) (fun i => l.length - i) 0 (Nat.zero_le _) ?_ ?_
      · intro g
        rw [rowD_0] at g
        refine AWP.less e ?_ ?_ ?_ ?_ ?_ (g) <;> (repeat' (first | exact True.intro | (refine And.intro ?_ ?_) | rfl | assumption))
        exact bC_ids _ 1
      rintro i Φ hi next
      have hi : i ≤ l.length := hi
      refine AWP.runL e tab_ok L16 300 rfl (by first | trivial | (simp [in64] <;> omega) | (simp only [in64, true_and, and_true]; omega)) ?_
      refine AWP.cond2 rfl (fun hlt => ?_) (fun hlt => ?_)
      · have hlt : i < l.length := by have := of_decide_eq_true hlt; omega
        have nx := next (i + 1) hlt (by show l.length - (i + 1) < l.length - i; omega)
        clear next
        have hat : ((rowD B i).map bC)[i]? = some (bC (dv B i i)) := by rw [List.getElem?_map, rowD_at B i (by omega)]; rfl
        refine AWP.runL e tab_ok L16 300 rfl (by first | trivial | (simp [in64] <;> omega) | (simp only [in64, true_and, and_true]; omega)) ?_
        refine AWP.idx_own e tab_ok rfl rfl rfl rfl i rfl (by omega) ?_
        refine AWP.load_el e tab_ok rfl rfl rfl rfl (by rw [Nat.zero_add]; exact hat) rfl ?_
        have ht := one_b (dv B i i)
        rcases cases_b (dv B i i) with hd | hd <;> rw [hd] at ht
        · rw [← rowD_yes B (by omega) hd] at nx
          rw [hd]
          refine AWP.runL e tab_ok L16 300 rfl (by first | trivial | (simp [in64] <;> omega) | (simp only [in64, true_and, and_true]; omega)) ?_
          repeat (
            first
              | (refine AWP.askT rfl ?_; (first | (refine Told.t rfl ?_) | (refine Told.f rfl ?_) | (refine Told.t ?_ ?_; (focus assumption)) | (refine Told.f ?_ ?_; (focus assumption)) | (refine Told.t ?_ ?_; (focus (first | (simp; omega) | (simp [*]; done)); done)) | (refine Told.f ?_ ?_; (focus (first | (simp; omega) | (simp [*]; done)); done))); refine AWP.runL e tab_ok L16 300 rfl (by first | trivial | (simp [in64] <;> omega) | (simp only [in64, true_and, and_true]; omega)) ?_)
              | (refine AWP.eq_agg e tab_ok rfl rfl rfl (.inl ⟨rfl, rfl⟩) ?_ 5 (by omega) rfl ?_ rfl rfl rfl rfl rfl rfl rfl ?_; (focus kernel_rfl); (focus kernel_rfl); refine AWP.runL e tab_ok L16 300 rfl (by first | trivial | (simp [in64] <;> omega) | (simp only [in64, true_and, and_true]; omega)) ?_)
              | (refine AWP.eq_agg e tab_ok rfl rfl rfl (.inr ⟨rfl, rfl⟩) ?_ 5 (by omega) rfl ?_ rfl rfl rfl rfl rfl rfl rfl ?_; (focus kernel_rfl); (focus kernel_rfl); refine AWP.runL e tab_ok L16 300 rfl (by first | trivial | (simp [in64] <;> omega) | (simp only [in64, true_and, and_true]; omega)) ?_)
            )
          refine AWP.loop (ι := Nat) (fun k => ⟨[(8, .i k), (7, .i i), (6, .s (strL (bitsOf 50585#64 16))), (3, .own 0 1 0 (l.length + 15) C)], [(0, .row 5 false 1 ((rowE B i k).map bC) C)], 1⟩) (fun k => k ≤ 16) (fun k => 16 - k) 0 (Nat.zero_le _) ?_ ?_
          · intro g
            rw [rowE_0] at g
            refine AWP.less e ?_ ?_ ?_ ?_ ?_ (g) <;> (repeat' (first | exact True.intro | (refine And.intro ?_ ?_) | rfl | assumption))
            exact bC_ids _ 1
          rintro k Ψ hk nxt
          have hk : k ≤ 16 := hk
          refine AWP.runL e tab_ok L16 300 rfl (by first | trivial | (simp [in64] <;> omega) | (simp only [in64, true_and, and_true]; omega)) ?_
          refine AWP.cond2 rfl (fun hkl => ?_) (fun hkl => ?_)
          · have hkl : k < 16 := by have := of_decide_eq_true hkl; omega
            have nxt := nxt (k + 1) hkl (by show 16 - (k + 1) < 16 - k; omega)
            rw [← rowE_set B i (by omega)] at nxt
            have hel : ((rowE B i k).map bC)[i + k]? = some (bC (dv B i (i + k))) := by
              rw [List.getElem?_map, rowE_at B i k (by omega), dv_at B i k hkl (by omega)]; rfl
            have hp := p_at k hkl
            have hzp : (strL (bitsOf 50585#64 16)).size = 16 := by rw [strL_size, bitsOf_len]
            have hid0 := bC_ids (rowE B i k) 0
            have hid1 := bC_ids ((rowE B i k).set (i + k) (dv B i (i + k) ^^ pP k)) 0
            rw [List.map_set] at hid1
            refine AWP.runL e tab_ok L16 300 rfl (by first | trivial | (simp [in64] <;> omega) | (simp only [in64, true_and, and_true]; omega)) ?_
            refine AWP.keep L16 rfl ?_
            refine AWP.drg 9 ?_
            (refine DrG.runS e tab_ok 200 rfl (by first | trivial | (simp [in64] <;> omega) | (simp only [in64, true_and, and_true]; omega)) ?_)
            repeat (
              first
                | (refine DrG.askT rfl ?_; (first | (refine Told.t rfl ?_) | (refine Told.f rfl ?_) | (refine Told.t ?_ ?_; (focus assumption)) | (refine Told.f ?_ ?_; (focus assumption)) | (refine Told.t ?_ ?_; (focus (first | (simp; omega) | (simp [*]; done)); done)) | (refine Told.f ?_ ?_; (focus (first | (simp; omega) | (simp [*]; done)); done))); (refine DrG.runS e tab_ok 200 rfl (by first | trivial | (simp [in64] <;> omega) | (simp only [in64, true_and, and_true]; omega)) ?_))
                | (refine DrG.eq_agg e tab_ok rfl rfl rfl (.inl ⟨rfl, rfl⟩) ?_ 5 (by omega) rfl ?_ rfl rfl rfl rfl rfl rfl rfl ?_; (focus kernel_rfl); (focus kernel_rfl); (refine DrG.runS e tab_ok 200 rfl (by first | trivial | (simp [in64] <;> omega) | (simp only [in64, true_and, and_true]; omega)) ?_))
                | (refine DrG.eq_aggGo e tab_ok rfl rfl rfl rfl (.inl ⟨rfl, rfl⟩) ?_ 5 (by omega) rfl ?_ rfl rfl rfl rfl rfl rfl rfl ?_; (focus kernel_rfl); (focus kernel_rfl); (refine DrG.runS e tab_ok 200 rfl (by first | trivial | (simp [in64] <;> omega) | (simp only [in64, true_and, and_true]; omega)) ?_))
                | (refine DrG.eq_agg e tab_ok rfl rfl rfl (.inr ⟨rfl, rfl⟩) ?_ 5 (by omega) rfl ?_ rfl rfl rfl rfl rfl rfl rfl ?_; (focus kernel_rfl); (focus kernel_rfl); (refine DrG.runS e tab_ok 200 rfl (by first | trivial | (simp [in64] <;> omega) | (simp only [in64, true_and, and_true]; omega)) ?_))
                | (refine DrG.eq_aggGo e tab_ok rfl rfl rfl rfl (.inr ⟨rfl, rfl⟩) ?_ 5 (by omega) rfl ?_ rfl rfl rfl rfl rfl rfl rfl ?_; (focus kernel_rfl); (focus kernel_rfl); (refine DrG.runS e tab_ok 200 rfl (by first | trivial | (simp [in64] <;> omega) | (simp only [in64, true_and, and_true]; omega)) ?_))
              )
            refine DrG.idx_own (i + k) e tab_ok rfl rfl rfl rfl (by omega) (by omega) rfl ?_
            refine DrG.load_el (U (if dv B i (i + k) then 1 else 0)) e tab_ok rfl rfl rfl rfl (by rw [Nat.zero_add]; exact hel) rfl rfl ?_
            (refine DrG.runS e tab_ok 200 rfl (by first | trivial | (simp [] <;> omega) | (simp only [in64, true_and, and_true]; omega)) ?_)
            repeat (
              first
                | (refine DrG.askT rfl ?_; (first | (refine Told.t rfl ?_) | (refine Told.f rfl ?_) | (refine Told.t ?_ ?_; (focus assumption)) | (refine Told.f ?_ ?_; (focus assumption)) | (refine Told.t ?_ ?_; (focus (first | (simp; omega) | (simp [*]; done)); done)) | (refine Told.f ?_ ?_; (focus (first | (simp; omega) | (simp [*]; done)); done))); (refine DrG.runS e tab_ok 200 rfl (by first | trivial | (simp [in64] <;> omega) | (simp only [in64, true_and, and_true]; omega)) ?_))
                | (refine DrG.eq_agg e tab_ok rfl rfl rfl (.inl ⟨rfl, rfl⟩) ?_ 5 (by omega) rfl ?_ rfl rfl rfl rfl rfl rfl rfl ?_; (focus kernel_rfl); (focus kernel_rfl); (refine DrG.runS e tab_ok 200 rfl (by first | trivial | (simp [in64] <;> omega) | (simp only [in64, true_and, and_true]; omega)) ?_))
                | (refine DrG.eq_aggGo e tab_ok rfl rfl rfl rfl (.inl ⟨rfl, rfl⟩) ?_ 5 (by omega) rfl ?_ rfl rfl rfl rfl rfl rfl rfl ?_; (focus kernel_rfl); (focus kernel_rfl); (refine DrG.runS e tab_ok 200 rfl (by first | trivial | (simp [in64] <;> omega) | (simp only [in64, true_and, and_true]; omega)) ?_))
                | (refine DrG.eq_agg e tab_ok rfl rfl rfl (.inr ⟨rfl, rfl⟩) ?_ 5 (by omega) rfl ?_ rfl rfl rfl rfl rfl rfl rfl ?_; (focus kernel_rfl); (focus kernel_rfl); (refine DrG.runS e tab_ok 200 rfl (by first | trivial | (simp [in64] <;> omega) | (simp only [in64, true_and, and_true]; omega)) ?_))
                | (refine DrG.eq_aggGo e tab_ok rfl rfl rfl rfl (.inr ⟨rfl, rfl⟩) ?_ 5 (by omega) rfl ?_ rfl rfl rfl rfl rfl rfl rfl ?_; (focus kernel_rfl); (focus kernel_rfl); (refine DrG.runS e tab_ok 200 rfl (by first | trivial | (simp [in64] <;> omega) | (simp only [in64, true_and, and_true]; omega)) ?_))
              )
            refine DrG.eqV (x' := U (if (dv B i (i + k) ^^ pP k) then 1 else 0)) ?_ ?_
            · exact congrArg (fun z => SV.d (.v (.int .u8 z))) ((congrArg (fun z => IntKind.wrap .u8 (((BitVec.ofInt IntKind.u8.bits (((if dv B i (i + k) then 1 else 0 : UInt8)).toNat : Int) ^^^ BitVec.ofInt IntKind.u8.bits z).toNat : Nat) : Int)) hp).trans (xor_b _ _))
            refine DrG.idx_own (i + k) e tab_ok rfl rfl rfl rfl (by omega) (by omega) rfl ?_
            refine DrG.store_el e tab_ok rfl rfl rfl rfl rfl (by rw [Nat.zero_add]; exact hel) rfl rfl rfl rfl (by rw [Nat.zero_add]; exact hid1) rfl ?_
            refine DrG.finK e rfl ?_ rfl rfl rfl ?_ ?_
            (focus kernel_rfl)
            (focus (repeat' (first | exact True.intro | (refine And.intro ?_ ?_) | rfl | assumption | exact okRow _)))
            dsimp only [tmS, hpS, tput, effH]
            refine AWP.runL e tab_ok L16 300 rfl (by first | trivial | (simp [in64] <;> omega) | (simp only [in64, true_and, and_true]; omega)) ?_
            refine AWP.less e ?_ ?_ ?_ ?_ ?_ (nxt) <;> (repeat' (first | exact True.intro | (refine And.intro ?_ ?_) | rfl | assumption))
            · rw [Nat.zero_add, List.map_set]
              rfl
            · exact bC_ids _ 1
          · have hkl : ¬ k < 16 := by have := of_decide_eq_false hkl; omega
            obtain rfl : k = 16 := by omega
            refine AWP.runL e tab_ok L16 300 rfl (by first | trivial | (simp [in64] <;> omega) | (simp only [in64, true_and, and_true]; omega)) ?_
            refine AWP.less e ?_ ?_ ?_ ?_ ?_ (nx) <;> (repeat' (first | exact True.intro | (refine And.intro ?_ ?_) | rfl | assumption))
            exact bC_ids _ 1
        · rw [← rowD_no B (by omega) hd] at nx
          rw [hd]
          refine AWP.runL e tab_ok L16 300 rfl (by first | trivial | (simp [in64] <;> omega) | (simp only [in64, true_and, and_true]; omega)) ?_
          repeat (
            first
              | (refine AWP.askT rfl ?_; (first | (refine Told.t rfl ?_) | (refine Told.f rfl ?_) | (refine Told.t ?_ ?_; (focus assumption)) | (refine Told.f ?_ ?_; (focus assumption)) | (refine Told.t ?_ ?_; (focus (first | (simp; omega) | (simp [*]; done)); done)) | (refine Told.f ?_ ?_; (focus (first | (simp; omega) | (simp [*]; done)); done))); refine AWP.runL e tab_ok L16 300 rfl (by first | trivial | (simp [in64] <;> omega) | (simp only [in64, true_and, and_true]; omega)) ?_)
              | (refine AWP.eq_agg e tab_ok rfl rfl rfl (.inl ⟨rfl, rfl⟩) ?_ 5 (by omega) rfl ?_ rfl rfl rfl rfl rfl rfl rfl ?_; (focus kernel_rfl); (focus kernel_rfl); refine AWP.runL e tab_ok L16 300 rfl (by first | trivial | (simp [in64] <;> omega) | (simp only [in64, true_and, and_true]; omega)) ?_)
              | (refine AWP.eq_agg e tab_ok rfl rfl rfl (.inr ⟨rfl, rfl⟩) ?_ 5 (by omega) rfl ?_ rfl rfl rfl rfl rfl rfl rfl ?_; (focus kernel_rfl); (focus kernel_rfl); refine AWP.runL e tab_ok L16 300 rfl (by first | trivial | (simp [in64] <;> omega) | (simp only [in64, true_and, and_true]; omega)) ?_)
            )
          refine AWP.less e ?_ ?_ ?_ ?_ ?_ (nx) <;> (repeat' (first | exact True.intro | (refine And.intro ?_ ?_) | rfl | assumption))
          exact bC_ids _ 1
      · have hlt : ¬ i < l.length := by have := of_decide_eq_false hlt; omega
        obtain rfl : i = l.length := by omega
        clear next
        have hN : (((l.length + 15 : Nat) : Int) - 15) = (l.length : Int) := by omega
        have hel : ∀ k, k < 15 → ((rowD B l.length).map bC)[l.length + k]? = some (bC ((Crc.run 0#15 (bb l)).getLsbD (14 - k))) := fun k hk => by
          rw [List.getElem?_map, rowD_at B l.length (by omega), dv_mid (by omega) (by omega), hpz k hk, hfin, Nat.add_sub_cancel_left, Bool.false_xor]; rfl
        unfold crc at hP
        generalize Crc.run 0#15 (bb l) = s at *
        refine AWP.runL e tab_ok L16 300 rfl (by first | trivial | (simp [in64] <;> omega) | (simp only [in64, true_and, and_true]; omega)) ?_
        refine AWP.eqT 10 (.i ((l.length + 0 : Nat) : Int)) rfl (congrArg SV.i hN) ?_
        refine AWP.loop (ι := Nat) (fun k => ⟨[(10, .i ((l.length + k : Nat) : Int)), (9, .d (.v (.int .u32 ((s.toNat / 2 ^ (15 - k) : Nat) : Int)))), (3, .own 0 1 0 (l.length + 15) C)], [(0, .row 5 false 1 ((rowD B l.length).map bC) C)], 1⟩) (fun k => k ≤ 15) (fun k => 15 - k) 0 (Nat.zero_le _) ?_ ?_
        · intro g
          have h0 : s.toNat / 2 ^ (15 - 0) = 0 := Nat.div_eq_of_lt s.isLt
          rw [h0] at g
          refine AWP.less e ?_ ?_ ?_ ?_ ?_ (g) <;> (repeat' (first | exact True.intro | (refine And.intro ?_ ?_) | rfl | assumption))
          exact bC_ids _ 1
        rintro k Ψ hk nxt
        have hk : k ≤ 15 := hk
        refine AWP.runL e tab_ok L16 300 rfl (by first | trivial | (simp [in64] <;> omega) | (simp only [in64, true_and, and_true]; omega)) ?_
        refine AWP.cond2 rfl (fun hkl => ?_) (fun hkl => ?_)
        · have hkl : k < 15 := by have := of_decide_eq_true hkl; omega
          have nxt := nxt (k + 1) hkl (by show 15 - (k + 1) < 15 - k; omega)
          rw [← num_b s hkl] at nxt
          refine AWP.runL e tab_ok L16 300 rfl (by first | trivial | (simp [in64] <;> omega) | (simp only [in64, true_and, and_true]; omega)) ?_
          refine AWP.idx_own e tab_ok rfl rfl rfl rfl (l.length + k) rfl (by omega) ?_
          refine AWP.load_el e tab_ok rfl rfl rfl rfl (by rw [Nat.zero_add]; exact hel k hkl) rfl ?_
          refine AWP.runL e tab_ok L16 300 rfl (by first | trivial | (simp [in64] <;> omega) | (simp only [in64, true_and, and_true]; omega)) ?_
          refine AWP.less e ?_ ?_ ?_ ?_ ?_ (nxt) <;> (repeat' (first | exact True.intro | (refine And.intro ?_ ?_) | rfl | assumption))
          exact bC_ids _ 1
        · have hkl : ¬ k < 15 := by have := of_decide_eq_false hkl; omega
          obtain rfl : k = 15 := by omega
          have h1 : ((s.toNat / 2 ^ (15 - 15) : Nat) : Int) = ((sw s).toNat : Int) := by
            unfold sw
            rw [BitVec.toNat_setWidth, Nat.mod_eq_of_lt (by have := s.isLt; omega)]
            simp
          rw [h1]
          refine AWP.runL e tab_ok L16 300 rfl (by first | trivial | (simp [in64] <;> omega) | (simp only [in64, true_and, and_true]; omega)) ?_
          refine AWP.ret e tab_ok rfl ?_
          rw [hP]
          all_goals first | rfl | (simp [strip]; done)
end Go.Proofs.YtldbeeiabgmfhaaDoor
