import Derived.Test.YtldbeeiabgmfhaaDoorF6
open Go Go.Proofs Go.Sy
namespace Go.Proofs.YtldbeeiabgmfhaaDoor

/-- Turned where the other one has a 1. -/
def xorL (a b : List UInt8) : List UInt8 := List.zipWith (fun x y => if x == y then 48 else 49) a b
theorem xorL_len (a b : List UInt8) (h : a.length = b.length) : (xorL a b).length = a.length := by unfold xorL; simp [h]
theorem xorL_succ {a b : List UInt8} {i : Nat} (h1 : i < a.length) (h2 : i < b.length) : xorL (a.take (i + 1)) (b.take (i + 1)) = xorL (a.take i) (b.take i) ++ [if a[i] == b[i] then 48 else 49] := by
  unfold xorL
  rw [List.take_succ_eq_append_getElem h1, List.take_succ_eq_append_getElem h2, List.zipWith_append (by simp; omega)]
  rfl
set_option maxRecDepth 100000 in
theorem xor_eff (a b : List UInt8) (h : a.length = b.length) (hl : a.length ≤ 4000) : Eff Tryd.prog 11 [.s (strL a), .s (strL b)] [] 0 (fun r _ _ => r = .s (strL (xorL a b))) := by
  have hsz : (strL a).size = a.length := strL_size a
  have hsb : (strL b).size = a.length := by rw [strL_size]; exact h.symm
  refine eff_of Tryd.func11 rfl rfl rfl fun cx e hP => ?_
  refine AWP.runL e tab_ok L11 300 rfl (by first | trivial | (simp [in64] <;> omega) | (simp only [in64, true_and, and_true]; omega)) ?_
  refine AWP.loop (ι := Nat) (fun i => ⟨[(6, .i i), (5, .s (strL (xorL (a.take i) (b.take i)))), (0, .s (strL a)), (1, .s (strL b))], [], 0⟩) (fun i => i ≤ a.length) (fun i => a.length - i) 0 (Nat.zero_le _) ?_ ?_
  · intro g
    refine AWP.less e ?_ ?_ ?_ ?_ ?_ (g) <;> (repeat' (first | exact True.intro | (refine And.intro ?_ ?_) | rfl | assumption))
  rintro i Φ hi next
  have hi : i ≤ a.length := hi
  refine AWP.runL e tab_ok L11 300 rfl (by first | trivial | (simp [in64] <;> omega) | (simp only [in64, true_and, and_true]; omega)) ?_
  refine AWP.cond2 rfl (fun hlt => ?_) (fun hlt => ?_)
  · have hlt : i < a.length := by have := of_decide_eq_true hlt; omega
    have nx := next (i + 1) hlt (by show a.length - (i + 1) < a.length - i; omega)
    rw [xorL_succ hlt (by omega)] at nx
    have h1 : (byteAt (strL a) i == byteAt (strL b) i) = (a[i] == b[i]) := by rw [b_at a i hlt, b_at b i (by omega)]; exact u_eq _ _
    have hz : (strL (xorL (a.take i) (b.take i))).size = i := by rw [strL_size, xorL_len _ _ (by simp; omega), List.length_take]; omega
    have hz1 : (ByteArray.mk #[49]).size = 1 := rfl
    have hz0 : (ByteArray.mk #[48]).size = 1 := rfl
    clear next
    generalize xorL (a.take i) (b.take i) = X at *
    rcases cases_b (a[i] == b[i]) with g | g <;> rw [g] at h1 nx
    · refine AWP.runL e tab_ok L11 300 rfl (by first | trivial | (simp [in64] <;> omega) | (simp only [in64, true_and, and_true]; omega)) ?_
      repeat (
        first
          | (refine AWP.askT rfl ?_; (first | (refine Told.t rfl ?_) | (refine Told.f rfl ?_) | (refine Told.t ?_ ?_; (focus assumption)) | (refine Told.f ?_ ?_; (focus assumption)) | (refine Told.t ?_ ?_; (focus (first | (simp; omega) | (simp [*]; done)); done)) | (refine Told.f ?_ ?_; (focus (first | (simp; omega) | (simp [*]; done)); done))); refine AWP.runL e tab_ok L11 300 rfl (by first | trivial | (simp [in64] <;> omega) | (simp only [in64, true_and, and_true]; omega)) ?_)
          | (refine AWP.eq_agg e tab_ok rfl rfl rfl (.inl ⟨rfl, rfl⟩) ?_ 5 (by omega) rfl ?_ rfl rfl rfl rfl rfl rfl rfl ?_; (focus kernel_rfl); (focus kernel_rfl); refine AWP.runL e tab_ok L11 300 rfl (by first | trivial | (simp [in64] <;> omega) | (simp only [in64, true_and, and_true]; omega)) ?_)
          | (refine AWP.eq_agg e tab_ok rfl rfl rfl (.inr ⟨rfl, rfl⟩) ?_ 5 (by omega) rfl ?_ rfl rfl rfl rfl rfl rfl rfl ?_; (focus kernel_rfl); (focus kernel_rfl); refine AWP.runL e tab_ok L11 300 rfl (by first | trivial | (simp [in64] <;> omega) | (simp only [in64, true_and, and_true]; omega)) ?_)
          | (refine AWP.keep L11 rfl ?_; refine AWP.drg 100 ?_; (refine DrG.runS e tab_ok 200 rfl (by first | trivial | (simp [] <;> omega) | (simp only [in64, true_and, and_true]; omega)) ?_); (repeat (first | (refine DrG.askT rfl ?_; (first | (refine Told.t rfl ?_) | (refine Told.f rfl ?_) | (refine Told.t ?_ ?_; (focus assumption)) | (refine Told.f ?_ ?_; (focus assumption)) | (refine Told.t ?_ ?_; (focus (first | (simp; omega) | (simp [*]; done)); done)) | (refine Told.f ?_ ?_; (focus (first | (simp; omega) | (simp [*]; done)); done))); (refine DrG.runS e tab_ok 200 rfl (by first | trivial | (simp [in64] <;> omega) | (simp only [in64, true_and, and_true]; omega)) ?_)) | (refine DrG.eq_agg e tab_ok rfl rfl rfl (.inl ⟨rfl, rfl⟩) ?_ 5 (by omega) rfl ?_ rfl rfl rfl rfl rfl rfl rfl ?_; (focus kernel_rfl); (focus kernel_rfl); (refine DrG.runS e tab_ok 200 rfl (by first | trivial | (simp [in64] <;> omega) | (simp only [in64, true_and, and_true]; omega)) ?_)) | (refine DrG.eq_aggGo e tab_ok rfl rfl rfl rfl (.inl ⟨rfl, rfl⟩) ?_ 5 (by omega) rfl ?_ rfl rfl rfl rfl rfl rfl rfl ?_; (focus kernel_rfl); (focus kernel_rfl); (refine DrG.runS e tab_ok 200 rfl (by first | trivial | (simp [in64] <;> omega) | (simp only [in64, true_and, and_true]; omega)) ?_)) | (refine DrG.eq_agg e tab_ok rfl rfl rfl (.inr ⟨rfl, rfl⟩) ?_ 5 (by omega) rfl ?_ rfl rfl rfl rfl rfl rfl rfl ?_; (focus kernel_rfl); (focus kernel_rfl); (refine DrG.runS e tab_ok 200 rfl (by first | trivial | (simp [in64] <;> omega) | (simp only [in64, true_and, and_true]; omega)) ?_)) | (refine DrG.eq_aggGo e tab_ok rfl rfl rfl rfl (.inr ⟨rfl, rfl⟩) ?_ 5 (by omega) rfl ?_ rfl rfl rfl rfl rfl rfl rfl ?_; (focus kernel_rfl); (focus kernel_rfl); (refine DrG.runS e tab_ok 200 rfl (by first | trivial | (simp [in64] <;> omega) | (simp only [in64, true_and, and_true]; omega)) ?_)))); refine DrG.finK e rfl ?_ rfl rfl rfl ?_ ?_; (focus kernel_rfl); (focus (repeat' (first | exact True.intro | (refine And.intro ?_ ?_) | rfl | assumption | exact okRow _))); dsimp only [tmS, hpS, tput, effH]; refine AWP.runL e tab_ok L11 300 rfl (by first | trivial | (simp [in64] <;> omega) | (simp only [in64, true_and, and_true]; omega)) ?_)
        )
      refine AWP.less e ?_ ?_ ?_ ?_ ?_ (nx) <;> (repeat' (first | exact True.intro | (refine And.intro ?_ ?_) | rfl | assumption))
    · refine AWP.runL e tab_ok L11 300 rfl (by first | trivial | (simp [in64] <;> omega) | (simp only [in64, true_and, and_true]; omega)) ?_
      repeat (
        first
          | (refine AWP.askT rfl ?_; (first | (refine Told.t rfl ?_) | (refine Told.f rfl ?_) | (refine Told.t ?_ ?_; (focus assumption)) | (refine Told.f ?_ ?_; (focus assumption)) | (refine Told.t ?_ ?_; (focus (first | (simp; omega) | (simp [*]; done)); done)) | (refine Told.f ?_ ?_; (focus (first | (simp; omega) | (simp [*]; done)); done))); refine AWP.runL e tab_ok L11 300 rfl (by first | trivial | (simp [in64] <;> omega) | (simp only [in64, true_and, and_true]; omega)) ?_)
          | (refine AWP.eq_agg e tab_ok rfl rfl rfl (.inl ⟨rfl, rfl⟩) ?_ 5 (by omega) rfl ?_ rfl rfl rfl rfl rfl rfl rfl ?_; (focus kernel_rfl); (focus kernel_rfl); refine AWP.runL e tab_ok L11 300 rfl (by first | trivial | (simp [in64] <;> omega) | (simp only [in64, true_and, and_true]; omega)) ?_)
          | (refine AWP.eq_agg e tab_ok rfl rfl rfl (.inr ⟨rfl, rfl⟩) ?_ 5 (by omega) rfl ?_ rfl rfl rfl rfl rfl rfl rfl ?_; (focus kernel_rfl); (focus kernel_rfl); refine AWP.runL e tab_ok L11 300 rfl (by first | trivial | (simp [in64] <;> omega) | (simp only [in64, true_and, and_true]; omega)) ?_)
          | (refine AWP.keep L11 rfl ?_; refine AWP.drg 100 ?_; (refine DrG.runS e tab_ok 200 rfl (by first | trivial | (simp [] <;> omega) | (simp only [in64, true_and, and_true]; omega)) ?_); (repeat (first | (refine DrG.askT rfl ?_; (first | (refine Told.t rfl ?_) | (refine Told.f rfl ?_) | (refine Told.t ?_ ?_; (focus assumption)) | (refine Told.f ?_ ?_; (focus assumption)) | (refine Told.t ?_ ?_; (focus (first | (simp; omega) | (simp [*]; done)); done)) | (refine Told.f ?_ ?_; (focus (first | (simp; omega) | (simp [*]; done)); done))); (refine DrG.runS e tab_ok 200 rfl (by first | trivial | (simp [in64] <;> omega) | (simp only [in64, true_and, and_true]; omega)) ?_)) | (refine DrG.eq_agg e tab_ok rfl rfl rfl (.inl ⟨rfl, rfl⟩) ?_ 5 (by omega) rfl ?_ rfl rfl rfl rfl rfl rfl rfl ?_; (focus kernel_rfl); (focus kernel_rfl); (refine DrG.runS e tab_ok 200 rfl (by first | trivial | (simp [in64] <;> omega) | (simp only [in64, true_and, and_true]; omega)) ?_)) | (refine DrG.eq_aggGo e tab_ok rfl rfl rfl rfl (.inl ⟨rfl, rfl⟩) ?_ 5 (by omega) rfl ?_ rfl rfl rfl rfl rfl rfl rfl ?_; (focus kernel_rfl); (focus kernel_rfl); (refine DrG.runS e tab_ok 200 rfl (by first | trivial | (simp [in64] <;> omega) | (simp only [in64, true_and, and_true]; omega)) ?_)) | (refine DrG.eq_agg e tab_ok rfl rfl rfl (.inr ⟨rfl, rfl⟩) ?_ 5 (by omega) rfl ?_ rfl rfl rfl rfl rfl rfl rfl ?_; (focus kernel_rfl); (focus kernel_rfl); (refine DrG.runS e tab_ok 200 rfl (by first | trivial | (simp [in64] <;> omega) | (simp only [in64, true_and, and_true]; omega)) ?_)) | (refine DrG.eq_aggGo e tab_ok rfl rfl rfl rfl (.inr ⟨rfl, rfl⟩) ?_ 5 (by omega) rfl ?_ rfl rfl rfl rfl rfl rfl rfl ?_; (focus kernel_rfl); (focus kernel_rfl); (refine DrG.runS e tab_ok 200 rfl (by first | trivial | (simp [in64] <;> omega) | (simp only [in64, true_and, and_true]; omega)) ?_)))); refine DrG.finK e rfl ?_ rfl rfl rfl ?_ ?_; (focus kernel_rfl); (focus (repeat' (first | exact True.intro | (refine And.intro ?_ ?_) | rfl | assumption | exact okRow _))); dsimp only [tmS, hpS, tput, effH]; refine AWP.runL e tab_ok L11 300 rfl (by first | trivial | (simp [in64] <;> omega) | (simp only [in64, true_and, and_true]; omega)) ?_)
        )
      refine AWP.less e ?_ ?_ ?_ ?_ ?_ (nx) <;> (repeat' (first | exact True.intro | (refine And.intro ?_ ?_) | rfl | assumption))
  · have hlt : ¬ i < a.length := by have := of_decide_eq_false hlt; omega
    obtain rfl : i = a.length := by omega
    have e1 : xorL (a.take a.length) (b.take a.length) = xorL a b := by rw [List.take_length, h, List.take_length]
    rw [e1]
    refine AWP.runL e tab_ok L11 300 rfl (by first | trivial | (simp [in64] <;> omega) | (simp only [in64, true_and, and_true]; omega)) ?_
    refine AWP.ret e tab_ok rfl ?_
    rw [hP]
    all_goals first | rfl | (simp [strip]; done)
theorem bb_xor : ∀ (a b : List UInt8), (∀ c ∈ a, bit c = true) → (∀ c ∈ b, bit c = true) → bb (xorL a b) = List.zipWith xor (bb a) (bb b)
  | [], b, _, _ => by simp [bb, xorL]
  | a :: l, [], _, _ => by simp [bb, xorL]
  | a :: l, b :: m, ha, hb => by
    have ih := bb_xor l m (fun c hc => ha c (by simp [hc])) (fun c hc => hb c (by simp [hc]))
    show ((if a == b then (48 : UInt8) else 49) == 49) :: bb (xorL l m) = (((a == 49) ^^ (b == 49)) :: List.zipWith xor (bb l) (bb m))
    rw [ih]
    congr 1
    rcases bit_or (ha a (by simp)) with rfl | rfl <;> rcases bit_or (hb b (by simp)) with rfl | rfl <;> rfl
theorem sw_xor (x y : BitVec 15) : sw (x ^^^ y) = sw x ^^^ sw y := BitVec.setWidth_xor
theorem bb_len (a : List UInt8) : (bb a).length = a.length := by simp [bb]
theorem crc_xor (a b : List UInt8) (h : a.length = b.length) (ha : ∀ c ∈ a, bit c = true) (hb : ∀ c ∈ b, bit c = true) : crc (xorL a b) = crc a ^^^ crc b := by
  unfold crc
  rw [bb_xor a b ha hb, ← sw_xor, ← Crc.run_lin _ _ _ _ (by rw [bb_len, bb_len, h])]
  simp
theorem crc_ahead (n : Nat) (a : List UInt8) : crc (List.replicate n 48 ++ a) = crc a := by
  unfold crc bb
  rw [List.map_append, Crc.run_app, List.map_replicate, show ((48 : UInt8) == 49) = false from rfl, Crc.run_zeros]
theorem crc_lt (a : List UInt8) : ((crc a).toNat : Int) < 32768 := by
  unfold crc sw
  rw [BitVec.toNat_setWidth]
  have := (Crc.run 0#15 (bb a)).isLt
  rw [Nat.mod_eq_of_lt (by omega)]
  omega
theorem well_all {s : List UInt8} (h : wellB s = true) : ∀ b ∈ s, bit b = true := by
  unfold wellB at h; simp only [Bool.and_eq_true] at h; exact List.all_eq_true.1 h.2
theorem well_of {l : List UInt8} (h : l.length ≤ 4000) (hb : ∀ b ∈ l, bit b = true) : wellB l = true := by
  unfold wellB
  simp only [Bool.and_eq_true, decide_eq_true_eq]
  exact ⟨h, List.all_eq_true.2 hb⟩
theorem xorL_bits : ∀ (a b : List UInt8), ∀ c ∈ xorL a b, bit c = true
  | [], b, c, h => by simp [xorL] at h
  | x :: a, [], c, h => by simp [xorL] at h
  | x :: a, y :: b, c, h => by
    have h : c ∈ (if x == y then (48 : UInt8) else 49) :: xorL a b := h
    simp only [List.mem_cons] at h
    rcases h with rfl | h
    · split <;> rfl
    · exact xorL_bits a b c h
theorem mz (z : Int) (n : Nat) : ∃ k : Nat, k ≤ n ∧ (if (n : Int) < (if (0 : Int) > z then 0 else z) then (n : Int) else (if (0 : Int) > z then 0 else z)) = k := mm z n
set_option maxRecDepth 100000 in
set_option maxHeartbeats 2000000 in
theorem linear_ok (s t S T a b : List UInt8) (z : Int) (hS : (strL s).extract 0 (if (300 : Int) < ((strL s).size : Int) then (300 : Int) else ((strL s).size : Int)).toNat = strL S) (hT : (strL t).extract 0 (if (300 : Int) < ((strL t).size : Int) then (300 : Int) else ((strL t).size : Int)).toNat = strL T)
    (h0 : (strL S).extract 0 (strL b).size = strL a) (h1 : (strL T).extract 0 (if ((strL T).size : Int) < ((strL S).size : Int) then ((strL T).size : Int) else ((strL S).size : Int)).toNat = strL b) (hab : a.length = b.length) (ha : a.length ≤ 300) :
    Eff Tryd.prog 3 [.s (strL s), .s (strL t), .i z] [] 0 (fun r _ _ => r = .b true) := by
  rw [← h1] at h0
  have w1 := refright_eff a (by omega)
  have w2 := refright_eff b (by omega)
  have al := alive_eff
  rcases cases_b (wellB a) with wa | wa <;> rw [wa] at w1
  · rcases cases_b (wellB b) with wb | wb <;> rw [wb] at w2
    · have hxw : wellB (xorL a b) = true := well_of (by rw [xorL_len _ _ hab]; omega) (xorL_bits a b)
      have c1 := crc_ok a wa
      have c2 := crc_ok b wb
      have c3 := xor_eff a b hab (by omega)
      have c4 := crc_ok (xorL a b) hxw
      obtain ⟨k, hk, hm⟩ := mz z 50
      have hwz : wellB (List.replicate k 48 ++ a) = true := well_of (by simp; omega) (fun c hc => by
        rcases List.mem_append.1 hc with hc | hc
        · rw [List.eq_of_mem_replicate hc]; rfl
        · exact well_all wa c hc)
      have c5 := crc_ok (List.replicate k 48 ++ a) hwz
      rw [crc_ahead] at c5
      rw [crc_xor a b hab (well_all wa) (well_all wb)] at c4
      have g1 : Unit → ((((crc a ^^^ crc b).toNat : Int)) == IntKind.wrap .u32 (((BitVec.ofInt IntKind.u32.bits ((crc a).toNat : Int) ^^^ BitVec.ofInt IntKind.u32.bits ((crc b).toNat : Int)).toNat : Nat) : Int)) = true := fun _ => by rw [u32xor]; simp
      have g2 : ((((crc a).toNat : Int)) == (((crc a).toNat : Int))) = true := by simp
      have g3 : Unit → decide (((crc a).toNat : Int) < 32768) = true := fun _ => decide_eq_true (crc_lt a)
      have hz0 : (ByteArray.mk #[48]).size = 1 := rfl
      have hza : (strL a).size ≤ 300 := by rw [strL_size]; exact ha
      have hjoin : strL (List.replicate k 48) ++ strL a = strL (List.replicate k 48 ++ a) := str_app _ _
      generalize crc a ^^^ crc b = X at *
      generalize crc a = A at *
      generalize crc b = B at *
      refine eff_of Tryd.func3 rfl rfl rfl fun cx e hP => ?_
      refine AWP.runL e tab_ok L3 300 rfl (by first | trivial | (simp [in64] <;> omega) | (simp only [in64, true_and, and_true]; omega)) ?_
      refine AWP.keep L3 rfl ?_
      refine AWP.drg 100 ?_
      (refine DrG.runN e tab_ok 200 rfl (by first | trivial | (simp [] <;> omega) | (simp only [in64, true_and, and_true]; omega)) ?_)
      refine DrG.finK e rfl ?_ rfl rfl rfl ?_ ?_
      (focus kernel_rfl)
      (focus (repeat' (first | exact True.intro | (refine And.intro ?_ ?_) | rfl | assumption | exact okRow _)))
      dsimp only [tmS, hpS, tput, effH]
      refine AWP.eqT 0 (.s (strL S)) rfl (congrArg SV.s hS) ?_
      refine AWP.eqT 1 (.s (strL T)) rfl (congrArg SV.s hT) ?_
      refine AWP.runL e tab_ok L3 300 rfl (by first | trivial | (simp [] <;> omega) | (simp only [in64, true_and, and_true]; omega)) ?_
      refine AWP.eqT 0 (.s (strL a)) rfl (congrArg SV.s h0) ?_
      refine AWP.eqT 1 (.s (strL b)) rfl (congrArg SV.s h1) ?_
      refine AWP.eqT 37 (.s (strL a)) rfl (congrArg SV.s h0) ?_
      repeat (
        first
          | (refine AWP.askT rfl ?_; (first | (refine Told.t rfl ?_) | (refine Told.f rfl ?_) | (refine Told.t ?_ ?_; (focus assumption)) | (refine Told.f ?_ ?_; (focus assumption)) | (refine Told.t ?_ ?_; (focus (first | (simp; omega) | (simp [*]; done)); done)) | (refine Told.f ?_ ?_; (focus (first | (simp; omega) | (simp [*]; done)); done))); refine AWP.runL e tab_ok L3 300 rfl (by first | trivial | (simp [in64] <;> omega) | (simp only [in64, true_and, and_true]; omega)) ?_)
          | (refine AWP.callQ e rfl rfl ?_; (first | refine CallQ.mk (w1) rfl rfl ?_ | refine CallQ.mk (w2) rfl rfl ?_ | refine CallQ.mk (c1) rfl rfl ?_ | refine CallQ.mk (c2) rfl rfl ?_ | refine CallQ.mk (c3) rfl rfl ?_ | refine CallQ.mk (c4) rfl rfl ?_); refine AWP.runL e tab_ok L3 300 rfl (by first | trivial | (simp [in64] <;> omega) | (simp only [in64, true_and, and_true]; omega)) ?_)
          | (refine AWP.eq_agg e tab_ok rfl rfl rfl (.inl ⟨rfl, rfl⟩) ?_ 5 (by omega) rfl ?_ rfl rfl rfl rfl rfl rfl rfl ?_; (focus kernel_rfl); (focus kernel_rfl); refine AWP.runL e tab_ok L3 300 rfl (by first | trivial | (simp [in64] <;> omega) | (simp only [in64, true_and, and_true]; omega)) ?_)
          | (refine AWP.eq_agg e tab_ok rfl rfl rfl (.inr ⟨rfl, rfl⟩) ?_ 5 (by omega) rfl ?_ rfl rfl rfl rfl rfl rfl rfl ?_; (focus kernel_rfl); (focus kernel_rfl); refine AWP.runL e tab_ok L3 300 rfl (by first | trivial | (simp [in64] <;> omega) | (simp only [in64, true_and, and_true]; omega)) ?_)
        )
      refine AWP.eqT 65 (.i k) rfl (congrArg SV.i hm) ?_
      refine AWP.loop (ι := Nat) (fun i => ⟨[(66, .i i), (65, .i k), (13, .s (strL (List.replicate i 48))), (0, .s (strL a)), (7, U32 A), (8, .i 0), (9, U32 B), (10, .i 0), (11, U32 X), (12, .i 0)], [], 100⟩) (fun i => i ≤ k) (fun i => k - i) 0 (Nat.zero_le _) ?_ ?_
      · intro g
        refine AWP.less e ?_ ?_ ?_ ?_ ?_ (g) <;> (repeat' (first | exact True.intro | (refine And.intro ?_ ?_) | rfl | assumption))
      rintro i Φ hi next
      have hi : i ≤ k := hi
      refine AWP.runL e tab_ok L3 300 rfl (by first | trivial | (simp [in64] <;> omega) | (simp only [in64, true_and, and_true]; omega)) ?_
      refine AWP.cond2 rfl (fun hlt => ?_) (fun hlt => ?_)
      · have hlt : i < k := by have := of_decide_eq_true hlt; omega
        have nx := next (i + 1) hlt (by show k - (i + 1) < k - i; omega)
        have hzi : (strL (List.replicate i (48 : UInt8))).size = i := by rw [strL_size]; simp
        have hst : strL (List.replicate i 48) ++ ByteArray.mk #[48] = strL (List.replicate (i + 1) 48) := by rw [List.replicate_succ', ← str_app]; rfl
        refine AWP.runL e tab_ok L3 300 rfl (by first | trivial | (simp [in64] <;> omega) | (simp only [in64, true_and, and_true]; omega)) ?_
        refine AWP.eqT 13 (.s (strL (List.replicate (i + 1) 48))) rfl (congrArg SV.s hst) ?_
        refine AWP.less e ?_ ?_ ?_ ?_ ?_ (nx) <;> (repeat' (first | exact True.intro | (refine And.intro ?_ ?_) | rfl | assumption))
      · have hlt : ¬ i < k := by have := of_decide_eq_false hlt; omega
        obtain rfl : i = k := by omega
        have hzi : (strL (List.replicate i (48 : UInt8))).size = i := by rw [strL_size]; simp
        refine AWP.runL e tab_ok L3 300 rfl (by first | trivial | (simp [] <;> omega) | (simp only [in64, true_and, and_true]; omega)) ?_
        refine AWP.eqT 74 (.s (strL (List.replicate i 48 ++ a))) rfl (congrArg SV.s hjoin) ?_
        have g1 := g1 ()
        repeat (
          first
            | (refine AWP.askT rfl ?_; (first | (refine Told.t rfl ?_) | (refine Told.f rfl ?_) | (refine Told.t ?_ ?_; (focus assumption)) | (refine Told.f ?_ ?_; (focus assumption)) | (refine Told.t ?_ ?_; (focus (first | (simp; omega) | (simp [*]; done)); done)) | (refine Told.f ?_ ?_; (focus (first | (simp; omega) | (simp [*]; done)); done))); refine AWP.runL e tab_ok L3 300 rfl (by first | trivial | (simp [in64] <;> omega) | (simp only [in64, true_and, and_true]; omega)) ?_)
            | (refine AWP.callQ e rfl rfl ?_; (first | refine CallQ.mk (c5) rfl rfl ?_ | refine CallQ.mk (al) rfl rfl ?_); refine AWP.runL e tab_ok L3 300 rfl (by first | trivial | (simp [in64] <;> omega) | (simp only [in64, true_and, and_true]; omega)) ?_)
            | (refine AWP.eq_agg e tab_ok rfl rfl rfl (.inl ⟨rfl, rfl⟩) ?_ 5 (by omega) rfl ?_ rfl rfl rfl rfl rfl rfl rfl ?_; (focus kernel_rfl); (focus kernel_rfl); refine AWP.runL e tab_ok L3 300 rfl (by first | trivial | (simp [in64] <;> omega) | (simp only [in64, true_and, and_true]; omega)) ?_)
            | (refine AWP.eq_agg e tab_ok rfl rfl rfl (.inr ⟨rfl, rfl⟩) ?_ 5 (by omega) rfl ?_ rfl rfl rfl rfl rfl rfl rfl ?_; (focus kernel_rfl); (focus kernel_rfl); refine AWP.runL e tab_ok L3 300 rfl (by first | trivial | (simp [in64] <;> omega) | (simp only [in64, true_and, and_true]; omega)) ?_)
          )
        refine AWP.ret e tab_ok rfl ?_
        rw [hP]
        exact congrArg SV.b (g3 ())
    · refine eff_of Tryd.func3 rfl rfl rfl fun cx e hP => ?_
      refine AWP.runL e tab_ok L3 300 rfl (by first | trivial | (simp [in64] <;> omega) | (simp only [in64, true_and, and_true]; omega)) ?_
      refine AWP.keep L3 rfl ?_
      refine AWP.drg 100 ?_
      (refine DrG.runN e tab_ok 200 rfl (by first | trivial | (simp [] <;> omega) | (simp only [in64, true_and, and_true]; omega)) ?_)
      refine DrG.finK e rfl ?_ rfl rfl rfl ?_ ?_
      (focus kernel_rfl)
      (focus (repeat' (first | exact True.intro | (refine And.intro ?_ ?_) | rfl | assumption | exact okRow _)))
      dsimp only [tmS, hpS, tput, effH]
      refine AWP.eqT 0 (.s (strL S)) rfl (congrArg SV.s hS) ?_
      refine AWP.eqT 1 (.s (strL T)) rfl (congrArg SV.s hT) ?_
      refine AWP.runL e tab_ok L3 300 rfl (by first | trivial | (simp [] <;> omega) | (simp only [in64, true_and, and_true]; omega)) ?_
      refine AWP.eqT 0 (.s (strL a)) rfl (congrArg SV.s h0) ?_
      refine AWP.eqT 1 (.s (strL b)) rfl (congrArg SV.s h1) ?_
      refine AWP.eqT 37 (.s (strL a)) rfl (congrArg SV.s h0) ?_
      repeat (
        first
          | (refine AWP.askT rfl ?_; (first | (refine Told.t rfl ?_) | (refine Told.f rfl ?_) | (refine Told.t ?_ ?_; (focus assumption)) | (refine Told.f ?_ ?_; (focus assumption)) | (refine Told.t ?_ ?_; (focus (first | (simp; omega) | (simp [*]; done)); done)) | (refine Told.f ?_ ?_; (focus (first | (simp; omega) | (simp [*]; done)); done))); refine AWP.runL e tab_ok L3 300 rfl (by first | trivial | (simp [in64] <;> omega) | (simp only [in64, true_and, and_true]; omega)) ?_)
          | (refine AWP.callQ e rfl rfl ?_; (first | refine CallQ.mk (w1) rfl rfl ?_ | refine CallQ.mk (w2) rfl rfl ?_ | refine CallQ.mk (al) rfl rfl ?_); refine AWP.runL e tab_ok L3 300 rfl (by first | trivial | (simp [in64] <;> omega) | (simp only [in64, true_and, and_true]; omega)) ?_)
          | (refine AWP.eq_agg e tab_ok rfl rfl rfl (.inl ⟨rfl, rfl⟩) ?_ 5 (by omega) rfl ?_ rfl rfl rfl rfl rfl rfl rfl ?_; (focus kernel_rfl); (focus kernel_rfl); refine AWP.runL e tab_ok L3 300 rfl (by first | trivial | (simp [in64] <;> omega) | (simp only [in64, true_and, and_true]; omega)) ?_)
          | (refine AWP.eq_agg e tab_ok rfl rfl rfl (.inr ⟨rfl, rfl⟩) ?_ 5 (by omega) rfl ?_ rfl rfl rfl rfl rfl rfl rfl ?_; (focus kernel_rfl); (focus kernel_rfl); refine AWP.runL e tab_ok L3 300 rfl (by first | trivial | (simp [in64] <;> omega) | (simp only [in64, true_and, and_true]; omega)) ?_)
        )
      refine AWP.ret e tab_ok rfl ?_
      rw [hP]
      all_goals first | rfl | (simp [strip]; done)
  · refine eff_of Tryd.func3 rfl rfl rfl fun cx e hP => ?_
    refine AWP.runL e tab_ok L3 300 rfl (by first | trivial | (simp [in64] <;> omega) | (simp only [in64, true_and, and_true]; omega)) ?_
    refine AWP.keep L3 rfl ?_
    refine AWP.drg 100 ?_
    (refine DrG.runN e tab_ok 200 rfl (by first | trivial | (simp [] <;> omega) | (simp only [in64, true_and, and_true]; omega)) ?_)
    refine DrG.finK e rfl ?_ rfl rfl rfl ?_ ?_
    (focus kernel_rfl)
    (focus (repeat' (first | exact True.intro | (refine And.intro ?_ ?_) | rfl | assumption | exact okRow _)))
    dsimp only [tmS, hpS, tput, effH]
    refine AWP.eqT 0 (.s (strL S)) rfl (congrArg SV.s hS) ?_
    refine AWP.eqT 1 (.s (strL T)) rfl (congrArg SV.s hT) ?_
    refine AWP.runL e tab_ok L3 300 rfl (by first | trivial | (simp [] <;> omega) | (simp only [in64, true_and, and_true]; omega)) ?_
    refine AWP.eqT 0 (.s (strL a)) rfl (congrArg SV.s h0) ?_
    refine AWP.eqT 1 (.s (strL b)) rfl (congrArg SV.s h1) ?_
    refine AWP.eqT 37 (.s (strL a)) rfl (congrArg SV.s h0) ?_
    repeat (
      first
        | (refine AWP.askT rfl ?_; (first | (refine Told.t rfl ?_) | (refine Told.f rfl ?_) | (refine Told.t ?_ ?_; (focus assumption)) | (refine Told.f ?_ ?_; (focus assumption)) | (refine Told.t ?_ ?_; (focus (first | (simp; omega) | (simp [*]; done)); done)) | (refine Told.f ?_ ?_; (focus (first | (simp; omega) | (simp [*]; done)); done))); refine AWP.runL e tab_ok L3 300 rfl (by first | trivial | (simp [in64] <;> omega) | (simp only [in64, true_and, and_true]; omega)) ?_)
        | (refine AWP.callQ e rfl rfl ?_; (first | refine CallQ.mk (w1) rfl rfl ?_ | refine CallQ.mk (w2) rfl rfl ?_ | refine CallQ.mk (al) rfl rfl ?_); refine AWP.runL e tab_ok L3 300 rfl (by first | trivial | (simp [in64] <;> omega) | (simp only [in64, true_and, and_true]; omega)) ?_)
        | (refine AWP.eq_agg e tab_ok rfl rfl rfl (.inl ⟨rfl, rfl⟩) ?_ 5 (by omega) rfl ?_ rfl rfl rfl rfl rfl rfl rfl ?_; (focus kernel_rfl); (focus kernel_rfl); refine AWP.runL e tab_ok L3 300 rfl (by first | trivial | (simp [in64] <;> omega) | (simp only [in64, true_and, and_true]; omega)) ?_)
        | (refine AWP.eq_agg e tab_ok rfl rfl rfl (.inr ⟨rfl, rfl⟩) ?_ 5 (by omega) rfl ?_ rfl rfl rfl rfl rfl rfl rfl ?_; (focus kernel_rfl); (focus kernel_rfl); refine AWP.runL e tab_ok L3 300 rfl (by first | trivial | (simp [in64] <;> omega) | (simp only [in64, true_and, and_true]; omega)) ?_)
      )
    refine AWP.ret e tab_ok rfl ?_
    rw [hP]
    all_goals first | rfl | (simp [strip]; done)
theorem linear_args (l : List SV) (h : Args tab 9 [9, 9, 3] l) : Eff Tryd.prog 3 l [] 0 (fun r _ _ => r = .b true) := by
  obtain ⟨_, _, rfl, ⟨s, rfl, _⟩, _, _, rfl, ⟨t, rfl, _⟩, _, _, rfl, ⟨z, rfl, _, _⟩, rfl⟩ := h
  rw [strL_of s, strL_of t]
  generalize s.data.toList = s
  generalize t.data.toList = t
  have hs := cut_str s 300
  have ht := cut_str t 300
  have hS : (s.take 300).length ≤ 300 := by simp; omega
  generalize s.take 300 = S at *
  generalize t.take 300 = T at *
  have h1 : (strL T).extract 0 (if ((strL T).size : Int) < ((strL S).size : Int) then ((strL T).size : Int) else ((strL S).size : Int)).toNat = strL (T.take (min S.length T.length)) := by
    rw [strL_size, strL_size, ← str_take T (min S.length T.length) (by omega)]
    congr 1
    split <;> omega
  have hb : (T.take (min S.length T.length)).length = min S.length T.length := by rw [List.length_take]; omega
  have ha : (S.take (min S.length T.length)).length = min S.length T.length := by rw [List.length_take]; omega
  have h0 : (strL S).extract 0 (strL (T.take (min S.length T.length))).size = strL (S.take (min S.length T.length)) := by
    rw [strL_size, hb, str_take S (min S.length T.length) (by omega)]
  exact linear_ok s t S T _ _ z hs ht h0 h1 (by rw [ha, hb]) (by rw [ha]; omega)
end Go.Proofs.YtldbeeiabgmfhaaDoor
