/-
  A frame is read from its head, for every frame that may be. Condition: what the theorems state ahead.
-/
import Derived.Test.YthdcegeampcalaaGreatDoorF15
open Go Go.Proofs Go.Sy Go.Stuff
namespace Go.Proofs.YthdcegeampcalaaGreatDoor
theorem fix_le (f : Frm) : 19 ≤ fixN f ∧ fixN f ≤ 39 := by unfold fixN; cases f.ext <;> simp
theorem sum_take (f : Frm) : (sumF f).take (headL f).length = headL f := List.take_left
theorem take_take' (l : List UInt8) {i j : Nat} (h : i ≤ j) : (l.take j).take i = l.take i := by rw [List.take_take, Nat.min_eq_left h]
theorem pre_take (f : Frm) {n k : Nat} (h1 : k ≤ n) (h2 : k ≤ (headL f).length) : ((sumF f).take n).take k = (headL f).take k := by
  rw [take_take' _ h1]
  unfold sumF frm
  exact List.take_append_of_le_length h2
theorem getD_take (l : List UInt8) {i k : Nat} (h : i < k) : l.getD i 0 = (l.take k).getD i 0 := by
  rw [List.getD_eq_getElem?_getD, List.getD_eq_getElem?_getD, List.getElem?_take, if_pos h]
theorem dlc_num {f : Frm} (hr : rightF f = true) : numOf (bitsOf (BitVec.ofInt 64 f.dlc) 4) = BitVec.ofInt 64 f.dlc := by
  obtain ⟨_, h2, h3, _⟩ := right_facts hr
  exact numOf_of _ _ (by decide) fun _ => small_dlc f.dlc h2 h3
theorem dlc_nat {n : Int} (h0 : 0 ≤ n) (h8 : n ≤ 8) : ((BitVec.ofInt 64 n).toNat : Int) = n := by
  obtain ⟨k, rfl⟩ : ∃ k : Nat, n = k := ⟨n.toNat, by omega⟩
  have hk : k < 9 := by omega
  have : ∀ k : Fin 9, ((BitVec.ofInt 64 ((k.1 : Nat) : Int)).toNat : Int) = ((k.1 : Nat) : Int) := by decide
  exact this ⟨k, hk⟩
theorem data_len {f : Frm} (hr : rightF f = true) : (f.data.length : Int) = if f.rem then 0 else f.dlc := by
  unfold rightF at hr
  simp only [Bool.and_eq_true, decide_eq_true_eq] at hr
  obtain ⟨_, _, _, h4⟩ := hr
  cases hq : f.rem <;> rw [hq] at h4
  · have h4 : (f.data.length : Int) = f.dlc := by simpa using h4
    simpa using h4
  · have h4 : f.data = [] := by simpa using h4
    rw [h4]; rfl
/-- What the first bits tell of a head's size. -/
theorem size_take {f : Frm} (hr : rightF f = true) (n : Nat) (hn : n ≤ (sumF f).length) : sizeL ((sumF f).take n) = (if n < fixN f then (0, 3) else (((headL f).length : Int), 0) : Int × Int) := by
  obtain ⟨g1, g2⟩ := fix_le f
  obtain ⟨k1, k2⟩ := head_le hr
  have hfl : fixN f ≤ (headL f).length := by rw [head_len]; omega
  have hl : ((sumF f).take n).length = n := by rw [List.length_take, Nat.min_eq_left hn]
  unfold sizeL
  rw [hl]
  by_cases h1 : n < 14
  · rw [if_pos h1, if_pos (by omega)]
  rw [if_neg h1]
  have he : extS ((sumF f).take n) = f.ext := ext_head f _ (by rw [hl]; omega) (pre_take f (by omega) (by omega))
  have hfx : fixS ((sumF f).take n) = fixN f := by unfold fixS fixN; rw [he]
  rw [hfx]
  by_cases h2 : n < fixN f
  · rw [if_pos h2, if_pos h2]
  rw [if_neg h2, if_neg h2]
  have hd : dlcS ((sumF f).take n) = BitVec.ofInt 64 f.dlc := by
    unfold dlcS
    rw [hfx, pre_take f (by omega) hfl, ← dlc_num hr, ← head_dlc]
    unfold sub
    rw [show fixN f - 4 + 4 = fixN f by omega]
  have ha : askS ((sumF f).take n) = f.rem := by
    unfold askS
    rw [he, show (bif f.ext then 32 else 12) = fixN f - 7 by unfold fixN; cases f.ext <;> rfl, getD_take _ (show fixN f - 7 < fixN f by omega), pre_take f (by omega) hfl, ← getD_take _ (show fixN f - 7 < fixN f by omega), head_rem, bv_49]
  obtain ⟨_, q2, q3, _⟩ := right_facts hr
  have hz := dlc_nat q2 q3
  have hdl := data_len hr
  rw [hd, ha, if_neg (by omega)]
  have hh := head_len f
  cases hq : f.rem <;> rw [hq] at hdl
  · rw [if_neg (by decide)]
    have hdl : (f.data.length : Int) = f.dlc := hdl
    rw [hz]
    refine Prod.ext ?_ rfl
    show (fixN f : Int) + 8 * f.dlc = ((headL f).length : Int)
    omega
  · have hdl : (f.data.length : Int) = 0 := hdl
    rw [if_pos rfl]
    refine Prod.ext ?_ rfl
    show (fixN f : Int) = ((headL f).length : Int)
    omega
theorem size_head {f : Frm} (hr : rightF f = true) : sizeL (headL f) = ((((headL f).length : Nat) : Int), 0) := by
  have h := size_take hr (headL f).length (by rw [sum_len]; omega)
  rw [sum_take, if_neg (by rw [head_len]; omega)] at h
  exact h
theorem id_join (x : BitVec 32) : (x >>> 18) <<< 18 ||| (x &&& 262143#32) = x := by
  apply BitVec.eq_of_getLsbD_eq
  intro i hi
  have hm : (262143#32).getLsbD i = decide (i < 18) := by
    have : ∀ i : Fin 32, (262143#32).getLsbD i.1 = decide (i.1 < 18) := by decide
    exact this ⟨i, hi⟩
  rw [BitVec.getLsbD_or, BitVec.getLsbD_shiftLeft, BitVec.getLsbD_ushiftRight, BitVec.getLsbD_and, hm]
  by_cases h : i < 18
  · have e1 : decide (i < 18) = true := by simpa using h
    rw [e1]
    simp
  · have e1 : decide (i < 18) = false := by simpa using h
    have e2 : decide (i < 32) = true := by simpa using hi
    rw [e1, e2, show 18 + (i - 18) = i by omega]
    simp
theorem at_head (l : List UInt8) (i : Nat) (h : i < l.length) : (byteAt (strL l) i == 49) = (l.getD i 0 == 49) := by
  rw [b_at l i h, List.getD_eq_getElem?_getD, List.getElem?_eq_getElem h]
  exact u_eq _ 49
theorem byte_num (b : UInt8) : numOf (byteB b) = b.toBitVec.setWidth 64 := numOf_of _ _ (by decide) fun _ => small_byte b
theorem byte_back (b : UInt8) : IntKind.wrap .u8 ((b.toBitVec.setWidth 64).toNat : Int) = (b.toNat : Int) := by
  have := b.toNat_lt
  rw [BitVec.toNat_setWidth, show b.toBitVec.toNat = b.toNat from rfl, Nat.mod_eq_of_lt (by omega), wrap_nat .u8 rfl (by show _ < 256; omega)]
theorem down32 (x : BitVec 32) : IntKind.wrap .u32 ((x.setWidth 64).toNat : Int) = (x.toNat : Int) := by
  have := x.isLt
  rw [BitVec.toNat_setWidth, Nat.mod_eq_of_lt (by omega), wrap_nat .u32 rfl (by show _ < 4294967296; omega)]
set_option maxRecDepth 100000 in
set_option maxHeartbeats 4000000 in
theorem read_eff (f : Frm) (hr : rightF f = true) : Eff Tryz.prog 26 [.s (strL (headL f))] [] 0 (fun r _ _ => r = .tup [.agg (fS f), .i 0]) := by
  have hw : wellB (headL f) = true := wellB_of (by have := head_le hr; omega) (head_bits f)
  have c1 := size_eff (headL f) hw
  rw [size_head hr] at c1
  have hsz : (strL (headL f)).size = (headL f).length := strL_size _
  obtain ⟨k1, k2⟩ := head_le hr
  have hH := head_len f
  have hfx := fix_le f
  have c2 := part_eff (headL f) hw 1 11 (by omega) (by decide)
  have c6 := fun h => part_eff (headL f) hw 14 18 h (by decide)
  have c3 := part_eff (headL f) hw (fixN f - 4) 4 (by omega) (by decide)
  have c7 := fun i (h : i < f.data.length) => part_eff (headL f) hw (fixN f + 8 * i) 8 (by omega) (by decide)
  have c4 := fright_eff f
  rw [hr] at c4
  have c5 := head_eff f hr
  have hq13 := at_head (headL f) 13 (by omega)
  rw [head_ext] at hq13
  have hqr := at_head (headL f) (fixN f - 7) (by omega)
  rw [head_rem, bv_49] at hqr
  rw [head_id] at c2
  have hlow := head_low f
  rw [head_dlc, dlc_num hr] at c3
  obtain ⟨q1, q2, q3, q4⟩ := right_facts hr
  have hz : ((BitVec.ofInt 64 f.dlc).toNat : Int) = f.dlc := dlc_nat q2 q3
  have c7 : ∀ i (h : i < f.data.length), Eff Tryz.prog 45 [.i (fixN f + 8 * i : Nat), .i 8, .ip [.v (.string (strL (headL f)))]] [] 0 (fun r _ _ => r = U64 (f.data[i].toBitVec.setWidth 64)) := fun i h => by
    have := c7 i h
    rw [head_byte f h, byte_num] at this
    exact this
  have hbeq : (!((strL (headL f)).toList == (strL (headL f)).toList)) = false := by simp
  clear hw hr
  obtain ⟨id, ext, rem, dlc, data⟩ := f
  unfold fixN at *
  dsimp only at *
  generalize headL ⟨id, ext, rem, dlc, data⟩ = S at *
  cases ext
  · have hn1 : numOf (bitsOf (id.setWidth 64) 11) = id.setWidth 64 := numOf_of _ _ (by decide) fun _ => small_shr id 11 q1
    simp only [cond_false, if_false, Bool.false_eq_true] at *
    rw [hn1] at c2
    have hd := down32 id
    clear hn1 hlow c6
    refine eff_of Tryz.func26 rfl rfl rfl fun cx e hP => ?_
    refine AWP.runL e tab_ok L26 300 rfl (by trivial ) ?_
    repeat (
      first
        | (refine AWP.askT rfl ?_; (first | (refine Told.f rfl ?_) | (refine Told.f ?_ ?_; (focus ((simp; omega)); done))); refine AWP.runL e tab_ok L26 300 rfl (by trivial ) ?_)
        | (refine AWP.callQ e rfl rfl ?_; (first | refine CallQ.mk (c1) rfl rfl ?_); refine AWP.runL e tab_ok L26 300 rfl (by trivial ) ?_)

      )
    refine AWP.freezeB (id := 0) rfl rfl rfl rfl ?_
    repeat (
      first
        | (refine AWP.askT rfl ?_; ( (refine Told.f ?_ ?_; (focus assumption)) ); refine AWP.runL e tab_ok L26 300 rfl (by trivial ) ?_)
        | (refine AWP.keep L26 rfl ?_; refine AWP.drg 100 ?_; (refine DrG.runS e tab_ok 200 rfl (by first | trivial | (simp [in64] <;> omega)) ?_); (repeat ( (refine DrG.callQ e rfl rfl ?_; (first | refine CallVQ.mk (c2) rfl rfl ?_ | refine CallVQ.mk (c3) rfl rfl ?_); (refine DrG.runS e tab_ok 200 rfl (by  (simp [in64] <;> omega)) ?_)) )); refine DrG.finK e rfl ?_ rfl rfl rfl ?_ ?_; (focus kernel_rfl); (focus (repeat' (first | exact True.intro | (refine And.intro ?_ ?_) | rfl ))); dsimp only [tmS, hpS, tput, effH]; refine AWP.runL e tab_ok L26 300 rfl (by trivial ) ?_)
      )
    refine AWP.nil_own (t := 9) rfl 5 1 ?_
    refine AWP.loop (ι := Nat × Nat) (fun x => ⟨[(9, .own 100 1 0 (data.take x.1).length x.2), (8, .i (19 + 8 * x.1 : Nat)), (7, .ptr 2 0), (6, .fn (.func 45) [] [.ip [.v (.string (strL S))]]), (2, .ptr 1 0), (1, .ip [.v (.string (strL S))])], [(2, .box (fS ⟨id, false, rem, dlc, []⟩)), (1, .box (fS ⟨0, false, false, 0, []⟩)), (100, .row 5 false 1 ((data.take x.1).map u8S) x.2)], 101⟩) (fun x => x.1 ≤ data.length) (fun x => data.length - x.1) (0, 0) (Nat.zero_le _) ?_ ?_
    · intro g
      refine AWP.less e ?_ ?_ ?_ ?_ ?_ (g) <;> (repeat' (first | exact True.intro | (refine And.intro ?_ ?_) | rfl))
      · have hq13 : (byteAt (strL S) 13 == 49) = false := hq13
        have hqr : (byteAt (strL S) (19 - 7 : Nat) == 49) = rem := hqr
        show some (Blk.box [.d (.v (.int .u32 _)), .b (byteAt (strL S) 13 == 49), .b (byteAt (strL S) (19 - 7 : Nat) == 49), .i _, .s (strL [])]) = _
        rw [hd, hq13, hqr, hz]
      · exact u8_ids _ 101
    rintro ⟨i, C⟩ Φ hi next
    dsimp only at hi next ⊢
    refine AWP.runL e tab_ok L26 300 rfl (by trivial ) ?_
    refine AWP.cond2 rfl (fun hlt => ?_) (fun hlt => ?_)
    · have hlt : i < data.length := by have := of_decide_eq_true hlt; omega
      have nx := fun C2 => next (i + 1, C2) hlt (by show data.length - (i + 1) < data.length - i; omega)
      dsimp only at nx
      have cb := c7 i hlt
      have hbk := byte_back data[i]
      have hle : (data.take i).length = i := by rw [List.length_take, Nat.min_eq_left hi]
      rw [List.take_succ_eq_append_getElem hlt] at nx
      generalize data[i] = c at *
      clear next c7
      refine AWP.runL e tab_ok L26 300 rfl (by trivial ) ?_
      repeat (

          (refine AWP.callQ e rfl rfl ?_; (first | refine CallQ.mk (cb) rfl rfl ?_); refine AWP.runL e tab_ok L26 300 rfl (by trivial ) ?_)

        )
      refine AWP.append1 u8S (data.take i) c e tab_ok rfl rfl rfl rfl rfl rfl rfl rfl rfl rfl rfl rfl (congrArg (fun z => [SV.d (.v (.int .u8 z))]) hbk) rfl (by show (_ + 1) * 1 ≤ _; omega) (by omega) fun C2 => ?_
      refine AWP.runL e tab_ok L26 300 rfl (by  (simp [in64] <;> omega)) ?_
      refine AWP.lessR e [(100, 102)] ?_ ?_ ?_ ?_ ?_ ?_ ((nx C2)) <;> (repeat' (first | exact True.intro | (refine And.intro ?_ ?_) | rfl))
      · exact u8_ids _ 0
    · have hlt : ¬ i < data.length := by have := of_decide_eq_false hlt; omega
      obtain rfl : i = data.length := by omega
      rw [List.take_length]
      refine AWP.runL e tab_ok L26 300 rfl (by trivial ) ?_
      refine AWP.bytesStr e tab_ok data rfl rfl rfl rfl rfl rfl rfl rfl rfl rfl ?_ ?_
      · intro q b hb
        rw [Nat.zero_add, List.getElem?_map, hb]
        rfl
      refine AWP.runL e tab_ok L26 300 rfl (by trivial ) ?_
      refine AWP.less e (tm := [(7, .ptr 2 0), (2, .ptr 1 0), (1, .ip [.v (.string (strL S))])]) (hp := [(2, .box (fS ⟨id, false, rem, dlc, data⟩)), (1, .box (fS ⟨0, false, false, 0, []⟩))]) (nx := 101) ⟨rfl, rfl, rfl, trivial⟩ ⟨rfl, rfl, trivial⟩ rfl ⟨rfl, rfl, rfl, rfl, trivial⟩ rfl ?_
      refine AWP.keep L26 rfl ?_
      refine AWP.drg 300 ?_
      (refine DrG.runS e tab_ok 200 rfl (by trivial ) ?_)
      repeat (
        first
          | (refine DrG.askT rfl ?_; ( (refine Told.f rfl ?_) ); (refine DrG.runS e tab_ok 200 rfl (by trivial ) ?_))
          | (refine DrG.callQ e rfl rfl ?_; (refine CallVQ.mk (c4) rfl rfl ?_); (refine DrG.runS e tab_ok 200 rfl (by trivial ) ?_))
          | (refine DrG.callGo e rfl rfl rfl ?_; ( refine CallVQ.mk (c5) rfl rfl ?_); (refine DrG.runS e tab_ok 200 rfl (by trivial ) ?_))

        )
      refine DrG.finK e rfl ?_ rfl rfl rfl ?_ ?_
      (focus kernel_rfl)
      (focus (repeat' (first | exact True.intro | (refine And.intro ?_ ?_) | rfl )))
      dsimp only [tmS, hpS, tput, effH]
      refine AWP.runL e tab_ok L26 300 rfl (by trivial ) ?_
      repeat (
        (refine AWP.askT rfl ?_; ( (refine Told.f ?_ ?_; (focus assumption)) ); refine AWP.runL e tab_ok L26 300 rfl (by trivial ) ?_)

        )
      refine AWP.ret e tab_ok rfl ?_
      rw [hP]
      all_goals rfl
  · have hs : id >>> 18 < 2048#32 := by
      rw [BitVec.lt_def, BitVec.toNat_ushiftRight, Nat.shiftRight_eq_div_pow]
      have h1 : id.toNat < 536870912 := q1
      show _ < 2048
      omega
    have hs2 : (id &&& 262143#32).toNat < 2 ^ 18 := by
      rw [BitVec.toNat_and]
      exact Nat.lt_of_le_of_lt (Nat.and_le_right) (by decide)
    have hn1 : numOf (bitsOf ((id >>> 18).setWidth 64) 11) = (id >>> 18).setWidth 64 := numOf_of _ _ (by decide) fun _ => small_shr _ 11 hs
    have hn2 : numOf (bitsOf ((id &&& 262143#32).setWidth 64) 18) = (id &&& 262143#32).setWidth 64 := numOf_of _ _ (by decide) fun _ => small_shr _ 18 hs2
    have c6 := c6 (by simp only [cond_true] at hH; omega)
    rw [hlow rfl, hn2] at c6
    simp only [cond_true, if_true] at *
    rw [hn1] at c2
    have hd1 := down32 (id >>> 18)
    have hd2 := down32 (id &&& 262143#32)
    clear hn1 hlow hn2 hs hs2 q1
    refine eff_of Tryz.func26 rfl rfl rfl fun cx e hP => ?_
    refine AWP.runL e tab_ok L26 300 rfl (by trivial ) ?_
    repeat (
      first
        | (refine AWP.askT rfl ?_; (first | (refine Told.f rfl ?_) | (refine Told.f ?_ ?_; (focus ((simp; omega)); done))); refine AWP.runL e tab_ok L26 300 rfl (by trivial ) ?_)
        | (refine AWP.callQ e rfl rfl ?_; (first | refine CallQ.mk (c1) rfl rfl ?_); refine AWP.runL e tab_ok L26 300 rfl (by trivial ) ?_)

      )
    refine AWP.freezeB (id := 0) rfl rfl rfl rfl ?_
    repeat (
      first
        | (refine AWP.askT rfl ?_; ( (refine Told.t ?_ ?_; (focus assumption)) ); refine AWP.runL e tab_ok L26 300 rfl (by trivial ) ?_)
        | (refine AWP.keep L26 rfl ?_; refine AWP.drg 100 ?_; (refine DrG.runS e tab_ok 200 rfl (by first | trivial | (simp [in64] <;> omega)) ?_); (repeat ( (refine DrG.callQ e rfl rfl ?_; (first | refine CallVQ.mk (c2) rfl rfl ?_ | refine CallVQ.mk (c3) rfl rfl ?_ | refine CallVQ.mk (c6) rfl rfl ?_); (refine DrG.runS e tab_ok 200 rfl (by first | trivial | (simp [in64] <;> omega)) ?_)) )); refine DrG.finK e rfl ?_ rfl rfl rfl ?_ ?_; (focus kernel_rfl); (focus (repeat' (first | exact True.intro | (refine And.intro ?_ ?_) | rfl ))); dsimp only [tmS, hpS, tput, effH]; refine AWP.runL e tab_ok L26 300 rfl (by trivial ) ?_)
      )
    have hd : IntKind.wrap .u32 (((BitVec.ofInt IntKind.u32.bits (IntKind.wrap .u32 (IntKind.wrap .u32 (((id >>> 18).setWidth 64).toNat : Int) * 2 ^ min (Int.toNat 18) IntKind.u32.bits)) ||| BitVec.ofInt IntKind.u32.bits (IntKind.wrap .u32 (((id &&& 262143#32).setWidth 64).toNat : Int))).toNat : Nat) : Int) = (id.toNat : Int) := by
      rw [hd1, hd2, show IntKind.wrap .u32 (((id >>> 18).toNat : Int) * 2 ^ min (Int.toNat 18) IntKind.u32.bits) = (((id >>> 18) <<< 18).toNat : Int) from u32shl _ 18]
      exact (u32or ((id >>> 18) <<< 18) (id &&& 262143#32)).trans (by rw [id_join])
    refine AWP.nil_own (t := 9) rfl 5 1 ?_
    refine AWP.loop (ι := Nat × Nat) (fun x => ⟨[(9, .own 100 1 0 (data.take x.1).length x.2), (8, .i (39 + 8 * x.1 : Nat)), (7, .ptr 2 0), (6, .fn (.func 45) [] [.ip [.v (.string (strL S))]]), (2, .ptr 1 0), (1, .ip [.v (.string (strL S))])], [(2, .box (fS ⟨id, true, rem, dlc, []⟩)), (1, .box (fS ⟨0, false, false, 0, []⟩)), (100, .row 5 false 1 ((data.take x.1).map u8S) x.2)], 101⟩) (fun x => x.1 ≤ data.length) (fun x => data.length - x.1) (0, 0) (Nat.zero_le _) ?_ ?_
    · intro g
      refine AWP.less e ?_ ?_ ?_ ?_ ?_ (g) <;> (repeat' (first | exact True.intro | (refine And.intro ?_ ?_) | rfl))
      · have hq13 : (byteAt (strL S) 13 == 49) = true := hq13
        have hqr : (byteAt (strL S) (39 - 7 : Nat) == 49) = rem := hqr
        show some (Blk.box [.d (.v (.int .u32 _)), .b (byteAt (strL S) 13 == 49), .b (byteAt (strL S) (39 - 7 : Nat) == 49), .i _, .s (strL [])]) = _
        rw [hd, hq13, hqr, hz]
      · exact u8_ids _ 101
    rintro ⟨i, C⟩ Φ hi next
    dsimp only at hi next ⊢
    refine AWP.runL e tab_ok L26 300 rfl (by trivial ) ?_
    refine AWP.cond2 rfl (fun hlt => ?_) (fun hlt => ?_)
    · have hlt : i < data.length := by have := of_decide_eq_true hlt; omega
      have nx := fun C2 => next (i + 1, C2) hlt (by show data.length - (i + 1) < data.length - i; omega)
      dsimp only at nx
      have cb := c7 i hlt
      have hbk := byte_back data[i]
      have hle : (data.take i).length = i := by rw [List.length_take, Nat.min_eq_left hi]
      rw [List.take_succ_eq_append_getElem hlt] at nx
      generalize data[i] = c at *
      clear next c7
      refine AWP.runL e tab_ok L26 300 rfl (by trivial ) ?_
      repeat (

          (refine AWP.callQ e rfl rfl ?_; (first | refine CallQ.mk (cb) rfl rfl ?_); refine AWP.runL e tab_ok L26 300 rfl (by trivial ) ?_)

        )
      refine AWP.append1 u8S (data.take i) c e tab_ok rfl rfl rfl rfl rfl rfl rfl rfl rfl rfl rfl rfl (congrArg (fun z => [SV.d (.v (.int .u8 z))]) hbk) rfl (by show (_ + 1) * 1 ≤ _; omega) (by omega) fun C2 => ?_
      refine AWP.runL e tab_ok L26 300 rfl (by  (simp [in64] <;> omega)) ?_
      refine AWP.lessR e [(100, 102)] ?_ ?_ ?_ ?_ ?_ ?_ ((nx C2)) <;> (repeat' (first | exact True.intro | (refine And.intro ?_ ?_) | rfl))
      · exact u8_ids _ 0
    · have hlt : ¬ i < data.length := by have := of_decide_eq_false hlt; omega
      obtain rfl : i = data.length := by omega
      rw [List.take_length]
      refine AWP.runL e tab_ok L26 300 rfl (by trivial ) ?_
      refine AWP.bytesStr e tab_ok data rfl rfl rfl rfl rfl rfl rfl rfl rfl rfl ?_ ?_
      · intro q b hb
        rw [Nat.zero_add, List.getElem?_map, hb]
        rfl
      refine AWP.runL e tab_ok L26 300 rfl (by trivial ) ?_
      refine AWP.less e (tm := [(7, .ptr 2 0), (2, .ptr 1 0), (1, .ip [.v (.string (strL S))])]) (hp := [(2, .box (fS ⟨id, true, rem, dlc, data⟩)), (1, .box (fS ⟨0, false, false, 0, []⟩))]) (nx := 101) ⟨rfl, rfl, rfl, trivial⟩ ⟨rfl, rfl, trivial⟩ rfl ⟨rfl, rfl, rfl, rfl, trivial⟩ rfl ?_
      refine AWP.keep L26 rfl ?_
      refine AWP.drg 300 ?_
      (refine DrG.runS e tab_ok 200 rfl (by trivial ) ?_)
      repeat (
        first
          | (refine DrG.askT rfl ?_; ( (refine Told.f rfl ?_) ); (refine DrG.runS e tab_ok 200 rfl (by trivial ) ?_))
          | (refine DrG.callQ e rfl rfl ?_; (refine CallVQ.mk (c4) rfl rfl ?_); (refine DrG.runS e tab_ok 200 rfl (by trivial ) ?_))
          | (refine DrG.callGo e rfl rfl rfl ?_; ( refine CallVQ.mk (c5) rfl rfl ?_); (refine DrG.runS e tab_ok 200 rfl (by trivial ) ?_))

        )
      refine DrG.finK e rfl ?_ rfl rfl rfl ?_ ?_
      (focus kernel_rfl)
      (focus (repeat' (first | exact True.intro | (refine And.intro ?_ ?_) | rfl )))
      dsimp only [tmS, hpS, tput, effH]
      refine AWP.runL e tab_ok L26 300 rfl (by trivial ) ?_
      repeat (
        (refine AWP.askT rfl ?_; ( (refine Told.f ?_ ?_; (focus assumption)) ); refine AWP.runL e tab_ok L26 300 rfl (by trivial ) ?_)

        )
      refine AWP.ret e tab_ok rfl ?_
      rw [hP]
      all_goals rfl
end Go.Proofs.YthdcegeampcalaaGreatDoor
