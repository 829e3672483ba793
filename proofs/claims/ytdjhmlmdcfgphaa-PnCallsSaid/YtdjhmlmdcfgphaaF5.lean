import Derived.Test.YtdjhmlmdcfgphaaF4
open Go Go.Proofs Go.Sy
namespace Go.Proofs.Ytdjhmlmdcfgphaa

theorem u16_of {z : Int} (h0 : IntKind.u16.min ≤ z) (h1 : z ≤ IntKind.u16.max) : ∃ x : BitVec 16, z = (x.toNat : Int) :=
  bv_of (n := 16) h0 (by have : z ≤ 65535 := h1; show z < 65536; omega)

theorem and_none (x : BitVec 16) : x &&& 0#16 = 0#16 := by simp
theorem see_all (told : BitVec 16) (l : Int) (h : 1 ≤ l) : actN 0#16 (seeS told (fun _ => 0) l 16) 16 &&& 65535#16 = told := by
  apply BitVec.eq_of_getLsbD_eq
  intro k hk
  rw [BitVec.getLsbD_and, actN_bit _ _ _ hk, show (65535#16) = BitVec.allOnes 16 from rfl, BitVec.getLsbD_allOnes]
  simp only [hk, decide_true, Bool.and_true, BitVec.getLsbD_zero, Bool.false_or, seeS, true_and]
  by_cases c : told.getLsbD k = true
  · rw [if_pos c, c]; simpa using by omega
  · rw [if_neg c]; simp at c; simp [c]
theorem see_want (told : BitVec 16) (l : Int) (i : Nat) (hi : i < 16) (h : 1 ≤ l) : actN (wantB 0#16 i true) (seeS told (fun _ => 0) l 16) 16 &&& 65535#16 = told ||| (1#16 <<< i) := by
  apply BitVec.eq_of_getLsbD_eq
  intro k hk
  rw [BitVec.getLsbD_and, actN_bit _ _ _ hk, wantB_bit _ _ _ _ hk, show (65535#16) = BitVec.allOnes 16 from rfl, BitVec.getLsbD_allOnes, BitVec.getLsbD_or]
  have h1 : (1#16 <<< i).getLsbD k = decide (k = i) := by
    by_cases e : k = i
    · subst e; simp [hk]
    · simp [hk, e]; omega
  rw [h1]
  simp only [hk, decide_true, Bool.and_true, BitVec.getLsbD_zero, seeS, true_and]
  by_cases c : told.getLsbD k = true
  · rw [if_pos c, c]
    have : decide (l > 0) = true := by simpa using by omega
    simp [this]
  · rw [if_neg c]
    simp at c
    by_cases e : k = i <;> simp [c, e]

theorem w64 {i : Nat} (hi : i < 16) : IntKind.wrap .u64 (i : Int) = i := by
  rw [wrapN .u64 rfl]
  exact congrArg _ (Nat.mod_eq_of_lt (show i < 2 ^ 64 by omega))
theorem shlor_val (x : BitVec 16) {i : Nat} (hi : i < 16) : ((((x ||| (1#16 <<< i)).toNat : Nat) : Int) == (IntKind.wrap .u16 ((BitVec.ofInt 16 (x.toNat : Int) ||| BitVec.ofInt 16 (IntKind.wrap .u16 ((1 : Int) * 2 ^ (min (IntKind.wrap .u64 ((i : Nat) : Int)).toNat 16)))).toNat : Int))) = true := by
  rw [w64 hi, or_shl]
  exact beq_self_eq_true _

theorem mod16 (z : Int) : ∃ i : Nat, i < 16 ∧ Int.tmod (Int.tmod z 16 + 16) 16 = i ∧ -16 < Int.tmod z 16 ∧ Int.tmod z 16 < 16 := by
  have h1 := Int.tmod_lt_of_pos z (show (0 : Int) < 16 by omega)
  have h2 := Int.lt_tmod_of_pos z (show (0 : Int) < 16 by omega)
  have h3 : 0 ≤ Int.tmod (Int.tmod z 16 + 16) 16 := Int.tmod_nonneg _ (by omega)
  have h4 := Int.tmod_lt_of_pos (Int.tmod z 16 + 16) (show (0 : Int) < 16 by omega)
  exact ⟨(Int.tmod (Int.tmod z 16 + 16) 16).toNat, by omega, by omega, h2, h1⟩

set_option maxHeartbeats 1000000 in
set_option maxRecDepth 100000 in
theorem none_eff (told : BitVec 16) (l z : Int) : Eff Try.prog 4 [U16 told, .i l, .i z] [] 0 (fun r _ _ => r = .b true) := by
  obtain ⟨L, hL⟩ : ∃ L, L = if 1000 < (if 1 > l then 1 else l) then 1000 else if 1 > l then 1 else l := ⟨_, rfl⟩
  have hL1 : 1 ≤ L ∧ L ≤ 1000 := by rw [hL]; split <;> split <;> omega
  have hn := new_ok 0#16 L (by omega)
  have hf := new_ok 65535#16 L (by omega)
  have rn : rightB 0#16 0#16 (fun _ => 0) L = true := right_new (by omega)
  have ra : rightB 65535#16 0#16 (fun _ => 0) L = true := right_new (by omega)
  have hs := see_ok 0#16 0#16 (fun _ => 0) L told rn
  have hs2 := see_ok 65535#16 0#16 (fun _ => 0) L told ra
  have hw : Eff Try.prog 9 [pn 0#16 0#16 (seeS told (fun _ => 0) L 16) L, .i z, .b true] [] 0 (fun r _ _ => r = .tup [pn0, .i 1]) := by
    by_cases hz : z < 0 ∨ 16 ≤ z
    · exact want_out _ _ _ _ _ _ (right_see rn) hz
    · obtain ⟨i, rfl⟩ : ∃ i : Nat, z = i := ⟨z.toNat, by omega⟩
      exact want_no _ _ _ _ _ _ (right_see rn) (by omega) (by simp)
  obtain ⟨i, hi, hm, hb1, hb2⟩ := mod16 z
  have hw2 := want_ok 65535#16 0#16 (seeS told (fun _ => 0) L 16) L i true (right_see ra) (by rw [show (65535#16) = BitVec.allOnes 16 from rfl, BitVec.getLsbD_allOnes]; simpa using hi)
  have ha1 := active_ok 0#16 0#16 (seeS told (fun _ => 0) L 16) L (right_see rn)
  have ha2 := active_ok 65535#16 0#16 (seeS told (fun _ => 0) L 16) L (right_see ra)
  have ha3 := active_ok 65535#16 (wantB 0#16 i true) (seeS told (fun _ => 0) L 16) L (right_want (right_see ra) (by rw [show (65535#16) = BitVec.allOnes 16 from rfl, BitVec.getLsbD_allOnes]; simpa using hi))
  rw [and_none] at ha1
  rw [see_all _ _ hL1.1] at ha2
  rw [see_want _ _ _ hi hL1.1] at ha3
  have hk1 := wakes_eff 0#16 0#16 (seeS told (fun _ => 0) L 16) L ⟨#[255, 255]⟩ (right_see rn)
  have hk2 := wakes_eff 65535#16 0#16 (seeS told (fun _ => 0) L 16) L ⟨#[0, 128]⟩ (right_see ra)
  rw [and_none] at hk1
  rw [show toldN ⟨#[0, 128]⟩ &&& 65535#16 = 32768#16 by rfl] at hk2
  refine eff_of Try.func4 rfl rfl rfl fun cx e hP => ?_
  refine AWP.runL e tab_ok L4 300 rfl (by first | trivial | (simp [in64] <;> omega)) ?_
  refine AWP.eqT 1 (.i L) rfl (congrArg SV.i hL.symm) ?_
  refine AWP.eqT 21 (.i L) rfl (congrArg SV.i hL.symm) ?_
  clear hL
  refine AWP.runL e tab_ok L4 300 rfl (by first | trivial | (simp [in64] <;> omega)) ?_
  repeat (
    first
      | (refine AWP.askT rfl ?_; (first | (refine Told.t rfl ?_) | (refine Told.f rfl ?_) | (refine Told.t ?_ ?_; (focus (first | assumption | (simp; omega) | (simp [*]; done)); done)) | (refine Told.f ?_ ?_; (focus (first | assumption | (simp; omega) | (simp [*]; done)); done))); refine AWP.runL e tab_ok L4 300 rfl (by first | trivial | (simp [in64] <;> omega)) ?_)
      | (refine AWP.callQ e rfl rfl ?_; (first | refine CallQ.mk (hn) rfl rfl ?_ | refine CallQ.mk (hf) rfl rfl ?_ | refine CallQ.mk (hs) rfl rfl ?_ | refine CallQ.mk (hs2) rfl rfl ?_ | refine CallQ.mk (hw) rfl rfl ?_); refine AWP.runL e tab_ok L4 300 rfl (by first | trivial | (simp [in64] <;> omega)) ?_)
      | (refine AWP.eq_agg e tab_ok rfl rfl rfl (.inl ⟨rfl, rfl⟩) ?_ 5 (by omega) rfl ?_ rfl rfl rfl rfl rfl rfl rfl ?_; (focus kernel_rfl); (focus kernel_rfl); refine AWP.runL e tab_ok L4 300 rfl (by first | trivial | (simp [in64] <;> omega)) ?_)
      | (refine AWP.eq_agg e tab_ok rfl rfl rfl (.inr ⟨rfl, rfl⟩) ?_ 5 (by omega) rfl ?_ rfl rfl rfl rfl rfl rfl rfl ?_; (focus kernel_rfl); (focus kernel_rfl); refine AWP.runL e tab_ok L4 300 rfl (by first | trivial | (simp [in64] <;> omega)) ?_)
    )
  refine AWP.eqT 2 (.i i) rfl (congrArg SV.i hm) ?_
  refine AWP.eqT 54 (.i i) rfl (congrArg SV.i hm) ?_
  clear hm hb1 hb2
  have hwr := w64 hi
  have hor := shlor_val told hi
  repeat (
    first
      | (refine AWP.askT rfl ?_; (first | (refine Told.t rfl ?_) | (refine Told.f rfl ?_) | (refine Told.t ?_ ?_; (focus (first | assumption | (simp; omega) | (simp [*]; done)); done)) | (refine Told.f ?_ ?_; (focus (first | assumption | (simp; omega) | (simp [*]; done)); done))); refine AWP.runL e tab_ok L4 300 rfl (by first | trivial | (simp [in64] <;> omega)) ?_)
      | (refine AWP.callQ e rfl rfl ?_; (first | refine CallQ.mk (hw2) rfl rfl ?_ | refine CallQ.mk (alive_eff) rfl rfl ?_ | refine CallQ.mk (ha1) rfl rfl ?_ | refine CallQ.mk (ha2) rfl rfl ?_ | refine CallQ.mk (ha3) rfl rfl ?_ | refine CallQ.mk (hk1) rfl rfl ?_ | refine CallQ.mk (hk2) rfl rfl ?_); refine AWP.runL e tab_ok L4 300 rfl (by first | trivial | (simp [] <;> omega)) ?_)
      | (refine AWP.eq_agg e tab_ok rfl rfl rfl (.inl ⟨rfl, rfl⟩) ?_ 5 (by omega) rfl ?_ rfl rfl rfl rfl rfl rfl rfl ?_; (focus kernel_rfl); (focus kernel_rfl); refine AWP.runL e tab_ok L4 300 rfl (by first | trivial | (simp [in64] <;> omega)) ?_)
      | (refine AWP.eq_agg e tab_ok rfl rfl rfl (.inr ⟨rfl, rfl⟩) ?_ 5 (by omega) rfl ?_ rfl rfl rfl rfl rfl rfl rfl ?_; (focus kernel_rfl); (focus kernel_rfl); refine AWP.runL e tab_ok L4 300 rfl (by first | trivial | (simp [in64] <;> omega)) ?_)
    )
  refine AWP.ret e tab_ok rfl ?_
  rw [hP]
  all_goals first | rfl | (simp [strip]; done)

theorem none_args (l : List SV) (h : Args tab 9 [22, 3, 3] l) : Eff Try.prog 4 l [] 0 (fun r _ _ => r = .b true) := by
  obtain ⟨_, _, rfl, ⟨told, rfl, t1, t2⟩, _, _, rfl, ⟨li, rfl, _, _⟩, _, _, rfl, ⟨z, rfl, _, _⟩, rfl⟩ := h
  obtain ⟨x, rfl⟩ := u16_of t1 t2
  exact none_eff x li z
end Go.Proofs.Ytdjhmlmdcfgphaa
