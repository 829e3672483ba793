/-
  A frame's bits are read back, for every frame that may be; frames are cut to what may be asked. Condition: what the theorems state ahead.
-/
import Derived.Test.YthdcegeampcalaaGreatDoorF18
open Go Go.Proofs Go.Sy Go.Stuff
namespace Go.Proofs.YthdcegeampcalaaGreatDoor

theorem bb_bits (x : BitVec 15) : bb (bitsOf ((sw x).setWidth 64) 15) = Crc.bits15 x := by
  unfold bb bitsOf Crc.bits15
  rw [List.map_map]
  refine List.map_congr_left fun j hj => ?_
  have hj : j < 15 := List.mem_range.1 hj
  simp only [Function.comp_apply]
  have e : ((sw x).setWidth 64).getLsbD (15 - 1 - j) = x.getLsbD (14 - j) := by
    unfold sw
    rw [BitVec.getLsbD_setWidth, BitVec.getLsbD_setWidth, show 15 - 1 - j = 14 - j by omega, show decide (14 - j < 64) = true by simp; omega, show decide (14 - j < 32) = true by simp; omega, Bool.true_and, Bool.true_and]
  rw [e]
  cases x.getLsbD (14 - j) <;> rfl
theorem crc_frm (l : List UInt8) : crc (frm l) = 0#32 := by
  unfold frm
  have h : Crc.run 0#15 (bb (l ++ bitsOf ((crc l).setWidth 64) 15)) = 0#15 := by
    unfold bb
    rw [List.map_append, Crc.run_app]
    have := bb_bits (Crc.run 0#15 (bb l))
    unfold bb at this
    show Crc.run _ ((bitsOf ((sw (Crc.run 0#15 (l.map (· == 49)))).setWidth 64) 15).map (· == 49)) = _
    rw [this]
    exact Crc.run_own _
  show sw (Crc.run 0#15 (bb (l ++ bitsOf ((crc l).setWidth 64) 15))) = 0#32
  rw [h]
  rfl
theorem chk_sum {f : Frm} (hr : rightF f = true) : chk (sumF f) = true := by
  unfold chk
  rw [sum_well hr, show decide (15 ≤ (sumF f).length) = true by rw [sum_len]; simp, show crc (sumF f) = 0#32 from crc_frm _]
  rfl
theorem bits_well {f : Frm} (hr : rightF f = true) : wellB (bitsF f) = true := by
  refine wellB_of ?_ fun b hb => ?_
  · have := (body_len hr).2
    unfold bitsF
    rw [List.length_append]
    show _ + 10 ≤ 4000
    omega
  · unfold bitsF at hb
    rcases List.mem_append.1 hb with h | h
    · rcases body_bits f b h with h | h <;> rw [h] <;> rfl
    · have : b = 49 := by unfold ones at h; simpa using h
      rw [this]; rfl
theorem bits_tail (f : Frm) {i : Nat} (h : i < 10) : byteAt (strL (bitsF f)) ((bodyF f).length + i : Nat) = 49 := by
  have hl : (bodyF f).length + i < (bitsF f).length := by unfold bitsF; rw [List.length_append]; show _ < _ + 10; omega
  have : ∀ (j : Nat) (hj : j < ones.length), ones[j] = 49 := by
    intro j hj
    have h10 : ∀ j : Fin 10, ones[j.1]'(j.2) = 49 := by decide
    exact h10 ⟨j, hj⟩
  have h2 : (bitsF f)[(bodyF f).length + i]? = some 49 := by
    unfold bitsF
    rw [List.getElem?_append_right (by omega), Nat.add_sub_cancel_left, List.getElem?_eq_getElem (show i < ones.length from h), this]
  rw [b_at _ _ hl, (List.getElem?_eq_some_iff.1 h2).2]
  rfl
theorem ones_at {i : Nat} (h : i < 10) : byteAt (ByteArray.mk #[49, 49, 49, 49, 49, 49, 49, 49, 49, 49]) i = 49 := by
  have : ∀ i : Fin 10, byteAt (ByteArray.mk #[49, 49, 49, 49, 49, 49, 49, 49, 49, 49]) ((i.1 : Nat) : Int) = 49 := by decide
  exact this ⟨i, h⟩
set_option maxRecDepth 100000 in
set_option maxHeartbeats 4000000 in
theorem parse_eff (f : Frm) (hr : rightF f = true) : Eff Tryz.prog 12 [.s (strL (bitsF f))] [] 0 (fun r _ _ => r = .tup [.agg (fS f), .i ((bitsF f).length : Nat), .i 0]) := by
  have c1 := right_eff (bitsF f)
  rw [bits_well hr] at c1
  have c2 := stuffed_eff f hr
  have c3 := check_eff (sumF f)
  rw [chk_sum hr] at c3
  have c4 := read_eff f hr
  have hsl := sum_len f
  have hcut : (strL (sumF f)).extract 0 ((sumF f).length - 15) = strL (headL f) := by
    rw [str_ext, List.drop_zero, show (sumF f).length - 15 = (headL f).length by omega, sum_take]
  have hcut : (strL (sumF f)).extract 0 (((strL (sumF f)).size : Int) - 15).toNat = strL (headL f) := by
    rw [strL_size, show (((sumF f).length : Int) - 15).toNat = (sumF f).length - 15 by omega]
    exact hcut
  have hz := strL_size (sumF f)
  have hsz : (strL (bitsF f)).size = (bitsF f).length := strL_size _
  have hBl : (bitsF f).length = (bodyF f).length + 10 := by unfold bitsF; rw [List.length_append]; rfl
  have hb := fun i h => bits_tail f (i := i) h
  have ho := fun i h => ones_at (i := i) h
  have hl := (body_len hr).2
  have hle := head_le hr
  generalize bitsF f = B at *
  generalize (bodyF f).length = nb at *
  generalize hS : sumF f = S at *
  generalize headL f = H at *
  clear hS
  refine eff_of Tryz.func12 rfl rfl rfl fun cx e hP => ?_
  refine AWP.runL e tab_ok L12 300 rfl (by trivial ) ?_
  repeat (
    first
      | (refine AWP.askT rfl ?_; ( (refine Told.f rfl ?_) ); refine AWP.runL e tab_ok L12 300 rfl (by trivial ) ?_)
      | (refine AWP.callQ e rfl rfl ?_; (first | refine CallQ.mk (c1) rfl rfl ?_ | refine CallQ.mk (c2) rfl rfl ?_ | refine CallQ.mk (c3) rfl rfl ?_); refine AWP.runL e tab_ok L12 300 rfl (by trivial ) ?_)

    )
  refine AWP.loop (ι := Nat) (fun i => ⟨[(39, .i i), (7, .i nb), (6, .s (strL S)), (5, .fn (.func 23) [] []), (2, .ptr 0 0), (0, .s (strL B))], [(0, .box (fS ⟨0, false, false, 0, []⟩))], 1⟩) (fun i => i ≤ 10) (fun i => 10 - i) 0 (by decide) ?_ ?_
  · intro g
    refine AWP.less e ?_ ?_ ?_ ?_ ?_ (g) <;> (repeat' (first | exact True.intro | (refine And.intro ?_ ?_) | rfl))
  intro i Φ hi next
  have hi : i ≤ 10 := hi
  refine AWP.runL e tab_ok L12 300 rfl (by trivial ) ?_
  refine AWP.cond2 rfl (fun hlt => ?_) (fun hlt => ?_)
  · have hlt : i < 10 := by have := of_decide_eq_true hlt; omega
    have hb1 := hb i hlt
    have ho1 := ho i hlt
    have nx := next (i + 1) hlt (by show 10 - (i + 1) < 10 - i; omega)
    clear next
    by_cases h1 : i = 1
    · have g : ((i : Int) != 1) = false := by rw [h1]; rfl
      refine AWP.runL e tab_ok L12 300 rfl (by  (simp [in64] <;> omega)) ?_
      repeat (
        first
          | (refine AWP.askT rfl ?_; ( (refine Told.f ?_ ?_; (focus ((simp; omega)); done))); refine AWP.runL e tab_ok L12 300 rfl (by trivial ) ?_)
          | (refine AWP.keep L12 rfl ?_; refine AWP.drg 100 ?_; (refine DrG.runS e tab_ok 200 rfl (by trivial ) ?_); (repeat ((refine DrG.askT rfl ?_; ( (refine Told.f ?_ ?_; (focus assumption)) ); (refine DrG.runS e tab_ok 200 rfl (by trivial ) ?_)) )); refine DrG.finK e rfl ?_ rfl rfl rfl ?_ ?_; (focus kernel_rfl); (focus (repeat' (first | exact True.intro | (refine And.intro ?_ ?_) | rfl ))); dsimp only [tmS, hpS, tput, effH]; refine AWP.runL e tab_ok L12 300 rfl (by  (simp [in64] <;> omega)) ?_)
        )
      refine AWP.lessR e [] ?_ ?_ ?_ ?_ ?_ ?_ (nx) <;> (repeat' (first | exact True.intro | (refine And.intro ?_ ?_) | rfl))
    · have g : ((i : Int) != 1) = true := by simp; omega
      have gd : (byteAt (strL B) ((nb : Int) + (i : Int)) != byteAt (ByteArray.mk #[49, 49, 49, 49, 49, 49, 49, 49, 49, 49]) i) = false := by
        rw [show byteAt (strL B) ((nb : Int) + (i : Int)) = 49 from hb1, ho1]; rfl
      refine AWP.runL e tab_ok L12 300 rfl (by  (simp [in64] <;> omega)) ?_
      have hz10 : (ByteArray.mk #[49, 49, 49, 49, 49, 49, 49, 49, 49, 49]).size = 10 := rfl
      repeat (
        first
          | (refine AWP.askT rfl ?_; (first | (refine Told.f ?_ ?_; (focus assumption)) | (refine Told.f ?_ ?_; (focus ((simp; omega)); done))); refine AWP.runL e tab_ok L12 300 rfl (by first | trivial | (simp [in64] <;> omega)) ?_)
          | (refine AWP.keep L12 rfl ?_; refine AWP.drg 100 ?_; (refine DrG.runS e tab_ok 200 rfl (by trivial ) ?_); (repeat ((refine DrG.askT rfl ?_; ( (refine Told.t ?_ ?_; (focus assumption)) ); (refine DrG.runS e tab_ok 200 rfl (by  (simp [in64] <;> omega)) ?_)) )); refine DrG.finK e rfl ?_ rfl rfl rfl ?_ ?_; (focus kernel_rfl); (focus (repeat' (first | exact True.intro | (refine And.intro ?_ ?_) | rfl ))); dsimp only [tmS, hpS, tput, effH]; refine AWP.runL e tab_ok L12 300 rfl (by trivial ) ?_)
        )
      refine AWP.lessR e [] ?_ ?_ ?_ ?_ ?_ ?_ (nx) <;> (repeat' (first | exact True.intro | (refine And.intro ?_ ?_) | rfl))
  · have hlt : ¬ i < 10 := by have := of_decide_eq_false hlt; omega
    obtain rfl : i = 10 := by omega
    refine AWP.runL e tab_ok L12 300 rfl ?_ ?_
    · simp [in64, hz]
      omega
    refine AWP.eqT 78 (.s (strL H)) rfl (congrArg SV.s hcut) ?_
    repeat (
      first
        | (refine AWP.askT rfl ?_; ( (refine Told.f rfl ?_) ); refine AWP.runL e tab_ok L12 300 rfl (by  (simp [in64] <;> omega)) ?_)
        | (refine AWP.callQ e rfl rfl ?_; (first | refine CallQ.mk (c4) rfl rfl ?_); refine AWP.runL e tab_ok L12 300 rfl (by trivial ) ?_)

      )
    refine AWP.ret e tab_ok rfl ?_
    rw [hP]
    rw [hBl]
    rfl
end Go.Proofs.YthdcegeampcalaaGreatDoor

open Go Go.Proofs Go.Sy Go.Stuff
namespace Go.Proofs.YthdcegeampcalaaGreatDoor
def f5 : Frm := ⟨5#32, false, false, 0, []⟩
set_option maxRecDepth 100000 in
set_option maxHeartbeats 1000000 in
theorem alive_eff : Eff Tryz.prog 6 [] [] 0 (fun r _ _ => r = .b true) := by
  have hr : rightF f5 = true := rfl
  have c1 := bits_eff f5 hr
  have c2 := parse_eff f5 hr
  have hsz : (strL (bitsF f5)).size = (bitsF f5).length := strL_size _
  generalize bitsF f5 = B at *
  refine eff_of Tryz.func6 rfl rfl rfl fun cx e hP => ?_
  refine AWP.runL e tab_ok L6 300 rfl (by trivial ) ?_
  repeat (
    first
      | (refine AWP.askT rfl ?_; (first | (refine Told.t rfl ?_) | (refine Told.t ?_ ?_; (focus ((simp; omega)); done))); refine AWP.runL e tab_ok L6 300 rfl (by trivial ) ?_)
      | (refine AWP.callQ e rfl rfl ?_; (first | refine CallQ.mk (c1) rfl rfl ?_ | refine CallQ.mk (c2) rfl rfl ?_); refine AWP.runL e tab_ok L6 300 rfl (by trivial ) ?_)

    )
  refine AWP.ret e tab_ok rfl ?_
  rw [hP]
  all_goals rfl
set_option maxRecDepth 100000 in
theorem few_eff (f : Frm) : Eff Tryz.prog 4 [.agg (fS f)] [] 0 (fun r _ _ => r = .agg (fS { f with data := f.data.take 12 })) := by
  have hc := cut_str f.data 12
  obtain ⟨id, ext, rem, dlc, data⟩ := f
  dsimp only at *
  refine eff_of Tryz.func4 rfl rfl rfl fun cx e hP => ?_
  refine AWP.runL e tab_ok L4 300 rfl (by  (simp [in64] <;> omega)) ?_
  refine AWP.ret e tab_ok rfl ?_
  rw [hP]
  exact congrArg (fun z => SV.agg [U32 id, .b ext, .b rem, .i dlc, .s z]) hc
end Go.Proofs.YthdcegeampcalaaGreatDoor
