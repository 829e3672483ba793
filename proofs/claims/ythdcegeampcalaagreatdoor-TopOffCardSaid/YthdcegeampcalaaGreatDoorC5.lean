/-
  A controller that takes a frame is right, at every bit. Condition: what the theorems state ahead.
-/
import Derived.Test.YthdcegeampcalaaGreatDoorC4
open Go Go.Proofs Go.Sy Go.Stuff
namespace Go.Proofs.YthdcegeampcalaaGreatDoor
theorem sum_zero {f : Frm} {n : Nat} (h : 1 ≤ n) (l : List UInt8) (hl : l = (sumF f).take n) : byteAt (strL l) 0 = 48 := by
  obtain ⟨m, hm⟩ := sum_cons f
  cases n with
  | zero => omega
  | succ n =>
    rw [hl, hm, List.take_succ_cons, b_hd]
    rfl
/-- What ctl.size tells of what was read. -/
def szI (f : Frm) (n : Nat) : Int := if n < fixN f then 0 else ((sumF f).length : Int)
theorem take_well {f : Frm} (hr : rightF f = true) (n : Nat) : wellB ((sumF f).take n) = true :=
  wellB_sub (sum_well hr) (fun b hb => List.mem_of_mem_take hb) (by rw [List.length_take]; omega)
theorem csize_eff {f : Frm} (hr : rightF f = true) (n : Nat) (hn : n ≤ (sumF f).length) : Eff Tryz.prog 66 [.s (strL ((sumF f).take n))] [] 0 (fun r _ _ => r = .i (szI f n)) := by
  have hs := size_take hr n hn
  unfold szI
  by_cases h : n < fixN f
  · rw [if_pos h] at hs ⊢
    exact size_short _ (take_well hr n) 3 hs rfl
  · rw [if_neg h] at hs ⊢
    have := size_told _ (take_well hr n) _ (by have := head_le hr; omega) hs
    rw [← sum_len] at this
    exact this
set_option maxRecDepth 100000 in
set_option maxHeartbeats 8000000 in
/-- A frame that comes, of which not all stuffed bits were there. -/
theorem in_come (f : Frm) (hr : rightF f = true) (i : Nat) (h1 : 1 ≤ i) (hi : i < (bodyF f).length) :
    Eff Tryz.prog 50 [.agg (inS false f0 [] 0 (rd f i).2 (rd f i).1 false 0 false)] [] 0 (fun r _ _ => r = .b true) := by
  have R := rd_of f (Nat.le_of_lt hi)
  have hg1 := rd_zero hr h1 (Nat.le_of_lt hi)
  have hpre := R.pre
  have hbef := R.before hi
  have hlen := R.len
  have hrs := rd_right f (Nat.le_of_lt hi)
  have hx1 := (R.good h1).2
  have hx5 := R.five
  have c1 := size_eff (rd f i).1 (by rw [hpre]; exact take_well hr _)
  rw [show sizeL (rd f i).1 = _ from (congrArg sizeL hpre).trans (size_take hr _ hlen)] at c1
  have c2 := right_eff (rd f i).1
  rw [show wellB (rd f i).1 = true by rw [hpre]; exact take_well hr _] at c2
  have c3 := rights_eff (rd f i).2.1 (rd f i).2.2
  rw [hrs] at c3
  have c4 : Eff Tryz.prog 66 [.s (strL (rd f i).1)] [] 0 (fun r _ _ => r = .i (szI f (rd f i).1.length)) := by
    have := csize_eff hr _ hlen
    rw [← hpre] at this
    exact this
  have hb0 : (byteAt (strL (rd f i).1) 0 != 48) = false := by rw [sum_zero hg1 _ hpre]; rfl
  have hsz : (strL (rd f i).1).size = (rd f i).1.length := strL_size _
  have hle := head_le hr
  have hsl := sum_len f
  have hfx := fix_le f
  have hn : ((strL []).toList == (ByteArray.mk #[]).toList) = true := by rw [nil_str]; rfl
  unfold szI at c4
  clear hpre hrs R
  generalize rd f i = q at *
  obtain ⟨g, x, n⟩ := q
  dsimp only at *
  generalize hT : (sumF f).length = T at *
  by_cases hf : g.length < fixN f
  · rw [if_pos hf] at c1 c4
    have h73 : (((strL g).size : Int) == 0) = false := by rw [hsz]; simp; intro h; rw [h] at hg1; simp at hg1
    refine eff_of Tryz.func50 rfl rfl rfl fun cx e hP => ?_
    refine AWP.runL e tab_ok L50 300 rfl (by trivial ) ?_
    repeat (
      first
        | (refine AWP.askT rfl ?_; (first | (refine Told.f rfl ?_) | (refine Told.f ?_ ?_; (focus assumption)) | (refine Told.f ?_ ?_; (focus ((simp; omega)); done))); refine AWP.runL e tab_ok L50 300 rfl (by first | trivial | (simp [in64] <;> omega)) ?_)
        | (refine AWP.callQ e rfl rfl ?_; (first | refine CallQ.mk (c1) rfl rfl ?_ | refine CallQ.mk (c2) rfl rfl ?_ | refine CallQ.mk (c3) rfl rfl ?_ | refine CallQ.mk (c4) rfl rfl ?_); refine AWP.runL e tab_ok L50 300 rfl (by trivial ) ?_)

      )
    repeat (
      first
        | (refine AWP.askT rfl ?_; (first | (refine Told.t rfl ?_) | (refine Told.f rfl ?_) | (refine Told.t ?_ ?_; (focus assumption)) ); refine AWP.runL e tab_ok L50 300 rfl (by trivial ) ?_)
        | (refine AWP.keep L50 rfl ?_; refine AWP.drg 100 ?_; (refine DrG.runS e tab_ok 200 rfl (by trivial ) ?_); (repeat ((refine DrG.askT rfl ?_; (first | (refine Told.t rfl ?_) | (refine Told.f rfl ?_) | (refine Told.f ?_ ?_; (focus assumption)) ); (refine DrG.runS e tab_ok 200 rfl (by trivial ) ?_)) )); refine DrG.finK e rfl ?_ rfl rfl rfl ?_ ?_; (focus kernel_rfl); (focus (repeat' (first | exact True.intro | (refine And.intro ?_ ?_) | rfl ))); dsimp only [tmS, hpS, tput, effH]; refine AWP.runL e tab_ok L50 300 rfl (by trivial ) ?_)
      )
    repeat (
      (refine AWP.askT rfl ?_; ((refine Told.t rfl ?_) ); refine AWP.runL e tab_ok L50 300 rfl (by trivial ) ?_)

      )
    refine AWP.ret e tab_ok rfl ?_
    rw [hP]
    all_goals rfl
  · rw [if_neg hf] at c1 c4
    rcases hbef with hb | hb
    · have h73 : (((strL g).size : Int) == (T : Int)) = false := by rw [hsz]; simp; omega
      refine eff_of Tryz.func50 rfl rfl rfl fun cx e hP => ?_
      refine AWP.runL e tab_ok L50 300 rfl (by trivial ) ?_
      repeat (
        first
          | (refine AWP.askT rfl ?_; (first | (refine Told.f rfl ?_) | (refine Told.f ?_ ?_; (focus assumption)) | (refine Told.f ?_ ?_; (focus ((simp; omega)); done))); refine AWP.runL e tab_ok L50 300 rfl (by first | trivial | (simp [in64] <;> omega)) ?_)
          | (refine AWP.callQ e rfl rfl ?_; (first | refine CallQ.mk (c1) rfl rfl ?_ | refine CallQ.mk (c2) rfl rfl ?_ | refine CallQ.mk (c3) rfl rfl ?_ | refine CallQ.mk (c4) rfl rfl ?_); refine AWP.runL e tab_ok L50 300 rfl (by trivial ) ?_)

        )
      repeat (
        first
          | (refine AWP.askT rfl ?_; (first | (refine Told.t rfl ?_) | (refine Told.f rfl ?_) | (refine Told.t ?_ ?_; (focus assumption)) ); refine AWP.runL e tab_ok L50 300 rfl (by trivial ) ?_)
          | (refine AWP.keep L50 rfl ?_; refine AWP.drg 100 ?_; (refine DrG.runS e tab_ok 200 rfl (by trivial ) ?_); (repeat ((refine DrG.askT rfl ?_; (first | (refine Told.t rfl ?_) | (refine Told.f rfl ?_) | (refine Told.f ?_ ?_; (focus assumption)) | (refine Told.t ?_ ?_; (focus ((simp; omega)); done)) | (refine Told.f ?_ ?_; (focus ((simp; omega)); done))); (refine DrG.runS e tab_ok 200 rfl (by trivial ) ?_)) )); refine DrG.finK e rfl ?_ rfl rfl rfl ?_ ?_; (focus kernel_rfl); (focus (repeat' (first | exact True.intro | (refine And.intro ?_ ?_) | rfl ))); dsimp only [tmS, hpS, tput, effH]; refine AWP.runL e tab_ok L50 300 rfl (by trivial ) ?_)
        )
      repeat (
        (refine AWP.askT rfl ?_; ((refine Told.t rfl ?_) ); refine AWP.runL e tab_ok L50 300 rfl (by trivial ) ?_)

        )
      refine AWP.ret e tab_ok rfl ?_
      rw [hP]
      all_goals rfl
    · have h78 : decide ((n : Int) < 5) = false := by simp; omega
      rcases cases_b (((strL g).size : Int) == (T : Int)) with h73 | h73
      · skip
        refine eff_of Tryz.func50 rfl rfl rfl fun cx e hP => ?_
        refine AWP.runL e tab_ok L50 300 rfl (by trivial ) ?_
        repeat (
          first
            | (refine AWP.askT rfl ?_; (first | (refine Told.f rfl ?_) | (refine Told.f ?_ ?_; (focus assumption)) | (refine Told.f ?_ ?_; (focus ((simp; omega)); done))); refine AWP.runL e tab_ok L50 300 rfl (by first | trivial | (simp [in64] <;> omega)) ?_)
            | (refine AWP.callQ e rfl rfl ?_; (first | refine CallQ.mk (c1) rfl rfl ?_ | refine CallQ.mk (c2) rfl rfl ?_ | refine CallQ.mk (c3) rfl rfl ?_ | refine CallQ.mk (c4) rfl rfl ?_); refine AWP.runL e tab_ok L50 300 rfl (by trivial ) ?_)

          )
        repeat (
          first
            | (refine AWP.askT rfl ?_; (first | (refine Told.t rfl ?_) | (refine Told.f rfl ?_) | (refine Told.t ?_ ?_; (focus assumption)) ); refine AWP.runL e tab_ok L50 300 rfl (by trivial ) ?_)
            | (refine AWP.keep L50 rfl ?_; refine AWP.drg 100 ?_; (refine DrG.runS e tab_ok 200 rfl (by trivial ) ?_); (repeat ((refine DrG.askT rfl ?_; (first | (refine Told.t rfl ?_) | (refine Told.f rfl ?_) | (refine Told.t ?_ ?_; (focus assumption)) | (refine Told.t ?_ ?_; (focus ((simp; omega)); done)) | (refine Told.f ?_ ?_; (focus ((simp; omega)); done))); (refine DrG.runS e tab_ok 200 rfl (by trivial ) ?_)) )); refine DrG.finK e rfl ?_ rfl rfl rfl ?_ ?_; (focus kernel_rfl); (focus (repeat' (first | exact True.intro | (refine And.intro ?_ ?_) | rfl ))); dsimp only [tmS, hpS, tput, effH]; refine AWP.runL e tab_ok L50 300 rfl (by trivial ) ?_)
          )
        repeat (
          (refine AWP.askT rfl ?_; ((refine Told.t rfl ?_) ); refine AWP.runL e tab_ok L50 300 rfl (by trivial ) ?_)

          )
        refine AWP.ret e tab_ok rfl ?_
        rw [hP]
        all_goals rfl
      · skip
        refine eff_of Tryz.func50 rfl rfl rfl fun cx e hP => ?_
        refine AWP.runL e tab_ok L50 300 rfl (by trivial ) ?_
        repeat (
          first
            | (refine AWP.askT rfl ?_; (first | (refine Told.f rfl ?_) | (refine Told.f ?_ ?_; (focus assumption)) | (refine Told.f ?_ ?_; (focus ((simp; omega)); done))); refine AWP.runL e tab_ok L50 300 rfl (by first | trivial | (simp [in64] <;> omega)) ?_)
            | (refine AWP.callQ e rfl rfl ?_; (first | refine CallQ.mk (c1) rfl rfl ?_ | refine CallQ.mk (c2) rfl rfl ?_ | refine CallQ.mk (c3) rfl rfl ?_ | refine CallQ.mk (c4) rfl rfl ?_); refine AWP.runL e tab_ok L50 300 rfl (by trivial ) ?_)

          )
        repeat (
          first
            | (refine AWP.askT rfl ?_; (first | (refine Told.t rfl ?_) | (refine Told.f rfl ?_) | (refine Told.t ?_ ?_; (focus assumption)) ); refine AWP.runL e tab_ok L50 300 rfl (by trivial ) ?_)
            | (refine AWP.keep L50 rfl ?_; refine AWP.drg 100 ?_; (refine DrG.runS e tab_ok 200 rfl (by trivial ) ?_); (repeat ((refine DrG.askT rfl ?_; (first | (refine Told.t rfl ?_) | (refine Told.f rfl ?_) | (refine Told.f ?_ ?_; (focus assumption)) | (refine Told.t ?_ ?_; (focus ((simp; omega)); done)) | (refine Told.f ?_ ?_; (focus ((simp; omega)); done))); (refine DrG.runS e tab_ok 200 rfl (by trivial ) ?_)) )); refine DrG.finK e rfl ?_ rfl rfl rfl ?_ ?_; (focus kernel_rfl); (focus (repeat' (first | exact True.intro | (refine And.intro ?_ ?_) | rfl ))); dsimp only [tmS, hpS, tput, effH]; refine AWP.runL e tab_ok L50 300 rfl (by trivial ) ?_)
          )
        repeat (
          (refine AWP.askT rfl ?_; ((refine Told.t rfl ?_) ); refine AWP.runL e tab_ok L50 300 rfl (by trivial ) ?_)

          )
        refine AWP.ret e tab_ok rfl ?_
        rw [hP]
        all_goals rfl
set_option maxRecDepth 100000 in
set_option maxHeartbeats 8000000 in
/-- A frame that comes, behind its stuffed bits. -/
theorem in_tail (f : Frm) (hr : rightF f = true) (i : Nat) (h1 : 1 ≤ i) (hi : i = (bodyF f).length) (t : Nat) (ht : t ≤ 9) :
    Eff Tryz.prog 50 [.agg (inS false f0 [] 0 (rd f i).2 (rd f i).1 true t true)] [] 0 (fun r _ _ => r = .b true) := by
  have R := rd_of f (Nat.le_of_eq hi)
  have hg1 := rd_zero hr h1 (Nat.le_of_eq hi)
  have hpre := R.pre
  have hlen := R.len
  have hrs := rd_right f (Nat.le_of_eq hi)
  have hx1 := (R.good h1).2
  have hx5 := R.five
  have c1 := size_eff (rd f i).1 (by rw [hpre]; exact take_well hr _)
  rw [show sizeL (rd f i).1 = _ from (congrArg sizeL hpre).trans (size_take hr _ hlen)] at c1
  have c2 := right_eff (rd f i).1
  rw [show wellB (rd f i).1 = true by rw [hpre]; exact take_well hr _] at c2
  have c3 := rights_eff (rd f i).2.1 (rd f i).2.2
  rw [hrs] at c3
  have c4 : Eff Tryz.prog 66 [.s (strL (rd f i).1)] [] 0 (fun r _ _ => r = .i (szI f (rd f i).1.length)) := by
    have := csize_eff hr _ hlen
    rw [← hpre] at this
    exact this
  have hb0 : (byteAt (strL (rd f i).1) 0 != 48) = false := by rw [sum_zero hg1 _ hpre]; rfl
  have hsz : (strL (rd f i).1).size = (rd f i).1.length := strL_size _
  have hle := head_le hr
  have hsl := sum_len f
  have hfx := fix_le f
  have hn : ((strL []).toList == (ByteArray.mk #[]).toList) = true := by rw [nil_str]; rfl
  unfold szI at c4
  obtain ⟨hd1, hd2⟩ := R.done hi
  have c5 := good_eff f hr
  rw [hd1, List.take_length] at hpre
  rw [← hpre] at c5
  clear hpre hrs R
  generalize rd f i = q at *
  obtain ⟨g, x, n⟩ := q
  dsimp only at *
  generalize hT : (sumF f).length = T at *
  have hf : ¬ g.length < fixN f := by have := head_len f; omega
  rw [if_neg hf] at c1 c4
  have h73 : (((strL g).size : Int) == (T : Int)) = true := by rw [hsz, hd1]; simp
  have h78 : decide ((n : Int) < 5) = true := by simp; omega
  have h102 : decide ((t : Int) > 9) = false := by simp; omega
  refine eff_of Tryz.func50 rfl rfl rfl fun cx e hP => ?_
  refine AWP.runL e tab_ok L50 300 rfl (by trivial ) ?_
  repeat (
    first
      | (refine AWP.askT rfl ?_; (first | (refine Told.f rfl ?_) | (refine Told.f ?_ ?_; (focus assumption)) | (refine Told.f ?_ ?_; (focus ((simp; omega)); done))); refine AWP.runL e tab_ok L50 300 rfl (by first | trivial | (simp [in64] <;> omega)) ?_)
      | (refine AWP.callQ e rfl rfl ?_; (first | refine CallQ.mk (c1) rfl rfl ?_ | refine CallQ.mk (c2) rfl rfl ?_ | refine CallQ.mk (c3) rfl rfl ?_ | refine CallQ.mk (c4) rfl rfl ?_); refine AWP.runL e tab_ok L50 300 rfl (by trivial ) ?_)

    )
  repeat (
    first
      | (refine AWP.askT rfl ?_; (first | (refine Told.t rfl ?_) | (refine Told.t ?_ ?_; (focus assumption)) ); refine AWP.runL e tab_ok L50 300 rfl (by trivial ) ?_)
      | (refine AWP.keep L50 rfl ?_; refine AWP.drg 100 ?_; (refine DrG.runS e tab_ok 200 rfl (by trivial ) ?_); (repeat (first | (refine DrG.askT rfl ?_; (first | (refine Told.t rfl ?_) | (refine Told.f rfl ?_) | (refine Told.t ?_ ?_; (focus assumption)) | (refine Told.f ?_ ?_; (focus assumption)) | (refine Told.t ?_ ?_; (focus ((simp; omega)); done)) | (refine Told.f ?_ ?_; (focus ((simp; omega)); done))); (refine DrG.runS e tab_ok 200 rfl (by trivial ) ?_)) | (refine DrG.callGo e rfl rfl rfl ?_; (first | refine CallVQ.mk (c5) rfl rfl ?_); (refine DrG.runS e tab_ok 200 rfl (by trivial ) ?_)) )); refine DrG.finK e rfl ?_ rfl rfl rfl ?_ ?_; (focus kernel_rfl); (focus (repeat' (first | exact True.intro | (refine And.intro ?_ ?_) | rfl ))); dsimp only [tmS, hpS, tput, effH]; refine AWP.runL e tab_ok L50 300 rfl (by trivial ) ?_)
    )
  repeat (
    (refine AWP.askT rfl ?_; ((refine Told.t rfl ?_) ); refine AWP.runL e tab_ok L50 300 rfl (by trivial ) ?_)

    )
  refine AWP.ret e tab_ok rfl ?_
  rw [hP]
  all_goals rfl
end Go.Proofs.YthdcegeampcalaaGreatDoor
