/-
  What a controller drives, in each of its states; it takes a frame to send. Condition: what the theorems state ahead.
-/
import Derived.Test.YthdcegeampcalaaGreatDoorC7
open Go Go.Proofs Go.Sy Go.Stuff
namespace Go.Proofs.YthdcegeampcalaaGreatDoor
set_option maxRecDepth 100000 in
set_option maxHeartbeats 1000000 in
theorem dr_join (n : Int) (h0 : 0 ≤ n) (h1 : n ≤ 10) : Eff Tryz.prog 52 [.agg (outS false 0 0 n false false f0)] [] 0 (fun r _ _ => r = .tup [U 49, .i 0]) := by
  have c1 := cr_join n h0 h1
  have cd : Eff Tryz.prog 69 [.agg (outS false 0 0 n false false f0)] [] 0 (fun r _ _ => r = U 49) := by
    refine eff_of Tryz.func69 rfl rfl rfl fun cx e hP => ?_
    refine AWP.runL e tab_ok L69 300 rfl (by trivial ) ?_
    repeat (
      (refine AWP.askT rfl ?_; ( (refine Told.f rfl ?_) ); refine AWP.runL e tab_ok L69 300 rfl (by trivial ) ?_)

      )
    refine AWP.ret e tab_ok rfl ?_
    rw [hP]
    all_goals rfl
  refine eff_of Tryz.func52 rfl rfl rfl fun cx e hP => ?_
  refine AWP.runL e tab_ok L52 300 rfl (by trivial ) ?_
  repeat (
    first
      | (refine AWP.askT rfl ?_; ( (refine Told.f rfl ?_) ); refine AWP.runL e tab_ok L52 300 rfl (by trivial ) ?_)
      | (refine AWP.callQ e rfl rfl ?_; (first | refine CallQ.mk (c1) rfl rfl ?_ | refine CallQ.mk (cd) rfl rfl ?_); refine AWP.runL e tab_ok L52 300 rfl (by trivial ) ?_)

    )
  refine AWP.ret e tab_ok rfl ?_
  rw [hP]
  all_goals rfl
set_option maxRecDepth 100000 in
set_option maxHeartbeats 1000000 in
theorem dr_idle (was : Bool) : Eff Tryz.prog 52 [.agg (outS false 0 1 0 was false f0)] [] 0 (fun r _ _ => r = .tup [U 49, .i 0]) := by
  have c1 := cr_idle was
  have cd : Eff Tryz.prog 69 [.agg (outS false 0 1 0 was false f0)] [] 0 (fun r _ _ => r = U 49) := by
    refine eff_of Tryz.func69 rfl rfl rfl fun cx e hP => ?_
    refine AWP.runL e tab_ok L69 300 rfl (by trivial ) ?_
    repeat (
      (refine AWP.askT rfl ?_; (first | (refine Told.t rfl ?_) | (refine Told.f rfl ?_) ); refine AWP.runL e tab_ok L69 300 rfl (by trivial ) ?_)

      )
    refine AWP.ret e tab_ok rfl ?_
    rw [hP]
    all_goals rfl
  refine eff_of Tryz.func52 rfl rfl rfl fun cx e hP => ?_
  refine AWP.runL e tab_ok L52 300 rfl (by trivial ) ?_
  repeat (
    first
      | (refine AWP.askT rfl ?_; ( (refine Told.f rfl ?_) ); refine AWP.runL e tab_ok L52 300 rfl (by trivial ) ?_)
      | (refine AWP.callQ e rfl rfl ?_; (first | refine CallQ.mk (c1) rfl rfl ?_ | refine CallQ.mk (cd) rfl rfl ?_); refine AWP.runL e tab_ok L52 300 rfl (by trivial ) ?_)

    )
  refine AWP.ret e tab_ok rfl ?_
  rw [hP]
  all_goals rfl
set_option maxRecDepth 100000 in
set_option maxHeartbeats 1000000 in
theorem dr_has (was : Bool) (f : Frm) (hr : rightF f = true) : Eff Tryz.prog 52 [.agg (outS false 0 1 0 was true f)] [] 0 (fun r _ _ => r = .tup [U 48, .i 0]) := by
  have c1 := cr_has was f hr
  have cd : Eff Tryz.prog 69 [.agg (outS false 0 1 0 was true f)] [] 0 (fun r _ _ => r = U 48) := by
    refine eff_of Tryz.func69 rfl rfl rfl fun cx e hP => ?_
    refine AWP.runL e tab_ok L69 300 rfl (by trivial ) ?_
    repeat (
      (refine AWP.askT rfl ?_; ((refine Told.t rfl ?_) ); refine AWP.runL e tab_ok L69 300 rfl (by trivial ) ?_)

      )
    refine AWP.ret e tab_ok rfl ?_
    rw [hP]
    all_goals rfl
  refine eff_of Tryz.func52 rfl rfl rfl fun cx e hP => ?_
  refine AWP.runL e tab_ok L52 300 rfl (by trivial ) ?_
  repeat (
    first
      | (refine AWP.askT rfl ?_; ( (refine Told.f rfl ?_) ); refine AWP.runL e tab_ok L52 300 rfl (by trivial ) ?_)
      | (refine AWP.callQ e rfl rfl ?_; (first | refine CallQ.mk (c1) rfl rfl ?_ | refine CallQ.mk (cd) rfl rfl ?_); refine AWP.runL e tab_ok L52 300 rfl (by trivial ) ?_)

    )
  refine AWP.ret e tab_ok rfl ?_
  rw [hP]
  all_goals rfl
set_option maxRecDepth 100000 in
set_option maxHeartbeats 1000000 in
theorem dr_gap (n : Int) (was : Bool) (h0 : 0 ≤ n) (h1 : n ≤ 2) : Eff Tryz.prog 52 [.agg (outS false 0 6 n was false f0)] [] 0 (fun r _ _ => r = .tup [U 49, .i 0]) := by
  have c1 := cr_gap n was h0 h1
  have cd : Eff Tryz.prog 69 [.agg (outS false 0 6 n was false f0)] [] 0 (fun r _ _ => r = U 49) := by
    refine eff_of Tryz.func69 rfl rfl rfl fun cx e hP => ?_
    refine AWP.runL e tab_ok L69 300 rfl (by trivial ) ?_
    repeat (
      (refine AWP.askT rfl ?_; ( (refine Told.f rfl ?_) ); refine AWP.runL e tab_ok L69 300 rfl (by trivial ) ?_)

      )
    refine AWP.ret e tab_ok rfl ?_
    rw [hP]
    all_goals rfl
  refine eff_of Tryz.func52 rfl rfl rfl fun cx e hP => ?_
  refine AWP.runL e tab_ok L52 300 rfl (by trivial ) ?_
  repeat (
    first
      | (refine AWP.askT rfl ?_; ( (refine Told.f rfl ?_) ); refine AWP.runL e tab_ok L52 300 rfl (by trivial ) ?_)
      | (refine AWP.callQ e rfl rfl ?_; (first | refine CallQ.mk (c1) rfl rfl ?_ | refine CallQ.mk (cd) rfl rfl ?_); refine AWP.runL e tab_ok L52 300 rfl (by trivial ) ?_)

    )
  refine AWP.ret e tab_ok rfl ?_
  rw [hP]
  all_goals rfl
set_option maxRecDepth 100000 in
set_option maxHeartbeats 1000000 in
theorem dr_off (rest n : Int) (h0 : 0 ≤ n) (h1 : n ≤ 10) (h2 : 1 ≤ rest) (h3 : rest ≤ 128) : Eff Tryz.prog 52 [.agg (outS true rest 8 n false true f0)] [] 0 (fun r _ _ => r = .tup [U 49, .i 0]) := by
  have c1 := cr_off rest n h0 h1 h2 h3
  have cd : Eff Tryz.prog 69 [.agg (outS true rest 8 n false true f0)] [] 0 (fun r _ _ => r = U 49) := by
    refine eff_of Tryz.func69 rfl rfl rfl fun cx e hP => ?_
    refine AWP.runL e tab_ok L69 300 rfl (by trivial ) ?_
    repeat (
      (refine AWP.askT rfl ?_; ( (refine Told.f rfl ?_) ); refine AWP.runL e tab_ok L69 300 rfl (by trivial ) ?_)

      )
    refine AWP.ret e tab_ok rfl ?_
    rw [hP]
    all_goals rfl
  refine eff_of Tryz.func52 rfl rfl rfl fun cx e hP => ?_
  refine AWP.runL e tab_ok L52 300 rfl (by trivial ) ?_
  repeat (
    first
      | (refine AWP.askT rfl ?_; ( (refine Told.f rfl ?_) ); refine AWP.runL e tab_ok L52 300 rfl (by trivial ) ?_)
      | (refine AWP.callQ e rfl rfl ?_; (first | refine CallQ.mk (c1) rfl rfl ?_ | refine CallQ.mk (cd) rfl rfl ?_); refine AWP.runL e tab_ok L52 300 rfl (by trivial ) ?_)

    )
  refine AWP.ret e tab_ok rfl ?_
  rw [hP]
  all_goals rfl
set_option maxRecDepth 100000 in
set_option maxHeartbeats 1000000 in
theorem dr_come (f : Frm) (hr : rightF f = true) (i : Nat) (h1 : 1 ≤ i) (hi : i < (bodyF f).length) : Eff Tryz.prog 52 [.agg (inS false f0 [] 0 (rd f i).2 (rd f i).1 false 0 false)] [] 0 (fun r _ _ => r = .tup [U 49, .i 0]) := by
  have c1 := cr_come f hr i h1 hi
  generalize rd f i = q at *
  have cd : Eff Tryz.prog 69 [.agg (inS false f0 [] 0 q.2 q.1 false 0 false)] [] 0 (fun r _ _ => r = U 49) := by
    refine eff_of Tryz.func69 rfl rfl rfl fun cx e hP => ?_
    refine AWP.runL e tab_ok L69 300 rfl (by trivial ) ?_
    repeat (
      (refine AWP.askT rfl ?_; (first | (refine Told.t rfl ?_) | (refine Told.f rfl ?_) ); refine AWP.runL e tab_ok L69 300 rfl (by trivial ) ?_)

      )
    refine AWP.ret e tab_ok rfl ?_
    rw [hP]
    all_goals rfl
  refine eff_of Tryz.func52 rfl rfl rfl fun cx e hP => ?_
  refine AWP.runL e tab_ok L52 300 rfl (by trivial ) ?_
  repeat (
    first
      | (refine AWP.askT rfl ?_; ( (refine Told.f rfl ?_) ); refine AWP.runL e tab_ok L52 300 rfl (by trivial ) ?_)
      | (refine AWP.callQ e rfl rfl ?_; (first | refine CallQ.mk (c1) rfl rfl ?_ | refine CallQ.mk (cd) rfl rfl ?_); refine AWP.runL e tab_ok L52 300 rfl (by trivial ) ?_)

    )
  refine AWP.ret e tab_ok rfl ?_
  rw [hP]
  all_goals rfl
set_option maxRecDepth 100000 in
set_option maxHeartbeats 1000000 in
theorem dr_ack (f : Frm) (hr : rightF f = true) : Eff Tryz.prog 52 [.agg (inS false f0 [] 0 (rd f (bodyF f).length).2 (rd f (bodyF f).length).1 true 1 true)] [] 0 (fun r _ _ => r = .tup [U 48, .i 0]) := by
  have c1 := cr_tail f hr 1 (by decide)
  generalize rd f (bodyF f).length = q at *
  have cd : Eff Tryz.prog 69 [.agg (inS false f0 [] 0 q.2 q.1 true 1 true)] [] 0 (fun r _ _ => r = U 48) := by
    refine eff_of Tryz.func69 rfl rfl rfl fun cx e hP => ?_
    refine AWP.runL e tab_ok L69 300 rfl (by trivial ) ?_
    repeat (
      (refine AWP.askT rfl ?_; (first | (refine Told.t rfl ?_) | (refine Told.f rfl ?_) ); refine AWP.runL e tab_ok L69 300 rfl (by trivial ) ?_)

      )
    refine AWP.ret e tab_ok rfl ?_
    rw [hP]
    all_goals rfl
  refine eff_of Tryz.func52 rfl rfl rfl fun cx e hP => ?_
  refine AWP.runL e tab_ok L52 300 rfl (by trivial ) ?_
  repeat (
    first
      | (refine AWP.askT rfl ?_; ( (refine Told.f rfl ?_) ); refine AWP.runL e tab_ok L52 300 rfl (by trivial ) ?_)
      | (refine AWP.callQ e rfl rfl ?_; (first | refine CallQ.mk (c1) rfl rfl ?_ | refine CallQ.mk (cd) rfl rfl ?_); refine AWP.runL e tab_ok L52 300 rfl (by trivial ) ?_)

    )
  refine AWP.ret e tab_ok rfl ?_
  rw [hP]
  all_goals rfl
set_option maxRecDepth 100000 in
set_option maxHeartbeats 1000000 in
theorem dr_tail (f : Frm) (hr : rightF f = true) (t : Nat) (ht : t ≤ 9) (h1 : t ≠ 1) : Eff Tryz.prog 52 [.agg (inS false f0 [] 0 (rd f (bodyF f).length).2 (rd f (bodyF f).length).1 true t true)] [] 0 (fun r _ _ => r = .tup [U 49, .i 0]) := by
  have c1 := cr_tail f hr t ht
  have h2 : ((t : Int) == 1) = false := by simp; omega
  generalize rd f (bodyF f).length = q at *
  have cd : Eff Tryz.prog 69 [.agg (inS false f0 [] 0 q.2 q.1 true t true)] [] 0 (fun r _ _ => r = U 49) := by
    refine eff_of Tryz.func69 rfl rfl rfl fun cx e hP => ?_
    refine AWP.runL e tab_ok L69 300 rfl (by trivial ) ?_
    repeat (
      (refine AWP.askT rfl ?_; (first | (refine Told.t rfl ?_) | (refine Told.f rfl ?_) | (refine Told.f ?_ ?_; (focus assumption)) ); refine AWP.runL e tab_ok L69 300 rfl (by trivial ) ?_)

      )
    refine AWP.ret e tab_ok rfl ?_
    rw [hP]
    all_goals rfl
  refine eff_of Tryz.func52 rfl rfl rfl fun cx e hP => ?_
  refine AWP.runL e tab_ok L52 300 rfl (by trivial ) ?_
  repeat (
    first
      | (refine AWP.askT rfl ?_; ( (refine Told.f rfl ?_) ); refine AWP.runL e tab_ok L52 300 rfl (by trivial ) ?_)
      | (refine AWP.callQ e rfl rfl ?_; (first | refine CallQ.mk (c1) rfl rfl ?_ | refine CallQ.mk (cd) rfl rfl ?_); refine AWP.runL e tab_ok L52 300 rfl (by trivial ) ?_)

    )
  refine AWP.ret e tab_ok rfl ?_
  rw [hP]
  all_goals rfl
set_option maxRecDepth 100000 in
set_option maxHeartbeats 1000000 in
theorem dr_send (f : Frm) (hr : rightF f = true) (i : Nat) (h1 : 1 ≤ i) (hi : i < (bodyF f).length) : Eff Tryz.prog 52 [.agg (inS true f (bitsF f) (i : Nat) (rd f i).2 (rd f i).1 false 0 false)] [] 0 (fun r _ _ => r = .tup [U (bodyF f)[i], .i 0]) := by
  have c1 := cr_send f hr i h1 hi
  have hBl : (bitsF f).length = (bodyF f).length + 10 := by unfold bitsF; rw [List.length_append]; rfl
  have hBs : (strL (bitsF f)).size = (bitsF f).length := strL_size _
  have hcc : (bitsF f)[i]'(by omega) = (bodyF f)[i] := by unfold bitsF; exact List.getElem_append_left hi
  have hb : byteAt (strL (bitsF f)) i = (((bodyF f)[i]).toNat : Int) := by rw [b_at (bitsF f) i (by omega), hcc]
  clear hcc
  generalize (bodyF f)[i] = c at *
  generalize rd f i = q at *
  generalize bitsF f = B at *
  have cd : Eff Tryz.prog 69 [.agg (inS true f B (i : Nat) q.2 q.1 false 0 false)] [] 0 (fun r _ _ => r = U c) := by
    refine eff_of Tryz.func69 rfl rfl rfl fun cx e hP => ?_
    refine AWP.runL e tab_ok L69 300 rfl (by trivial ) ?_
    repeat (
      (refine AWP.askT rfl ?_; (first | (refine Told.t rfl ?_) | (refine Told.f rfl ?_) ); refine AWP.runL e tab_ok L69 300 rfl (by first | trivial | (simp [in64] <;> omega)) ?_)

      )
    refine AWP.eqT 2 (U c) rfl (congrArg (fun z => SV.d (.v (.int .u8 z))) hb) ?_
    refine AWP.ret e tab_ok rfl ?_
    rw [hP]
    all_goals rfl
  refine eff_of Tryz.func52 rfl rfl rfl fun cx e hP => ?_
  refine AWP.runL e tab_ok L52 300 rfl (by trivial ) ?_
  repeat (
    first
      | (refine AWP.askT rfl ?_; ( (refine Told.f rfl ?_) ); refine AWP.runL e tab_ok L52 300 rfl (by trivial ) ?_)
      | (refine AWP.callQ e rfl rfl ?_; (first | refine CallQ.mk (c1) rfl rfl ?_ | refine CallQ.mk (cd) rfl rfl ?_); refine AWP.runL e tab_ok L52 300 rfl (by trivial ) ?_)

    )
  refine AWP.ret e tab_ok rfl ?_
  rw [hP]
  all_goals rfl
set_option maxRecDepth 100000 in
set_option maxHeartbeats 1000000 in
theorem dr_stail (f : Frm) (hr : rightF f = true) (t : Nat) (ht : t ≤ 9) : Eff Tryz.prog 52 [.agg (inS true f (bitsF f) ((bodyF f).length + t : Nat) (rd f (bodyF f).length).2 (rd f (bodyF f).length).1 true t true)] [] 0 (fun r _ _ => r = .tup [U 49, .i 0]) := by
  have c1 := cr_stail f hr t ht
  have hBl : (bitsF f).length = (bodyF f).length + 10 := by unfold bitsF; rw [List.length_append]; rfl
  have hBs : (strL (bitsF f)).size = (bitsF f).length := strL_size _
  have hb := bits_tail f (i := t) (by omega)
  generalize rd f (bodyF f).length = q at *
  generalize bitsF f = B at *
  have cd : Eff Tryz.prog 69 [.agg (inS true f B ((bodyF f).length + t : Nat) q.2 q.1 true t true)] [] 0 (fun r _ _ => r = U 49) := by
    refine eff_of Tryz.func69 rfl rfl rfl fun cx e hP => ?_
    refine AWP.runL e tab_ok L69 300 rfl (by trivial ) ?_
    repeat (
      (refine AWP.askT rfl ?_; (first | (refine Told.t rfl ?_) | (refine Told.f rfl ?_) ); refine AWP.runL e tab_ok L69 300 rfl (by first | trivial | (simp [in64] <;> omega)) ?_)

      )
    refine AWP.eqT 2 (U 49) rfl (congrArg (fun z => SV.d (.v (.int .u8 z))) hb) ?_
    refine AWP.ret e tab_ok rfl ?_
    rw [hP]
    all_goals rfl
  refine eff_of Tryz.func52 rfl rfl rfl fun cx e hP => ?_
  refine AWP.runL e tab_ok L52 300 rfl (by trivial ) ?_
  repeat (
    first
      | (refine AWP.askT rfl ?_; ( (refine Told.f rfl ?_) ); refine AWP.runL e tab_ok L52 300 rfl (by trivial ) ?_)
      | (refine AWP.callQ e rfl rfl ?_; (first | refine CallQ.mk (c1) rfl rfl ?_ | refine CallQ.mk (cd) rfl rfl ?_); refine AWP.runL e tab_ok L52 300 rfl (by trivial ) ?_)

    )
  refine AWP.ret e tab_ok rfl ?_
  rw [hP]
  all_goals rfl
set_option maxRecDepth 100000 in
set_option maxHeartbeats 1000000 in
/-- A frame is given to a controller that rests. -/
theorem csubmit_eff (was : Bool) (f : Frm) (hr : rightF f = true) : Eff Tryz.prog 15 [.agg (outS false 0 1 0 was false f0), .agg (fS f)] [] 0 (fun r _ _ => r = .tup [.agg (outS false 0 1 0 was true f), .i 0]) := by
  have c1 := cr_idle was
  have c2 := fright_eff f
  rw [hr] at c2
  refine eff_of Tryz.func15 rfl rfl rfl fun cx e hP => ?_
  refine AWP.runL e tab_ok L15 300 rfl (by trivial ) ?_
  repeat (
    first
      | (refine AWP.askT rfl ?_; ( (refine Told.f rfl ?_) ); refine AWP.runL e tab_ok L15 300 rfl (by trivial ) ?_)
      | (refine AWP.callQ e rfl rfl ?_; (first | refine CallQ.mk (c1) rfl rfl ?_ | refine CallQ.mk (c2) rfl rfl ?_); refine AWP.runL e tab_ok L15 300 rfl (by trivial ) ?_)

    )
  repeat (

      (refine AWP.keep L15 rfl ?_; refine AWP.drg 100 ?_; (refine DrG.runS e tab_ok 200 rfl (by trivial ) ?_); (repeat ((refine DrG.askT rfl ?_; ((refine Told.t rfl ?_) ); (refine DrG.runS e tab_ok 200 rfl (by trivial ) ?_)) )); refine DrG.finK e rfl ?_ rfl rfl rfl ?_ ?_; (focus kernel_rfl); (focus (repeat' (first | exact True.intro | (refine And.intro ?_ ?_) | rfl ))); dsimp only [tmS, hpS, tput, effH]; refine AWP.runL e tab_ok L15 300 rfl (by trivial ) ?_)
    )
  refine AWP.ret e tab_ok rfl ?_
  rw [hP]
  all_goals rfl
end Go.Proofs.YthdcegeampcalaaGreatDoor
