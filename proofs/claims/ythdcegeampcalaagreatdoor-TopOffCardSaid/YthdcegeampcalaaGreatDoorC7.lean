/-
  A controller of this run is right, in each of its states. Condition: what the theorems state ahead.
-/
import Derived.Test.YthdcegeampcalaaGreatDoorC6
open Go Go.Proofs Go.Sy Go.Stuff
namespace Go.Proofs.YthdcegeampcalaaGreatDoor
theorem f0_zero : (!(((f0.id.toNat : Nat) : Int) == 0 && (f0.ext == false && (f0.rem == false && (f0.dlc == 0 && ((strL f0.data).toList == ByteArray.empty.toList && true)))))) = false := by
  rw [show (strL f0.data).toList = [] from strL_toList [], show ByteArray.empty.toList = [] from strL_toList []]
  rfl
set_option maxRecDepth 100000 in
set_option maxHeartbeats 2000000 in
theorem cr_join (n : Int) (h0 : 0 ≤ n) (h1 : n ≤ 10) : Eff Tryz.prog 28 [.agg (outS false 0 0 n false false f0)] [] 0 (fun r _ _ => r = .b true) := by
  have c1 := cright_act
  have c2 := out_eff false 0 0 n false false f0
  have c3 := fright_eff f0
  have hn := f0_zero
  refine eff_of Tryz.func28 rfl rfl rfl fun cx e hP => ?_
  refine AWP.runL e tab_ok L28 300 rfl (by trivial ) ?_
  repeat (
    first
      | (refine AWP.askT rfl ?_; (first | (refine Told.t rfl ?_) | (refine Told.f rfl ?_) | (refine Told.f ?_ ?_; (focus assumption)) | (refine Told.f ?_ ?_; (focus ((simp; omega)); done))); refine AWP.runL e tab_ok L28 300 rfl (by trivial ) ?_)
      | (refine AWP.callQ e rfl rfl ?_; (first | refine CallQ.mk (c1) rfl rfl ?_ | refine CallQ.mk (c2) rfl rfl ?_); refine AWP.runL e tab_ok L28 300 rfl (by trivial ) ?_)
      | (refine AWP.eq_agg e tab_ok rfl rfl rfl (.inr ⟨rfl, rfl⟩) ?_ 5 (by omega) rfl ?_ rfl rfl rfl rfl rfl rfl rfl ?_; (focus kernel_rfl); (focus kernel_rfl); refine AWP.runL e tab_ok L28 300 rfl (by trivial ) ?_)
    )
  refine AWP.ret e tab_ok rfl ?_
  rw [hP]
  all_goals rfl
set_option maxRecDepth 100000 in
set_option maxHeartbeats 2000000 in
theorem cr_idle (was : Bool) : Eff Tryz.prog 28 [.agg (outS false 0 1 0 was false f0)] [] 0 (fun r _ _ => r = .b true) := by
  have c1 := cright_act
  have c2 := out_eff false 0 1 0 was false f0
  have c3 := fright_eff f0
  have hn := f0_zero
  refine eff_of Tryz.func28 rfl rfl rfl fun cx e hP => ?_
  refine AWP.runL e tab_ok L28 300 rfl (by trivial ) ?_
  repeat (
    first
      | (refine AWP.askT rfl ?_; (first | (refine Told.t rfl ?_) | (refine Told.f rfl ?_) | (refine Told.f ?_ ?_; (focus assumption)) ); refine AWP.runL e tab_ok L28 300 rfl (by trivial ) ?_)
      | (refine AWP.callQ e rfl rfl ?_; (first | refine CallQ.mk (c1) rfl rfl ?_ | refine CallQ.mk (c2) rfl rfl ?_); refine AWP.runL e tab_ok L28 300 rfl (by trivial ) ?_)
      | (refine AWP.eq_agg e tab_ok rfl rfl rfl (.inr ⟨rfl, rfl⟩) ?_ 5 (by omega) rfl ?_ rfl rfl rfl rfl rfl rfl rfl ?_; (focus kernel_rfl); (focus kernel_rfl); refine AWP.runL e tab_ok L28 300 rfl (by trivial ) ?_)
    )
  refine AWP.ret e tab_ok rfl ?_
  rw [hP]
  all_goals rfl
set_option maxRecDepth 100000 in
set_option maxHeartbeats 2000000 in
theorem cr_has (was : Bool) (f : Frm) (hr : rightF f = true) : Eff Tryz.prog 28 [.agg (outS false 0 1 0 was true f)] [] 0 (fun r _ _ => r = .b true) := by
  have c1 := cright_act
  have c2 := out_eff false 0 1 0 was true f
  have c3 := fright_eff f
  rw [hr] at c3
  refine eff_of Tryz.func28 rfl rfl rfl fun cx e hP => ?_
  refine AWP.runL e tab_ok L28 300 rfl (by trivial ) ?_
  repeat (
    first
      | (refine AWP.askT rfl ?_; (first | (refine Told.t rfl ?_) | (refine Told.f rfl ?_) ); refine AWP.runL e tab_ok L28 300 rfl (by trivial ) ?_)
      | (refine AWP.callQ e rfl rfl ?_; (first | refine CallQ.mk (c1) rfl rfl ?_ | refine CallQ.mk (c2) rfl rfl ?_ | refine CallQ.mk (c3) rfl rfl ?_); refine AWP.runL e tab_ok L28 300 rfl (by trivial ) ?_)

    )
  refine AWP.ret e tab_ok rfl ?_
  rw [hP]
  all_goals rfl
set_option maxRecDepth 100000 in
set_option maxHeartbeats 2000000 in
theorem cr_gap (n : Int) (was : Bool) (h0 : 0 ≤ n) (h1 : n ≤ 2) : Eff Tryz.prog 28 [.agg (outS false 0 6 n was false f0)] [] 0 (fun r _ _ => r = .b true) := by
  have c1 := cright_act
  have c2 := out_eff false 0 6 n was false f0
  have c3 := fright_eff f0
  have hn := f0_zero
  refine eff_of Tryz.func28 rfl rfl rfl fun cx e hP => ?_
  refine AWP.runL e tab_ok L28 300 rfl (by trivial ) ?_
  repeat (
    first
      | (refine AWP.askT rfl ?_; (first | (refine Told.t rfl ?_) | (refine Told.f rfl ?_) | (refine Told.f ?_ ?_; (focus assumption)) | (refine Told.f ?_ ?_; (focus ((simp; omega)); done))); refine AWP.runL e tab_ok L28 300 rfl (by trivial ) ?_)
      | (refine AWP.callQ e rfl rfl ?_; (first | refine CallQ.mk (c1) rfl rfl ?_ | refine CallQ.mk (c2) rfl rfl ?_); refine AWP.runL e tab_ok L28 300 rfl (by trivial ) ?_)
      | (refine AWP.eq_agg e tab_ok rfl rfl rfl (.inr ⟨rfl, rfl⟩) ?_ 5 (by omega) rfl ?_ rfl rfl rfl rfl rfl rfl rfl ?_; (focus kernel_rfl); (focus kernel_rfl); refine AWP.runL e tab_ok L28 300 rfl (by trivial ) ?_)
    )
  refine AWP.ret e tab_ok rfl ?_
  rw [hP]
  all_goals rfl
set_option maxRecDepth 100000 in
set_option maxHeartbeats 2000000 in
theorem cr_off (rest n : Int) (h0 : 0 ≤ n) (h1 : n ≤ 10) (h2 : 1 ≤ rest) (h3 : rest ≤ 128) : Eff Tryz.prog 28 [.agg (outS true rest 8 n false true f0)] [] 0 (fun r _ _ => r = .b true) := by
  have c1 := cright_off rest h2 h3
  have c2 := out_eff true rest 8 n false true f0
  have c3 := fright_eff f0
  rw [show rightF f0 = true from rfl] at c3
  refine eff_of Tryz.func28 rfl rfl rfl fun cx e hP => ?_
  refine AWP.runL e tab_ok L28 300 rfl (by trivial ) ?_
  repeat (
    first
      | (refine AWP.askT rfl ?_; (first | (refine Told.t rfl ?_) | (refine Told.f rfl ?_) | (refine Told.f ?_ ?_; (focus ((simp; omega)); done))); refine AWP.runL e tab_ok L28 300 rfl (by trivial ) ?_)
      | (refine AWP.callQ e rfl rfl ?_; (first | refine CallQ.mk (c1) rfl rfl ?_ | refine CallQ.mk (c2) rfl rfl ?_ | refine CallQ.mk (c3) rfl rfl ?_); refine AWP.runL e tab_ok L28 300 rfl (by trivial ) ?_)

    )
  refine AWP.ret e tab_ok rfl ?_
  rw [hP]
  all_goals rfl
set_option maxRecDepth 100000 in
set_option maxHeartbeats 2000000 in
theorem cr_come (f : Frm) (hr : rightF f = true) (i : Nat) (h1 : 1 ≤ i) (hi : i < (bodyF f).length) : Eff Tryz.prog 28 [.agg (inS false f0 [] 0 (rd f i).2 (rd f i).1 false 0 false)] [] 0 (fun r _ _ => r = .b true) := by
  have c1 := cright_act
  have c2 := in_come f hr i h1 hi
  have c3 := fright_eff f0
  have hn := f0_zero
  generalize rd f i = q at *
  refine eff_of Tryz.func28 rfl rfl rfl fun cx e hP => ?_
  refine AWP.runL e tab_ok L28 300 rfl (by trivial ) ?_
  repeat (
    first
      | (refine AWP.askT rfl ?_; (first | (refine Told.t rfl ?_) | (refine Told.f rfl ?_) | (refine Told.f ?_ ?_; (focus assumption)) ); refine AWP.runL e tab_ok L28 300 rfl (by trivial ) ?_)
      | (refine AWP.callQ e rfl rfl ?_; (first | refine CallQ.mk (c1) rfl rfl ?_ | refine CallQ.mk (c2) rfl rfl ?_); refine AWP.runL e tab_ok L28 300 rfl (by trivial ) ?_)
      | (refine AWP.eq_agg e tab_ok rfl rfl rfl (.inr ⟨rfl, rfl⟩) ?_ 5 (by omega) rfl ?_ rfl rfl rfl rfl rfl rfl rfl ?_; (focus kernel_rfl); (focus kernel_rfl); refine AWP.runL e tab_ok L28 300 rfl (by trivial ) ?_)
    )
  refine AWP.ret e tab_ok rfl ?_
  rw [hP]
  all_goals rfl
set_option maxRecDepth 100000 in
set_option maxHeartbeats 2000000 in
theorem cr_tail (f : Frm) (hr : rightF f = true) (t : Nat) (ht : t ≤ 9) : Eff Tryz.prog 28 [.agg (inS false f0 [] 0 (rd f (bodyF f).length).2 (rd f (bodyF f).length).1 true t true)] [] 0 (fun r _ _ => r = .b true) := by
  have c1 := cright_act
  have c2 := in_tail f hr (bodyF f).length (by have := body_pos hr; omega) rfl t ht
  have c3 := fright_eff f0
  have hn := f0_zero
  generalize rd f (bodyF f).length = q at *
  refine eff_of Tryz.func28 rfl rfl rfl fun cx e hP => ?_
  refine AWP.runL e tab_ok L28 300 rfl (by trivial ) ?_
  repeat (
    first
      | (refine AWP.askT rfl ?_; (first | (refine Told.t rfl ?_) | (refine Told.f rfl ?_) | (refine Told.f ?_ ?_; (focus assumption)) ); refine AWP.runL e tab_ok L28 300 rfl (by trivial ) ?_)
      | (refine AWP.callQ e rfl rfl ?_; (first | refine CallQ.mk (c1) rfl rfl ?_ | refine CallQ.mk (c2) rfl rfl ?_); refine AWP.runL e tab_ok L28 300 rfl (by trivial ) ?_)
      | (refine AWP.eq_agg e tab_ok rfl rfl rfl (.inr ⟨rfl, rfl⟩) ?_ 5 (by omega) rfl ?_ rfl rfl rfl rfl rfl rfl rfl ?_; (focus kernel_rfl); (focus kernel_rfl); refine AWP.runL e tab_ok L28 300 rfl (by trivial ) ?_)
    )
  refine AWP.ret e tab_ok rfl ?_
  rw [hP]
  all_goals rfl
set_option maxRecDepth 100000 in
set_option maxHeartbeats 2000000 in
theorem cr_send (f : Frm) (hr : rightF f = true) (i : Nat) (h1 : 1 ≤ i) (hi : i < (bodyF f).length) : Eff Tryz.prog 28 [.agg (inS true f (bitsF f) (i : Nat) (rd f i).2 (rd f i).1 false 0 false)] [] 0 (fun r _ _ => r = .b true) := by
  have c1 := cright_act
  have c2 := in_send f hr i h1 hi
  have c3 := fright_eff f
  rw [hr] at c3
  generalize rd f i = q at *
  generalize bitsF f = B at *
  refine eff_of Tryz.func28 rfl rfl rfl fun cx e hP => ?_
  refine AWP.runL e tab_ok L28 300 rfl (by trivial ) ?_
  repeat (
    first
      | (refine AWP.askT rfl ?_; (first | (refine Told.t rfl ?_) | (refine Told.f rfl ?_) ); refine AWP.runL e tab_ok L28 300 rfl (by trivial ) ?_)
      | (refine AWP.callQ e rfl rfl ?_; (first | refine CallQ.mk (c1) rfl rfl ?_ | refine CallQ.mk (c2) rfl rfl ?_ | refine CallQ.mk (c3) rfl rfl ?_); refine AWP.runL e tab_ok L28 300 rfl (by trivial ) ?_)

    )
  refine AWP.ret e tab_ok rfl ?_
  rw [hP]
  all_goals rfl
set_option maxRecDepth 100000 in
set_option maxHeartbeats 2000000 in
theorem cr_stail (f : Frm) (hr : rightF f = true) (t : Nat) (ht : t ≤ 9) : Eff Tryz.prog 28 [.agg (inS true f (bitsF f) ((bodyF f).length + t : Nat) (rd f (bodyF f).length).2 (rd f (bodyF f).length).1 true t true)] [] 0 (fun r _ _ => r = .b true) := by
  have c1 := cright_act
  have c2 := in_stail f hr (bodyF f).length (by have := body_pos hr; omega) rfl t ht
  have c3 := fright_eff f
  rw [hr] at c3
  generalize rd f (bodyF f).length = q at *
  generalize bitsF f = B at *
  refine eff_of Tryz.func28 rfl rfl rfl fun cx e hP => ?_
  refine AWP.runL e tab_ok L28 300 rfl (by trivial ) ?_
  repeat (
    first
      | (refine AWP.askT rfl ?_; (first | (refine Told.t rfl ?_) | (refine Told.f rfl ?_) ); refine AWP.runL e tab_ok L28 300 rfl (by trivial ) ?_)
      | (refine AWP.callQ e rfl rfl ?_; (first | refine CallQ.mk (c1) rfl rfl ?_ | refine CallQ.mk (c2) rfl rfl ?_ | refine CallQ.mk (c3) rfl rfl ?_); refine AWP.runL e tab_ok L28 300 rfl (by trivial ) ?_)

    )
  refine AWP.ret e tab_ok rfl ?_
  rw [hP]
  all_goals rfl
end Go.Proofs.YthdcegeampcalaaGreatDoor
