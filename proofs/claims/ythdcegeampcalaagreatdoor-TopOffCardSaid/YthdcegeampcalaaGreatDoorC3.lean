/-
  A new controller; how great a frame is that is not whole. Condition: what the theorems state ahead.
-/
import Derived.Test.YthdcegeampcalaaGreatDoorC2
open Go Go.Proofs Go.Sy Go.Stuff
namespace Go.Proofs.YthdcegeampcalaaGreatDoor
def f0 : Frm := ⟨0#32, false, false, 0, []⟩
/-- A controller of which nothing of a frame is kept. -/
abbrev outS (off : Bool) (rest st n : Int) (was has : Bool) (fr : Frm) : List SV := [.i 0, .i 0, .b off, .i rest, .i st, .i n, .b was, .b false, .b has, U32 fr.id, .b fr.ext, .b fr.rem, .i fr.dlc, .s (strL fr.data), .b false, .s (strL []), .i 0, U 0, .i 0, .s (strL []), .b false, .i 0, .b false]
/-- One in a frame. -/
abbrev inS (s : Bool) (fr : Frm) (out : List UInt8) (at_ : Int) (x : X) (got : List UInt8) (fin : Bool) (tl : Int) (good : Bool) : List SV := [.i 0, .i 0, .b false, .i 0, .i 2, .i 0, .b s, .b false, .b s, U32 fr.id, .b fr.ext, .b fr.rem, .i fr.dlc, .s (strL fr.data), .b s, .s (strL out), .i at_, U x.1, .i x.2, .s (strL got), .b fin, .i tl, .b good]
set_option maxRecDepth 100000 in
theorem new_eff : Eff Tryz.prog 8 [] [] 0 (fun r _ _ => r = .agg (outS false 0 0 0 false false f0)) := by
  refine eff_of Tryz.func8 rfl rfl rfl fun cx e hP => ?_
  refine AWP.runL e tab_ok L8 300 rfl (by trivial ) ?_
  refine AWP.ret e tab_ok rfl ?_
  rw [hP]
  all_goals rfl
set_option maxRecDepth 100000 in
set_option maxHeartbeats 1000000 in
theorem out_eff (off : Bool) (rest st n : Int) (was has : Bool) (fr : Frm) : Eff Tryz.prog 51 [.agg (outS off rest st n was has fr)] [] 0 (fun r _ _ => r = .b true) := by
  have hn : ((strL []).toList == (ByteArray.mk #[]).toList) = true := by rw [nil_str]; rfl
  refine eff_of Tryz.func51 rfl rfl rfl fun cx e hP => ?_
  refine AWP.runL e tab_ok L51 300 rfl (by trivial ) ?_
  repeat (
    first
      | (refine AWP.askT rfl ?_; (first | (refine Told.t rfl ?_) | (refine Told.t ?_ ?_; (focus assumption)) ); refine AWP.runL e tab_ok L51 300 rfl (by trivial ) ?_)
      | (refine AWP.eq_agg e tab_ok rfl rfl rfl (.inl ⟨rfl, rfl⟩) ?_ 5 (by omega) rfl ?_ rfl rfl rfl rfl rfl rfl rfl ?_; (focus kernel_rfl); (focus kernel_rfl); refine AWP.runL e tab_ok L51 300 rfl (by trivial ) ?_)
    )
  refine AWP.ret e tab_ok rfl ?_
  rw [hP]
  all_goals rfl
set_option maxRecDepth 100000 in
theorem size_short (got : List UInt8) (hw : wellB got = true) (z : Int) (h : sizeL got = (0, z)) (hz : z = 3) : Eff Tryz.prog 66 [.s (strL got)] [] 0 (fun r _ _ => r = .i 0) := by
  have c1 := size_eff got hw
  rw [h] at c1
  subst hz
  refine eff_of Tryz.func66 rfl rfl rfl fun cx e hP => ?_
  refine AWP.runL e tab_ok L66 300 rfl (by trivial ) ?_
  repeat (
    first
      | (refine AWP.askT rfl ?_; ((refine Told.t rfl ?_) ); refine AWP.runL e tab_ok L66 300 rfl (by trivial ) ?_)
      | (refine AWP.callQ e rfl rfl ?_; (first | refine CallQ.mk (c1) rfl rfl ?_); refine AWP.runL e tab_ok L66 300 rfl (by trivial ) ?_)

    )
  refine AWP.ret e tab_ok rfl ?_
  rw [hP]
  all_goals rfl
set_option maxRecDepth 100000 in
theorem size_told (got : List UInt8) (hw : wellB got = true) (n : Nat) (hn : n ≤ 200) (h : sizeL got = ((n : Int), 0)) : Eff Tryz.prog 66 [.s (strL got)] [] 0 (fun r _ _ => r = .i (n + 15 : Nat)) := by
  have c1 := size_eff got hw
  rw [h] at c1
  refine eff_of Tryz.func66 rfl rfl rfl fun cx e hP => ?_
  refine AWP.runL e tab_ok L66 300 rfl (by trivial ) ?_
  repeat (
    first
      | (refine AWP.askT rfl ?_; ( (refine Told.f rfl ?_) ); refine AWP.runL e tab_ok L66 300 rfl (by  (simp [in64] <;> omega)) ?_)
      | (refine AWP.callQ e rfl rfl ?_; (first | refine CallQ.mk (c1) rfl rfl ?_); refine AWP.runL e tab_ok L66 300 rfl (by trivial ) ?_)

    )
  refine AWP.ret e tab_ok rfl ?_
  rw [hP]
  all_goals rfl
set_option maxRecDepth 100000 in
theorem good_eff (f : Frm) (hr : rightF f = true) : Eff Tryz.prog 67 [.s (strL (sumF f))] [] 0 (fun r _ _ => r = .b true) := by
  have c3 := check_eff (sumF f)
  rw [chk_sum hr] at c3
  have c4 := read_eff f hr
  have hsl := sum_len f
  have hle := head_le hr
  have hz := strL_size (sumF f)
  have hcut : (strL (sumF f)).extract 0 (((strL (sumF f)).size : Int) - 15).toNat = strL (headL f) := by
    rw [hz, show (((sumF f).length : Int) - 15).toNat = (headL f).length by omega, str_ext, List.drop_zero, sum_take]
  generalize sumF f = S at *
  generalize headL f = H at *
  refine eff_of Tryz.func67 rfl rfl rfl fun cx e hP => ?_
  refine AWP.runL e tab_ok L67 300 rfl (by trivial ) ?_
  repeat (
    first
      | (refine AWP.askT rfl ?_; (first | (refine Told.f rfl ?_) | (refine Told.f ?_ ?_; (focus ((simp; omega)); done))); refine AWP.runL e tab_ok L67 300 rfl (by first | trivial | (simp [in64] <;> omega)) ?_)
      | (refine AWP.callQ e rfl rfl ?_; (first | refine CallQ.mk (c3) rfl rfl ?_); refine AWP.runL e tab_ok L67 300 rfl (by trivial ) ?_)

    )
  refine AWP.eqT 18 (.s (strL H)) rfl (congrArg SV.s hcut) ?_
  repeat (

      (refine AWP.callQ e rfl rfl ?_; (first | refine CallQ.mk (c4) rfl rfl ?_); refine AWP.runL e tab_ok L67 300 rfl (by trivial ) ?_)

    )
  refine AWP.ret e tab_ok rfl ?_
  rw [hP]
  all_goals rfl
end Go.Proofs.YthdcegeampcalaaGreatDoor
