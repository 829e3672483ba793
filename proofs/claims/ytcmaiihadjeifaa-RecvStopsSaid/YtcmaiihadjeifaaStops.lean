/-
  LAW RecvStops OF LAYER 19 (recv), PROVED FOR EVERY ROW OF ARGUMENTS, WITHOUT CONDITIONS: it returns true, and its arguments read as before.
-/
import Derived.Test.YtcmaiihadjeifaaSums
import Derived.Test.YtcmaiihadjeifaaArgs
import Derived.Test.YtcmaiihadjeifaaLaw
import Derived.Deep.DeepCutAuto
namespace Go.Proofs.Ytcmaiihadjeifaa
open Go.RowKit Go.Camp

set_option maxRecDepth 100000 in
set_option maxHeartbeats 4000000 in
theorem stops_any (f e n : Int) (gots : Bool) (w : World) :
    Calls Try.prog 5 #[.int .i64 f, .int .i64 e, .int .i64 n, .bool gots] w fun e w' => e = .returned (.bool true) ∧ Below w.heap.size w w' := by
  obtain ⟨p1, F, hp1, hq1, hF, _⟩ := clamp f 30 (by omega)
  obtain ⟨p2, E, hp2, hq2, hE, _⟩ := clamp e 30 (by omega)
  obtain ⟨p3, N, hp3, hq3, hN, _⟩ := clamp n 60 (by omega)
  have HR0 : rightB F E 0 false false = true := by rw [right_new]; simp; omega
  go_enter Try.func5, Try.ntmps5
  go_wp2_with fail
  refine (new_ok F E HR0 _).mono ?_
  rintro e w1 ⟨rfl, hb1⟩
  have BW : Below w.heap.size w w1 := Below.trans (by go_grown; all_goals omega) (hb1.mono (by first | omega | (simp; omega) | simp))
  have Zw1 := BW.size
  clear hb1 
  go_wp2_with fail
  refine (start_ok F E 0 false false HR0 _).mono ?_
  rintro e w2 ⟨rfl, hb2⟩
  have Xa : Box w2 w1.heap.size [.int .i64 F, .int .i64 E, .int .i64 0, .bool false, .bool false] := Box.call (by repeat' (first | (with_reducible first | assumption | exact Box.new _ _ _ | refine Box.alloc ?_ _ | refine Box.drew ?_ | (refine Box.put_else ?_ ?_; focus omega) | apply Box.put_is) | rfl)) hb2
  have Xa_c := Xa.cell
  have Xa_f := Xa.free
  have Lw2_a := Xa.lt
  replace BW : Below w.heap.size w w2 := Below.trans (by go_grown; all_goals omega) (hb2.mono (by first | omega | (simp; omega) | simp))
  have Zw2 := BW.size
  clear hb2 
  go_wp2_with fail
  go_loopw [45] (fun v wr => ∃ (i : Nat) (l : Int) (t : Bool), i ≤ N ∧ v = .int .i64 i ∧ rightB F E l true t = true ∧ Below w.heap.size w wr ∧ Box wr w1.heap.size [.int .i64 F, .int .i64 E, .int .i64 0, .bool false, .bool false] ∧ Box wr w2.heap.size [.int .i64 F, .int .i64 E, .int .i64 l, .bool true, .bool t]) (fun v _ => N - (intOf v).toNat)
  case atStart =>
    refine ⟨0, F, false, by omega, rfl, right_start _ _ _ _ _ HR0, by go_grown; all_goals omega, by repeat' (first | (with_reducible first | assumption | exact Box.new _ _ _ | refine Box.alloc ?_ _ | refine Box.drew ?_ | (refine Box.put_else ?_ ?_; focus omega) | apply Box.put_is) | rfl), by repeat' (first | (with_reducible first | assumption | exact Box.new _ _ _ | refine Box.alloc ?_ _ | refine Box.drew ?_ | (refine Box.put_else ?_ ?_; focus omega) | apply Box.put_is) | rfl)⟩
  case round =>
    clear Xa_c Xa_f Xa BW
    obtain ⟨i, l, t, hi, rfl, HR, BW, Xa, Xb⟩ := hrel
    have Zr := BW.size
    have Xa_c := Xa.cell
    have Xa_f := Xa.free
    have Lr_a := Xa.lt
    have Xb_c := Xb.cell
    have Xb_f := Xb.free
    have Lr_b := Xb.lt
    by_cases hlt : i < N
    · skip
      go_wp2_with fail
      refine (tick_ok F E l true t HR _).mono ?_
      rintro e w3 ⟨rfl, hb3⟩
      replace Xa : Box w3 w1.heap.size [.int .i64 F, .int .i64 E, .int .i64 0, .bool false, .bool false] := Box.call (by repeat' (first | (with_reducible first | assumption | exact Box.new _ _ _ | refine Box.alloc ?_ _ | refine Box.drew ?_ | (refine Box.put_else ?_ ?_; focus omega) | apply Box.put_is) | rfl)) hb3
      replace Xb : Box w3 w2.heap.size [.int .i64 F, .int .i64 E, .int .i64 l, .bool true, .bool t] := Box.call (by repeat' (first | (with_reducible first | assumption | exact Box.new _ _ _ | refine Box.alloc ?_ _ | refine Box.drew ?_ | (refine Box.put_else ?_ ?_; focus omega) | apply Box.put_is) | rfl)) hb3
      replace Xa_c := Xa.cell
      replace Xa_f := Xa.free
      have Lw3_a := Xa.lt
      replace Xb_c := Xb.cell
      replace Xb_f := Xb.free
      have Lw3_b := Xb.lt
      replace BW : Below w.heap.size w w3 := Below.trans (by go_grown; all_goals omega) (hb3.mono (by first | omega | (simp; omega) | simp))
      have Zw3 := BW.size
      clear hb3 
      go_wp2_with fail
      go_light
      go_roundw
      case rel => exact ⟨i + 1, tkL l, tkT l t, by omega, by go_num, right_tick _ _ _ _ _ HR, by go_grown; all_goals omega, by repeat' (first | (with_reducible first | assumption | exact Box.new _ _ _ | refine Box.alloc ?_ _ | refine Box.drew ?_ | (refine Box.put_else ?_ ?_; focus omega) | apply Box.put_is) | rfl), by repeat' (first | (with_reducible first | assumption | exact Box.new _ _ _ | refine Box.alloc ?_ _ | refine Box.drew ?_ | (refine Box.put_else ?_ ?_; focus omega) | apply Box.put_is) | rfl)⟩
      case measure => simp [intOf]; omega
    · obtain rfl : i = N := by omega
      go_wp2_with fail
      refine (stop_ok F E l true t HR _).mono ?_
      rintro e w4 ⟨rfl, hb4⟩
      replace Xa : Box w4 w1.heap.size [.int .i64 F, .int .i64 E, .int .i64 0, .bool false, .bool false] := Box.call (by repeat' (first | (with_reducible first | assumption | exact Box.new _ _ _ | refine Box.alloc ?_ _ | refine Box.drew ?_ | (refine Box.put_else ?_ ?_; focus omega) | apply Box.put_is) | rfl)) hb4
      replace Xb : Box w4 w2.heap.size [.int .i64 F, .int .i64 E, .int .i64 l, .bool true, .bool t] := Box.call (by repeat' (first | (with_reducible first | assumption | exact Box.new _ _ _ | refine Box.alloc ?_ _ | refine Box.drew ?_ | (refine Box.put_else ?_ ?_; focus omega) | apply Box.put_is) | rfl)) hb4
      replace Xa_c := Xa.cell
      replace Xa_f := Xa.free
      have Lw4_a := Xa.lt
      replace Xb_c := Xb.cell
      replace Xb_f := Xb.free
      have Lw4_b := Xb.lt
      replace BW : Below w.heap.size w w4 := Below.trans (by go_grown; all_goals omega) (hb4.mono (by first | omega | (simp; omega) | simp))
      have Zw4 := BW.size
      clear hb4 
      go_wp2_with fail
      refine (alive_any _).mono ?_
      rintro e w5 ⟨rfl, hb5⟩
      replace Xa : Box w5 w1.heap.size [.int .i64 F, .int .i64 E, .int .i64 0, .bool false, .bool false] := Box.call (by repeat' (first | (with_reducible first | assumption | exact Box.new _ _ _ | refine Box.alloc ?_ _ | refine Box.drew ?_ | (refine Box.put_else ?_ ?_; focus omega) | apply Box.put_is) | rfl)) hb5
      replace Xb : Box w5 w2.heap.size [.int .i64 F, .int .i64 E, .int .i64 0, .bool false, .bool false] := Box.call (by repeat' (first | (with_reducible first | assumption | exact Box.new _ _ _ | refine Box.alloc ?_ _ | refine Box.drew ?_ | (refine Box.put_else ?_ ?_; focus omega) | apply Box.put_is) | rfl)) hb5
      replace Xa_c := Xa.cell
      replace Xa_f := Xa.free
      have Lw5_a := Xa.lt
      replace Xb_c := Xb.cell
      replace Xb_f := Xb.free
      have Lw5_b := Xb.lt
      replace BW : Below w.heap.size w w5 := Below.trans (by go_grown; all_goals omega) (hb5.mono (by first | omega | (simp; omega) | simp))
      have Zw5 := BW.size
      clear hb5 
      go_wp2_with fail
      obtain ⟨wo, rfl⟩ : ∃ wo : World, wo = wr := ⟨_, rfl⟩
      go_loopw [82] (fun v wr => ∃ (j : Nat), j ≤ i ∧ v = .int .i64 j ∧ Below w.heap.size w wr ∧ Box wr w1.heap.size [.int .i64 F, .int .i64 E, .int .i64 0, .bool false, .bool false] ∧ Box wr w2.heap.size [.int .i64 F, .int .i64 E, .int .i64 0, .bool false, .bool false]) (fun v _ => i - (intOf v).toNat)
      case atStart =>
        refine ⟨0, by omega, rfl, by go_grown; all_goals omega, by repeat' (first | (with_reducible first | assumption | exact Box.new _ _ _ | refine Box.alloc ?_ _ | refine Box.drew ?_ | (refine Box.put_else ?_ ?_; focus omega) | apply Box.put_is) | rfl), by repeat' (first | (with_reducible first | assumption | exact Box.new _ _ _ | refine Box.alloc ?_ _ | refine Box.drew ?_ | (refine Box.put_else ?_ ?_; focus omega) | apply Box.put_is) | rfl)⟩
      case round =>
        clear Xa_c Xa_f Xb_c Xb_f Xa Xb BW
        obtain ⟨j, hj, rfl, BW, Xa, Xb⟩ := hrel
        have Zr2 := BW.size
        have Xa_c := Xa.cell
        have Xa_f := Xa.free
        have Lr_a := Xa.lt
        have Xb_c := Xb.cell
        have Xb_f := Xb.free
        have Lr_b := Xb.lt
        by_cases hlt : j < i
        · cases gots
          · skip
            go_wp2_with fail
            refine (tick_none F E false false HR0 _).mono ?_
            rintro e w6 ⟨rfl, hb6⟩
            replace Xa : Box w6 w1.heap.size [.int .i64 F, .int .i64 E, .int .i64 0, .bool false, .bool false] := Box.call (by repeat' (first | (with_reducible first | assumption | exact Box.new _ _ _ | refine Box.alloc ?_ _ | refine Box.drew ?_ | (refine Box.put_else ?_ ?_; focus omega) | apply Box.put_is) | rfl)) hb6
            replace Xb : Box w6 w2.heap.size [.int .i64 F, .int .i64 E, .int .i64 0, .bool false, .bool false] := Box.call (by repeat' (first | (with_reducible first | assumption | exact Box.new _ _ _ | refine Box.alloc ?_ _ | refine Box.drew ?_ | (refine Box.put_else ?_ ?_; focus omega) | apply Box.put_is) | rfl)) hb6
            replace Xa_c := Xa.cell
            replace Xa_f := Xa.free
            have Lw6_a := Xa.lt
            replace Xb_c := Xb.cell
            replace Xb_f := Xb.free
            have Lw6_b := Xb.lt
            replace BW : Below w.heap.size w w6 := Below.trans (by go_grown; all_goals omega) (hb6.mono (by first | omega | (simp; omega) | simp))
            have Zw6 := BW.size
            clear hb6 
            go_wp2_with fail
            go_light
            go_roundw
            case rel => exact ⟨j + 1, by omega, by go_num, by go_grown; all_goals omega, by repeat' (first | (with_reducible first | assumption | exact Box.new _ _ _ | refine Box.alloc ?_ _ | refine Box.drew ?_ | (refine Box.put_else ?_ ?_; focus omega) | apply Box.put_is) | rfl), by repeat' (first | (with_reducible first | assumption | exact Box.new _ _ _ | refine Box.alloc ?_ _ | refine Box.drew ?_ | (refine Box.put_else ?_ ?_; focus omega) | apply Box.put_is) | rfl)⟩
            case measure => simp [intOf]; omega
          · skip
            go_wp2_with fail
            refine (got_off F E 0 false HR0 _).mono ?_
            rintro e w7 ⟨rfl, hb7⟩
            replace Xa : Box w7 w1.heap.size [.int .i64 F, .int .i64 E, .int .i64 0, .bool false, .bool false] := Box.call (by repeat' (first | (with_reducible first | assumption | exact Box.new _ _ _ | refine Box.alloc ?_ _ | refine Box.drew ?_ | (refine Box.put_else ?_ ?_; focus omega) | apply Box.put_is) | rfl)) hb7
            replace Xb : Box w7 w2.heap.size [.int .i64 F, .int .i64 E, .int .i64 0, .bool false, .bool false] := Box.call (by repeat' (first | (with_reducible first | assumption | exact Box.new _ _ _ | refine Box.alloc ?_ _ | refine Box.drew ?_ | (refine Box.put_else ?_ ?_; focus omega) | apply Box.put_is) | rfl)) hb7
            replace Xa_c := Xa.cell
            replace Xa_f := Xa.free
            have Lw7_a := Xa.lt
            replace Xb_c := Xb.cell
            replace Xb_f := Xb.free
            have Lw7_b := Xb.lt
            replace BW : Below w.heap.size w w7 := Below.trans (by go_grown; all_goals omega) (hb7.mono (by first | omega | (simp; omega) | simp))
            have Zw7 := BW.size
            clear hb7 
            go_wp2_with fail
            refine (tick_none F E false false HR0 _).mono ?_
            rintro e w8 ⟨rfl, hb8⟩
            replace Xa : Box w8 w1.heap.size [.int .i64 F, .int .i64 E, .int .i64 0, .bool false, .bool false] := Box.call (by repeat' (first | (with_reducible first | assumption | exact Box.new _ _ _ | refine Box.alloc ?_ _ | refine Box.drew ?_ | (refine Box.put_else ?_ ?_; focus omega) | apply Box.put_is) | rfl)) hb8
            replace Xb : Box w8 w2.heap.size [.int .i64 F, .int .i64 E, .int .i64 0, .bool false, .bool false] := Box.call (by repeat' (first | (with_reducible first | assumption | exact Box.new _ _ _ | refine Box.alloc ?_ _ | refine Box.drew ?_ | (refine Box.put_else ?_ ?_; focus omega) | apply Box.put_is) | rfl)) hb8
            replace Xa_c := Xa.cell
            replace Xa_f := Xa.free
            have Lw8_a := Xa.lt
            replace Xb_c := Xb.cell
            replace Xb_f := Xb.free
            have Lw8_b := Xb.lt
            replace BW : Below w.heap.size w w8 := Below.trans (by go_grown; all_goals omega) (hb8.mono (by first | omega | (simp; omega) | simp))
            have Zw8 := BW.size
            clear hb8 
            go_wp2_with fail
            go_light
            go_roundw
            case rel => exact ⟨j + 1, by omega, by go_num, by go_grown; all_goals omega, by repeat' (first | (with_reducible first | assumption | exact Box.new _ _ _ | refine Box.alloc ?_ _ | refine Box.drew ?_ | (refine Box.put_else ?_ ?_; focus omega) | apply Box.put_is) | rfl), by repeat' (first | (with_reducible first | assumption | exact Box.new _ _ _ | refine Box.alloc ?_ _ | refine Box.drew ?_ | (refine Box.put_else ?_ ?_; focus omega) | apply Box.put_is) | rfl)⟩
            case measure => simp [intOf]; omega
        · obtain rfl : j = i := by omega
          go_wp2_with fail
          refine (start_ok F E 0 false false HR0 _).mono ?_
          rintro e w9 ⟨rfl, hb9⟩
          replace Xa : Box w9 w1.heap.size [.int .i64 F, .int .i64 E, .int .i64 0, .bool false, .bool false] := Box.call (by repeat' (first | (with_reducible first | assumption | exact Box.new _ _ _ | refine Box.alloc ?_ _ | refine Box.drew ?_ | (refine Box.put_else ?_ ?_; focus omega) | apply Box.put_is) | rfl)) hb9
          replace Xb : Box w9 w2.heap.size [.int .i64 F, .int .i64 E, .int .i64 0, .bool false, .bool false] := Box.call (by repeat' (first | (with_reducible first | assumption | exact Box.new _ _ _ | refine Box.alloc ?_ _ | refine Box.drew ?_ | (refine Box.put_else ?_ ?_; focus omega) | apply Box.put_is) | rfl)) hb9
          replace Xa_c := Xa.cell
          replace Xa_f := Xa.free
          have Lw9_a := Xa.lt
          replace Xb_c := Xb.cell
          replace Xb_f := Xb.free
          have Lw9_b := Xb.lt
          replace BW : Below w.heap.size w w9 := Below.trans (by go_grown; all_goals omega) (hb9.mono (by first | omega | (simp; omega) | simp))
          have Zw9 := BW.size
          clear hb9 
          go_wp2_with fail
          go_ret
          go_light
          refine ⟨rfl, ?_⟩
          go_grown
          all_goals omega
end Go.Proofs.Ytcmaiihadjeifaa
