/-
  LAW RecvCalls OF LAYER 19 (recv), PROVED FOR EVERY ROW OF ARGUMENTS, WITHOUT CONDITIONS: it returns true, and its arguments read as before.
-/
import Derived.Test.YtcmaiihadjeifaaSums
import Derived.Test.YtcmaiihadjeifaaArgs
import Derived.Test.YtcmaiihadjeifaaLaw
import Derived.Deep.DeepCutAuto
import Derived.Deep.RegionHeld3
namespace Go.Proofs.Ytcmaiihadjeifaa
open Go.RowKit Go.Camp

theorem thru {W0 w w' : World} (h2 : Below w.heap.size w w') (h1 : Below W0.heap.size W0 w) : Below W0.heap.size W0 w' := h1.trans (h2.mono h1.size)

theorem right_b (f e l : Int) (o t : Bool) (w : World) : Calls Try.prog 11 #[.agg #[.int .i64 f, .int .i64 e, .int .i64 l, .bool o, .bool t]] w fun r w' => r = .returned (.bool (rightB f e l o t)) ∧ Below w.heap.size w w' :=
  (right_any f e l o t w).mono fun _ _ ⟨h, h2⟩ => ⟨h, by subst h2; go_grown⟩
theorem refRight_b (f e l : Int) (o t : Bool) (w : World) : Calls Try.prog 12 #[.agg #[.int .i64 f, .int .i64 e, .int .i64 l, .bool o, .bool t]] w fun r w' => r = .returned (.bool (rightB f e l o t)) ∧ Below w.heap.size w w' :=
  (refRight_any f e l o t w).mono fun _ _ ⟨h, h2⟩ => ⟨h, by subst h2; go_grown⟩

theorem refTick_none (f e : Int) (o t : Bool) (w : World) :
    Calls Try.prog 14 #[.agg #[.int .i64 f, .int .i64 e, .int .i64 0, .bool o, .bool t]] w fun r w' => r = .returned (.tuple #[.agg #[.int .i64 f, .int .i64 e, .int .i64 0, .bool o, .bool t], .bool false]) ∧ Below w.heap.size w w' := by
  go_enter Try.func14, Try.ntmps14
  go_wp2
  refine bodyPost_ret (v := .tuple #[.agg #[.int .i64 f, .int .i64 e, .int .i64 0, .bool o, .bool t], .bool false]) (by simp [results, Try.results14, go_sem]) rfl ⟨rfl, ?_⟩
  go_light
  go_grown

theorem refTick_last (f e : Int) (o t : Bool) (w : World) :
    Calls Try.prog 14 #[.agg #[.int .i64 f, .int .i64 e, .int .i64 1, .bool o, .bool t]] w fun r w' => r = .returned (.tuple #[.agg #[.int .i64 f, .int .i64 e, .int .i64 0, .bool o, .bool true], .bool true]) ∧ Below w.heap.size w w' := by
  go_enter Try.func14, Try.ntmps14
  go_wp2
  refine bodyPost_ret (v := .tuple #[.agg #[.int .i64 f, .int .i64 e, .int .i64 0, .bool o, .bool true], .bool true]) (by simp [results, Try.results14, go_sem]) rfl ⟨rfl, ?_⟩
  go_light
  go_grown

theorem refTick_more (f e l : Int) (o : Bool) (hl : 2 ≤ l) (hl2 : l ≤ 1000000) (w : World) :
    Calls Try.prog 14 #[.agg #[.int .i64 f, .int .i64 e, .int .i64 l, .bool o, .bool false]] w fun r w' => r = .returned (.tuple #[.agg #[.int .i64 f, .int .i64 e, .int .i64 (l - 1), .bool o, .bool false], .bool false]) ∧ Below w.heap.size w w' := by
  go_enter Try.func14, Try.ntmps14
  have h1 : 1 < l := by omega
  go_wp2
  refine bodyPost_ret (v := .tuple #[.agg #[.int .i64 f, .int .i64 e, .int .i64 (l - 1), .bool o, .bool false], .bool false]) (by simp [results, Try.results14, go_sem]) rfl ⟨rfl, ?_⟩
  go_light
  go_grown

theorem refTick_any (f e l : Int) (o t : Bool) (hR : rightB f e l o t = true) (w : World) :
    Calls Try.prog 14 #[.agg #[.int .i64 f, .int .i64 e, .int .i64 l, .bool o, .bool t]] w fun r w' => r = .returned (.tuple #[.agg #[.int .i64 f, .int .i64 e, .int .i64 (tkL l), .bool o, .bool (tkT l t)], .bool (tkB l)]) ∧ Below w.heap.size w w' := by
  have h : 0 ≤ l ∧ l ≤ 1000000 := by simp [rightB] at hR; omega
  by_cases h0 : l = 0
  · subst h0; exact refTick_none f e o t w
  · by_cases h1 : l = 1
    · subst h1; exact refTick_last f e o t w
    · obtain rfl : t = false := by cases t <;> simp [rightB] at hR ⊢; omega
      have := refTick_more f e l o (by omega) h.2 w
      simpa [tkL, tkT, tkB, h0, h1] using this

set_option maxRecDepth 100000 in
set_option maxHeartbeats 4000000 in
theorem calls_y_bad (f e l a b : Int) (o t : Bool) (hR : rightB f e l o t = false) (hN : rightB a b 0 false false = true) (w : World) :
    Calls Try.prog 3 #[.agg #[.int .i64 f, .int .i64 e, .int .i64 l, .bool o, .bool t], .int .i64 a, .int .i64 b] w fun e w' => e = .returned (.bool true) ∧ Below w.heap.size w w' := by
  go_enter Try.func3, Try.ntmps3
  go_wp2_with fail
  refine (new_ok a b hN _).mono ?_
  rintro e w1 ⟨rfl, hb1⟩
  have Xw : Box w1 w.heap.size [.int .i64 f, .int .i64 e, .int .i64 l, .bool o, .bool t] := Box.call (by repeat' (first | (with_reducible first | assumption | exact Box.new _ _ _ | (refine Box.new_at ?_; simp; done) | refine Box.alloc ?_ _ | refine Box.drew ?_ | (refine Box.put_else ?_ ?_; focus omega) | apply Box.put_is) | rfl)) hb1
  have Xw_c := Xw.cell
  have Xw_f := Xw.free
  have Lw1_w := Xw.lt
  have BW : Below w.heap.size w w1 := Below.trans (by go_grown; all_goals omega) (hb1.mono (by first | omega | (simp; omega) | simp))
  have Zw1 := BW.size
  clear hb1 
  go_wp2_with fail
  refine (start_bad f e l o t hR _).mono ?_
  rintro e w2 ⟨rfl, hb2⟩
  replace Xw : Box w2 w.heap.size [.int .i64 f, .int .i64 e, .int .i64 l, .bool o, .bool t] := Box.call (by repeat' (first | (with_reducible first | assumption | exact Box.new _ _ _ | (refine Box.new_at ?_; simp; done) | refine Box.alloc ?_ _ | refine Box.drew ?_ | (refine Box.put_else ?_ ?_; focus omega) | apply Box.put_is) | rfl)) hb2
  have Xn : Box w2 w1.heap.size [.int .i64 a, .int .i64 b, .int .i64 0, .bool false, .bool false] := Box.call (by repeat' (first | (with_reducible first | assumption | exact Box.new _ _ _ | (refine Box.new_at ?_; simp; done) | refine Box.alloc ?_ _ | refine Box.drew ?_ | (refine Box.put_else ?_ ?_; focus omega) | apply Box.put_is) | rfl)) hb2
  replace Xw_c := Xw.cell
  replace Xw_f := Xw.free
  have Lw2_w := Xw.lt
  have Xn_c := Xn.cell
  have Xn_f := Xn.free
  have Lw2_n := Xn.lt
  replace BW : Below w.heap.size w w2 := Below.trans (by go_grown; all_goals omega) (hb2.mono (by first | omega | (simp; omega) | simp))
  have Zw2 := BW.size
  clear hb2 
  go_wp2_with fail
  refine (stop_bad f e l o t hR _).mono ?_
  rintro e w3 ⟨rfl, hb3⟩
  replace Xw : Box w3 w.heap.size [.int .i64 f, .int .i64 e, .int .i64 l, .bool o, .bool t] := Box.call (by repeat' (first | (with_reducible first | assumption | exact Box.new _ _ _ | (refine Box.new_at ?_; simp; done) | refine Box.alloc ?_ _ | refine Box.drew ?_ | (refine Box.put_else ?_ ?_; focus omega) | apply Box.put_is) | rfl)) hb3
  replace Xn : Box w3 w1.heap.size [.int .i64 a, .int .i64 b, .int .i64 0, .bool false, .bool false] := Box.call (by repeat' (first | (with_reducible first | assumption | exact Box.new _ _ _ | (refine Box.new_at ?_; simp; done) | refine Box.alloc ?_ _ | refine Box.drew ?_ | (refine Box.put_else ?_ ?_; focus omega) | apply Box.put_is) | rfl)) hb3
  have Xa : Box w3 w2.heap.size [.int .i64 0, .int .i64 0, .int .i64 0, .bool false, .bool false] := Box.call (by repeat' (first | (with_reducible first | assumption | exact Box.new _ _ _ | (refine Box.new_at ?_; simp; done) | refine Box.alloc ?_ _ | refine Box.drew ?_ | (refine Box.put_else ?_ ?_; focus omega) | apply Box.put_is) | rfl)) hb3
  replace Xw_c := Xw.cell
  replace Xw_f := Xw.free
  have Lw3_w := Xw.lt
  replace Xn_c := Xn.cell
  replace Xn_f := Xn.free
  have Lw3_n := Xn.lt
  have Xa_c := Xa.cell
  have Xa_f := Xa.free
  have Lw3_a := Xa.lt
  replace BW : Below w.heap.size w w3 := Below.trans (by go_grown; all_goals omega) (hb3.mono (by first | omega | (simp; omega) | simp))
  have Zw3 := BW.size
  clear hb3 
  go_wp2_with fail
  refine (got_bad f e l o t hR _).mono ?_
  rintro e w4 ⟨rfl, hb4⟩
  replace Xw : Box w4 w.heap.size [.int .i64 f, .int .i64 e, .int .i64 l, .bool o, .bool t] := Box.call (by repeat' (first | (with_reducible first | assumption | exact Box.new _ _ _ | (refine Box.new_at ?_; simp; done) | refine Box.alloc ?_ _ | refine Box.drew ?_ | (refine Box.put_else ?_ ?_; focus omega) | apply Box.put_is) | rfl)) hb4
  replace Xn : Box w4 w1.heap.size [.int .i64 a, .int .i64 b, .int .i64 0, .bool false, .bool false] := Box.call (by repeat' (first | (with_reducible first | assumption | exact Box.new _ _ _ | (refine Box.new_at ?_; simp; done) | refine Box.alloc ?_ _ | refine Box.drew ?_ | (refine Box.put_else ?_ ?_; focus omega) | apply Box.put_is) | rfl)) hb4
  replace Xa : Box w4 w2.heap.size [.int .i64 0, .int .i64 0, .int .i64 0, .bool false, .bool false] := Box.call (by repeat' (first | (with_reducible first | assumption | exact Box.new _ _ _ | (refine Box.new_at ?_; simp; done) | refine Box.alloc ?_ _ | refine Box.drew ?_ | (refine Box.put_else ?_ ?_; focus omega) | apply Box.put_is) | rfl)) hb4
  have Xb : Box w4 w3.heap.size [.int .i64 0, .int .i64 0, .int .i64 0, .bool false, .bool false] := Box.call (by repeat' (first | (with_reducible first | assumption | exact Box.new _ _ _ | (refine Box.new_at ?_; simp; done) | refine Box.alloc ?_ _ | refine Box.drew ?_ | (refine Box.put_else ?_ ?_; focus omega) | apply Box.put_is) | rfl)) hb4
  replace Xw_c := Xw.cell
  replace Xw_f := Xw.free
  have Lw4_w := Xw.lt
  replace Xn_c := Xn.cell
  replace Xn_f := Xn.free
  have Lw4_n := Xn.lt
  replace Xa_c := Xa.cell
  replace Xa_f := Xa.free
  have Lw4_a := Xa.lt
  have Xb_c := Xb.cell
  have Xb_f := Xb.free
  have Lw4_b := Xb.lt
  replace BW : Below w.heap.size w w4 := Below.trans (by go_grown; all_goals omega) (hb4.mono (by first | omega | (simp; omega) | simp))
  have Zw4 := BW.size
  clear hb4 
  go_wp2_with fail
  refine (tick_bad f e l o t hR _).mono ?_
  rintro e w5 ⟨rfl, hb5⟩
  replace Xw : Box w5 w.heap.size [.int .i64 f, .int .i64 e, .int .i64 l, .bool o, .bool t] := Box.call (by repeat' (first | (with_reducible first | assumption | exact Box.new _ _ _ | (refine Box.new_at ?_; simp; done) | refine Box.alloc ?_ _ | refine Box.drew ?_ | (refine Box.put_else ?_ ?_; focus omega) | apply Box.put_is) | rfl)) hb5
  replace Xn : Box w5 w1.heap.size [.int .i64 a, .int .i64 b, .int .i64 0, .bool false, .bool false] := Box.call (by repeat' (first | (with_reducible first | assumption | exact Box.new _ _ _ | (refine Box.new_at ?_; simp; done) | refine Box.alloc ?_ _ | refine Box.drew ?_ | (refine Box.put_else ?_ ?_; focus omega) | apply Box.put_is) | rfl)) hb5
  replace Xa : Box w5 w2.heap.size [.int .i64 0, .int .i64 0, .int .i64 0, .bool false, .bool false] := Box.call (by repeat' (first | (with_reducible first | assumption | exact Box.new _ _ _ | (refine Box.new_at ?_; simp; done) | refine Box.alloc ?_ _ | refine Box.drew ?_ | (refine Box.put_else ?_ ?_; focus omega) | apply Box.put_is) | rfl)) hb5
  replace Xb : Box w5 w3.heap.size [.int .i64 0, .int .i64 0, .int .i64 0, .bool false, .bool false] := Box.call (by repeat' (first | (with_reducible first | assumption | exact Box.new _ _ _ | (refine Box.new_at ?_; simp; done) | refine Box.alloc ?_ _ | refine Box.drew ?_ | (refine Box.put_else ?_ ?_; focus omega) | apply Box.put_is) | rfl)) hb5
  have Xc : Box w5 w4.heap.size [.int .i64 0, .int .i64 0, .int .i64 0, .bool false, .bool false] := Box.call (by repeat' (first | (with_reducible first | assumption | exact Box.new _ _ _ | (refine Box.new_at ?_; simp; done) | refine Box.alloc ?_ _ | refine Box.drew ?_ | (refine Box.put_else ?_ ?_; focus omega) | apply Box.put_is) | rfl)) hb5
  replace Xw_c := Xw.cell
  replace Xw_f := Xw.free
  have Lw5_w := Xw.lt
  replace Xn_c := Xn.cell
  replace Xn_f := Xn.free
  have Lw5_n := Xn.lt
  replace Xa_c := Xa.cell
  replace Xa_f := Xa.free
  have Lw5_a := Xa.lt
  replace Xb_c := Xb.cell
  replace Xb_f := Xb.free
  have Lw5_b := Xb.lt
  have Xc_c := Xc.cell
  have Xc_f := Xc.free
  have Lw5_c := Xc.lt
  replace BW : Below w.heap.size w w5 := Below.trans (by go_grown; all_goals omega) (hb5.mono (by first | omega | (simp; omega) | simp))
  have Zw5 := BW.size
  clear hb5 
  go_upto_region 6 with (fail)
  obtain ⟨W0, hW0, BY, Yw, Yn, Ya, Yb, Yc, Yd⟩ : ∃ W0 : World, w5.alloc (.cells #[.int .i64 0, .int .i64 0, .int .i64 0, .bool false, .bool false] 23) = W0 ∧ Below w.heap.size w W0 ∧ Box W0 w.heap.size [.int .i64 f, .int .i64 e, .int .i64 l, .bool o, .bool t] ∧ Box W0 w1.heap.size [.int .i64 a, .int .i64 b, .int .i64 0, .bool false, .bool false] ∧ Box W0 w2.heap.size [.int .i64 0, .int .i64 0, .int .i64 0, .bool false, .bool false] ∧ Box W0 w3.heap.size [.int .i64 0, .int .i64 0, .int .i64 0, .bool false, .bool false] ∧ Box W0 w4.heap.size [.int .i64 0, .int .i64 0, .int .i64 0, .bool false, .bool false] ∧ Box W0 w5.heap.size [.int .i64 0, .int .i64 0, .int .i64 0, .bool false, .bool false] := ⟨_, rfl, by go_grown; all_goals omega, by repeat' (first | (with_reducible first | assumption | exact Box.new _ _ _ | (refine Box.new_at ?_; simp; done) | refine Box.alloc ?_ _ | refine Box.drew ?_ | (refine Box.put_else ?_ ?_; focus omega) | apply Box.put_is) | rfl), by repeat' (first | (with_reducible first | assumption | exact Box.new _ _ _ | (refine Box.new_at ?_; simp; done) | refine Box.alloc ?_ _ | refine Box.drew ?_ | (refine Box.put_else ?_ ?_; focus omega) | apply Box.put_is) | rfl), by repeat' (first | (with_reducible first | assumption | exact Box.new _ _ _ | (refine Box.new_at ?_; simp; done) | refine Box.alloc ?_ _ | refine Box.drew ?_ | (refine Box.put_else ?_ ?_; focus omega) | apply Box.put_is) | rfl), by repeat' (first | (with_reducible first | assumption | exact Box.new _ _ _ | (refine Box.new_at ?_; simp; done) | refine Box.alloc ?_ _ | refine Box.drew ?_ | (refine Box.put_else ?_ ?_; focus omega) | apply Box.put_is) | rfl), by repeat' (first | (with_reducible first | assumption | exact Box.new _ _ _ | (refine Box.new_at ?_; simp; done) | refine Box.alloc ?_ _ | refine Box.drew ?_ | (refine Box.put_else ?_ ?_; focus omega) | apply Box.put_is) | rfl), by repeat' (first | (with_reducible first | assumption | exact Box.new _ _ _ | (refine Box.new_at ?_; simp; done) | refine Box.alloc ?_ _ | refine Box.drew ?_ | (refine Box.put_else ?_ ?_; focus omega) | apply Box.put_is) | rfl)⟩
  rw [hW0]
  clear hW0
  clear Xw Xw_c Xw_f Xn Xn_c Xn_f Xa Xa_c Xa_f Xb Xb_c Xb_f Xc Xc_c Xc_f
  clear BW
  have BW := BY
  clear BY
  have ZW0 := BW.size
  have Xw := Yw
  clear Yw
  have Xn := Yn
  clear Yn
  have Xa := Ya
  clear Ya
  have Xb := Yb
  clear Yb
  have Xc := Yc
  clear Yc
  have Xd := Yd
  clear Yd
  have Xw_c := Xw.cell
  have Xw_f := Xw.free
  have LW0_w := Xw.lt
  have Xn_c := Xn.cell
  have Xn_f := Xn.free
  have LW0_n := Xn.lt
  have Xa_c := Xa.cell
  have Xa_f := Xa.free
  have LW0_a := Xa.lt
  have Xb_c := Xb.cell
  have Xb_f := Xb.free
  have LW0_b := Xb.lt
  have Xc_c := Xc.cell
  have Xc_f := Xc.free
  have LW0_c := Xc.lt
  have Xd_c := Xd.cell
  have Xd_f := Xd.free
  have LW0_d := Xd.lt
  go_cut [65] (fun s wx => s = .bool false ∧ wx = W0)
  case first =>
    have hab : 0 ≤ a ∧ a ≤ 1000000 ∧ 0 ≤ b ∧ b ≤ 1000000 := by rw [right_new] at hN; simpa using hN
    obtain ⟨q1, q2, q3, q4⟩ := hab
    have r1 : ¬ a < 0 := by omega
    have r2 : ¬ 1000000 < a := by omega
    have r3 : ¬ b < 0 := by omega
    have r4 : ¬ 1000000 < b := by omega
    go_wp2_with fail
    all_goals first | (exfalso; omega) | (go_light; go_meet; exact ⟨rfl, rfl⟩) | (go_light; go_meet; exact ⟨by simp; omega, rfl⟩)
  case rest =>
    obtain ⟨rfl, hw⟩ := hcut
    rw [hw]
    clear hw
    have HR := hR
    skip
    go_upto_region 11 with (fail)
    skip
    have G0 : ∀ w', Below W0.heap.size W0 w' → w'.cell? ⟨w.heap.size, 0, none⟩ = some (.int .i64 f) := fun w' h => (h.cell (p := ⟨w.heap.size, 0, none⟩) LW0_w).trans (Xw_c 0)
    have G1 : ∀ w', Below W0.heap.size W0 w' → w'.cell? ⟨w.heap.size, 1, none⟩ = some (.int .i64 e) := fun w' h => (h.cell (p := ⟨w.heap.size, 1, none⟩) LW0_w).trans (Xw_c 1)
    have G2 : ∀ w', Below W0.heap.size W0 w' → w'.cell? ⟨w.heap.size, 2, none⟩ = some (.int .i64 l) := fun w' h => (h.cell (p := ⟨w.heap.size, 2, none⟩) LW0_w).trans (Xw_c 2)
    have G3 : ∀ w', Below W0.heap.size W0 w' → w'.cell? ⟨w.heap.size, 3, none⟩ = some (.bool o) := fun w' h => (h.cell (p := ⟨w.heap.size, 3, none⟩) LW0_w).trans (Xw_c 3)
    have G4 : ∀ w', Below W0.heap.size W0 w' → w'.cell? ⟨w.heap.size, 4, none⟩ = some (.bool t) := fun w' h => (h.cell (p := ⟨w.heap.size, 4, none⟩) LW0_w).trans (Xw_c 4)
    go_cut [90] (fun s wx => s = .bool false ∧ Below W0.heap.size W0 wx)
    case first =>
      go_region_held3 (fun w' => Below W0.heap.size W0 w')
        (first | assumption | (go_grown; done))
        (first | (go_at_call 11; refine (right_b _ _ _ _ _ _).mono ?_; rintro e w2 ⟨rfl, hb2⟩; have K1 := thru hb2 (by assumption)) | (go_at_call 12; refine (refRight_b _ _ _ _ _ _).mono ?_; rintro e w2 ⟨rfl, hb2⟩; have K1 := thru hb2 (by assumption)) | (go_at_call 13; refine (alive_any _).mono ?_; rintro e w2 ⟨rfl, hb2⟩; have K1 := thru hb2 (by assumption)))
      all_goals (go_wp2_with fail; go_light; go_meet; refine ⟨?_, by assumption⟩; first | rfl | (simp; done))
    case rest =>
      obtain ⟨rfl, hb6⟩ := hcut
      obtain ⟨w6, rfl⟩ : ∃ w6 : World, w6 = wc := ⟨_, rfl⟩
      replace Xw : Box w6 w.heap.size [.int .i64 f, .int .i64 e, .int .i64 l, .bool o, .bool t] := Box.call Xw hb6
      replace Xn : Box w6 w1.heap.size [.int .i64 a, .int .i64 b, .int .i64 0, .bool false, .bool false] := Box.call Xn hb6
      replace Xa : Box w6 w2.heap.size [.int .i64 0, .int .i64 0, .int .i64 0, .bool false, .bool false] := Box.call Xa hb6
      replace Xb : Box w6 w3.heap.size [.int .i64 0, .int .i64 0, .int .i64 0, .bool false, .bool false] := Box.call Xb hb6
      replace Xc : Box w6 w4.heap.size [.int .i64 0, .int .i64 0, .int .i64 0, .bool false, .bool false] := Box.call Xc hb6
      replace Xd : Box w6 w5.heap.size [.int .i64 0, .int .i64 0, .int .i64 0, .bool false, .bool false] := Box.call Xd hb6
      replace Xw_c := Xw.cell
      replace Xw_f := Xw.free
      have Lw6_w := Xw.lt
      replace Xn_c := Xn.cell
      replace Xn_f := Xn.free
      have Lw6_n := Xn.lt
      replace Xa_c := Xa.cell
      replace Xa_f := Xa.free
      have Lw6_a := Xa.lt
      replace Xb_c := Xb.cell
      replace Xb_f := Xb.free
      have Lw6_b := Xb.lt
      replace Xc_c := Xc.cell
      replace Xc_f := Xc.free
      have Lw6_c := Xc.lt
      replace Xd_c := Xd.cell
      replace Xd_f := Xd.free
      have Lw6_d := Xd.lt
      replace BW := BW.trans (hb6.mono (by omega))
      have Zw6 := BW.size
      clear hb6 G0 G1 G2 G3 G4
      go_wp2_with fail
      refine (refRight_b f e l o t _).mono ?_
      rintro e w7 ⟨rfl, hb7⟩
      replace Xw : Box w7 w.heap.size [.int .i64 f, .int .i64 e, .int .i64 l, .bool o, .bool t] := Box.call (by repeat' (first | (with_reducible first | assumption | exact Box.new _ _ _ | (refine Box.new_at ?_; simp; done) | refine Box.alloc ?_ _ | refine Box.drew ?_ | (refine Box.put_else ?_ ?_; focus omega) | apply Box.put_is) | rfl)) hb7
      replace Xn : Box w7 w1.heap.size [.int .i64 a, .int .i64 b, .int .i64 0, .bool false, .bool false] := Box.call (by repeat' (first | (with_reducible first | assumption | exact Box.new _ _ _ | (refine Box.new_at ?_; simp; done) | refine Box.alloc ?_ _ | refine Box.drew ?_ | (refine Box.put_else ?_ ?_; focus omega) | apply Box.put_is) | rfl)) hb7
      replace Xa : Box w7 w2.heap.size [.int .i64 0, .int .i64 0, .int .i64 0, .bool false, .bool false] := Box.call (by repeat' (first | (with_reducible first | assumption | exact Box.new _ _ _ | (refine Box.new_at ?_; simp; done) | refine Box.alloc ?_ _ | refine Box.drew ?_ | (refine Box.put_else ?_ ?_; focus omega) | apply Box.put_is) | rfl)) hb7
      replace Xb : Box w7 w3.heap.size [.int .i64 0, .int .i64 0, .int .i64 0, .bool false, .bool false] := Box.call (by repeat' (first | (with_reducible first | assumption | exact Box.new _ _ _ | (refine Box.new_at ?_; simp; done) | refine Box.alloc ?_ _ | refine Box.drew ?_ | (refine Box.put_else ?_ ?_; focus omega) | apply Box.put_is) | rfl)) hb7
      replace Xc : Box w7 w4.heap.size [.int .i64 0, .int .i64 0, .int .i64 0, .bool false, .bool false] := Box.call (by repeat' (first | (with_reducible first | assumption | exact Box.new _ _ _ | (refine Box.new_at ?_; simp; done) | refine Box.alloc ?_ _ | refine Box.drew ?_ | (refine Box.put_else ?_ ?_; focus omega) | apply Box.put_is) | rfl)) hb7
      replace Xd : Box w7 w5.heap.size [.int .i64 0, .int .i64 0, .int .i64 0, .bool false, .bool false] := Box.call (by repeat' (first | (with_reducible first | assumption | exact Box.new _ _ _ | (refine Box.new_at ?_; simp; done) | refine Box.alloc ?_ _ | refine Box.drew ?_ | (refine Box.put_else ?_ ?_; focus omega) | apply Box.put_is) | rfl)) hb7
      replace Xw_c := Xw.cell
      replace Xw_f := Xw.free
      have Lw7_w := Xw.lt
      replace Xn_c := Xn.cell
      replace Xn_f := Xn.free
      have Lw7_n := Xn.lt
      replace Xa_c := Xa.cell
      replace Xa_f := Xa.free
      have Lw7_a := Xa.lt
      replace Xb_c := Xb.cell
      replace Xb_f := Xb.free
      have Lw7_b := Xb.lt
      replace Xc_c := Xc.cell
      replace Xc_f := Xc.free
      have Lw7_c := Xc.lt
      replace Xd_c := Xd.cell
      replace Xd_f := Xd.free
      have Lw7_d := Xd.lt
      replace BW : Below w.heap.size w w7 := Below.trans (by go_grown; all_goals omega) (hb7.mono (by first | omega | (simp; omega) | simp))
      have Zw7 := BW.size
      clear hb7 
      rw [hR]
      go_wp2_with fail
      go_ret
      go_light
      refine ⟨rfl, ?_⟩
      go_grown
      all_goals omega

set_option maxRecDepth 100000 in
set_option maxHeartbeats 4000000 in
theorem calls_y_on (f e l a b : Int) (t : Bool) (hR : rightB f e l true t = true) (hN : rightB a b 0 false false = true) (w : World) :
    Calls Try.prog 3 #[.agg #[.int .i64 f, .int .i64 e, .int .i64 l, .bool true, .bool t], .int .i64 a, .int .i64 b] w fun e w' => e = .returned (.bool true) ∧ Below w.heap.size w w' := by
  go_enter Try.func3, Try.ntmps3
  go_wp2_with fail
  refine (new_ok a b hN _).mono ?_
  rintro e w1 ⟨rfl, hb1⟩
  have Xw : Box w1 w.heap.size [.int .i64 f, .int .i64 e, .int .i64 l, .bool true, .bool t] := Box.call (by repeat' (first | (with_reducible first | assumption | exact Box.new _ _ _ | (refine Box.new_at ?_; simp; done) | refine Box.alloc ?_ _ | refine Box.drew ?_ | (refine Box.put_else ?_ ?_; focus omega) | apply Box.put_is) | rfl)) hb1
  have Xw_c := Xw.cell
  have Xw_f := Xw.free
  have Lw1_w := Xw.lt
  have BW : Below w.heap.size w w1 := Below.trans (by go_grown; all_goals omega) (hb1.mono (by first | omega | (simp; omega) | simp))
  have Zw1 := BW.size
  clear hb1 
  go_wp2_with fail
  refine (start_ok f e l true t hR _).mono ?_
  rintro e w2 ⟨rfl, hb2⟩
  replace Xw : Box w2 w.heap.size [.int .i64 f, .int .i64 e, .int .i64 l, .bool true, .bool t] := Box.call (by repeat' (first | (with_reducible first | assumption | exact Box.new _ _ _ | (refine Box.new_at ?_; simp; done) | refine Box.alloc ?_ _ | refine Box.drew ?_ | (refine Box.put_else ?_ ?_; focus omega) | apply Box.put_is) | rfl)) hb2
  have Xn : Box w2 w1.heap.size [.int .i64 a, .int .i64 b, .int .i64 0, .bool false, .bool false] := Box.call (by repeat' (first | (with_reducible first | assumption | exact Box.new _ _ _ | (refine Box.new_at ?_; simp; done) | refine Box.alloc ?_ _ | refine Box.drew ?_ | (refine Box.put_else ?_ ?_; focus omega) | apply Box.put_is) | rfl)) hb2
  replace Xw_c := Xw.cell
  replace Xw_f := Xw.free
  have Lw2_w := Xw.lt
  have Xn_c := Xn.cell
  have Xn_f := Xn.free
  have Lw2_n := Xn.lt
  replace BW : Below w.heap.size w w2 := Below.trans (by go_grown; all_goals omega) (hb2.mono (by first | omega | (simp; omega) | simp))
  have Zw2 := BW.size
  clear hb2 
  go_wp2_with fail
  refine (stop_ok f e l true t hR _).mono ?_
  rintro e w3 ⟨rfl, hb3⟩
  replace Xw : Box w3 w.heap.size [.int .i64 f, .int .i64 e, .int .i64 l, .bool true, .bool t] := Box.call (by repeat' (first | (with_reducible first | assumption | exact Box.new _ _ _ | (refine Box.new_at ?_; simp; done) | refine Box.alloc ?_ _ | refine Box.drew ?_ | (refine Box.put_else ?_ ?_; focus omega) | apply Box.put_is) | rfl)) hb3
  replace Xn : Box w3 w1.heap.size [.int .i64 a, .int .i64 b, .int .i64 0, .bool false, .bool false] := Box.call (by repeat' (first | (with_reducible first | assumption | exact Box.new _ _ _ | (refine Box.new_at ?_; simp; done) | refine Box.alloc ?_ _ | refine Box.drew ?_ | (refine Box.put_else ?_ ?_; focus omega) | apply Box.put_is) | rfl)) hb3
  have Xa : Box w3 w2.heap.size [.int .i64 f, .int .i64 e, .int .i64 f, .bool true, .bool false] := Box.call (by repeat' (first | (with_reducible first | assumption | exact Box.new _ _ _ | (refine Box.new_at ?_; simp; done) | refine Box.alloc ?_ _ | refine Box.drew ?_ | (refine Box.put_else ?_ ?_; focus omega) | apply Box.put_is) | rfl)) hb3
  replace Xw_c := Xw.cell
  replace Xw_f := Xw.free
  have Lw3_w := Xw.lt
  replace Xn_c := Xn.cell
  replace Xn_f := Xn.free
  have Lw3_n := Xn.lt
  have Xa_c := Xa.cell
  have Xa_f := Xa.free
  have Lw3_a := Xa.lt
  replace BW : Below w.heap.size w w3 := Below.trans (by go_grown; all_goals omega) (hb3.mono (by first | omega | (simp; omega) | simp))
  have Zw3 := BW.size
  clear hb3 
  go_wp2_with fail
  refine (got_on f e l t hR _).mono ?_
  rintro e w4 ⟨rfl, hb4⟩
  replace Xw : Box w4 w.heap.size [.int .i64 f, .int .i64 e, .int .i64 l, .bool true, .bool t] := Box.call (by repeat' (first | (with_reducible first | assumption | exact Box.new _ _ _ | (refine Box.new_at ?_; simp; done) | refine Box.alloc ?_ _ | refine Box.drew ?_ | (refine Box.put_else ?_ ?_; focus omega) | apply Box.put_is) | rfl)) hb4
  replace Xn : Box w4 w1.heap.size [.int .i64 a, .int .i64 b, .int .i64 0, .bool false, .bool false] := Box.call (by repeat' (first | (with_reducible first | assumption | exact Box.new _ _ _ | (refine Box.new_at ?_; simp; done) | refine Box.alloc ?_ _ | refine Box.drew ?_ | (refine Box.put_else ?_ ?_; focus omega) | apply Box.put_is) | rfl)) hb4
  replace Xa : Box w4 w2.heap.size [.int .i64 f, .int .i64 e, .int .i64 f, .bool true, .bool false] := Box.call (by repeat' (first | (with_reducible first | assumption | exact Box.new _ _ _ | (refine Box.new_at ?_; simp; done) | refine Box.alloc ?_ _ | refine Box.drew ?_ | (refine Box.put_else ?_ ?_; focus omega) | apply Box.put_is) | rfl)) hb4
  have Xb : Box w4 w3.heap.size [.int .i64 f, .int .i64 e, .int .i64 0, .bool false, .bool false] := Box.call (by repeat' (first | (with_reducible first | assumption | exact Box.new _ _ _ | (refine Box.new_at ?_; simp; done) | refine Box.alloc ?_ _ | refine Box.drew ?_ | (refine Box.put_else ?_ ?_; focus omega) | apply Box.put_is) | rfl)) hb4
  replace Xw_c := Xw.cell
  replace Xw_f := Xw.free
  have Lw4_w := Xw.lt
  replace Xn_c := Xn.cell
  replace Xn_f := Xn.free
  have Lw4_n := Xn.lt
  replace Xa_c := Xa.cell
  replace Xa_f := Xa.free
  have Lw4_a := Xa.lt
  have Xb_c := Xb.cell
  have Xb_f := Xb.free
  have Lw4_b := Xb.lt
  replace BW : Below w.heap.size w w4 := Below.trans (by go_grown; all_goals omega) (hb4.mono (by first | omega | (simp; omega) | simp))
  have Zw4 := BW.size
  clear hb4 
  go_wp2_with fail
  refine (tick_ok f e l true t hR _).mono ?_
  rintro e w5 ⟨rfl, hb5⟩
  replace Xw : Box w5 w.heap.size [.int .i64 f, .int .i64 e, .int .i64 l, .bool true, .bool t] := Box.call (by repeat' (first | (with_reducible first | assumption | exact Box.new _ _ _ | (refine Box.new_at ?_; simp; done) | refine Box.alloc ?_ _ | refine Box.drew ?_ | (refine Box.put_else ?_ ?_; focus omega) | apply Box.put_is) | rfl)) hb5
  replace Xn : Box w5 w1.heap.size [.int .i64 a, .int .i64 b, .int .i64 0, .bool false, .bool false] := Box.call (by repeat' (first | (with_reducible first | assumption | exact Box.new _ _ _ | (refine Box.new_at ?_; simp; done) | refine Box.alloc ?_ _ | refine Box.drew ?_ | (refine Box.put_else ?_ ?_; focus omega) | apply Box.put_is) | rfl)) hb5
  replace Xa : Box w5 w2.heap.size [.int .i64 f, .int .i64 e, .int .i64 f, .bool true, .bool false] := Box.call (by repeat' (first | (with_reducible first | assumption | exact Box.new _ _ _ | (refine Box.new_at ?_; simp; done) | refine Box.alloc ?_ _ | refine Box.drew ?_ | (refine Box.put_else ?_ ?_; focus omega) | apply Box.put_is) | rfl)) hb5
  replace Xb : Box w5 w3.heap.size [.int .i64 f, .int .i64 e, .int .i64 0, .bool false, .bool false] := Box.call (by repeat' (first | (with_reducible first | assumption | exact Box.new _ _ _ | (refine Box.new_at ?_; simp; done) | refine Box.alloc ?_ _ | refine Box.drew ?_ | (refine Box.put_else ?_ ?_; focus omega) | apply Box.put_is) | rfl)) hb5
  have Xc : Box w5 w4.heap.size [.int .i64 f, .int .i64 e, .int .i64 e, .bool true, .bool false] := Box.call (by repeat' (first | (with_reducible first | assumption | exact Box.new _ _ _ | (refine Box.new_at ?_; simp; done) | refine Box.alloc ?_ _ | refine Box.drew ?_ | (refine Box.put_else ?_ ?_; focus omega) | apply Box.put_is) | rfl)) hb5
  replace Xw_c := Xw.cell
  replace Xw_f := Xw.free
  have Lw5_w := Xw.lt
  replace Xn_c := Xn.cell
  replace Xn_f := Xn.free
  have Lw5_n := Xn.lt
  replace Xa_c := Xa.cell
  replace Xa_f := Xa.free
  have Lw5_a := Xa.lt
  replace Xb_c := Xb.cell
  replace Xb_f := Xb.free
  have Lw5_b := Xb.lt
  have Xc_c := Xc.cell
  have Xc_f := Xc.free
  have Lw5_c := Xc.lt
  replace BW : Below w.heap.size w w5 := Below.trans (by go_grown; all_goals omega) (hb5.mono (by first | omega | (simp; omega) | simp))
  have Zw5 := BW.size
  clear hb5 
  go_upto_region 6 with (fail)
  obtain ⟨W0, hW0, BY, Yw, Yn, Ya, Yb, Yc, Yd⟩ : ∃ W0 : World, w5.alloc (.cells #[.int .i64 f, .int .i64 e, .int .i64 (tkL l), .bool true, .bool (tkT l t)] 23) = W0 ∧ Below w.heap.size w W0 ∧ Box W0 w.heap.size [.int .i64 f, .int .i64 e, .int .i64 l, .bool true, .bool t] ∧ Box W0 w1.heap.size [.int .i64 a, .int .i64 b, .int .i64 0, .bool false, .bool false] ∧ Box W0 w2.heap.size [.int .i64 f, .int .i64 e, .int .i64 f, .bool true, .bool false] ∧ Box W0 w3.heap.size [.int .i64 f, .int .i64 e, .int .i64 0, .bool false, .bool false] ∧ Box W0 w4.heap.size [.int .i64 f, .int .i64 e, .int .i64 e, .bool true, .bool false] ∧ Box W0 w5.heap.size [.int .i64 f, .int .i64 e, .int .i64 (tkL l), .bool true, .bool (tkT l t)] := ⟨_, rfl, by go_grown; all_goals omega, by repeat' (first | (with_reducible first | assumption | exact Box.new _ _ _ | (refine Box.new_at ?_; simp; done) | refine Box.alloc ?_ _ | refine Box.drew ?_ | (refine Box.put_else ?_ ?_; focus omega) | apply Box.put_is) | rfl), by repeat' (first | (with_reducible first | assumption | exact Box.new _ _ _ | (refine Box.new_at ?_; simp; done) | refine Box.alloc ?_ _ | refine Box.drew ?_ | (refine Box.put_else ?_ ?_; focus omega) | apply Box.put_is) | rfl), by repeat' (first | (with_reducible first | assumption | exact Box.new _ _ _ | (refine Box.new_at ?_; simp; done) | refine Box.alloc ?_ _ | refine Box.drew ?_ | (refine Box.put_else ?_ ?_; focus omega) | apply Box.put_is) | rfl), by repeat' (first | (with_reducible first | assumption | exact Box.new _ _ _ | (refine Box.new_at ?_; simp; done) | refine Box.alloc ?_ _ | refine Box.drew ?_ | (refine Box.put_else ?_ ?_; focus omega) | apply Box.put_is) | rfl), by repeat' (first | (with_reducible first | assumption | exact Box.new _ _ _ | (refine Box.new_at ?_; simp; done) | refine Box.alloc ?_ _ | refine Box.drew ?_ | (refine Box.put_else ?_ ?_; focus omega) | apply Box.put_is) | rfl), by repeat' (first | (with_reducible first | assumption | exact Box.new _ _ _ | (refine Box.new_at ?_; simp; done) | refine Box.alloc ?_ _ | refine Box.drew ?_ | (refine Box.put_else ?_ ?_; focus omega) | apply Box.put_is) | rfl)⟩
  rw [hW0]
  clear hW0
  clear Xw Xw_c Xw_f Xn Xn_c Xn_f Xa Xa_c Xa_f Xb Xb_c Xb_f Xc Xc_c Xc_f
  clear BW
  have BW := BY
  clear BY
  have ZW0 := BW.size
  have Xw := Yw
  clear Yw
  have Xn := Yn
  clear Yn
  have Xa := Ya
  clear Ya
  have Xb := Yb
  clear Yb
  have Xc := Yc
  clear Yc
  have Xd := Yd
  clear Yd
  have Xw_c := Xw.cell
  have Xw_f := Xw.free
  have LW0_w := Xw.lt
  have Xn_c := Xn.cell
  have Xn_f := Xn.free
  have LW0_n := Xn.lt
  have Xa_c := Xa.cell
  have Xa_f := Xa.free
  have LW0_a := Xa.lt
  have Xb_c := Xb.cell
  have Xb_f := Xb.free
  have LW0_b := Xb.lt
  have Xc_c := Xc.cell
  have Xc_f := Xc.free
  have LW0_c := Xc.lt
  have Xd_c := Xd.cell
  have Xd_f := Xd.free
  have LW0_d := Xd.lt
  go_cut [65] (fun s wx => s = .bool false ∧ wx = W0)
  case first =>
    have hab : 0 ≤ a ∧ a ≤ 1000000 ∧ 0 ≤ b ∧ b ≤ 1000000 := by rw [right_new] at hN; simpa using hN
    obtain ⟨q1, q2, q3, q4⟩ := hab
    have r1 : ¬ a < 0 := by omega
    have r2 : ¬ 1000000 < a := by omega
    have r3 : ¬ b < 0 := by omega
    have r4 : ¬ 1000000 < b := by omega
    go_wp2_with fail
    all_goals first | (exfalso; omega) | (go_light; go_meet; exact ⟨rfl, rfl⟩) | (go_light; go_meet; exact ⟨by simp; omega, rfl⟩)
  case rest =>
    obtain ⟨rfl, hw⟩ := hcut
    rw [hw]
    clear hw
    have HR := hR
    skip
    go_upto_region 11 with (fail)
    skip
    have G0 : ∀ w', Below W0.heap.size W0 w' → w'.cell? ⟨w.heap.size, 0, none⟩ = some (.int .i64 f) := fun w' h => (h.cell (p := ⟨w.heap.size, 0, none⟩) LW0_w).trans (Xw_c 0)
    have G1 : ∀ w', Below W0.heap.size W0 w' → w'.cell? ⟨w.heap.size, 1, none⟩ = some (.int .i64 e) := fun w' h => (h.cell (p := ⟨w.heap.size, 1, none⟩) LW0_w).trans (Xw_c 1)
    have G2 : ∀ w', Below W0.heap.size W0 w' → w'.cell? ⟨w.heap.size, 2, none⟩ = some (.int .i64 l) := fun w' h => (h.cell (p := ⟨w.heap.size, 2, none⟩) LW0_w).trans (Xw_c 2)
    have G3 : ∀ w', Below W0.heap.size W0 w' → w'.cell? ⟨w.heap.size, 3, none⟩ = some (.bool true) := fun w' h => (h.cell (p := ⟨w.heap.size, 3, none⟩) LW0_w).trans (Xw_c 3)
    have G4 : ∀ w', Below W0.heap.size W0 w' → w'.cell? ⟨w.heap.size, 4, none⟩ = some (.bool t) := fun w' h => (h.cell (p := ⟨w.heap.size, 4, none⟩) LW0_w).trans (Xw_c 4)
    go_cut [90] (fun s wx => s = .bool false ∧ Below W0.heap.size W0 wx)
    case first =>
      go_region_held3 (fun w' => Below W0.heap.size W0 w')
        (first | assumption | (go_grown; done))
        (first | (go_at_call 11; refine (right_b _ _ _ _ _ _).mono ?_; rintro e w2 ⟨rfl, hb2⟩; have K1 := thru hb2 (by assumption)) | (go_at_call 12; refine (refRight_b _ _ _ _ _ _).mono ?_; rintro e w2 ⟨rfl, hb2⟩; have K1 := thru hb2 (by assumption)) | (go_at_call 13; refine (alive_any _).mono ?_; rintro e w2 ⟨rfl, hb2⟩; have K1 := thru hb2 (by assumption)))
      all_goals (go_wp2_with fail; go_light; go_meet; refine ⟨?_, by assumption⟩; first | rfl | (simp; done))
    case rest =>
      obtain ⟨rfl, hb6⟩ := hcut
      obtain ⟨w6, rfl⟩ : ∃ w6 : World, w6 = wc := ⟨_, rfl⟩
      replace Xw : Box w6 w.heap.size [.int .i64 f, .int .i64 e, .int .i64 l, .bool true, .bool t] := Box.call Xw hb6
      replace Xn : Box w6 w1.heap.size [.int .i64 a, .int .i64 b, .int .i64 0, .bool false, .bool false] := Box.call Xn hb6
      replace Xa : Box w6 w2.heap.size [.int .i64 f, .int .i64 e, .int .i64 f, .bool true, .bool false] := Box.call Xa hb6
      replace Xb : Box w6 w3.heap.size [.int .i64 f, .int .i64 e, .int .i64 0, .bool false, .bool false] := Box.call Xb hb6
      replace Xc : Box w6 w4.heap.size [.int .i64 f, .int .i64 e, .int .i64 e, .bool true, .bool false] := Box.call Xc hb6
      replace Xd : Box w6 w5.heap.size [.int .i64 f, .int .i64 e, .int .i64 (tkL l), .bool true, .bool (tkT l t)] := Box.call Xd hb6
      replace Xw_c := Xw.cell
      replace Xw_f := Xw.free
      have Lw6_w := Xw.lt
      replace Xn_c := Xn.cell
      replace Xn_f := Xn.free
      have Lw6_n := Xn.lt
      replace Xa_c := Xa.cell
      replace Xa_f := Xa.free
      have Lw6_a := Xa.lt
      replace Xb_c := Xb.cell
      replace Xb_f := Xb.free
      have Lw6_b := Xb.lt
      replace Xc_c := Xc.cell
      replace Xc_f := Xc.free
      have Lw6_c := Xc.lt
      replace Xd_c := Xd.cell
      replace Xd_f := Xd.free
      have Lw6_d := Xd.lt
      replace BW := BW.trans (hb6.mono (by omega))
      have Zw6 := BW.size
      clear hb6 G0 G1 G2 G3 G4
      go_wp2_with fail
      refine (refRight_b f e l true t _).mono ?_
      rintro e w7 ⟨rfl, hb7⟩
      replace Xw : Box w7 w.heap.size [.int .i64 f, .int .i64 e, .int .i64 l, .bool true, .bool t] := Box.call (by repeat' (first | (with_reducible first | assumption | exact Box.new _ _ _ | (refine Box.new_at ?_; simp; done) | refine Box.alloc ?_ _ | refine Box.drew ?_ | (refine Box.put_else ?_ ?_; focus omega) | apply Box.put_is) | rfl)) hb7
      replace Xn : Box w7 w1.heap.size [.int .i64 a, .int .i64 b, .int .i64 0, .bool false, .bool false] := Box.call (by repeat' (first | (with_reducible first | assumption | exact Box.new _ _ _ | (refine Box.new_at ?_; simp; done) | refine Box.alloc ?_ _ | refine Box.drew ?_ | (refine Box.put_else ?_ ?_; focus omega) | apply Box.put_is) | rfl)) hb7
      replace Xa : Box w7 w2.heap.size [.int .i64 f, .int .i64 e, .int .i64 f, .bool true, .bool false] := Box.call (by repeat' (first | (with_reducible first | assumption | exact Box.new _ _ _ | (refine Box.new_at ?_; simp; done) | refine Box.alloc ?_ _ | refine Box.drew ?_ | (refine Box.put_else ?_ ?_; focus omega) | apply Box.put_is) | rfl)) hb7
      replace Xb : Box w7 w3.heap.size [.int .i64 f, .int .i64 e, .int .i64 0, .bool false, .bool false] := Box.call (by repeat' (first | (with_reducible first | assumption | exact Box.new _ _ _ | (refine Box.new_at ?_; simp; done) | refine Box.alloc ?_ _ | refine Box.drew ?_ | (refine Box.put_else ?_ ?_; focus omega) | apply Box.put_is) | rfl)) hb7
      replace Xc : Box w7 w4.heap.size [.int .i64 f, .int .i64 e, .int .i64 e, .bool true, .bool false] := Box.call (by repeat' (first | (with_reducible first | assumption | exact Box.new _ _ _ | (refine Box.new_at ?_; simp; done) | refine Box.alloc ?_ _ | refine Box.drew ?_ | (refine Box.put_else ?_ ?_; focus omega) | apply Box.put_is) | rfl)) hb7
      replace Xd : Box w7 w5.heap.size [.int .i64 f, .int .i64 e, .int .i64 (tkL l), .bool true, .bool (tkT l t)] := Box.call (by repeat' (first | (with_reducible first | assumption | exact Box.new _ _ _ | (refine Box.new_at ?_; simp; done) | refine Box.alloc ?_ _ | refine Box.drew ?_ | (refine Box.put_else ?_ ?_; focus omega) | apply Box.put_is) | rfl)) hb7
      replace Xw_c := Xw.cell
      replace Xw_f := Xw.free
      have Lw7_w := Xw.lt
      replace Xn_c := Xn.cell
      replace Xn_f := Xn.free
      have Lw7_n := Xn.lt
      replace Xa_c := Xa.cell
      replace Xa_f := Xa.free
      have Lw7_a := Xa.lt
      replace Xb_c := Xb.cell
      replace Xb_f := Xb.free
      have Lw7_b := Xb.lt
      replace Xc_c := Xc.cell
      replace Xc_f := Xc.free
      have Lw7_c := Xc.lt
      replace Xd_c := Xd.cell
      replace Xd_f := Xd.free
      have Lw7_d := Xd.lt
      replace BW : Below w.heap.size w w7 := Below.trans (by go_grown; all_goals omega) (hb7.mono (by first | omega | (simp; omega) | simp))
      have Zw7 := BW.size
      clear hb7 
      rw [hR]
      go_upto_region 18 with (fail)
      go_region
      go_wp2_with fail
      refine (refTick_any f e l true t hR _).mono ?_
      rintro e w8 ⟨rfl, hb8⟩
      replace Xw : Box w8 w.heap.size [.int .i64 f, .int .i64 e, .int .i64 l, .bool true, .bool t] := Box.call (by repeat' (first | (with_reducible first | assumption | exact Box.new _ _ _ | (refine Box.new_at ?_; simp; done) | refine Box.alloc ?_ _ | refine Box.drew ?_ | (refine Box.put_else ?_ ?_; focus omega) | apply Box.put_is) | rfl)) hb8
      replace Xn : Box w8 w1.heap.size [.int .i64 a, .int .i64 b, .int .i64 0, .bool false, .bool false] := Box.call (by repeat' (first | (with_reducible first | assumption | exact Box.new _ _ _ | (refine Box.new_at ?_; simp; done) | refine Box.alloc ?_ _ | refine Box.drew ?_ | (refine Box.put_else ?_ ?_; focus omega) | apply Box.put_is) | rfl)) hb8
      replace Xa : Box w8 w2.heap.size [.int .i64 f, .int .i64 e, .int .i64 f, .bool true, .bool false] := Box.call (by repeat' (first | (with_reducible first | assumption | exact Box.new _ _ _ | (refine Box.new_at ?_; simp; done) | refine Box.alloc ?_ _ | refine Box.drew ?_ | (refine Box.put_else ?_ ?_; focus omega) | apply Box.put_is) | rfl)) hb8
      replace Xb : Box w8 w3.heap.size [.int .i64 f, .int .i64 e, .int .i64 0, .bool false, .bool false] := Box.call (by repeat' (first | (with_reducible first | assumption | exact Box.new _ _ _ | (refine Box.new_at ?_; simp; done) | refine Box.alloc ?_ _ | refine Box.drew ?_ | (refine Box.put_else ?_ ?_; focus omega) | apply Box.put_is) | rfl)) hb8
      replace Xc : Box w8 w4.heap.size [.int .i64 f, .int .i64 e, .int .i64 e, .bool true, .bool false] := Box.call (by repeat' (first | (with_reducible first | assumption | exact Box.new _ _ _ | (refine Box.new_at ?_; simp; done) | refine Box.alloc ?_ _ | refine Box.drew ?_ | (refine Box.put_else ?_ ?_; focus omega) | apply Box.put_is) | rfl)) hb8
      replace Xd : Box w8 w5.heap.size [.int .i64 f, .int .i64 e, .int .i64 (tkL l), .bool true, .bool (tkT l t)] := Box.call (by repeat' (first | (with_reducible first | assumption | exact Box.new _ _ _ | (refine Box.new_at ?_; simp; done) | refine Box.alloc ?_ _ | refine Box.drew ?_ | (refine Box.put_else ?_ ?_; focus omega) | apply Box.put_is) | rfl)) hb8
      have Xg : Box w8 w7.heap.size [.int .i64 f, .int .i64 e, .int .i64 e, .bool true, .bool false] := Box.call (by repeat' (first | (with_reducible first | assumption | exact Box.new _ _ _ | (refine Box.new_at ?_; simp; done) | refine Box.alloc ?_ _ | refine Box.drew ?_ | (refine Box.put_else ?_ ?_; focus omega) | apply Box.put_is) | rfl)) hb8
      replace Xw_c := Xw.cell
      replace Xw_f := Xw.free
      have Lw8_w := Xw.lt
      replace Xn_c := Xn.cell
      replace Xn_f := Xn.free
      have Lw8_n := Xn.lt
      replace Xa_c := Xa.cell
      replace Xa_f := Xa.free
      have Lw8_a := Xa.lt
      replace Xb_c := Xb.cell
      replace Xb_f := Xb.free
      have Lw8_b := Xb.lt
      replace Xc_c := Xc.cell
      replace Xc_f := Xc.free
      have Lw8_c := Xc.lt
      replace Xd_c := Xd.cell
      replace Xd_f := Xd.free
      have Lw8_d := Xd.lt
      have Xg_c := Xg.cell
      have Xg_f := Xg.free
      have Lw8_g := Xg.lt
      replace BW : Below w.heap.size w w8 := Below.trans (by go_grown; all_goals omega) (hb8.mono (by first | omega | (simp; omega) | simp))
      have Zw8 := BW.size
      clear hb8 
      go_upto_region 22 with (fail)
      obtain ⟨W1, hW1, BY, Yw, Yn, Ya, Yb, Yc, Yd, Yg, Yx, Yy, Yz⟩ : ∃ W1 : World, ((w8.alloc (.cells #[.int .i64 f, .int .i64 e, .int .i64 (tkL l), .bool true, .bool (tkT l t)] 23)).alloc (.cells #[.int .i64 f, .int .i64 e, .int .i64 0, .bool false, .bool false] 23)).alloc (.cells #[.int .i64 f, .int .i64 e, .int .i64 0, .bool false, .bool false] 23) = W1 ∧ Below w.heap.size w W1 ∧ Box W1 w.heap.size [.int .i64 f, .int .i64 e, .int .i64 l, .bool true, .bool t] ∧ Box W1 w1.heap.size [.int .i64 a, .int .i64 b, .int .i64 0, .bool false, .bool false] ∧ Box W1 w2.heap.size [.int .i64 f, .int .i64 e, .int .i64 f, .bool true, .bool false] ∧ Box W1 w3.heap.size [.int .i64 f, .int .i64 e, .int .i64 0, .bool false, .bool false] ∧ Box W1 w4.heap.size [.int .i64 f, .int .i64 e, .int .i64 e, .bool true, .bool false] ∧ Box W1 w5.heap.size [.int .i64 f, .int .i64 e, .int .i64 (tkL l), .bool true, .bool (tkT l t)] ∧ Box W1 w7.heap.size [.int .i64 f, .int .i64 e, .int .i64 e, .bool true, .bool false] ∧ Box W1 w8.heap.size [.int .i64 f, .int .i64 e, .int .i64 (tkL l), .bool true, .bool (tkT l t)] ∧ Box W1 (w8.heap.size + 1) [.int .i64 f, .int .i64 e, .int .i64 0, .bool false, .bool false] ∧ Box W1 (w8.heap.size + 2) [.int .i64 f, .int .i64 e, .int .i64 0, .bool false, .bool false] := ⟨_, rfl, by go_grown; all_goals omega, by repeat' (first | (with_reducible first | assumption | exact Box.new _ _ _ | (refine Box.new_at ?_; simp; done) | refine Box.alloc ?_ _ | refine Box.drew ?_ | (refine Box.put_else ?_ ?_; focus omega) | apply Box.put_is) | rfl), by repeat' (first | (with_reducible first | assumption | exact Box.new _ _ _ | (refine Box.new_at ?_; simp; done) | refine Box.alloc ?_ _ | refine Box.drew ?_ | (refine Box.put_else ?_ ?_; focus omega) | apply Box.put_is) | rfl), by repeat' (first | (with_reducible first | assumption | exact Box.new _ _ _ | (refine Box.new_at ?_; simp; done) | refine Box.alloc ?_ _ | refine Box.drew ?_ | (refine Box.put_else ?_ ?_; focus omega) | apply Box.put_is) | rfl), by repeat' (first | (with_reducible first | assumption | exact Box.new _ _ _ | (refine Box.new_at ?_; simp; done) | refine Box.alloc ?_ _ | refine Box.drew ?_ | (refine Box.put_else ?_ ?_; focus omega) | apply Box.put_is) | rfl), by repeat' (first | (with_reducible first | assumption | exact Box.new _ _ _ | (refine Box.new_at ?_; simp; done) | refine Box.alloc ?_ _ | refine Box.drew ?_ | (refine Box.put_else ?_ ?_; focus omega) | apply Box.put_is) | rfl), by repeat' (first | (with_reducible first | assumption | exact Box.new _ _ _ | (refine Box.new_at ?_; simp; done) | refine Box.alloc ?_ _ | refine Box.drew ?_ | (refine Box.put_else ?_ ?_; focus omega) | apply Box.put_is) | rfl), by repeat' (first | (with_reducible first | assumption | exact Box.new _ _ _ | (refine Box.new_at ?_; simp; done) | refine Box.alloc ?_ _ | refine Box.drew ?_ | (refine Box.put_else ?_ ?_; focus omega) | apply Box.put_is) | rfl), by repeat' (first | (with_reducible first | assumption | exact Box.new _ _ _ | (refine Box.new_at ?_; simp; done) | refine Box.alloc ?_ _ | refine Box.drew ?_ | (refine Box.put_else ?_ ?_; focus omega) | apply Box.put_is) | rfl), by repeat' (first | (with_reducible first | assumption | exact Box.new _ _ _ | (refine Box.new_at ?_; simp; done) | refine Box.alloc ?_ _ | refine Box.drew ?_ | (refine Box.put_else ?_ ?_; focus omega) | apply Box.put_is) | rfl), by repeat' (first | (with_reducible first | assumption | exact Box.new _ _ _ | (refine Box.new_at ?_; simp; done) | refine Box.alloc ?_ _ | refine Box.drew ?_ | (refine Box.put_else ?_ ?_; focus omega) | apply Box.put_is) | rfl)⟩
      rw [hW1]
      clear hW1
      clear Xw Xw_c Xw_f Xn Xn_c Xn_f Xa Xa_c Xa_f Xb Xb_c Xb_f Xc Xc_c Xc_f Xd Xd_c Xd_f Xg Xg_c Xg_f
      clear BW
      have BW := BY
      clear BY
      have ZW1 := BW.size
      have Xw := Yw
      clear Yw
      have Xn := Yn
      clear Yn
      have Xa := Ya
      clear Ya
      have Xb := Yb
      clear Yb
      have Xc := Yc
      clear Yc
      have Xd := Yd
      clear Yd
      have Xg := Yg
      clear Yg
      have Xx := Yx
      clear Yx
      have Xy := Yy
      clear Yy
      have Xz := Yz
      clear Yz
      have Xw_c := Xw.cell
      have Xw_f := Xw.free
      have LW1_w := Xw.lt
      have Xn_c := Xn.cell
      have Xn_f := Xn.free
      have LW1_n := Xn.lt
      have Xa_c := Xa.cell
      have Xa_f := Xa.free
      have LW1_a := Xa.lt
      have Xb_c := Xb.cell
      have Xb_f := Xb.free
      have LW1_b := Xb.lt
      have Xc_c := Xc.cell
      have Xc_f := Xc.free
      have LW1_c := Xc.lt
      have Xd_c := Xd.cell
      have Xd_f := Xd.free
      have LW1_d := Xd.lt
      have Xg_c := Xg.cell
      have Xg_f := Xg.free
      have LW1_g := Xg.lt
      have Xx_c := Xx.cell
      have Xx_f := Xx.free
      have LW1_x := Xx.lt
      have Xy_c := Xy.cell
      have Xy_f := Xy.free
      have LW1_y := Xy.lt
      have Xz_c := Xz.cell
      have Xz_f := Xz.free
      have LW1_z := Xz.lt
      have N1 : w1.heap.size ≠ w8.heap.size + 2 := by omega
      have M1 : w8.heap.size + 2 ≠ w1.heap.size := by omega
      have N2 : w2.heap.size ≠ w8.heap.size + 2 := by omega
      have M2 : w8.heap.size + 2 ≠ w2.heap.size := by omega
      have N3 : w3.heap.size ≠ w8.heap.size + 2 := by omega
      have M3 : w8.heap.size + 2 ≠ w3.heap.size := by omega
      have N4 : w4.heap.size ≠ w8.heap.size + 2 := by omega
      have M4 : w8.heap.size + 2 ≠ w4.heap.size := by omega
      have N5 : w5.heap.size ≠ w8.heap.size + 2 := by omega
      have M5 : w8.heap.size + 2 ≠ w5.heap.size := by omega
      have N6 : w7.heap.size ≠ w8.heap.size + 2 := by omega
      have M6 : w8.heap.size + 2 ≠ w7.heap.size := by omega
      have N7 : w8.heap.size ≠ w8.heap.size + 2 := by omega
      have M7 : w8.heap.size + 2 ≠ w8.heap.size := by omega
      have N8 : (w8.heap.size + 1) ≠ w8.heap.size + 2 := by omega
      have M8 : w8.heap.size + 2 ≠ (w8.heap.size + 1) := by omega
      have N0 : w.heap.size ≠ w8.heap.size + 2 := by omega
      have M0 : w8.heap.size + 2 ≠ w.heap.size := by omega
      go_region
      go_wp2_with fail
      refine (right_any f e (tkL l) true (tkT l t) _).mono ?_
      rintro e w9 ⟨rfl, rfl⟩
      rw [right_tick _ _ _ _ _ hR]
      go_wp2_with fail
      go_ret
      go_light
      refine ⟨rfl, ?_⟩
      go_grown
      all_goals omega

set_option maxRecDepth 100000 in
set_option maxHeartbeats 4000000 in
theorem calls_y_off (f e l a b : Int) (t : Bool) (hR : rightB f e l false t = true) (hN : rightB a b 0 false false = true) (w : World) :
    Calls Try.prog 3 #[.agg #[.int .i64 f, .int .i64 e, .int .i64 l, .bool false, .bool t], .int .i64 a, .int .i64 b] w fun e w' => e = .returned (.bool true) ∧ Below w.heap.size w w' := by
  go_enter Try.func3, Try.ntmps3
  go_wp2_with fail
  refine (new_ok a b hN _).mono ?_
  rintro e w1 ⟨rfl, hb1⟩
  have Xw : Box w1 w.heap.size [.int .i64 f, .int .i64 e, .int .i64 l, .bool false, .bool t] := Box.call (by repeat' (first | (with_reducible first | assumption | exact Box.new _ _ _ | (refine Box.new_at ?_; simp; done) | refine Box.alloc ?_ _ | refine Box.drew ?_ | (refine Box.put_else ?_ ?_; focus omega) | apply Box.put_is) | rfl)) hb1
  have Xw_c := Xw.cell
  have Xw_f := Xw.free
  have Lw1_w := Xw.lt
  have BW : Below w.heap.size w w1 := Below.trans (by go_grown; all_goals omega) (hb1.mono (by first | omega | (simp; omega) | simp))
  have Zw1 := BW.size
  clear hb1 
  go_wp2_with fail
  refine (start_ok f e l false t hR _).mono ?_
  rintro e w2 ⟨rfl, hb2⟩
  replace Xw : Box w2 w.heap.size [.int .i64 f, .int .i64 e, .int .i64 l, .bool false, .bool t] := Box.call (by repeat' (first | (with_reducible first | assumption | exact Box.new _ _ _ | (refine Box.new_at ?_; simp; done) | refine Box.alloc ?_ _ | refine Box.drew ?_ | (refine Box.put_else ?_ ?_; focus omega) | apply Box.put_is) | rfl)) hb2
  have Xn : Box w2 w1.heap.size [.int .i64 a, .int .i64 b, .int .i64 0, .bool false, .bool false] := Box.call (by repeat' (first | (with_reducible first | assumption | exact Box.new _ _ _ | (refine Box.new_at ?_; simp; done) | refine Box.alloc ?_ _ | refine Box.drew ?_ | (refine Box.put_else ?_ ?_; focus omega) | apply Box.put_is) | rfl)) hb2
  replace Xw_c := Xw.cell
  replace Xw_f := Xw.free
  have Lw2_w := Xw.lt
  have Xn_c := Xn.cell
  have Xn_f := Xn.free
  have Lw2_n := Xn.lt
  replace BW : Below w.heap.size w w2 := Below.trans (by go_grown; all_goals omega) (hb2.mono (by first | omega | (simp; omega) | simp))
  have Zw2 := BW.size
  clear hb2 
  go_wp2_with fail
  refine (stop_ok f e l false t hR _).mono ?_
  rintro e w3 ⟨rfl, hb3⟩
  replace Xw : Box w3 w.heap.size [.int .i64 f, .int .i64 e, .int .i64 l, .bool false, .bool t] := Box.call (by repeat' (first | (with_reducible first | assumption | exact Box.new _ _ _ | (refine Box.new_at ?_; simp; done) | refine Box.alloc ?_ _ | refine Box.drew ?_ | (refine Box.put_else ?_ ?_; focus omega) | apply Box.put_is) | rfl)) hb3
  replace Xn : Box w3 w1.heap.size [.int .i64 a, .int .i64 b, .int .i64 0, .bool false, .bool false] := Box.call (by repeat' (first | (with_reducible first | assumption | exact Box.new _ _ _ | (refine Box.new_at ?_; simp; done) | refine Box.alloc ?_ _ | refine Box.drew ?_ | (refine Box.put_else ?_ ?_; focus omega) | apply Box.put_is) | rfl)) hb3
  have Xa : Box w3 w2.heap.size [.int .i64 f, .int .i64 e, .int .i64 f, .bool true, .bool false] := Box.call (by repeat' (first | (with_reducible first | assumption | exact Box.new _ _ _ | (refine Box.new_at ?_; simp; done) | refine Box.alloc ?_ _ | refine Box.drew ?_ | (refine Box.put_else ?_ ?_; focus omega) | apply Box.put_is) | rfl)) hb3
  replace Xw_c := Xw.cell
  replace Xw_f := Xw.free
  have Lw3_w := Xw.lt
  replace Xn_c := Xn.cell
  replace Xn_f := Xn.free
  have Lw3_n := Xn.lt
  have Xa_c := Xa.cell
  have Xa_f := Xa.free
  have Lw3_a := Xa.lt
  replace BW : Below w.heap.size w w3 := Below.trans (by go_grown; all_goals omega) (hb3.mono (by first | omega | (simp; omega) | simp))
  have Zw3 := BW.size
  clear hb3 
  go_wp2_with fail
  refine (got_off f e l t hR _).mono ?_
  rintro e w4 ⟨rfl, hb4⟩
  replace Xw : Box w4 w.heap.size [.int .i64 f, .int .i64 e, .int .i64 l, .bool false, .bool t] := Box.call (by repeat' (first | (with_reducible first | assumption | exact Box.new _ _ _ | (refine Box.new_at ?_; simp; done) | refine Box.alloc ?_ _ | refine Box.drew ?_ | (refine Box.put_else ?_ ?_; focus omega) | apply Box.put_is) | rfl)) hb4
  replace Xn : Box w4 w1.heap.size [.int .i64 a, .int .i64 b, .int .i64 0, .bool false, .bool false] := Box.call (by repeat' (first | (with_reducible first | assumption | exact Box.new _ _ _ | (refine Box.new_at ?_; simp; done) | refine Box.alloc ?_ _ | refine Box.drew ?_ | (refine Box.put_else ?_ ?_; focus omega) | apply Box.put_is) | rfl)) hb4
  replace Xa : Box w4 w2.heap.size [.int .i64 f, .int .i64 e, .int .i64 f, .bool true, .bool false] := Box.call (by repeat' (first | (with_reducible first | assumption | exact Box.new _ _ _ | (refine Box.new_at ?_; simp; done) | refine Box.alloc ?_ _ | refine Box.drew ?_ | (refine Box.put_else ?_ ?_; focus omega) | apply Box.put_is) | rfl)) hb4
  have Xb : Box w4 w3.heap.size [.int .i64 f, .int .i64 e, .int .i64 0, .bool false, .bool false] := Box.call (by repeat' (first | (with_reducible first | assumption | exact Box.new _ _ _ | (refine Box.new_at ?_; simp; done) | refine Box.alloc ?_ _ | refine Box.drew ?_ | (refine Box.put_else ?_ ?_; focus omega) | apply Box.put_is) | rfl)) hb4
  replace Xw_c := Xw.cell
  replace Xw_f := Xw.free
  have Lw4_w := Xw.lt
  replace Xn_c := Xn.cell
  replace Xn_f := Xn.free
  have Lw4_n := Xn.lt
  replace Xa_c := Xa.cell
  replace Xa_f := Xa.free
  have Lw4_a := Xa.lt
  have Xb_c := Xb.cell
  have Xb_f := Xb.free
  have Lw4_b := Xb.lt
  replace BW : Below w.heap.size w w4 := Below.trans (by go_grown; all_goals omega) (hb4.mono (by first | omega | (simp; omega) | simp))
  have Zw4 := BW.size
  clear hb4 
  go_wp2_with fail
  refine (tick_ok f e l false t hR _).mono ?_
  rintro e w5 ⟨rfl, hb5⟩
  replace Xw : Box w5 w.heap.size [.int .i64 f, .int .i64 e, .int .i64 l, .bool false, .bool t] := Box.call (by repeat' (first | (with_reducible first | assumption | exact Box.new _ _ _ | (refine Box.new_at ?_; simp; done) | refine Box.alloc ?_ _ | refine Box.drew ?_ | (refine Box.put_else ?_ ?_; focus omega) | apply Box.put_is) | rfl)) hb5
  replace Xn : Box w5 w1.heap.size [.int .i64 a, .int .i64 b, .int .i64 0, .bool false, .bool false] := Box.call (by repeat' (first | (with_reducible first | assumption | exact Box.new _ _ _ | (refine Box.new_at ?_; simp; done) | refine Box.alloc ?_ _ | refine Box.drew ?_ | (refine Box.put_else ?_ ?_; focus omega) | apply Box.put_is) | rfl)) hb5
  replace Xa : Box w5 w2.heap.size [.int .i64 f, .int .i64 e, .int .i64 f, .bool true, .bool false] := Box.call (by repeat' (first | (with_reducible first | assumption | exact Box.new _ _ _ | (refine Box.new_at ?_; simp; done) | refine Box.alloc ?_ _ | refine Box.drew ?_ | (refine Box.put_else ?_ ?_; focus omega) | apply Box.put_is) | rfl)) hb5
  replace Xb : Box w5 w3.heap.size [.int .i64 f, .int .i64 e, .int .i64 0, .bool false, .bool false] := Box.call (by repeat' (first | (with_reducible first | assumption | exact Box.new _ _ _ | (refine Box.new_at ?_; simp; done) | refine Box.alloc ?_ _ | refine Box.drew ?_ | (refine Box.put_else ?_ ?_; focus omega) | apply Box.put_is) | rfl)) hb5
  have Xc : Box w5 w4.heap.size [.int .i64 f, .int .i64 e, .int .i64 l, .bool false, .bool t] := Box.call (by repeat' (first | (with_reducible first | assumption | exact Box.new _ _ _ | (refine Box.new_at ?_; simp; done) | refine Box.alloc ?_ _ | refine Box.drew ?_ | (refine Box.put_else ?_ ?_; focus omega) | apply Box.put_is) | rfl)) hb5
  replace Xw_c := Xw.cell
  replace Xw_f := Xw.free
  have Lw5_w := Xw.lt
  replace Xn_c := Xn.cell
  replace Xn_f := Xn.free
  have Lw5_n := Xn.lt
  replace Xa_c := Xa.cell
  replace Xa_f := Xa.free
  have Lw5_a := Xa.lt
  replace Xb_c := Xb.cell
  replace Xb_f := Xb.free
  have Lw5_b := Xb.lt
  have Xc_c := Xc.cell
  have Xc_f := Xc.free
  have Lw5_c := Xc.lt
  replace BW : Below w.heap.size w w5 := Below.trans (by go_grown; all_goals omega) (hb5.mono (by first | omega | (simp; omega) | simp))
  have Zw5 := BW.size
  clear hb5 
  go_upto_region 6 with (fail)
  obtain ⟨W0, hW0, BY, Yw, Yn, Ya, Yb, Yc, Yd⟩ : ∃ W0 : World, w5.alloc (.cells #[.int .i64 f, .int .i64 e, .int .i64 (tkL l), .bool false, .bool (tkT l t)] 23) = W0 ∧ Below w.heap.size w W0 ∧ Box W0 w.heap.size [.int .i64 f, .int .i64 e, .int .i64 l, .bool false, .bool t] ∧ Box W0 w1.heap.size [.int .i64 a, .int .i64 b, .int .i64 0, .bool false, .bool false] ∧ Box W0 w2.heap.size [.int .i64 f, .int .i64 e, .int .i64 f, .bool true, .bool false] ∧ Box W0 w3.heap.size [.int .i64 f, .int .i64 e, .int .i64 0, .bool false, .bool false] ∧ Box W0 w4.heap.size [.int .i64 f, .int .i64 e, .int .i64 l, .bool false, .bool t] ∧ Box W0 w5.heap.size [.int .i64 f, .int .i64 e, .int .i64 (tkL l), .bool false, .bool (tkT l t)] := ⟨_, rfl, by go_grown; all_goals omega, by repeat' (first | (with_reducible first | assumption | exact Box.new _ _ _ | (refine Box.new_at ?_; simp; done) | refine Box.alloc ?_ _ | refine Box.drew ?_ | (refine Box.put_else ?_ ?_; focus omega) | apply Box.put_is) | rfl), by repeat' (first | (with_reducible first | assumption | exact Box.new _ _ _ | (refine Box.new_at ?_; simp; done) | refine Box.alloc ?_ _ | refine Box.drew ?_ | (refine Box.put_else ?_ ?_; focus omega) | apply Box.put_is) | rfl), by repeat' (first | (with_reducible first | assumption | exact Box.new _ _ _ | (refine Box.new_at ?_; simp; done) | refine Box.alloc ?_ _ | refine Box.drew ?_ | (refine Box.put_else ?_ ?_; focus omega) | apply Box.put_is) | rfl), by repeat' (first | (with_reducible first | assumption | exact Box.new _ _ _ | (refine Box.new_at ?_; simp; done) | refine Box.alloc ?_ _ | refine Box.drew ?_ | (refine Box.put_else ?_ ?_; focus omega) | apply Box.put_is) | rfl), by repeat' (first | (with_reducible first | assumption | exact Box.new _ _ _ | (refine Box.new_at ?_; simp; done) | refine Box.alloc ?_ _ | refine Box.drew ?_ | (refine Box.put_else ?_ ?_; focus omega) | apply Box.put_is) | rfl), by repeat' (first | (with_reducible first | assumption | exact Box.new _ _ _ | (refine Box.new_at ?_; simp; done) | refine Box.alloc ?_ _ | refine Box.drew ?_ | (refine Box.put_else ?_ ?_; focus omega) | apply Box.put_is) | rfl)⟩
  rw [hW0]
  clear hW0
  clear Xw Xw_c Xw_f Xn Xn_c Xn_f Xa Xa_c Xa_f Xb Xb_c Xb_f Xc Xc_c Xc_f
  clear BW
  have BW := BY
  clear BY
  have ZW0 := BW.size
  have Xw := Yw
  clear Yw
  have Xn := Yn
  clear Yn
  have Xa := Ya
  clear Ya
  have Xb := Yb
  clear Yb
  have Xc := Yc
  clear Yc
  have Xd := Yd
  clear Yd
  have Xw_c := Xw.cell
  have Xw_f := Xw.free
  have LW0_w := Xw.lt
  have Xn_c := Xn.cell
  have Xn_f := Xn.free
  have LW0_n := Xn.lt
  have Xa_c := Xa.cell
  have Xa_f := Xa.free
  have LW0_a := Xa.lt
  have Xb_c := Xb.cell
  have Xb_f := Xb.free
  have LW0_b := Xb.lt
  have Xc_c := Xc.cell
  have Xc_f := Xc.free
  have LW0_c := Xc.lt
  have Xd_c := Xd.cell
  have Xd_f := Xd.free
  have LW0_d := Xd.lt
  go_cut [65] (fun s wx => s = .bool false ∧ wx = W0)
  case first =>
    have hab : 0 ≤ a ∧ a ≤ 1000000 ∧ 0 ≤ b ∧ b ≤ 1000000 := by rw [right_new] at hN; simpa using hN
    obtain ⟨q1, q2, q3, q4⟩ := hab
    have r1 : ¬ a < 0 := by omega
    have r2 : ¬ 1000000 < a := by omega
    have r3 : ¬ b < 0 := by omega
    have r4 : ¬ 1000000 < b := by omega
    go_wp2_with fail
    all_goals first | (exfalso; omega) | (go_light; go_meet; exact ⟨rfl, rfl⟩) | (go_light; go_meet; exact ⟨by simp; omega, rfl⟩)
  case rest =>
    obtain ⟨rfl, hw⟩ := hcut
    rw [hw]
    clear hw
    have HR := hR
    skip
    go_upto_region 11 with (fail)
    skip
    have G0 : ∀ w', Below W0.heap.size W0 w' → w'.cell? ⟨w.heap.size, 0, none⟩ = some (.int .i64 f) := fun w' h => (h.cell (p := ⟨w.heap.size, 0, none⟩) LW0_w).trans (Xw_c 0)
    have G1 : ∀ w', Below W0.heap.size W0 w' → w'.cell? ⟨w.heap.size, 1, none⟩ = some (.int .i64 e) := fun w' h => (h.cell (p := ⟨w.heap.size, 1, none⟩) LW0_w).trans (Xw_c 1)
    have G2 : ∀ w', Below W0.heap.size W0 w' → w'.cell? ⟨w.heap.size, 2, none⟩ = some (.int .i64 l) := fun w' h => (h.cell (p := ⟨w.heap.size, 2, none⟩) LW0_w).trans (Xw_c 2)
    have G3 : ∀ w', Below W0.heap.size W0 w' → w'.cell? ⟨w.heap.size, 3, none⟩ = some (.bool false) := fun w' h => (h.cell (p := ⟨w.heap.size, 3, none⟩) LW0_w).trans (Xw_c 3)
    have G4 : ∀ w', Below W0.heap.size W0 w' → w'.cell? ⟨w.heap.size, 4, none⟩ = some (.bool t) := fun w' h => (h.cell (p := ⟨w.heap.size, 4, none⟩) LW0_w).trans (Xw_c 4)
    go_cut [90] (fun s wx => s = .bool false ∧ Below W0.heap.size W0 wx)
    case first =>
      go_region_held3 (fun w' => Below W0.heap.size W0 w')
        (first | assumption | (go_grown; done))
        (first | (go_at_call 11; refine (right_b _ _ _ _ _ _).mono ?_; rintro e w2 ⟨rfl, hb2⟩; have K1 := thru hb2 (by assumption)) | (go_at_call 12; refine (refRight_b _ _ _ _ _ _).mono ?_; rintro e w2 ⟨rfl, hb2⟩; have K1 := thru hb2 (by assumption)) | (go_at_call 13; refine (alive_any _).mono ?_; rintro e w2 ⟨rfl, hb2⟩; have K1 := thru hb2 (by assumption)))
      all_goals (go_wp2_with fail; go_light; go_meet; refine ⟨?_, by assumption⟩; first | rfl | (simp; done))
    case rest =>
      obtain ⟨rfl, hb6⟩ := hcut
      obtain ⟨w6, rfl⟩ : ∃ w6 : World, w6 = wc := ⟨_, rfl⟩
      replace Xw : Box w6 w.heap.size [.int .i64 f, .int .i64 e, .int .i64 l, .bool false, .bool t] := Box.call Xw hb6
      replace Xn : Box w6 w1.heap.size [.int .i64 a, .int .i64 b, .int .i64 0, .bool false, .bool false] := Box.call Xn hb6
      replace Xa : Box w6 w2.heap.size [.int .i64 f, .int .i64 e, .int .i64 f, .bool true, .bool false] := Box.call Xa hb6
      replace Xb : Box w6 w3.heap.size [.int .i64 f, .int .i64 e, .int .i64 0, .bool false, .bool false] := Box.call Xb hb6
      replace Xc : Box w6 w4.heap.size [.int .i64 f, .int .i64 e, .int .i64 l, .bool false, .bool t] := Box.call Xc hb6
      replace Xd : Box w6 w5.heap.size [.int .i64 f, .int .i64 e, .int .i64 (tkL l), .bool false, .bool (tkT l t)] := Box.call Xd hb6
      replace Xw_c := Xw.cell
      replace Xw_f := Xw.free
      have Lw6_w := Xw.lt
      replace Xn_c := Xn.cell
      replace Xn_f := Xn.free
      have Lw6_n := Xn.lt
      replace Xa_c := Xa.cell
      replace Xa_f := Xa.free
      have Lw6_a := Xa.lt
      replace Xb_c := Xb.cell
      replace Xb_f := Xb.free
      have Lw6_b := Xb.lt
      replace Xc_c := Xc.cell
      replace Xc_f := Xc.free
      have Lw6_c := Xc.lt
      replace Xd_c := Xd.cell
      replace Xd_f := Xd.free
      have Lw6_d := Xd.lt
      replace BW := BW.trans (hb6.mono (by omega))
      have Zw6 := BW.size
      clear hb6 G0 G1 G2 G3 G4
      go_wp2_with fail
      refine (refRight_b f e l false t _).mono ?_
      rintro e w7 ⟨rfl, hb7⟩
      replace Xw : Box w7 w.heap.size [.int .i64 f, .int .i64 e, .int .i64 l, .bool false, .bool t] := Box.call (by repeat' (first | (with_reducible first | assumption | exact Box.new _ _ _ | (refine Box.new_at ?_; simp; done) | refine Box.alloc ?_ _ | refine Box.drew ?_ | (refine Box.put_else ?_ ?_; focus omega) | apply Box.put_is) | rfl)) hb7
      replace Xn : Box w7 w1.heap.size [.int .i64 a, .int .i64 b, .int .i64 0, .bool false, .bool false] := Box.call (by repeat' (first | (with_reducible first | assumption | exact Box.new _ _ _ | (refine Box.new_at ?_; simp; done) | refine Box.alloc ?_ _ | refine Box.drew ?_ | (refine Box.put_else ?_ ?_; focus omega) | apply Box.put_is) | rfl)) hb7
      replace Xa : Box w7 w2.heap.size [.int .i64 f, .int .i64 e, .int .i64 f, .bool true, .bool false] := Box.call (by repeat' (first | (with_reducible first | assumption | exact Box.new _ _ _ | (refine Box.new_at ?_; simp; done) | refine Box.alloc ?_ _ | refine Box.drew ?_ | (refine Box.put_else ?_ ?_; focus omega) | apply Box.put_is) | rfl)) hb7
      replace Xb : Box w7 w3.heap.size [.int .i64 f, .int .i64 e, .int .i64 0, .bool false, .bool false] := Box.call (by repeat' (first | (with_reducible first | assumption | exact Box.new _ _ _ | (refine Box.new_at ?_; simp; done) | refine Box.alloc ?_ _ | refine Box.drew ?_ | (refine Box.put_else ?_ ?_; focus omega) | apply Box.put_is) | rfl)) hb7
      replace Xc : Box w7 w4.heap.size [.int .i64 f, .int .i64 e, .int .i64 l, .bool false, .bool t] := Box.call (by repeat' (first | (with_reducible first | assumption | exact Box.new _ _ _ | (refine Box.new_at ?_; simp; done) | refine Box.alloc ?_ _ | refine Box.drew ?_ | (refine Box.put_else ?_ ?_; focus omega) | apply Box.put_is) | rfl)) hb7
      replace Xd : Box w7 w5.heap.size [.int .i64 f, .int .i64 e, .int .i64 (tkL l), .bool false, .bool (tkT l t)] := Box.call (by repeat' (first | (with_reducible first | assumption | exact Box.new _ _ _ | (refine Box.new_at ?_; simp; done) | refine Box.alloc ?_ _ | refine Box.drew ?_ | (refine Box.put_else ?_ ?_; focus omega) | apply Box.put_is) | rfl)) hb7
      replace Xw_c := Xw.cell
      replace Xw_f := Xw.free
      have Lw7_w := Xw.lt
      replace Xn_c := Xn.cell
      replace Xn_f := Xn.free
      have Lw7_n := Xn.lt
      replace Xa_c := Xa.cell
      replace Xa_f := Xa.free
      have Lw7_a := Xa.lt
      replace Xb_c := Xb.cell
      replace Xb_f := Xb.free
      have Lw7_b := Xb.lt
      replace Xc_c := Xc.cell
      replace Xc_f := Xc.free
      have Lw7_c := Xc.lt
      replace Xd_c := Xd.cell
      replace Xd_f := Xd.free
      have Lw7_d := Xd.lt
      replace BW : Below w.heap.size w w7 := Below.trans (by go_grown; all_goals omega) (hb7.mono (by first | omega | (simp; omega) | simp))
      have Zw7 := BW.size
      clear hb7 
      rw [hR]
      go_wp2_with fail
      refine (refTick_any f e l false t hR _).mono ?_
      rintro e w8 ⟨rfl, hb8⟩
      replace Xw : Box w8 w.heap.size [.int .i64 f, .int .i64 e, .int .i64 l, .bool false, .bool t] := Box.call (by repeat' (first | (with_reducible first | assumption | exact Box.new _ _ _ | (refine Box.new_at ?_; simp; done) | refine Box.alloc ?_ _ | refine Box.drew ?_ | (refine Box.put_else ?_ ?_; focus omega) | apply Box.put_is) | rfl)) hb8
      replace Xn : Box w8 w1.heap.size [.int .i64 a, .int .i64 b, .int .i64 0, .bool false, .bool false] := Box.call (by repeat' (first | (with_reducible first | assumption | exact Box.new _ _ _ | (refine Box.new_at ?_; simp; done) | refine Box.alloc ?_ _ | refine Box.drew ?_ | (refine Box.put_else ?_ ?_; focus omega) | apply Box.put_is) | rfl)) hb8
      replace Xa : Box w8 w2.heap.size [.int .i64 f, .int .i64 e, .int .i64 f, .bool true, .bool false] := Box.call (by repeat' (first | (with_reducible first | assumption | exact Box.new _ _ _ | (refine Box.new_at ?_; simp; done) | refine Box.alloc ?_ _ | refine Box.drew ?_ | (refine Box.put_else ?_ ?_; focus omega) | apply Box.put_is) | rfl)) hb8
      replace Xb : Box w8 w3.heap.size [.int .i64 f, .int .i64 e, .int .i64 0, .bool false, .bool false] := Box.call (by repeat' (first | (with_reducible first | assumption | exact Box.new _ _ _ | (refine Box.new_at ?_; simp; done) | refine Box.alloc ?_ _ | refine Box.drew ?_ | (refine Box.put_else ?_ ?_; focus omega) | apply Box.put_is) | rfl)) hb8
      replace Xc : Box w8 w4.heap.size [.int .i64 f, .int .i64 e, .int .i64 l, .bool false, .bool t] := Box.call (by repeat' (first | (with_reducible first | assumption | exact Box.new _ _ _ | (refine Box.new_at ?_; simp; done) | refine Box.alloc ?_ _ | refine Box.drew ?_ | (refine Box.put_else ?_ ?_; focus omega) | apply Box.put_is) | rfl)) hb8
      replace Xd : Box w8 w5.heap.size [.int .i64 f, .int .i64 e, .int .i64 (tkL l), .bool false, .bool (tkT l t)] := Box.call (by repeat' (first | (with_reducible first | assumption | exact Box.new _ _ _ | (refine Box.new_at ?_; simp; done) | refine Box.alloc ?_ _ | refine Box.drew ?_ | (refine Box.put_else ?_ ?_; focus omega) | apply Box.put_is) | rfl)) hb8
      have Xg : Box w8 w7.heap.size [.int .i64 f, .int .i64 e, .int .i64 l, .bool false, .bool t] := Box.call (by repeat' (first | (with_reducible first | assumption | exact Box.new _ _ _ | (refine Box.new_at ?_; simp; done) | refine Box.alloc ?_ _ | refine Box.drew ?_ | (refine Box.put_else ?_ ?_; focus omega) | apply Box.put_is) | rfl)) hb8
      replace Xw_c := Xw.cell
      replace Xw_f := Xw.free
      have Lw8_w := Xw.lt
      replace Xn_c := Xn.cell
      replace Xn_f := Xn.free
      have Lw8_n := Xn.lt
      replace Xa_c := Xa.cell
      replace Xa_f := Xa.free
      have Lw8_a := Xa.lt
      replace Xb_c := Xb.cell
      replace Xb_f := Xb.free
      have Lw8_b := Xb.lt
      replace Xc_c := Xc.cell
      replace Xc_f := Xc.free
      have Lw8_c := Xc.lt
      replace Xd_c := Xd.cell
      replace Xd_f := Xd.free
      have Lw8_d := Xd.lt
      have Xg_c := Xg.cell
      have Xg_f := Xg.free
      have Lw8_g := Xg.lt
      replace BW : Below w.heap.size w w8 := Below.trans (by go_grown; all_goals omega) (hb8.mono (by first | omega | (simp; omega) | simp))
      have Zw8 := BW.size
      clear hb8 
      go_upto_region 22 with (fail)
      obtain ⟨W1, hW1, BY, Yw, Yn, Ya, Yb, Yc, Yd, Yg, Yx, Yy, Yz⟩ : ∃ W1 : World, ((w8.alloc (.cells #[.int .i64 f, .int .i64 e, .int .i64 (tkL l), .bool false, .bool (tkT l t)] 23)).alloc (.cells #[.int .i64 f, .int .i64 e, .int .i64 0, .bool false, .bool false] 23)).alloc (.cells #[.int .i64 f, .int .i64 e, .int .i64 0, .bool false, .bool false] 23) = W1 ∧ Below w.heap.size w W1 ∧ Box W1 w.heap.size [.int .i64 f, .int .i64 e, .int .i64 l, .bool false, .bool t] ∧ Box W1 w1.heap.size [.int .i64 a, .int .i64 b, .int .i64 0, .bool false, .bool false] ∧ Box W1 w2.heap.size [.int .i64 f, .int .i64 e, .int .i64 f, .bool true, .bool false] ∧ Box W1 w3.heap.size [.int .i64 f, .int .i64 e, .int .i64 0, .bool false, .bool false] ∧ Box W1 w4.heap.size [.int .i64 f, .int .i64 e, .int .i64 l, .bool false, .bool t] ∧ Box W1 w5.heap.size [.int .i64 f, .int .i64 e, .int .i64 (tkL l), .bool false, .bool (tkT l t)] ∧ Box W1 w7.heap.size [.int .i64 f, .int .i64 e, .int .i64 l, .bool false, .bool t] ∧ Box W1 w8.heap.size [.int .i64 f, .int .i64 e, .int .i64 (tkL l), .bool false, .bool (tkT l t)] ∧ Box W1 (w8.heap.size + 1) [.int .i64 f, .int .i64 e, .int .i64 0, .bool false, .bool false] ∧ Box W1 (w8.heap.size + 2) [.int .i64 f, .int .i64 e, .int .i64 0, .bool false, .bool false] := ⟨_, rfl, by go_grown; all_goals omega, by repeat' (first | (with_reducible first | assumption | exact Box.new _ _ _ | (refine Box.new_at ?_; simp; done) | refine Box.alloc ?_ _ | refine Box.drew ?_ | (refine Box.put_else ?_ ?_; focus omega) | apply Box.put_is) | rfl), by repeat' (first | (with_reducible first | assumption | exact Box.new _ _ _ | (refine Box.new_at ?_; simp; done) | refine Box.alloc ?_ _ | refine Box.drew ?_ | (refine Box.put_else ?_ ?_; focus omega) | apply Box.put_is) | rfl), by repeat' (first | (with_reducible first | assumption | exact Box.new _ _ _ | (refine Box.new_at ?_; simp; done) | refine Box.alloc ?_ _ | refine Box.drew ?_ | (refine Box.put_else ?_ ?_; focus omega) | apply Box.put_is) | rfl), by repeat' (first | (with_reducible first | assumption | exact Box.new _ _ _ | (refine Box.new_at ?_; simp; done) | refine Box.alloc ?_ _ | refine Box.drew ?_ | (refine Box.put_else ?_ ?_; focus omega) | apply Box.put_is) | rfl), by repeat' (first | (with_reducible first | assumption | exact Box.new _ _ _ | (refine Box.new_at ?_; simp; done) | refine Box.alloc ?_ _ | refine Box.drew ?_ | (refine Box.put_else ?_ ?_; focus omega) | apply Box.put_is) | rfl), by repeat' (first | (with_reducible first | assumption | exact Box.new _ _ _ | (refine Box.new_at ?_; simp; done) | refine Box.alloc ?_ _ | refine Box.drew ?_ | (refine Box.put_else ?_ ?_; focus omega) | apply Box.put_is) | rfl), by repeat' (first | (with_reducible first | assumption | exact Box.new _ _ _ | (refine Box.new_at ?_; simp; done) | refine Box.alloc ?_ _ | refine Box.drew ?_ | (refine Box.put_else ?_ ?_; focus omega) | apply Box.put_is) | rfl), by repeat' (first | (with_reducible first | assumption | exact Box.new _ _ _ | (refine Box.new_at ?_; simp; done) | refine Box.alloc ?_ _ | refine Box.drew ?_ | (refine Box.put_else ?_ ?_; focus omega) | apply Box.put_is) | rfl), by repeat' (first | (with_reducible first | assumption | exact Box.new _ _ _ | (refine Box.new_at ?_; simp; done) | refine Box.alloc ?_ _ | refine Box.drew ?_ | (refine Box.put_else ?_ ?_; focus omega) | apply Box.put_is) | rfl), by repeat' (first | (with_reducible first | assumption | exact Box.new _ _ _ | (refine Box.new_at ?_; simp; done) | refine Box.alloc ?_ _ | refine Box.drew ?_ | (refine Box.put_else ?_ ?_; focus omega) | apply Box.put_is) | rfl)⟩
      rw [hW1]
      clear hW1
      clear Xw Xw_c Xw_f Xn Xn_c Xn_f Xa Xa_c Xa_f Xb Xb_c Xb_f Xc Xc_c Xc_f Xd Xd_c Xd_f Xg Xg_c Xg_f
      clear BW
      have BW := BY
      clear BY
      have ZW1 := BW.size
      have Xw := Yw
      clear Yw
      have Xn := Yn
      clear Yn
      have Xa := Ya
      clear Ya
      have Xb := Yb
      clear Yb
      have Xc := Yc
      clear Yc
      have Xd := Yd
      clear Yd
      have Xg := Yg
      clear Yg
      have Xx := Yx
      clear Yx
      have Xy := Yy
      clear Yy
      have Xz := Yz
      clear Yz
      have Xw_c := Xw.cell
      have Xw_f := Xw.free
      have LW1_w := Xw.lt
      have Xn_c := Xn.cell
      have Xn_f := Xn.free
      have LW1_n := Xn.lt
      have Xa_c := Xa.cell
      have Xa_f := Xa.free
      have LW1_a := Xa.lt
      have Xb_c := Xb.cell
      have Xb_f := Xb.free
      have LW1_b := Xb.lt
      have Xc_c := Xc.cell
      have Xc_f := Xc.free
      have LW1_c := Xc.lt
      have Xd_c := Xd.cell
      have Xd_f := Xd.free
      have LW1_d := Xd.lt
      have Xg_c := Xg.cell
      have Xg_f := Xg.free
      have LW1_g := Xg.lt
      have Xx_c := Xx.cell
      have Xx_f := Xx.free
      have LW1_x := Xx.lt
      have Xy_c := Xy.cell
      have Xy_f := Xy.free
      have LW1_y := Xy.lt
      have Xz_c := Xz.cell
      have Xz_f := Xz.free
      have LW1_z := Xz.lt
      have N1 : w1.heap.size ≠ w8.heap.size + 2 := by omega
      have M1 : w8.heap.size + 2 ≠ w1.heap.size := by omega
      have N2 : w2.heap.size ≠ w8.heap.size + 2 := by omega
      have M2 : w8.heap.size + 2 ≠ w2.heap.size := by omega
      have N3 : w3.heap.size ≠ w8.heap.size + 2 := by omega
      have M3 : w8.heap.size + 2 ≠ w3.heap.size := by omega
      have N4 : w4.heap.size ≠ w8.heap.size + 2 := by omega
      have M4 : w8.heap.size + 2 ≠ w4.heap.size := by omega
      have N5 : w5.heap.size ≠ w8.heap.size + 2 := by omega
      have M5 : w8.heap.size + 2 ≠ w5.heap.size := by omega
      have N6 : w7.heap.size ≠ w8.heap.size + 2 := by omega
      have M6 : w8.heap.size + 2 ≠ w7.heap.size := by omega
      have N7 : w8.heap.size ≠ w8.heap.size + 2 := by omega
      have M7 : w8.heap.size + 2 ≠ w8.heap.size := by omega
      have N8 : (w8.heap.size + 1) ≠ w8.heap.size + 2 := by omega
      have M8 : w8.heap.size + 2 ≠ (w8.heap.size + 1) := by omega
      have N0 : w.heap.size ≠ w8.heap.size + 2 := by omega
      have M0 : w8.heap.size + 2 ≠ w.heap.size := by omega
      go_region
      go_wp2_with fail
      refine (right_any f e (tkL l) false (tkT l t) _).mono ?_
      rintro e w9 ⟨rfl, rfl⟩
      rw [right_tick _ _ _ _ _ hR]
      go_wp2_with fail
      go_ret
      go_light
      refine ⟨rfl, ?_⟩
      go_grown
      all_goals omega
end Go.Proofs.Ytcmaiihadjeifaa
