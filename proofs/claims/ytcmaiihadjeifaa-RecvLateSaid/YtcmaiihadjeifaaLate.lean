/-
  LAW RecvLate OF LAYER 19 (recv), PROVED FOR EVERY ROW OF ARGUMENTS, WITHOUT CONDITIONS: it returns true, and its arguments read as before.
-/
import Derived.Test.YtcmaiihadjeifaaSums
import Derived.Test.YtcmaiihadjeifaaArgs
import Derived.Test.YtcmaiihadjeifaaLaw
import Derived.Deep.DeepCutAuto
import Derived.Deep.CutBlock
namespace Go.Proofs.Ytcmaiihadjeifaa
open Go.RowKit Go.Camp

/-- Where the watch stands between two ticks: what is left, when it is due, what it is now. -/
def LateRel (l d m : Int) : Prop := 0 ≤ l ∧ 0 ≤ m ∧ ((l = 0 ∧ d ≤ m) ∨ (0 < l ∧ d = m + l))

set_option maxRecDepth 100000 in
set_option maxHeartbeats 4000000 in
theorem late_any (f e : Int) (ao : Option Addr) (n cap : Nat) (z : Nat → Int) (ad : Nat → Addr) (w : World)
    (hi : ∀ i, i < n → ∀ w, (Instr.indexAt 35 (.slice ao n cap) (.int .i64 (i : Int))).run Try.prog w = .ok (.pointer (some (ad i))) w)
    (hc : ∀ i, i < n → w.cell? (ad i) = some (.int .i64 (z i)) ∧ (ad i).block < w.heap.size) :
    Calls Try.prog 4 #[.int .i64 f, .int .i64 e, .slice ao n cap] w fun e w' => e = .returned (.bool true) ∧ Below w.heap.size w w' := by
  obtain ⟨p1, F, hp1, hq1, hF0, hF, _⟩ := clampI f 30 (by omega)
  obtain ⟨p2, E, hp2, hq2, hE0, hE, _⟩ := clampI e 30 (by omega)
  have HR0 : rightB F E 0 false false = true := by rw [right_new]; simp; omega
  have HI := Lib.hid hi
  have HC := Lib.hid hc
  clear hi hc
  go_enter Try.func4, Try.ntmps4
  go_wp2_with fail
  refine (new_ok F E HR0 _).mono ?_
  rintro e w1 ⟨rfl, hb1⟩
  have BW : Below w.heap.size w w1 := Below.trans (by go_grown; all_goals omega) (hb1.mono (by first | omega | (simp; omega) | simp))
  have Zw1 := BW.size
  clear hb1 
  go_wp2_with fail
  refine (alive_any _).mono ?_
  rintro e w2 ⟨rfl, hb2⟩
  have Xa : Box w2 w1.heap.size [.int .i64 F, .int .i64 E, .int .i64 0, .bool false, .bool false] := Box.call (by repeat' (first | (with_reducible first | assumption | exact Box.new _ _ _ | (refine Box.new_at ?_; simp; done) | apply Box.alloc | apply Box.drew | (apply Box.put_else; focus omega) | apply Box.put_is) | rfl)) hb2
  have Xa_c := Xa.cell
  have Xa_f := Xa.free
  have Lw2_a := Xa.lt
  replace BW : Below w.heap.size w w2 := Below.trans (by go_grown; all_goals omega) (hb2.mono (by first | omega | (simp; omega) | simp))
  have Zw2 := BW.size
  clear hb2 
  go_wp2_with fail
  obtain ⟨W0, hW0, BY, Ya, Yd, Ym⟩ : ∃ W0 : World, (w2.alloc (.cells #[.int .i64 (-1)] 3)).alloc (.cells #[.int .i64 0] 3) = W0 ∧ Below w.heap.size w W0 ∧ Box W0 w1.heap.size [.int .i64 F, .int .i64 E, .int .i64 0, .bool false, .bool false] ∧ Box W0 w2.heap.size [.int .i64 (-1)] ∧ Box W0 (w2.heap.size + 1) [.int .i64 0] := ⟨_, rfl, by go_grown; all_goals omega, by repeat' (first | (with_reducible first | assumption | exact Box.new _ _ _ | (refine Box.new_at ?_; simp; done) | apply Box.alloc | apply Box.drew | (apply Box.put_else; focus omega) | apply Box.put_is) | rfl), by repeat' (first | (with_reducible first | assumption | exact Box.new _ _ _ | (refine Box.new_at ?_; simp; done) | apply Box.alloc | apply Box.drew | (apply Box.put_else; focus omega) | apply Box.put_is) | rfl), by repeat' (first | (with_reducible first | assumption | exact Box.new _ _ _ | (refine Box.new_at ?_; simp; done) | apply Box.alloc | apply Box.drew | (apply Box.put_else; focus omega) | apply Box.put_is) | rfl)⟩
  rw [hW0]
  clear hW0
  clear Xa Xa_c Xa_f
  clear BW
  have BW := BY
  clear BY
  have ZW0 := BW.size
  have Xa := Ya
  clear Ya
  have Xd := Yd
  clear Yd
  have Xm := Ym
  clear Ym
  have Xa_c := Xa.cell
  have Xa_f := Xa.free
  have LW0_a := Xa.lt
  have Xd_c := Xd.cell
  have Xd_f := Xd.free
  have LW0_d := Xd.lt
  have Xm_c := Xm.cell
  have Xm_f := Xm.free
  have LW0_m := Xm.lt
  clear hp1 hq1 hp2 hq2
  have N1 : w1.heap.size ≠ (w2.heap.size + 1) := by omega
  have N2 : (w2.heap.size + 1) ≠ w1.heap.size := by omega
  go_loopw [11, 40] (fun vo v wr => ∃ (i : Nat) (l : Int) (o t : Bool) (d m : Int), vo = .bool o ∧ v = .int .i64 i ∧ i ≤ n ∧ rightB F E l o t = true ∧ LateRel l d m ∧ m ≤ 7 * i ∧ Below w.heap.size w wr ∧ Box wr w1.heap.size [.int .i64 F, .int .i64 E, .int .i64 l, .bool o, .bool t] ∧ Box wr w2.heap.size [.int .i64 d] ∧ Box wr (w2.heap.size + 1) [.int .i64 m]) (fun vo v _ => n - (intOf v).toNat)
  case atStart =>
    exact ⟨0, 0, false, false, -1, 0, rfl, rfl, by omega, HR0, by simp [LateRel], by omega, BW, Xa, Xd, Xm⟩
  case round =>
    clear Xa Xa_c Xa_f Xd Xd_c Xd_f Xm Xm_c Xm_f BW
    obtain ⟨i, l, o, t, d, m, rfl, rfl, hin, HR, HL, hm, BW, Xa, Xd, Xm⟩ := hrel
    by_cases hlt : i < n
    · have hI := HI.out i hlt
      have hC := HC.out i hlt
      have hC1 : wr.cell? (ad i) = some (.int .i64 (z i)) := (BW.cell hC.2).trans hC.1
      clear hC
      generalize z i = a at *
      have ZW := BW.size
      have Xa_c := Xa.cell
      have Xa_f := Xa.free
      have Lwr_a := Xa.lt
      have Xd_c := Xd.cell
      have Xd_f := Xd.free
      have Lwr_d := Xd.lt
      have Xm_c := Xm.cell
      have Xm_f := Xm.free
      have Lwr_m := Xm.lt
      by_cases h60 : i < 60
      · have h60g : (i : Int) < 60 := by omega
        obtain ⟨p5, q5, e5, f5, g5, r5, s5⟩ := turns a 5 (by omega) (by omega)
        go_upto_block 2 with (fail)
        go_cut [11, 15] (fun vo vf wx => vf = .int .i64 0 ∧ ∃ (l : Int) (o t : Bool) (d : Int), vo = .bool o ∧ rightB F E l o t = true ∧ LateRel l d m ∧ Below w.heap.size w wx ∧ Box wx w1.heap.size [.int .i64 F, .int .i64 E, .int .i64 l, .bool o, .bool t] ∧ Box wx w2.heap.size [.int .i64 d] ∧ Box wx (w2.heap.size + 1) [.int .i64 m])
        case first =>
          have hq : q5 = 0 ∨ q5 = 1 ∨ q5 = 2 ∨ q5 = 3 ∨ q5 = 4 := by omega
          clear g5 r5 s5 e5 f5
          have HLh := Lib.hid HL
          have HL0 : 0 ≤ m := HL.2.1
          clear HL
          rcases hq with rfl | rfl | rfl | rfl | rfl
          · skip
            go_wp2_with fail
            refine (start_ok F E l o t HR _).mono ?_
            rintro e w3 ⟨rfl, hb3⟩
            replace Xa : Box w3 w1.heap.size [.int .i64 F, .int .i64 E, .int .i64 l, .bool o, .bool t] := Box.call (by repeat' (first | (with_reducible first | assumption | exact Box.new _ _ _ | (refine Box.new_at ?_; simp; done) | apply Box.alloc | apply Box.drew | (apply Box.put_else; focus omega) | apply Box.put_is) | rfl)) hb3
            replace Xd : Box w3 w2.heap.size [.int .i64 d] := Box.call (by repeat' (first | (with_reducible first | assumption | exact Box.new _ _ _ | (refine Box.new_at ?_; simp; done) | apply Box.alloc | apply Box.drew | (apply Box.put_else; focus omega) | apply Box.put_is) | rfl)) hb3
            replace Xm : Box w3 (w2.heap.size + 1) [.int .i64 m] := Box.call (by repeat' (first | (with_reducible first | assumption | exact Box.new _ _ _ | (refine Box.new_at ?_; simp; done) | apply Box.alloc | apply Box.drew | (apply Box.put_else; focus omega) | apply Box.put_is) | rfl)) hb3
            replace Xa_c := Xa.cell
            replace Xa_f := Xa.free
            have Lw3_a := Xa.lt
            replace Xd_c := Xd.cell
            replace Xd_f := Xd.free
            have Lw3_d := Xd.lt
            replace Xm_c := Xm.cell
            replace Xm_f := Xm.free
            have Lw3_m := Xm.lt
            replace BW : Below w.heap.size w w3 := Below.trans (by go_grown; all_goals omega) (hb3.mono (by first | omega | (simp; omega) | simp))
            have Zw3 := BW.size
            clear hb3 
            by_cases hx : (0 : Int) < F
            · go_wp2_with go_in
              go_light
              go_meet
              exact ⟨rfl, F, true, false, (m + F), rfl, right_start _ _ _ _ _ HR, ⟨by omega, by omega, .inr ⟨hx, rfl⟩⟩, by go_grown; all_goals omega, by repeat' (first | (with_reducible first | assumption | exact Box.new _ _ _ | (refine Box.new_at ?_; simp; done) | apply Box.alloc | apply Box.drew | (apply Box.put_else; focus omega) | apply Box.put_is) | rfl), by repeat' (first | (with_reducible first | assumption | exact Box.new _ _ _ | (refine Box.new_at ?_; simp; done) | apply Box.alloc | apply Box.drew | (apply Box.put_else; focus omega) | apply Box.put_is) | rfl), by repeat' (first | (with_reducible first | assumption | exact Box.new _ _ _ | (refine Box.new_at ?_; simp; done) | apply Box.alloc | apply Box.drew | (apply Box.put_else; focus omega) | apply Box.put_is) | rfl)⟩
            · go_wp2_with go_in
              go_light
              go_meet
              exact ⟨rfl, F, true, false, (-1), rfl, right_start _ _ _ _ _ HR, ⟨by omega, by omega, .inl ⟨by omega, by omega⟩⟩, by go_grown; all_goals omega, by repeat' (first | (with_reducible first | assumption | exact Box.new _ _ _ | (refine Box.new_at ?_; simp; done) | apply Box.alloc | apply Box.drew | (apply Box.put_else; focus omega) | apply Box.put_is) | rfl), by repeat' (first | (with_reducible first | assumption | exact Box.new _ _ _ | (refine Box.new_at ?_; simp; done) | apply Box.alloc | apply Box.drew | (apply Box.put_else; focus omega) | apply Box.put_is) | rfl), by repeat' (first | (with_reducible first | assumption | exact Box.new _ _ _ | (refine Box.new_at ?_; simp; done) | apply Box.alloc | apply Box.drew | (apply Box.put_else; focus omega) | apply Box.put_is) | rfl)⟩
          · cases o
            · skip
              go_wp2_with fail
              refine (got_off F E l t HR _).mono ?_
              rintro e w3 ⟨rfl, hb3⟩
              replace Xa : Box w3 w1.heap.size [.int .i64 F, .int .i64 E, .int .i64 l, .bool false, .bool t] := Box.call (by repeat' (first | (with_reducible first | assumption | exact Box.new _ _ _ | (refine Box.new_at ?_; simp; done) | apply Box.alloc | apply Box.drew | (apply Box.put_else; focus omega) | apply Box.put_is) | rfl)) hb3
              replace Xd : Box w3 w2.heap.size [.int .i64 d] := Box.call (by repeat' (first | (with_reducible first | assumption | exact Box.new _ _ _ | (refine Box.new_at ?_; simp; done) | apply Box.alloc | apply Box.drew | (apply Box.put_else; focus omega) | apply Box.put_is) | rfl)) hb3
              replace Xm : Box w3 (w2.heap.size + 1) [.int .i64 m] := Box.call (by repeat' (first | (with_reducible first | assumption | exact Box.new _ _ _ | (refine Box.new_at ?_; simp; done) | apply Box.alloc | apply Box.drew | (apply Box.put_else; focus omega) | apply Box.put_is) | rfl)) hb3
              replace Xa_c := Xa.cell
              replace Xa_f := Xa.free
              have Lw3_a := Xa.lt
              replace Xd_c := Xd.cell
              replace Xd_f := Xd.free
              have Lw3_d := Xd.lt
              replace Xm_c := Xm.cell
              replace Xm_f := Xm.free
              have Lw3_m := Xm.lt
              replace BW : Below w.heap.size w w3 := Below.trans (by go_grown; all_goals omega) (hb3.mono (by first | omega | (simp; omega) | simp))
              have Zw3 := BW.size
              clear hb3 
              go_wp2_with fail
              go_light
              go_meet
              exact ⟨rfl, l, false, t, d, rfl, HR, HLh.out, by go_grown; all_goals omega, by repeat' (first | (with_reducible first | assumption | exact Box.new _ _ _ | (refine Box.new_at ?_; simp; done) | apply Box.alloc | apply Box.drew | (apply Box.put_else; focus omega) | apply Box.put_is) | rfl), by repeat' (first | (with_reducible first | assumption | exact Box.new _ _ _ | (refine Box.new_at ?_; simp; done) | apply Box.alloc | apply Box.drew | (apply Box.put_else; focus omega) | apply Box.put_is) | rfl), by repeat' (first | (with_reducible first | assumption | exact Box.new _ _ _ | (refine Box.new_at ?_; simp; done) | apply Box.alloc | apply Box.drew | (apply Box.put_else; focus omega) | apply Box.put_is) | rfl)⟩
            · skip
              go_wp2_with fail
              refine (got_on F E l t HR _).mono ?_
              rintro e w3 ⟨rfl, hb3⟩
              replace Xa : Box w3 w1.heap.size [.int .i64 F, .int .i64 E, .int .i64 l, .bool true, .bool t] := Box.call (by repeat' (first | (with_reducible first | assumption | exact Box.new _ _ _ | (refine Box.new_at ?_; simp; done) | apply Box.alloc | apply Box.drew | (apply Box.put_else; focus omega) | apply Box.put_is) | rfl)) hb3
              replace Xd : Box w3 w2.heap.size [.int .i64 d] := Box.call (by repeat' (first | (with_reducible first | assumption | exact Box.new _ _ _ | (refine Box.new_at ?_; simp; done) | apply Box.alloc | apply Box.drew | (apply Box.put_else; focus omega) | apply Box.put_is) | rfl)) hb3
              replace Xm : Box w3 (w2.heap.size + 1) [.int .i64 m] := Box.call (by repeat' (first | (with_reducible first | assumption | exact Box.new _ _ _ | (refine Box.new_at ?_; simp; done) | apply Box.alloc | apply Box.drew | (apply Box.put_else; focus omega) | apply Box.put_is) | rfl)) hb3
              replace Xa_c := Xa.cell
              replace Xa_f := Xa.free
              have Lw3_a := Xa.lt
              replace Xd_c := Xd.cell
              replace Xd_f := Xd.free
              have Lw3_d := Xd.lt
              replace Xm_c := Xm.cell
              replace Xm_f := Xm.free
              have Lw3_m := Xm.lt
              replace BW : Below w.heap.size w w3 := Below.trans (by go_grown; all_goals omega) (hb3.mono (by first | omega | (simp; omega) | simp))
              have Zw3 := BW.size
              clear hb3 
              by_cases hx : (0 : Int) < E
              · go_wp2_with go_in
                go_light
                go_meet
                exact ⟨rfl, E, true, false, (m + E), rfl, right_got _ _ _ _ _ HR, ⟨by omega, by omega, .inr ⟨hx, rfl⟩⟩, by go_grown; all_goals omega, by repeat' (first | (with_reducible first | assumption | exact Box.new _ _ _ | (refine Box.new_at ?_; simp; done) | apply Box.alloc | apply Box.drew | (apply Box.put_else; focus omega) | apply Box.put_is) | rfl), by repeat' (first | (with_reducible first | assumption | exact Box.new _ _ _ | (refine Box.new_at ?_; simp; done) | apply Box.alloc | apply Box.drew | (apply Box.put_else; focus omega) | apply Box.put_is) | rfl), by repeat' (first | (with_reducible first | assumption | exact Box.new _ _ _ | (refine Box.new_at ?_; simp; done) | apply Box.alloc | apply Box.drew | (apply Box.put_else; focus omega) | apply Box.put_is) | rfl)⟩
              · go_wp2_with go_in
                go_light
                go_meet
                exact ⟨rfl, E, true, false, (-1), rfl, right_got _ _ _ _ _ HR, ⟨by omega, by omega, .inl ⟨by omega, by omega⟩⟩, by go_grown; all_goals omega, by repeat' (first | (with_reducible first | assumption | exact Box.new _ _ _ | (refine Box.new_at ?_; simp; done) | apply Box.alloc | apply Box.drew | (apply Box.put_else; focus omega) | apply Box.put_is) | rfl), by repeat' (first | (with_reducible first | assumption | exact Box.new _ _ _ | (refine Box.new_at ?_; simp; done) | apply Box.alloc | apply Box.drew | (apply Box.put_else; focus omega) | apply Box.put_is) | rfl), by repeat' (first | (with_reducible first | assumption | exact Box.new _ _ _ | (refine Box.new_at ?_; simp; done) | apply Box.alloc | apply Box.drew | (apply Box.put_else; focus omega) | apply Box.put_is) | rfl)⟩
          · obtain ⟨p10, e10⟩ : ∃ p10, a.tmod 10 = p10 := ⟨_, rfl⟩
            by_cases h10 : p10 = 2
            · subst h10
              go_wp2_with fail
              refine (stop_ok F E l o t HR _).mono ?_
              rintro e w3 ⟨rfl, hb3⟩
              replace Xa : Box w3 w1.heap.size [.int .i64 F, .int .i64 E, .int .i64 l, .bool o, .bool t] := Box.call (by repeat' (first | (with_reducible first | assumption | exact Box.new _ _ _ | (refine Box.new_at ?_; simp; done) | apply Box.alloc | apply Box.drew | (apply Box.put_else; focus omega) | apply Box.put_is) | rfl)) hb3
              replace Xd : Box w3 w2.heap.size [.int .i64 d] := Box.call (by repeat' (first | (with_reducible first | assumption | exact Box.new _ _ _ | (refine Box.new_at ?_; simp; done) | apply Box.alloc | apply Box.drew | (apply Box.put_else; focus omega) | apply Box.put_is) | rfl)) hb3
              replace Xm : Box w3 (w2.heap.size + 1) [.int .i64 m] := Box.call (by repeat' (first | (with_reducible first | assumption | exact Box.new _ _ _ | (refine Box.new_at ?_; simp; done) | apply Box.alloc | apply Box.drew | (apply Box.put_else; focus omega) | apply Box.put_is) | rfl)) hb3
              replace Xa_c := Xa.cell
              replace Xa_f := Xa.free
              have Lw3_a := Xa.lt
              replace Xd_c := Xd.cell
              replace Xd_f := Xd.free
              have Lw3_d := Xd.lt
              replace Xm_c := Xm.cell
              replace Xm_f := Xm.free
              have Lw3_m := Xm.lt
              replace BW : Below w.heap.size w w3 := Below.trans (by go_grown; all_goals omega) (hb3.mono (by first | omega | (simp; omega) | simp))
              have Zw3 := BW.size
              clear hb3 
              go_wp2_with fail
              go_light
              go_meet
              exact ⟨rfl, 0, false, false, (-1), rfl, HR0, ⟨by omega, by omega, .inl ⟨rfl, by omega⟩⟩, by go_grown; all_goals omega, by repeat' (first | (with_reducible first | assumption | exact Box.new _ _ _ | (refine Box.new_at ?_; simp; done) | apply Box.alloc | apply Box.drew | (apply Box.put_else; focus omega) | apply Box.put_is) | rfl), by repeat' (first | (with_reducible first | assumption | exact Box.new _ _ _ | (refine Box.new_at ?_; simp; done) | apply Box.alloc | apply Box.drew | (apply Box.put_else; focus omega) | apply Box.put_is) | rfl), by repeat' (first | (with_reducible first | assumption | exact Box.new _ _ _ | (refine Box.new_at ?_; simp; done) | apply Box.alloc | apply Box.drew | (apply Box.put_else; focus omega) | apply Box.put_is) | rfl)⟩
            · go_wp2_with fail
              go_light
              go_meet
              exact ⟨rfl, l, o, t, d, rfl, HR, HLh.out, by go_grown; all_goals omega, by repeat' (first | (with_reducible first | assumption | exact Box.new _ _ _ | (refine Box.new_at ?_; simp; done) | apply Box.alloc | apply Box.drew | (apply Box.put_else; focus omega) | apply Box.put_is) | rfl), by repeat' (first | (with_reducible first | assumption | exact Box.new _ _ _ | (refine Box.new_at ?_; simp; done) | apply Box.alloc | apply Box.drew | (apply Box.put_else; focus omega) | apply Box.put_is) | rfl), by repeat' (first | (with_reducible first | assumption | exact Box.new _ _ _ | (refine Box.new_at ?_; simp; done) | apply Box.alloc | apply Box.drew | (apply Box.put_else; focus omega) | apply Box.put_is) | rfl)⟩
          · go_wp2_with fail
            go_light
            go_meet
            exact ⟨rfl, l, o, t, d, rfl, HR, HLh.out, by go_grown; all_goals omega, by repeat' (first | (with_reducible first | assumption | exact Box.new _ _ _ | (refine Box.new_at ?_; simp; done) | apply Box.alloc | apply Box.drew | (apply Box.put_else; focus omega) | apply Box.put_is) | rfl), by repeat' (first | (with_reducible first | assumption | exact Box.new _ _ _ | (refine Box.new_at ?_; simp; done) | apply Box.alloc | apply Box.drew | (apply Box.put_else; focus omega) | apply Box.put_is) | rfl), by repeat' (first | (with_reducible first | assumption | exact Box.new _ _ _ | (refine Box.new_at ?_; simp; done) | apply Box.alloc | apply Box.drew | (apply Box.put_else; focus omega) | apply Box.put_is) | rfl)⟩
          · go_wp2_with fail
            go_light
            go_meet
            exact ⟨rfl, l, o, t, d, rfl, HR, HLh.out, by go_grown; all_goals omega, by repeat' (first | (with_reducible first | assumption | exact Box.new _ _ _ | (refine Box.new_at ?_; simp; done) | apply Box.alloc | apply Box.drew | (apply Box.put_else; focus omega) | apply Box.put_is) | rfl), by repeat' (first | (with_reducible first | assumption | exact Box.new _ _ _ | (refine Box.new_at ?_; simp; done) | apply Box.alloc | apply Box.drew | (apply Box.put_else; focus omega) | apply Box.put_is) | rfl), by repeat' (first | (with_reducible first | assumption | exact Box.new _ _ _ | (refine Box.new_at ?_; simp; done) | apply Box.alloc | apply Box.drew | (apply Box.put_else; focus omega) | apply Box.put_is) | rfl)⟩
        case rest =>
          clear Xa Xa_c Xa_f Xd Xd_c Xd_f Xm Xm_c Xm_f BW HR HL hC1 hI ZW
          obtain ⟨rfl, l, o, t, d, rfl, HR, HL, BW, Xa, Xd, Xm⟩ := hcut
          obtain ⟨wk, rfl⟩ : ∃ wk : World, wk = wc := ⟨_, rfl⟩
          have ZW := BW.size
          have Xa_c := Xa.cell
          have Xa_f := Xa.free
          have Lwk_a := Xa.lt
          have Xd_c := Xd.cell
          have Xd_f := Xd.free
          have Lwk_d := Xd.lt
          have Xm_c := Xm.cell
          have Xm_f := Xm.free
          have Lwk_m := Xm.lt
          clear g5 r5 s5 e5 f5
          obtain ⟨p7, q7, e7, f7, g7, r7, s7⟩ := turns a 7 (by omega) (by omega)
          go_wp2_with fail
          go_loopw [89] (fun v wr => ∃ (j : Nat) (l : Int) (t : Bool) (d m : Int), v = .int .i64 j ∧ (j : Int) ≤ 1 + q7 ∧ rightB F E l o t = true ∧ LateRel l d m ∧ m ≤ 7 * i + j ∧ Below w.heap.size w wr ∧ Box wr w1.heap.size [.int .i64 F, .int .i64 E, .int .i64 l, .bool o, .bool t] ∧ Box wr w2.heap.size [.int .i64 d] ∧ Box wr (w2.heap.size + 1) [.int .i64 m]) (fun v _ => (1 + q7).toNat - (intOf v).toNat)
          case atStart =>
            exact ⟨0, l, t, d, m, rfl, by omega, HR, HL, by omega, BW, Xa, Xd, Xm⟩
          case round =>
            clear Xa Xa_c Xa_f Xd Xd_c Xd_f Xm Xm_c Xm_f BW HR HL hm ZW
            clear l t d m
            obtain ⟨j, l, t, d, m, rfl, hj, HR, HL, hm, BW, Xa, Xd, Xm⟩ := hrel
            have ZW := BW.size
            have Xa_c := Xa.cell
            have Xa_f := Xa.free
            have Lwr_a := Xa.lt
            have Xd_c := Xd.cell
            have Xd_f := Xd.free
            have Lwr_d := Xd.lt
            have Xm_c := Xm.cell
            have Xm_f := Xm.free
            have Lwr_m := Xm.lt
            by_cases hlt : (j : Int) < 1 + q7
            · have HL0 : 0 ≤ m := HL.2.1
              have HL1 : 0 ≤ l := HL.1
              have HL2 := HL.2.2
              have hi60 : (i : Int) < 60 := h60g
              clear HL
              rcases (by omega : l = 0 ∨ l = 1 ∨ 2 ≤ l) with h0 | h0 | h0
              · skip
                subst h0
                have hb : (d == m + 1) = false := by simp; omega
                have HR2 := right_tick _ _ _ _ _ HR
                have hd : d ≤ m := by omega
                clear HL2
                go_wp2_with fail
                refine (tick_none F E o t HR _).mono ?_
                rintro e w3 ⟨rfl, hb3⟩
                replace Xa : Box w3 w1.heap.size [.int .i64 F, .int .i64 E, .int .i64 0, .bool o, .bool t] := Box.call (by repeat' (first | (with_reducible first | assumption | exact Box.new _ _ _ | (refine Box.new_at ?_; simp; done) | apply Box.alloc | apply Box.drew | (apply Box.put_else; focus omega) | apply Box.put_is) | rfl)) hb3
                replace Xd : Box w3 w2.heap.size [.int .i64 d] := Box.call (by repeat' (first | (with_reducible first | assumption | exact Box.new _ _ _ | (refine Box.new_at ?_; simp; done) | apply Box.alloc | apply Box.drew | (apply Box.put_else; focus omega) | apply Box.put_is) | rfl)) hb3
                replace Xm : Box w3 (w2.heap.size + 1) [.int .i64 m] := Box.call (by repeat' (first | (with_reducible first | assumption | exact Box.new _ _ _ | (refine Box.new_at ?_; simp; done) | apply Box.alloc | apply Box.drew | (apply Box.put_else; focus omega) | apply Box.put_is) | rfl)) hb3
                replace Xa_c := Xa.cell
                replace Xa_f := Xa.free
                have Lw3_a := Xa.lt
                replace Xd_c := Xd.cell
                replace Xd_f := Xd.free
                have Lw3_d := Xd.lt
                replace Xm_c := Xm.cell
                replace Xm_f := Xm.free
                have Lw3_m := Xm.lt
                replace BW : Below w.heap.size w w3 := Below.trans (by go_grown; all_goals omega) (hb3.mono (by first | omega | (simp; omega) | simp))
                have Zw3 := BW.size
                clear hb3 
                go_wp2_with fail
                go_light
                go_roundw
                case rel => exact ⟨j + 1, 0, t, d, m + 1, by go_num, by omega, HR2, ⟨by omega, by omega, .inl ⟨rfl, by omega⟩⟩, by omega, by go_grown; all_goals omega, by repeat' (first | (with_reducible first | assumption | exact Box.new _ _ _ | (refine Box.new_at ?_; simp; done) | apply Box.alloc | apply Box.drew | (apply Box.put_else; focus omega) | apply Box.put_is) | rfl), by repeat' (first | (with_reducible first | assumption | exact Box.new _ _ _ | (refine Box.new_at ?_; simp; done) | apply Box.alloc | apply Box.drew | (apply Box.put_else; focus omega) | apply Box.put_is) | rfl), by repeat' (first | (with_reducible first | assumption | exact Box.new _ _ _ | (refine Box.new_at ?_; simp; done) | apply Box.alloc | apply Box.drew | (apply Box.put_else; focus omega) | apply Box.put_is) | rfl)⟩
                case measure => simp [intOf]; omega
              · skip
                subst h0
                obtain rfl : d = m + 1 := by omega
                have HR2 := right_tick _ _ _ _ _ HR
                clear HL2
                go_wp2_with fail
                refine (tick_last F E o t HR _).mono ?_
                rintro e w3 ⟨rfl, hb3⟩
                replace Xa : Box w3 w1.heap.size [.int .i64 F, .int .i64 E, .int .i64 1, .bool o, .bool t] := Box.call (by repeat' (first | (with_reducible first | assumption | exact Box.new _ _ _ | (refine Box.new_at ?_; simp; done) | apply Box.alloc | apply Box.drew | (apply Box.put_else; focus omega) | apply Box.put_is) | rfl)) hb3
                replace Xd : Box w3 w2.heap.size [.int .i64 (m + 1)] := Box.call (by repeat' (first | (with_reducible first | assumption | exact Box.new _ _ _ | (refine Box.new_at ?_; simp; done) | apply Box.alloc | apply Box.drew | (apply Box.put_else; focus omega) | apply Box.put_is) | rfl)) hb3
                replace Xm : Box w3 (w2.heap.size + 1) [.int .i64 m] := Box.call (by repeat' (first | (with_reducible first | assumption | exact Box.new _ _ _ | (refine Box.new_at ?_; simp; done) | apply Box.alloc | apply Box.drew | (apply Box.put_else; focus omega) | apply Box.put_is) | rfl)) hb3
                replace Xa_c := Xa.cell
                replace Xa_f := Xa.free
                have Lw3_a := Xa.lt
                replace Xd_c := Xd.cell
                replace Xd_f := Xd.free
                have Lw3_d := Xd.lt
                replace Xm_c := Xm.cell
                replace Xm_f := Xm.free
                have Lw3_m := Xm.lt
                replace BW : Below w.heap.size w w3 := Below.trans (by go_grown; all_goals omega) (hb3.mono (by first | omega | (simp; omega) | simp))
                have Zw3 := BW.size
                clear hb3 
                go_wp2_with fail
                go_light
                go_roundw
                case rel => exact ⟨j + 1, 0, true, (m + 1), m + 1, by go_num, by omega, HR2, ⟨by omega, by omega, .inl ⟨rfl, by omega⟩⟩, by omega, by go_grown; all_goals omega, by repeat' (first | (with_reducible first | assumption | exact Box.new _ _ _ | (refine Box.new_at ?_; simp; done) | apply Box.alloc | apply Box.drew | (apply Box.put_else; focus omega) | apply Box.put_is) | rfl), by repeat' (first | (with_reducible first | assumption | exact Box.new _ _ _ | (refine Box.new_at ?_; simp; done) | apply Box.alloc | apply Box.drew | (apply Box.put_else; focus omega) | apply Box.put_is) | rfl), by repeat' (first | (with_reducible first | assumption | exact Box.new _ _ _ | (refine Box.new_at ?_; simp; done) | apply Box.alloc | apply Box.drew | (apply Box.put_else; focus omega) | apply Box.put_is) | rfl)⟩
                case measure => simp [intOf]; omega
              · skip
                have hb : (d == m + 1) = false := by simp; omega
                have hl6 : l ≤ 1000000 := by simp [rightB] at HR; omega
                have HR2 : rightB F E (l - 1) o false = true := by have := right_tick _ _ _ _ _ HR; simpa [tkL, tkT, show l ≠ 0 by omega, show l ≠ 1 by omega] using this
                have hd : d = m + l := by omega
                have Hd := Lib.hid hd
                clear HL2 hd
                go_wp2_with fail
                refine (tick_more F E l o t HR h0 hl6 _).mono ?_
                rintro e w3 ⟨rfl, hb3⟩
                replace Xa : Box w3 w1.heap.size [.int .i64 F, .int .i64 E, .int .i64 l, .bool o, .bool t] := Box.call (by repeat' (first | (with_reducible first | assumption | exact Box.new _ _ _ | (refine Box.new_at ?_; simp; done) | apply Box.alloc | apply Box.drew | (apply Box.put_else; focus omega) | apply Box.put_is) | rfl)) hb3
                replace Xd : Box w3 w2.heap.size [.int .i64 d] := Box.call (by repeat' (first | (with_reducible first | assumption | exact Box.new _ _ _ | (refine Box.new_at ?_; simp; done) | apply Box.alloc | apply Box.drew | (apply Box.put_else; focus omega) | apply Box.put_is) | rfl)) hb3
                replace Xm : Box w3 (w2.heap.size + 1) [.int .i64 m] := Box.call (by repeat' (first | (with_reducible first | assumption | exact Box.new _ _ _ | (refine Box.new_at ?_; simp; done) | apply Box.alloc | apply Box.drew | (apply Box.put_else; focus omega) | apply Box.put_is) | rfl)) hb3
                replace Xa_c := Xa.cell
                replace Xa_f := Xa.free
                have Lw3_a := Xa.lt
                replace Xd_c := Xd.cell
                replace Xd_f := Xd.free
                have Lw3_d := Xd.lt
                replace Xm_c := Xm.cell
                replace Xm_f := Xm.free
                have Lw3_m := Xm.lt
                replace BW : Below w.heap.size w w3 := Below.trans (by go_grown; all_goals omega) (hb3.mono (by first | omega | (simp; omega) | simp))
                have Zw3 := BW.size
                clear hb3 
                go_wp2_with fail
                go_light
                go_roundw
                case rel => exact ⟨j + 1, (l - 1), false, d, m + 1, by go_num, by omega, HR2, ⟨by omega, by omega, .inr ⟨by omega, by have := Hd.out; omega⟩⟩, by omega, by go_grown; all_goals omega, by repeat' (first | (with_reducible first | assumption | exact Box.new _ _ _ | (refine Box.new_at ?_; simp; done) | apply Box.alloc | apply Box.drew | (apply Box.put_else; focus omega) | apply Box.put_is) | rfl), by repeat' (first | (with_reducible first | assumption | exact Box.new _ _ _ | (refine Box.new_at ?_; simp; done) | apply Box.alloc | apply Box.drew | (apply Box.put_else; focus omega) | apply Box.put_is) | rfl), by repeat' (first | (with_reducible first | assumption | exact Box.new _ _ _ | (refine Box.new_at ?_; simp; done) | apply Box.alloc | apply Box.drew | (apply Box.put_else; focus omega) | apply Box.put_is) | rfl)⟩
                case measure => simp [intOf]; omega
            · have hj7 : (j : Int) = 1 + q7 := by omega
              have hj8 : (j : Int) ≤ 7 := by omega
              clear hj
              go_wp2_with fail
              go_light
              go_roundw
              case rel => exact ⟨i + 1, l, o, t, d, m, rfl, by go_num, by omega, HR, HL, by omega, by go_grown; all_goals omega, by repeat' (first | (with_reducible first | assumption | exact Box.new _ _ _ | (refine Box.new_at ?_; simp; done) | apply Box.alloc | apply Box.drew | (apply Box.put_else; focus omega) | apply Box.put_is) | rfl), by repeat' (first | (with_reducible first | assumption | exact Box.new _ _ _ | (refine Box.new_at ?_; simp; done) | apply Box.alloc | apply Box.drew | (apply Box.put_else; focus omega) | apply Box.put_is) | rfl), by repeat' (first | (with_reducible first | assumption | exact Box.new _ _ _ | (refine Box.new_at ?_; simp; done) | apply Box.alloc | apply Box.drew | (apply Box.put_else; focus omega) | apply Box.put_is) | rfl)⟩
              case measure => simp [intOf]; omega
      · have h60g : (60 : Int) ≤ i := by omega
        go_wp2_with fail
        go_ret
        exact ⟨rfl, BW⟩
    · obtain rfl : i = n := by omega
      go_wp2_with fail
      go_ret
      exact ⟨rfl, BW⟩
end Go.Proofs.Ytcmaiihadjeifaa
