/-
  LAW CountTurns OF LAYER 6 (count), PROVED FOR EVERY COUNT, WITHOUT CONDITIONS: it returns true, and its argument reads as before.
-/
import Derived.Test.YtdiomgocdkjcoaaWalk
import Derived.Test.YtdiomgocdkjcoaaLaw
namespace Go.Proofs.Ytdiomgocdkjcoaa
open Go.RowKit Go.Camp Go.ChangeShapes Go.WideShapes Go.ChangeAt Go.Joins

theorem alive_any (w : World) : Calls Try.prog 7 #[] w fun e w' => e = .returned (.bool true) ∧ Below w.heap.size w w' := by
  go_enter Try.func7, Try.ntmps7
  go_wp2_with (first | (go_at_call 8; refine (step3_off _ _ (by omega) (by omega) (by omega) (by omega) (by omega) _).mono ?_; rintro e w1 ⟨rfl, hb1⟩))
  go_ret
  go_light
  exact ⟨rfl, (hb1.alloc hb1.size _)⟩

set_option maxRecDepth 100000 in
set_option maxHeartbeats 4000000 in
theorem turns_main (t r : Int) (h1 : 0 ≤ t) (h2 : t + 8 ≤ 255) (h3 : 0 ≤ r) (h4 : r ≤ 255) (w : World) :
    Calls Try.prog 3 #[.agg #[.int .i64 t, .int .i64 r, .bool false, .int .i64 0]] w fun e w' => e = .returned (.bool true) ∧ Below w.heap.size w w' := by
  have HR : Hid (rightB t r false 0 = true) := by simp [Hid, rightB]; omega
  go_enter Try.func3, Try.ntmps3
  go_wp2_with fail
  refine (refRight_any _ _ _ _ _).mono ?_
  rintro e w1 ⟨rfl, hb1⟩
  rw [HR.out]
  have C0 := below_at4 hb1 (b := w.heap.size) (by simp)
  simp [go_sem] at C0
  have B1 : Below w.heap.size w w1 := (by go_grown : Below w.heap.size w _).trans (hb1.mono (by simp))
  have z1 := hb1.size
  simp at z1
  clear hb1
  go_wp2_with fail
  refine (step3 _ _ h1 (by omega) h3 h4 h2 _).mono ?_
  rintro e w2 ⟨rfl, hb2⟩
  have C1 := below_at4 hb2 (b := w.heap.size) (by omega)
  simp only [C0] at C1
  have B2 : Below w.heap.size w w2 := B1.trans (hb2.mono (by omega))
  have z2 := hb2.size
  have z3 : w.heap.size < w2.heap.size := by omega
  clear hb2 C0 B1 z1 z2
  go_wp2_with fail
  go_loopw [33] (fun v wr => ∃ i : Nat, i ≤ 8 ∧ v = .int .i64 i ∧ Below w.heap.size w wr ∧ w2.heap.size < wr.heap.size ∧
      (wr.cell? ⟨w.heap.size, 0, none⟩ = some (.int .i64 t) ∧ wr.cell? ⟨w.heap.size, 1, none⟩ = some (.int .i64 r) ∧ wr.cell? ⟨w.heap.size, 2, none⟩ = some (.bool false) ∧ wr.cell? ⟨w.heap.size, 3, none⟩ = some (.int .i64 0)) ∧
      (wr.cell? ⟨w2.heap.size, 0, none⟩ = some (.int .i64 (t + 8 - i)) ∧ wr.cell? ⟨w2.heap.size, 1, none⟩ = some (.int .i64 r) ∧ wr.cell? ⟨w2.heap.size, 2, none⟩ = some (.bool false) ∧ wr.cell? ⟨w2.heap.size, 3, none⟩ = some (.int .i64 0) ∧
        wr.frozen? ⟨w2.heap.size, 0, none⟩ = false ∧ wr.frozen? ⟨w2.heap.size, 1, none⟩ = false ∧ wr.frozen? ⟨w2.heap.size, 2, none⟩ = false ∧ wr.frozen? ⟨w2.heap.size, 3, none⟩ = false))
    (fun v _ => 8 - (intOf v).toNat)
  case atStart =>
    refine ⟨0, by omega, rfl, B2.alloc (by omega) _, by simp, ?_, ?_⟩
    · simp [go_sem, C1, z3]
    · simp [go_sem]
  case round =>
    obtain ⟨i, hi, rfl, Br, zr, Dc, Dd⟩ := hrel
    by_cases hlt : i < 8
    · go_wp2_with fail
      refine (step1 _ _ (by omega) (by omega) h3 h4 _).mono ?_
      rintro e w3 ⟨rfl, hb3⟩
      have e1 : tecF 1 (t + 8 - i) = t + 8 - (i + 1 : Nat) := by simp [tecF]; split <;> omega
      rw [e1]
      have E0 := below_at4 hb3 (b := w.heap.size) (by omega)
      have E1 := below_at4 hb3 (b := w2.heap.size) (by omega)
      simp only [Dc, Dd] at E0 E1
      have B3 : Below w.heap.size w w3 := Br.trans (hb3.mono (by omega))
      have y3 := hb3.size
      have y1 : w2.heap.size < w3.heap.size := by omega
      have y2 : w.heap.size < w3.heap.size := by omega
      clear hb3 Dc Dd Br e1
      go_wp2_with fail
      go_light
      go_roundw
      case rel =>
        refine ⟨i + 1, by omega, by go_num, ?_, ?_, ?_, ?_⟩
        · go_grown
          all_goals omega
        · simp; omega
        · simp [go_sem, E0, y2]
        · simp [go_sem, E1, y1]
      case measure => simp [intOf]; omega
    · have e8 : i = 8 := by omega
      subst e8
      have Dt : t + 8 - ((8 : Nat) : Int) = t := by omega
      rw [Dt] at Dd
      clear Dt
      have yr : w.heap.size < wr.heap.size := by omega
      go_wp2_with fail
      obtain ⟨wo, rfl⟩ : ∃ wo : World, wo = wr := ⟨_, rfl⟩
      go_loopw [45] (fun v wr => ∃ i : Nat, ∃ q : Int, i ≤ 128 ∧ v = .int .i64 i ∧ 0 ≤ q ∧ q ≤ 255 ∧ (i = 0 ∨ q ≤ 127 - i ∨ q = 0) ∧ Below w.heap.size w wr ∧ wo.heap.size < wr.heap.size ∧
          (wr.cell? ⟨w.heap.size, 0, none⟩ = some (.int .i64 t) ∧ wr.cell? ⟨w.heap.size, 1, none⟩ = some (.int .i64 r) ∧ wr.cell? ⟨w.heap.size, 2, none⟩ = some (.bool false) ∧ wr.cell? ⟨w.heap.size, 3, none⟩ = some (.int .i64 0)) ∧
          (wr.cell? ⟨w2.heap.size, 0, none⟩ = some (.int .i64 t) ∧ wr.cell? ⟨w2.heap.size, 1, none⟩ = some (.int .i64 r) ∧ wr.cell? ⟨w2.heap.size, 2, none⟩ = some (.bool false) ∧ wr.cell? ⟨w2.heap.size, 3, none⟩ = some (.int .i64 0)) ∧
          (wr.cell? ⟨wo.heap.size, 0, none⟩ = some (.int .i64 t) ∧ wr.cell? ⟨wo.heap.size, 1, none⟩ = some (.int .i64 q) ∧ wr.cell? ⟨wo.heap.size, 2, none⟩ = some (.bool false) ∧ wr.cell? ⟨wo.heap.size, 3, none⟩ = some (.int .i64 0) ∧
            wr.frozen? ⟨wo.heap.size, 0, none⟩ = false ∧ wr.frozen? ⟨wo.heap.size, 1, none⟩ = false ∧ wr.frozen? ⟨wo.heap.size, 2, none⟩ = false ∧ wr.frozen? ⟨wo.heap.size, 3, none⟩ = false))
        (fun v _ => 128 - (intOf v).toNat)
      case atStart =>
        refine ⟨0, r, by omega, rfl, h3, h4, .inl rfl, Br.alloc (by omega) _, by simp, ?_, ?_, ?_⟩
        · simp [go_sem, Dc, yr]
        · simp [go_sem, Dd, zr]
        · simp [go_sem]
      case round =>
        obtain ⟨i, q, hi, rfl, hq0, hq1, hq, Bx, zx, Xc, Xd, Xl⟩ := hrel
        clear Dc Dd Br
        by_cases hlt : i < 128
        · go_wp2_with fail
          refine (step2 _ _ h1 (by omega) hq0 hq1 _).mono ?_
          rintro e w3 ⟨rfl, hb3⟩
          have e1 : 0 ≤ recF 2 q ∧ recF 2 q ≤ q ∧ (recF 2 q ≤ 127 - (i + 1 : Nat) ∨ recF 2 q = 0) := by simp [recF]; split <;> (try split) <;> omega
          obtain ⟨q', eq', g⟩ : ∃ q', recF 2 q = q' ∧ (0 ≤ q' ∧ q' ≤ q ∧ (q' ≤ 127 - (i + 1 : Nat) ∨ q' = 0)) := ⟨_, rfl, e1⟩
          obtain ⟨g1, g2, g3⟩ := g
          rw [eq']
          clear eq' e1
          have E0 := below_at4 hb3 (b := w.heap.size) (by omega)
          have E1 := below_at4 hb3 (b := w2.heap.size) (by omega)
          have E2 := below_at4 hb3 (b := wo.heap.size) (by omega)
          simp only [Xc, Xd, Xl] at E0 E1 E2
          have B3 : Below w.heap.size w w3 := Bx.trans (hb3.mono (by omega))
          have y3 := hb3.size
          have y0 : wo.heap.size < w3.heap.size := by omega
          have y1 : w2.heap.size < w3.heap.size := by omega
          have y2 : w.heap.size < w3.heap.size := by omega
          clear hb3 Xc Xd Xl Bx y3
          go_wp2_with fail
          go_light
          refine ⟨?_, ?measure⟩
          (repeat apply Exists.intro)
          refine ⟨?rel, rfl⟩
          case rel =>
            refine ⟨i + 1, q', by omega, by go_num, g1, by omega, .inr g3, ?_, ?_, ?_, ?_, ?_⟩
            · go_grown
              all_goals omega
            · simp; omega
            · simp [go_sem, E0, y2]
            · simp [go_sem, E1, y1]
            · simp [go_sem, E2, y0]
          case measure => simp [intOf]; omega
        · have e8 : i = 128 := by omega
          subst e8
          obtain rfl : q = 0 := by omega
          go_wp2_with fail
          refine (alive_any _).mono ?_
          rintro e w3 ⟨rfl, hb3⟩
          have E0 := below_at4 hb3 (b := w.heap.size) (by omega)
          have E1 := below_at4 hb3 (b := w2.heap.size) (by omega)
          have E2 := below_at4 hb3 (b := wo.heap.size) (by omega)
          simp only [Xc, Xd, Xl] at E0 E1 E2
          have B3 : Below w.heap.size w w3 := Bx.trans (hb3.mono (by omega))
          clear hb3 Xc Xd Xl Bx hq
          go_wp2_with fail
          go_ret
          exact ⟨rfl, B3⟩

theorem turns_off (t r : Int) (h1 : 0 ≤ t) (h2 : 255 < t + 8) (h5 : t ≤ 255) (h3 : 0 ≤ r) (h4 : r ≤ 255) (w : World) :
    Calls Try.prog 3 #[.agg #[.int .i64 t, .int .i64 r, .bool false, .int .i64 0]] w fun e w' => e = .returned (.bool true) ∧ Below w.heap.size w w' := by
  have HR : Hid (rightB t r false 0 = true) := by simp [Hid, rightB]; omega
  go_enter Try.func3, Try.ntmps3
  go_wp2_with fail
  refine (refRight_any _ _ _ _ _).mono ?_
  rintro e w1 ⟨rfl, hb1⟩
  rw [HR.out]
  have C0 := below_at4 hb1 (b := w.heap.size) (by simp)
  simp [go_sem] at C0
  have B1 : Below w.heap.size w w1 := (by go_grown : Below w.heap.size w _).trans (hb1.mono (by simp))
  have z1 := hb1.size
  simp at z1
  clear hb1
  go_wp2_with fail
  refine (step3_off _ _ h1 h5 h3 h4 h2 _).mono ?_
  rintro e w2 ⟨rfl, hb2⟩
  have C1 := below_at4 hb2 (b := w.heap.size) (by omega)
  simp only [C0] at C1
  have B2 : Below w.heap.size w w2 := B1.trans (hb2.mono (by omega))
  have z2 := hb2.size
  have z3 : w.heap.size < w2.heap.size := by omega
  clear hb2 C0 B1 z1 z2
  go_wp2_with fail
  refine (alive_any _).mono ?_
  rintro e w3 ⟨rfl, hb3⟩
  have E1 := below_at4 hb3 (b := w2.heap.size) (by simp)
  simp [go_sem] at E1
  have B3 : Below w.heap.size w w3 := (B2.alloc (by omega) _).trans (hb3.mono (by simp; omega))
  clear hb3
  go_wp2_with fail
  go_ret
  exact ⟨rfl, B3⟩

theorem turns_alive (t r s : Int) (off : Bool) (h : (!rightB t r off s || off) = true) (w : World) :
    Calls Try.prog 3 #[.agg #[.int .i64 t, .int .i64 r, .bool off, .int .i64 s]] w fun e w' => e = .returned (.bool true) ∧ Below w.heap.size w w' := by
  go_enter Try.func3, Try.ntmps3
  go_wp2_with fail
  refine (refRight_any _ _ _ _ _).mono ?_
  rintro e w1 ⟨rfl, hb1⟩
  have C0 := below_at4 hb1 (b := w.heap.size) (by simp)
  simp [go_sem] at C0
  have B1 : Below w.heap.size w w1 := (by go_grown : Below w.heap.size w _).trans (hb1.mono (by simp))
  have z1 := hb1.size
  simp at z1
  clear hb1
  cases hr : rightB t r off s
  · go_wp2_with fail
    refine (alive_any _).mono ?_
    rintro e w3 ⟨rfl, hb3⟩
    go_wp2_with fail
    go_ret
    exact ⟨rfl, B1.trans (hb3.mono (by omega))⟩
  · rw [hr] at h
    obtain rfl : off = true := by simpa using h
    clear h hr
    go_wp2_with fail
    refine (alive_any _).mono ?_
    rintro e w3 ⟨rfl, hb3⟩
    go_wp2_with fail
    go_ret
    exact ⟨rfl, B1.trans (hb3.mono (by omega))⟩

theorem turns_any (t r s : Int) (off : Bool) (w : World) :
    Calls Try.prog 3 #[.agg #[.int .i64 t, .int .i64 r, .bool off, .int .i64 s]] w fun e w' => e = .returned (.bool true) ∧ Below w.heap.size w w' := by
  by_cases h : (!rightB t r off s || off) = true
  · exact turns_alive t r s off h w
  · cases off
    · have h' : rightB t r false s = true := by simpa using h
      simp [rightB] at h'
      obtain ⟨a, b, c, d, rfl⟩ := h'
      by_cases g : t + 8 ≤ 255
      · exact turns_main t r a g c d w
      · exact turns_off t r a (by omega) b c d w
    · simp at h

theorem own : ownKnob Try.prog.godebug = none := by kernel_rfl
theorem laid : laidOutB Try.prog = true := by kernel_rfl
theorem cells23 : Try.prog.cellsOf 23 = 4 := by kernel_rfl

set_option maxRecDepth 100000 in
theorem turns_lifted (os : Os) (started : os.Started) (H : Type) (enc : TypeId × Value → H) :
    ReturnsInHanded {} Try.checked os 3 .any (Rows.countTurnsSpec.pre6 enc Try.prog Try.f3 Rows.countTurnsRow.domain false) (Rows.countTurnsSpec.post enc Try.prog Try.f3 false true false false) := by
  refine returnsInHanded_of_change (C := Try.checked) own started (by kernel_rfl) Try.func3
    (ChangeSpec.witness6 (enc := enc) (C := Try.checked) false ⟨#[], #[.agg #[.int .i64 0, .int .i64 0, .bool false, .int .i64 0]], []⟩ 8 (by kernel_rfl) (by kernel_rfl) (by kernel_rfl) (by kernel_rfl)) ?_
  intro W base args ds gs before hval0 hW _ _
  have hval : ∀ (j : Nat) t v, Try.f3.params[j]? = some t → args[j]? = some v → Value.okWide Try.prog W .any base t v := hval0
  have hW' : DataW.Whole enc Try.prog Try.f3.params.toList Rows.countTurnsSpec.vars false W args.toList ds gs before := hW
  obtain ⟨p, q, hA0, _⟩ := hW
  have hA : DataW.TrodAll enc Try.prog W 0 (fun _ => true) true Try.f3.params.toList args.toList ds p := hA0
  rw [Try.params3] at hA hval
  obtain ⟨v0, d0, rfl, hd, h0⟩ := trodAll_one hA
  obtain ⟨c0, c1, c2, c3, y0, y1, y2, y3, m, rfl, _, _, hy0, hy1, hy2, hy3⟩ := open_agg4 Try.underlying23 (by kernel_rfl) cells23 (hval 0 23 v0 rfl rfl) h0
  obtain ⟨a, e0, _, _⟩ := DataW.trod_int Try.underlying3 hy0
  obtain ⟨b, e1, _, _⟩ := DataW.trod_int Try.underlying3 hy1
  obtain ⟨o, e2, _⟩ := DataW.trod_bool Try.underlying4 hy2
  obtain ⟨s, e3, _, _⟩ := DataW.trod_int Try.underlying3 hy3
  simp at e0 e1 e2 e3
  subst e0 e1 e2 e3
  refine (turns_any a b s o W).mono fun e W' ⟨he, hb⟩ => ⟨_, he, ?_⟩
  exact law_post laid rfl (by kernel_rfl) Try.underlying4 (by kernel_rfl) hW' (by rw [hd]; rfl) hb

theorem turns_proved : Rows.CountTurnsSaid :=
  OpenClaim.holds_of_wide 3 Try.f3 rfl rfl rfl rfl rfl rfl rfl ⟨rfl, rfl, rfl, rfl, rfl⟩ rfl rfl rfl rfl rfl (by kernel_rfl) Try.func3 (by kernel_rfl)
    (of_decide_eq_true (by kernel_rfl)) (by unfold Func.isWrapper; first | (rw [if_pos (by decide +kernel)]; kernel_rfl) | (rw [if_neg (by decide +kernel)]; exact ⟨rfl, rfl⟩))
    (fun os started H enc _ => turns_lifted os started H enc)
#print axioms turns_proved
end Go.Proofs.Ytdiomgocdkjcoaa
