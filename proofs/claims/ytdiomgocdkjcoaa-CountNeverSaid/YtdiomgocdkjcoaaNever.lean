/-
  LAW CountNever OF LAYER 6 (count), PROVED FOR EVERY ROW OF ARGUMENTS, WITHOUT CONDITIONS: it returns true, and its arguments read as before.
-/
import Derived.Test.YtdiomgocdkjcoaaMore
import Derived.Test.YtdiomgocdkjcoaaArgs
import Derived.Test.YtdiomgocdkjcoaaLaw
import Derived.Deep.DeepCutAuto
import Derived.Deep.RegionHeld3
namespace Go.Proofs.Ytdiomgocdkjcoaa
open Go.RowKit Go.Camp Go.ChangeShapes Go.WideShapes Go.ChangeAt Go.Joins

/-- Block b holds a count, and may be written. -/
def C4 (w : World) (b : Nat) (t r : Int) (o : Bool) (s : Int) : Prop :=
  w.cell? ⟨b, 0, none⟩ = some (.int .i64 t) ∧ w.cell? ⟨b, 1, none⟩ = some (.int .i64 r) ∧ w.cell? ⟨b, 2, none⟩ = some (.bool o) ∧ w.cell? ⟨b, 3, none⟩ = some (.int .i64 s) ∧
  w.frozen? ⟨b, 0, none⟩ = false ∧ w.frozen? ⟨b, 1, none⟩ = false ∧ w.frozen? ⟨b, 2, none⟩ = false ∧ w.frozen? ⟨b, 3, none⟩ = false

theorem C4.below {w w' : World} {B b : Nat} {t r s : Int} {o : Bool} (h : C4 w b t r o s) (hb : Below B w w') (hB : b < B) : C4 w' b t r o s := by
  have := below_at4 hb hB
  simp only [C4] at h ⊢
  simp only [h] at this
  exact this

theorem C4.alloc {w : World} {b : Nat} {t r s : Int} {o : Bool} (h : C4 w b t r o s) (hb : b < w.heap.size) (x : Obj) : C4 (w.alloc x) b t r o s := by
  simp only [C4] at h ⊢
  simp [go_sem, h, hb]
theorem C4.put_other {w : World} {b c : Nat} {t r s : Int} {o : Bool} (h : C4 w b t r o s) (hb : b ≠ c) (i : Nat) (v : Value) : C4 (w.setCell ⟨c, i, none⟩ v) b t r o s := by
  have hc : c ≠ b := fun e => hb e.symm
  simp only [C4] at h ⊢
  simp [go_sem, h]
theorem C4.put {w : World} {b : Nat} {t r s t' r' s' : Int} {o o' : Bool} (h : C4 w b t r o s) :
    C4 ((((w.setCell ⟨b, 0, none⟩ (.int .i64 t')).setCell ⟨b, 1, none⟩ (.int .i64 r')).setCell ⟨b, 2, none⟩ (.bool o')).setCell ⟨b, 3, none⟩ (.int .i64 s')) b t' r' o' s' := by
  simp only [C4] at h ⊢
  simp [go_sem, h]
theorem C4.drew {w : World} {b : Nat} {t r s : Int} {o : Bool} (h : C4 w b t r o s) : C4 w.drew b t r o s := h
theorem C4.new (w : World) (t r s : Int) (o : Bool) : C4 (w.alloc (.cells #[.int .i64 t, .int .i64 r, .bool o, .int .i64 s] 23)) w.heap.size t r o s := by
  simp [C4, go_sem]

/-- An error in receiving, heavy or not: the count is no less. -/
theorem step_err (k r : Int) (hk : k = 4 ∨ k = 6) (h3 : 0 ≤ r) (h4 : r ≤ 255) (w : World) :
    Calls Try.prog 8 #[.agg #[.int .i64 0, .int .i64 r, .bool false, .int .i64 0], .int .i64 k] w fun e w' => ∃ q : Int, r ≤ q ∧ q ≤ 255 ∧ e = .returned (.tuple #[.agg #[.int .i64 0, .int .i64 q, .bool false, .int .i64 0], .int .i64 0]) ∧ Below w.heap.size w w' := by
  rcases hk with rfl | rfl
  · exact (step4 0 r (by omega) (by omega) h3 h4 w).mono fun e w' ⟨he, hb⟩ => ⟨recF 4 r, by unfold recF; simp; split <;> omega, (recF_in _ _ h3 h4).2, he, hb⟩
  · exact (step6 0 r (by omega) (by omega) h3 h4 w).mono fun e w' ⟨he, hb⟩ => ⟨recF 6 r, by unfold recF; simp; split <;> omega, (recF_in _ _ h3 h4).2, he, hb⟩

set_option maxRecDepth 100000 in
set_option maxHeartbeats 4000000 in
theorem never_any (many : Int) (bo : Option Addr) (m mcap : Nat) (g : Nat → Bool) (bd : Nat → Addr) (w : World)
    (hj : ∀ i, i < m → ∀ w, (Instr.indexAt 30 (.slice bo m mcap) (.int .i64 (i : Int))).run Try.prog w = .ok (.pointer (some (bd i))) w)
    (hd : ∀ i, i < m → w.cell? (bd i) = some (.bool (g i)) ∧ (bd i).block < w.heap.size) :
    Calls Try.prog 5 #[.int .i64 many, .slice bo m mcap] w fun e w' => e = .returned (.bool true) ∧ Below w.heap.size w w' := by
  have HJ := Lib.hid hj
  have HD := Lib.hid hd
  clear hj hd
  obtain ⟨p, hp, hp0⟩ : ∃ p : Int, (if many < 0 then (0 : Int) else many) = p ∧ 0 ≤ p := ⟨_, rfl, by split <;> omega⟩
  obtain ⟨q, hq, hq0⟩ : ∃ q : Int, (if 300 < p then (300 : Int) else p) = q ∧ (0 ≤ q ∧ q ≤ 300) := ⟨_, rfl, by split <;> omega⟩
  obtain ⟨N, rfl⟩ := Int.eq_ofNat_of_zero_le hq0.1
  have hN : N ≤ 300 := by omega
  clear hq0 hp0
  go_enter Try.func5, Try.ntmps5
  go_wp2_with fail
  clear hp hq
  go_loopw [23] (fun v wr => ∃ (i : Nat) (r : Int), i ≤ N ∧ v = .int .i64 i ∧ 0 ≤ r ∧ r ≤ 255 ∧ Below w.heap.size w wr ∧ w.heap.size + 1 < wr.heap.size ∧ C4 wr w.heap.size 0 r false 0 ∧ C4 wr (w.heap.size + 1) 0 0 false 0)
    (fun v _ => N - (intOf v).toNat)
  case atStart =>
    refine ⟨0, 0, by omega, rfl, by omega, by omega, ?_, by simp, ?_, ?_⟩
    · go_grown
    · simp [C4, go_sem]
    · simp [C4, go_sem]
  case round =>
    obtain ⟨i, r, hi, rfl, hr0, hr1, Br, zr, Da, Db⟩ := hrel
    by_cases hlt : i < N
    · go_upto_region 7 with (fail)
      go_cut [35] (fun s wx => (∃ b : Bool, s = .bool b) ∧ wx = wr)
      case first =>
        by_cases hin : i < m
        · have hI := HJ.out i hin
          have hC := HD.out i hin
          have hC1 : wr.cell? (bd i) = some (.bool (g i)) := (Br.cell hC.2).trans hC.1
          clear hC
          go_wp2_with fail
          go_light
          go_meet
          exact ⟨⟨_, rfl⟩, rfl⟩
        · go_wp2_with fail
          go_light
          go_meet
          exact ⟨⟨_, rfl⟩, rfl⟩
      case rest =>
        obtain ⟨⟨b, rfl⟩, rfl⟩ := hcut
        go_upto_if 35 with (fail)
        go_cut [8] (fun s wx => (∃ k : Int, s = .int .i64 k ∧ (k = 4 ∨ k = 6)) ∧ wx = wc)
        case first =>
          cases b
          · go_wp2_with fail
            go_light
            go_meet
            exact ⟨⟨4, rfl, .inl rfl⟩, rfl⟩
          · go_wp2_with fail
            go_light
            go_meet
            exact ⟨⟨6, rfl, .inr rfl⟩, rfl⟩
        case rest =>
          obtain ⟨⟨k, rfl, hk⟩, rfl⟩ := hcut
          have Ua := Da
          have Ub := Db
          simp only [C4] at Ua Ub
          go_wp2_with fail
          refine (step_err _ _ hk hr0 hr1 _).mono ?_
          rintro e w1 ⟨q, hq0, hq1, rfl, hb1⟩
          have Da1 := Da.below hb1 (by omega)
          have Db1 := Db.below hb1 (by omega)
          have B1 : Below w.heap.size w w1 := Br.trans (hb1.mono (by omega))
          have y1 : w.heap.size + 1 < w1.heap.size := by have := hb1.size; omega
          have y1' : w.heap.size < w1.heap.size := by omega
          clear hb1 Ua Ub Da Db Br zr hk
          have Ua := Da1
          have Ub := Db1
          simp only [C4] at Ua Ub
          go_wp2_with fail
          refine (step3 _ _ (by omega) (by omega) (by omega) (by omega) (by omega) _).mono ?_
          rintro e w2 ⟨rfl, hb2⟩
          have Da2 : C4 w2 w.heap.size 0 r false 0 := (Da1.alloc (by omega) _).below hb2 (by simp; omega)
          have Db2 : C4 w2 (w.heap.size + 1) 0 0 false 0 := (Db1.alloc (by omega) _).below hb2 (by simp; omega)
          have Dx2 : C4 w2 w1.heap.size 0 q false 0 := (C4.new w1 _ _ _ _).below hb2 (by simp)
          have B2 : Below w.heap.size w w2 := (B1.alloc (by omega) _).trans (hb2.mono (by simp; omega))
          have y2 : w1.heap.size < w2.heap.size := by have := hb2.size; simp at this; omega
          have z2 : w.heap.size + 1 < w2.heap.size := by omega
          have z2' : w.heap.size < w2.heap.size := by omega
          have hqr : ¬ q < r := by omega
          clear hb2 Ua Ub Da1 Db1 B1
          have Ua := Da2
          have Ub := Db2
          have Ux := Dx2
          simp only [C4] at Ua Ub Ux
          go_wp2_with fail
          obtain ⟨wo, rfl⟩ : ∃ wo : World, wo = wc := ⟨_, rfl⟩
          go_loopw [73] (fun v wr => ∃ j : Nat, j ≤ 8 ∧ v = .int .i64 j ∧ Below w.heap.size w wr ∧ w2.heap.size < wr.heap.size ∧
              C4 wr w.heap.size 0 r false 0 ∧ C4 wr (w.heap.size + 1) 0 0 false 0 ∧ C4 wr w1.heap.size 0 q false 0 ∧ C4 wr w2.heap.size (8 - j) 0 false 0)
            (fun v _ => 8 - (intOf v).toNat)
          case atStart =>
            exact ⟨0, by omega, rfl, B2.alloc (by omega) _, by simp, Da2.alloc z2' _, Db2.alloc z2 _, Dx2.alloc y2 _, C4.new w2 _ _ _ _⟩
          case round =>
            clear Ua Ub Ux Da2 Db2 Dx2 B2
            obtain ⟨j, hj, rfl, B2, y3, Da2, Db2, Dx2, Dy2⟩ := hrel
            have Ua := Da2
            have Ub := Db2
            have Ux := Dx2
            have Uy := Dy2
            simp only [C4] at Ua Ub Ux Uy
            by_cases hj8 : j < 8
            · go_wp2_with fail
              refine (step1 _ _ (by omega) (by omega) (by omega) (by omega) _).mono ?_
              rintro e w3 ⟨rfl, hb3⟩
              have e1 : tecF 1 (8 - j) = 8 - (j + 1 : Nat) := by simp [tecF]; split <;> omega
              rw [e1]
              clear e1
              have Da3 := Da2.below hb3 (by omega)
              have Db3 := Db2.below hb3 (by omega)
              have Dx3 := Dx2.below hb3 (by omega)
              have Dy3 := Dy2.below hb3 (by omega)
              have B3 : Below w.heap.size w w3 := B2.trans (hb3.mono (by omega))
              have y4 : w2.heap.size < w3.heap.size := by have := hb3.size; omega
              clear hb3 Ua Ub Ux Uy Da2 Db2 Dx2 Dy2 B2
              have Uy := Dy3
              simp only [C4] at Uy
              go_wp2_with fail
              go_light
              go_roundw
              case rel =>
                refine ⟨j + 1, by omega, by go_num, ?_, by simp; omega, ?_, ?_, ?_, ?_⟩
                · go_grown
                  all_goals omega
                · exact C4.alloc ((((Da3.put_other (by omega) _ _).put_other (by omega) _ _).put_other (by omega) _ _).put_other (by omega) _ _) (by simp; omega) _
                · exact C4.alloc ((((Db3.put_other (by omega) _ _).put_other (by omega) _ _).put_other (by omega) _ _).put_other (by omega) _ _) (by simp; omega) _
                · exact C4.alloc ((((Dx3.put_other (by omega) _ _).put_other (by omega) _ _).put_other (by omega) _ _).put_other (by omega) _ _) (by simp; omega) _
                · exact C4.alloc Dy3.put (by simp; omega) _
              case measure => simp [intOf]; omega
            · have e8 : j = 8 := by omega
              subst e8
              simp only [show (8 : Int) - ((8 : Nat) : Int) = 0 from rfl] at Uy
              have y5 : w.heap.size < wr.heap.size := by omega
              go_upto_region 20 with (fail)
              go_region
              go_wp2_with fail
              go_light
              go_roundw
              case rel =>
                refine ⟨i + 1, q, by omega, by go_num, by omega, by omega, ?_, by simp; omega, ?_, ?_⟩
                · go_grown
                  all_goals omega
                · exact C4.drew ((((Da2.put.put_other (by omega) _ _).put_other (by omega) _ _).put_other (by omega) _ _).put_other (by omega) _ _)
                · exact C4.drew (C4.put ((((Db2.put_other (by omega) _ _).put_other (by omega) _ _).put_other (by omega) _ _).put_other (by omega) _ _))
              case measure => simp [intOf]; omega
    · have eN : i = N := by omega
      subst eN
      have Ua := Da
      have Ub := Db
      simp only [C4] at Ua Ub
      go_wp2_with fail
      refine (state_any _ _ _ _ (by simp [rightB]; omega) _).mono ?_
      rintro e w1 ⟨rfl, hb1⟩
      have Da1 := Da.below hb1 (by omega)
      have Db1 := Db.below hb1 (by omega)
      have B1 : Below w.heap.size w w1 := Br.trans (hb1.mono (by omega))
      have y1 : w.heap.size + 1 < w1.heap.size := by have := hb1.size; omega
      clear hb1 Ua Ub Da Db Br zr
      go_wp2_with fail
      refine (alive_any _).mono ?_
      rintro e w2 ⟨rfl, hb2⟩
      have Da2 := Da1.below hb2 (by omega)
      have Db2 := Db1.below hb2 (by omega)
      have B2 : Below w.heap.size w w2 := B1.trans (hb2.mono (by omega))
      clear hb2 Da1 Db1 B1
      simp only [C4] at Da2 Db2
      by_cases h127 : 127 < r
      · have es : stateF 0 r false = 2 := by simp [stateF, h127]
        rw [es]
        go_wp2_with fail
        go_ret
        go_light
        exact ⟨rfl, B2⟩
      · have es : stateF 0 r false = 1 := by simp [stateF, h127]
        rw [es]
        go_wp2_with fail
        go_ret
        go_light
        exact ⟨ret_bool (by simp; omega), B2⟩

theorem never_own : ownKnob Try.prog.godebug = none := by kernel_rfl
theorem never_laid : laidOutB Try.prog = true := by kernel_rfl
theorem never_cells4 : Try.prog.cellsOf 4 = 1 := by kernel_rfl

set_option maxRecDepth 100000 in
theorem never_lifted (os : Os) (started : os.Started) (H : Type) (enc : TypeId × Value → H) :
    ReturnsInHanded {} Try.checked os 5 .any (Rows.countNeverSpec.pre6 enc Try.prog Try.f5 Rows.countNeverRow.domain false) (Rows.countNeverSpec.post enc Try.prog Try.f5 false true false false) := by
  refine returnsInHanded_of_change (C := Try.checked) never_own started (by kernel_rfl) Try.func5
    (ChangeSpec.witness6 (enc := enc) (C := Try.checked) false ⟨#[], #[.int .i64 0, .slice none 0 0], []⟩ 8 (by kernel_rfl) (by kernel_rfl) (by kernel_rfl) (by kernel_rfl)) ?_
  intro W base args ds gs before hval0 hW _ _
  have hval : ∀ (j : Nat) t v, Try.f5.params[j]? = some t → args[j]? = some v → Value.okWide Try.prog W .any base t v := hval0
  have hW' : DataW.Whole enc Try.prog Try.f5.params.toList Rows.countNeverSpec.vars false W args.toList ds gs before := hW
  obtain ⟨p, q, hA0, _⟩ := hW
  have hA : DataW.TrodAll enc Try.prog W 0 (fun _ => true) true Try.f5.params.toList args.toList ds p := hA0
  rw [Try.params5] at hA hval
  obtain ⟨v0, v1, d0, d1, p0, p1, rfl, hd, _, h0, h1⟩ := trodAll_two hA
  obtain ⟨many, rfl, _, _, _⟩ := open_int Try.underlying3 (hval 0 3 v0 rfl rfl) h0
  obtain ⟨bo, m, mcap, g, bd, rfl, _, _, b3, b4⟩ := open_bools1 Try.underlying30 Try.underlying4 never_cells4 (fun w => by kernel_rfl) (hval 1 30 v1 rfl rfl) h1
  refine (never_any many bo m mcap g bd W b3 b4).mono fun e W' ⟨he, hb⟩ => ⟨_, he, ?_⟩
  exact law_post never_laid rfl (by kernel_rfl) Try.underlying4 (by kernel_rfl) hW' (by rw [hd]; rfl) hb

theorem never_proved : Rows.CountNeverSaid :=
  OpenClaim.holds_of_wide 5 Try.f5 rfl rfl rfl rfl rfl rfl rfl ⟨rfl, rfl, rfl, rfl, rfl⟩ rfl rfl rfl rfl rfl (by kernel_rfl) Try.func5 (by kernel_rfl)
    (of_decide_eq_true (by kernel_rfl)) (by unfold Func.isWrapper; first | (rw [if_pos (by decide +kernel)]; kernel_rfl) | (rw [if_neg (by decide +kernel)]; exact ⟨rfl, rfl⟩))
    (fun os started H enc _ => never_lifted os started H enc)
#print axioms never_proved
end Go.Proofs.Ytdiomgocdkjcoaa
