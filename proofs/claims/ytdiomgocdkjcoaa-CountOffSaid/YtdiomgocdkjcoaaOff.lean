/-
  LAW CountOff OF LAYER 6 (count), PROVED FOR EVERY ROW OF ARGUMENTS, WITHOUT CONDITIONS: it returns true, and its arguments read as before.
-/
import Derived.Test.YtdiomgocdkjcoaaMore
import Derived.Test.YtdiomgocdkjcoaaArgs
import Derived.Test.YtdiomgocdkjcoaaLaw
import Derived.Deep.DeepCutAuto
import Derived.Deep.RegionHeld3
namespace Go.Proofs.Ytdiomgocdkjcoaa
open Go.RowKit Go.Camp

theorem sent_rel (t r : Int) (i : Nat) (hi : i < 32) (et : t = 8 * i) (h1 : 0 ≤ r) (h2 : r ≤ 255) :
    (i + 1 < 32 ∧ sentT t = 8 * ((i + 1 : Nat) : Int) ∧ 0 ≤ sentR t r ∧ sentR t r ≤ 255 ∧ sentO t = false ∧ sentS t = 0) ∨ (i + 1 = 32 ∧ sentT t = 0 ∧ sentR t r = 0 ∧ sentO t = true ∧ sentS t = 128) := by
  unfold sentT sentR sentS sentO
  by_cases h : 255 < t + 8
  · simp [h]; omega
  · simp [h]; omega

theorem lt_alloc' (w : World) (o : Obj) : w.heap.size < (w.alloc o).heap.size := by simp

theorem six_turns (z : Int) : ∃ p q k : Int, z.tmod 6 = p ∧ IntKind.i64.wrap (p + 6) = p + 6 ∧ (p + 6).tmod 6 = q ∧ IntKind.i64.wrap (q + 1) = k ∧ 1 ≤ k ∧ k ≤ 6 := by
  have h1 := Int.lt_tmod_of_pos z (b := 6) (by omega)
  have h2 := Int.tmod_lt_of_pos z (b := 6) (by omega)
  have h3 : (z.tmod 6 + 6).tmod 6 = (z.tmod 6 + 6) % 6 := Int.tmod_eq_emod_of_nonneg (by omega)
  refine ⟨_, _, (z.tmod 6 + 6) % 6 + 1, rfl, IntWalk.i64_in _ (by omega), h3, IntWalk.i64_in _ (by omega), by omega, by omega⟩

set_option maxRecDepth 100000 in
set_option maxHeartbeats 4000000 in
theorem off_any (ao bo : Option Addr) (n cap m mcap : Nat) (f : Nat → Int) (g : Nat → Bool) (ad bd : Nat → Addr) (w : World)

    (hi : ∀ i, i < n → ∀ w, (Instr.indexAt 29 (.slice ao n cap) (.int .i64 (i : Int))).run Try.prog w = .ok (.pointer (some (ad i))) w)
    (hc : ∀ i, i < n → w.cell? (ad i) = some (.int .i64 (f i)) ∧ (ad i).block < w.heap.size)
    (hj : ∀ i, i < m → ∀ w, (Instr.indexAt 30 (.slice bo m mcap) (.int .i64 (i : Int))).run Try.prog w = .ok (.pointer (some (bd i))) w)
    (hd : ∀ i, i < m → w.cell? (bd i) = some (.bool (g i)) ∧ (bd i).block < w.heap.size) :
    Calls Try.prog 4 #[.slice ao n cap, .slice bo m mcap] w fun e w' => e = .returned (.bool true) ∧ Below w.heap.size w w' := by
  have HI := Lib.hid hi
  have HC := Lib.hid hc
  have HJ := Lib.hid hj
  have HD := Lib.hid hd
  clear hi hc hj hd
  go_enter Try.func4, Try.ntmps4
  go_wp2_with fail
  go_loopw [23] (fun v wr => ∃ (i : Nat) (t r s : Int) (off : Bool), i ≤ 32 ∧ v = .int .i64 i ∧ ((i < 32 ∧ t = 8 * i ∧ 0 ≤ r ∧ r ≤ 255 ∧ off = false ∧ s = 0) ∨ (i = 32 ∧ t = 0 ∧ r = 0 ∧ off = true ∧ s = 128)) ∧ Below w.heap.size w wr ∧ w.heap.size < wr.heap.size ∧
      (wr.cell? ⟨w.heap.size, 0, none⟩ = some (.int .i64 t) ∧ wr.cell? ⟨w.heap.size, 1, none⟩ = some (.int .i64 r) ∧ wr.cell? ⟨w.heap.size, 2, none⟩ = some (.bool off) ∧ wr.cell? ⟨w.heap.size, 3, none⟩ = some (.int .i64 s) ∧
        wr.frozen? ⟨w.heap.size, 0, none⟩ = false ∧ wr.frozen? ⟨w.heap.size, 1, none⟩ = false ∧ wr.frozen? ⟨w.heap.size, 2, none⟩ = false ∧ wr.frozen? ⟨w.heap.size, 3, none⟩ = false))
    (fun v _ => 32 - (intOf v).toNat)
  case atStart =>
    refine ⟨0, 0, 0, 0, false, by omega, rfl, .inl ⟨by omega, rfl, by omega, by omega, rfl, rfl⟩, ?_, by simp, ?_⟩
    · go_grown
    · simp [go_sem]
  case round =>
    obtain ⟨i, t, r, s, off, hi, rfl, hrel, Br, zr, Dc⟩ := hrel
    by_cases hlt : i < 32
    · obtain ⟨_, et, hr0, hr1, rfl, rfl⟩ : i < 32 ∧ t = 8 * i ∧ 0 ≤ r ∧ r ≤ 255 ∧ off = false ∧ s = 0 := by
        rcases hrel with h | h
        · exact h
        · omega
      clear hrel
      have ht0 : 0 ≤ t := by omega
      have ht1 : t ≤ 248 := by omega
      have Et := Lib.hid et
      clear et
      have HR : rightB t r false 0 = true := by simp [rightB]; omega
      go_wp2_with fail
      refine (state_any _ _ _ _ HR _).mono ?_
      rintro e w1 ⟨rfl, hb1⟩
      clear HR
      obtain ⟨k, ek, hk⟩ : ∃ k, stateF t r false = k ∧ (k == 3) = false := ⟨_, rfl, by simp [stateF]; split <;> simp⟩
      rw [ek]
      clear ek
      have E0 := below_at4 hb1 (b := w.heap.size) (by omega)
      simp only [Dc] at E0
      have B1 : Below w.heap.size w w1 := Br.trans (hb1.mono (by omega))
      have y1 : w.heap.size < w1.heap.size := by have := hb1.size; omega
      clear hb1 Dc Br
      go_upto_if 40 with (fail)
      go_cut [] (fun wx => ∃ r' : Int, 0 ≤ r' ∧ r' ≤ 255 ∧ Below w.heap.size w wx ∧ w.heap.size < wx.heap.size ∧
        (wx.cell? ⟨w.heap.size, 0, none⟩ = some (.int .i64 t) ∧ wx.cell? ⟨w.heap.size, 1, none⟩ = some (.int .i64 r') ∧ wx.cell? ⟨w.heap.size, 2, none⟩ = some (.bool false) ∧ wx.cell? ⟨w.heap.size, 3, none⟩ = some (.int .i64 0) ∧
          wx.frozen? ⟨w.heap.size, 0, none⟩ = false ∧ wx.frozen? ⟨w.heap.size, 1, none⟩ = false ∧ wx.frozen? ⟨w.heap.size, 2, none⟩ = false ∧ wx.frozen? ⟨w.heap.size, 3, none⟩ = false))
      case first =>
        by_cases hin : i < n
        · have hI := HI.out i hin
          have hC := HC.out i hin
          have hCb := hC.2
          have hC1 : w1.cell? (ad i) = some (.int .i64 (f i)) := (B1.cell hC.2).trans hC.1
          have hCw : (ad i).block < w1.heap.size := by omega
          clear hC
          generalize f i = z at *
          obtain ⟨q, hq, hq1, hq2⟩ : ∃ q, z.tmod 4 = q ∧ -3 ≤ q ∧ q ≤ 3 := ⟨_, rfl, by have := Int.tmod_lt_of_pos z (b := 4) (by omega); have := Int.lt_tmod_of_pos z (b := 4) (by omega); omega, by have := Int.tmod_lt_of_pos z (b := 4) (by omega); omega⟩
          have hj : (q + 4) % 4 = 0 ∨ (q + 4) % 4 = 1 ∨ (q + 4) % 4 = 2 ∨ (q + 4) % 4 = 3 := by omega
          have Q1 := Lib.hid hq1
          rcases hj with hj | hj | hj | hj
          all_goals
            go_wp2_with fail
            refine (step_rec _ _ _ (by omega) ht0 (by omega) hr0 hr1 _).mono ?_
            rintro e w2 ⟨r', hr0', hr1', rfl, hb2⟩
            have E1 := below_at4 hb2 (b := w.heap.size) (by simp; omega)
            simp [go_sem, E0, y1] at E1
            have B2 : Below w.heap.size w w2 := (B1.alloc (by omega) _).trans (hb2.mono (by simp; omega))
            have y2 : w.heap.size < w2.heap.size := by have := hb2.size; simp at this; omega
            clear hb2 E0 B1
            go_wp2_with fail
            go_light
            go_meet
            refine ⟨r', hr0', hr1', ?_, by simp; omega, ?_⟩
            · go_grown
              all_goals omega
            · simp [go_sem, E1, y2]
        · go_wp2_with fail
          go_meet
          exact ⟨r, hr0, hr1, B1, y1, E0⟩
      case rest =>
        clear E0 B1 y1 hr0 hr1
        obtain ⟨r', hr0, hr1, B1, y1, E0⟩ := hcut
        by_cases hin : i < m
        · have hI := HJ.out i hin
          have hC := HD.out i hin
          have hCb := hC.2
          have hC1 : wc.cell? (bd i) = some (.bool (g i)) := (B1.cell hC.2).trans hC.1
          clear hC
          cases hg : g i
          all_goals rw [hg] at hC1
          all_goals clear hg
          all_goals go_wp2_with fail
          all_goals clear hI hC1 hCb
          all_goals
            refine (step_send _ _ _ (by omega) ht0 (by omega) hr0 hr1 _).mono ?_
            rintro e w2 ⟨rfl, hb2⟩
            have E1 := below_at4 hb2 (b := w.heap.size) (by omega)
            simp only [E0] at E1
            have B2 : Below w.heap.size w w2 := B1.trans (hb2.mono (by omega))
            have y2 : w.heap.size < w2.heap.size := by have := hb2.size; omega
            clear hb2 E0 B1
            go_wp2_with fail
            go_light
            go_roundw
            case rel =>
              refine ⟨i + 1, sentT t, sentR t r', sentS t, sentO t, by omega, by go_num, ?_, ?_, by simp; omega, ?_⟩
              · exact sent_rel t r' i hlt Et.out hr0 hr1
              · go_grown
                all_goals omega
              · simp [go_sem, E1, y2]
            case measure => simp [intOf]; omega
        · go_wp2_with fail
          refine (step_send _ _ _ (by omega) ht0 (by omega) hr0 hr1 _).mono ?_
          rintro e w2 ⟨rfl, hb2⟩
          have E1 := below_at4 hb2 (b := w.heap.size) (by omega)
          simp only [E0] at E1
          have B2 : Below w.heap.size w w2 := B1.trans (hb2.mono (by omega))
          have y2 : w.heap.size < w2.heap.size := by have := hb2.size; omega
          clear hb2 E0 B1
          go_wp2_with fail
          go_light
          go_roundw
          case rel =>
            refine ⟨i + 1, sentT t, sentR t r', sentS t, sentO t, by omega, by go_num, ?_, ?_, by simp; omega, ?_⟩
            · exact sent_rel t r' i hlt Et.out hr0 hr1
            · go_grown
              all_goals omega
            · simp [go_sem, E1, y2]
          case measure => simp [intOf]; omega
    · obtain ⟨rfl, rfl, rfl, rfl, rfl⟩ : i = 32 ∧ t = 0 ∧ r = 0 ∧ off = true ∧ s = 128 := by
        rcases hrel with h | h
        · omega
        · exact h
      clear hrel hi hlt
      go_wp2_with fail
      obtain ⟨wo, rfl⟩ : ∃ wo : World, wo = wr := ⟨_, rfl⟩
      go_loopw [87] (fun v wr => ∃ (j : Nat) (s : Int) (off : Bool), j ≤ 128 ∧ v = .int .i64 j ∧ ((j < 128 ∧ off = true ∧ s = 128 - j) ∨ (j = 128 ∧ off = false ∧ s = 0)) ∧ Below w.heap.size w wr ∧ w.heap.size < wr.heap.size ∧
          (wr.cell? ⟨w.heap.size, 0, none⟩ = some (.int .i64 0) ∧ wr.cell? ⟨w.heap.size, 1, none⟩ = some (.int .i64 0) ∧ wr.cell? ⟨w.heap.size, 2, none⟩ = some (.bool off) ∧ wr.cell? ⟨w.heap.size, 3, none⟩ = some (.int .i64 s) ∧
            wr.frozen? ⟨w.heap.size, 0, none⟩ = false ∧ wr.frozen? ⟨w.heap.size, 1, none⟩ = false ∧ wr.frozen? ⟨w.heap.size, 2, none⟩ = false ∧ wr.frozen? ⟨w.heap.size, 3, none⟩ = false))
        (fun v _ => 128 - (intOf v).toNat)
      case atStart => exact ⟨0, 128, true, by omega, rfl, .inl ⟨by omega, rfl, rfl⟩, Br, zr, Dc⟩
      case round =>
        clear Dc Br zr
        obtain ⟨j, s, off, hj, rfl, hrel, Br, zr, Dc⟩ := hrel
        by_cases hlt : j < 128
        · obtain ⟨_, rfl, es⟩ : j < 128 ∧ off = true ∧ s = 128 - j := by
            rcases hrel with h | h
            · exact h
            · omega
          clear hrel
          have hs1 : 1 ≤ s := by omega
          have hs2 : s ≤ 128 := by omega
          have Es := Lib.hid es
          clear es
          have HR : rightB 0 0 true s = true := by simp [rightB]; omega
          go_wp2_with fail
          refine (state_any _ _ _ _ HR _).mono ?_
          rintro e w1 ⟨rfl, hb1⟩
          clear HR
          have ek : stateF 0 0 true = 3 := by simp [stateF]
          rw [ek]
          clear ek
          have E0 := below_at4 hb1 (b := w.heap.size) (by omega)
          simp only [Dc] at E0
          have B1 : Below w.heap.size w w1 := Br.trans (hb1.mono (by omega))
          have y1 : w.heap.size < w1.heap.size := by have := hb1.size; omega
          clear hb1 Dc Br
          go_upto_if 104 with (fail)
          go_cut [] (fun wx => Below w.heap.size w wx ∧ w.heap.size < wx.heap.size ∧
            (wx.cell? ⟨w.heap.size, 0, none⟩ = some (.int .i64 0) ∧ wx.cell? ⟨w.heap.size, 1, none⟩ = some (.int .i64 0) ∧ wx.cell? ⟨w.heap.size, 2, none⟩ = some (.bool true) ∧ wx.cell? ⟨w.heap.size, 3, none⟩ = some (.int .i64 s) ∧
              wx.frozen? ⟨w.heap.size, 0, none⟩ = false ∧ wx.frozen? ⟨w.heap.size, 1, none⟩ = false ∧ wx.frozen? ⟨w.heap.size, 2, none⟩ = false ∧ wx.frozen? ⟨w.heap.size, 3, none⟩ = false))
          case first =>
            by_cases hin : j < n
            · have hI := HI.out j hin
              have hC := HC.out j hin
              have hC1 : w1.cell? (ad j) = some (.int .i64 (f j)) := (B1.cell hC.2).trans hC.1
              have hCb := hC.2
              have hCw : (ad j).block < w1.heap.size := by omega
              have hne : ∀ o, ¬ (⟨w1.heap.size, o, none⟩ : Addr) = ad j := fun o e => by have := congrArg Addr.block e; simp at this; omega
              clear hC
              generalize f j = z at *
              obtain ⟨p, q, k, a1, a2, a3, a4, k1, k2⟩ := six_turns z
              have hjn : (j : Int) < n := by omega
              have hj0 : (0 : Int) ≤ j := by omega
              go_wp2_with fail
              go_region_held3 (fun w' => w'.cell? ⟨w.heap.size, 0, none⟩ = some (.int .i64 0) ∧ w'.cell? ⟨w.heap.size, 1, none⟩ = some (.int .i64 0) ∧ w'.cell? ⟨w.heap.size, 2, none⟩ = some (.bool true) ∧ w'.cell? ⟨w.heap.size, 3, none⟩ = some (.int .i64 s) ∧ w'.cell? (ad j) = some (.int .i64 z))
                ((first | (go_keep; done) | (simp [go_sem, *]; done)))
                (first | (go_at_call 8; refine (stepoff_six _ _ ⟨k1, k2⟩ hs1 hs2 _).mono ?_; rintro e w2 ⟨rfl, hb2⟩; have E1 := below_at4 hb2 (b := w.heap.size) (by simp; omega); have E2 := hb2.cell (p := ad j) (by simp; omega); try (have E3 := below_at4 hb2 (b := w1.heap.size) (lt_alloc' _ _); simp [go_sem] at E3)))
              all_goals
                have y2 : w.heap.size < w2.heap.size := by have := hb2.size; simp at this; omega
                have B2 : Below w.heap.size w w2 := (by go_grown : Below w.heap.size w _).trans (hb2.mono (by simp; omega))
                simp [go_sem, E0, y1] at E1
                clear E2 hb2 hne
                go_wp2_with fail
                go_light
                go_meet
                refine ⟨?_, by simp; omega, ?_⟩
                · go_grown
                  all_goals omega
                · simp [go_sem, E1, y2]
            · go_wp2_with fail
              go_meet
              exact ⟨B1, y1, E0⟩
          case rest =>
            clear E0 B1 y1
            obtain ⟨B1, y1, E0⟩ := hcut
            by_cases hs : s = 1
            · subst hs
              go_wp2_with fail
              refine (stepoff_last _).mono ?_
              rintro e w2 ⟨rfl, hb2⟩
              have E1 := below_at4 hb2 (b := w.heap.size) (by omega)
              simp only [E0] at E1
              have B2 : Below w.heap.size w w2 := B1.trans (hb2.mono (by omega))
              have y2 : w.heap.size < w2.heap.size := by have := hb2.size; omega
              clear hb2 E0 B1
              go_wp2_with fail
              go_light
              refine ⟨?_, ?measure⟩
              (repeat apply Exists.intro)
              refine ⟨?rel, rfl⟩
              case rel =>
                refine ⟨j + 1, 0, false, by omega, by go_num, .inr ⟨by have := Es.out; omega, rfl, rfl⟩, ?_, by simp; omega, ?_⟩
                · go_grown
                  all_goals omega
                · simp [go_sem, E1, y2]
              case measure => simp [intOf]; omega
            · go_wp2_with fail
              refine (stepoff_more _ (by omega) hs2 _).mono ?_
              rintro e w2 ⟨rfl, hb2⟩
              have E1 := below_at4 hb2 (b := w.heap.size) (by omega)
              simp only [E0] at E1
              have B2 : Below w.heap.size w w2 := B1.trans (hb2.mono (by omega))
              have y2 : w.heap.size < w2.heap.size := by have := hb2.size; omega
              clear hb2 E0 B1
              go_wp2_with fail
              go_light
              refine ⟨?_, ?measure⟩
              (repeat apply Exists.intro)
              refine ⟨?rel, rfl⟩
              case rel =>
                refine ⟨j + 1, s - 1, true, by omega, by go_num, .inl ⟨by have := Es.out; omega, rfl, by have := Es.out; omega⟩, ?_, by simp; omega, ?_⟩
                · go_grown
                  all_goals omega
                · simp [go_sem, E1, y2]
              case measure => simp [intOf]; omega
        · obtain ⟨rfl, rfl, rfl⟩ : j = 128 ∧ off = false ∧ s = 0 := by
            rcases hrel with h | h
            · omega
            · exact h
          clear hrel hj hlt
          go_wp2_with fail
          refine (alive_any _).mono ?_
          rintro e w3 ⟨rfl, hb3⟩
          have E0 := below_at4 hb3 (b := w.heap.size) (by omega)
          simp only [Dc] at E0
          have B3 : Below w.heap.size w w3 := Br.trans (hb3.mono (by omega))
          clear hb3 Dc Br
          go_wp2_with fail
          go_ret
          exact ⟨rfl, B3⟩
end Go.Proofs.Ytdiomgocdkjcoaa
