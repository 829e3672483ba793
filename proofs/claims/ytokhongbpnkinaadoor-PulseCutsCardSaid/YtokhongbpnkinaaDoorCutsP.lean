/-
  LAW PulseCuts, PROVED FOR EVERY ROW OF ARGUMENTS: it returns true, and its arguments read as before. Condition: the listed tables of Go's library (unicode/utf8) read as laid when the call begins; the card ties them to the program's text.
-/
import Derived.Test.YtokhongbpnkinaaDoorF9
import Derived.Test.YtokhongbpnkinaaDoorTie
import Derived.Test.YtokhongbpnkinaaDoorCards
import Derived.Test.YtokhongbpnkinaaDoorRows
import Derived.LaidMore
import Derived.Lay
import Derived.SevenTiedAt
import Derived.Stop.Joined
namespace Go.Proofs.YtokhongbpnkinaaDoor
open Go.RowKit Go.ChangeShapes Go.WideShapes Go.ChangeAt Go.Joins Go.Sy

theorem cuts_own : ownKnob Tryd.prog.godebug = none := by kernel_rfl
theorem cuts_laid : laidOutB Tryd.prog = true := by kernel_rfl

set_option maxRecDepth 100000 in
theorem cuts_lifted (os : Os) (started : os.Started) (H : Type) (enc : TypeId × Value → H) :
    ReturnsInHanded {} Tryd.checked os 4 .any (fun w args => (Rows.pulseCutsSpec.pre enc Tryd.prog Tryd.f4 Rows.pulseCutsRow.domain false w args ∧ laidMetH Tryd.prog Rows.pulseCutsRow.laid w) ∧ sizedMet enc Tryd.prog Tryd.f4 (OpenSpec.ofChange Rows.pulseCutsSpec) false w args) (Rows.pulseCutsSpec.post enc Tryd.prog Tryd.f4 false true false false) := by
  refine returnsInHanded_of_change_and (C := Tryd.checked) (X := fun w _ => laidMetH Tryd.prog Rows.pulseCutsRow.laid w) (fun _ _ _ hh h => h.of_heap hh) cuts_own started (by kernel_rfl) Tryd.func4
    (ChangeSpec.witness_shaped (enc := enc) (C := Tryd.checked) (os := os) (X := fun w _ => laidMetH Tryd.prog Rows.pulseCutsRow.laid w) false (World.laidAll Tryd.prog os Rows.pulseCutsRow.laid) #[.agg #[.int .i64 0, .int .i64 0, .int .i64 0, .int .i64 0, .int .i64 0], .string .empty] 8 (World.laidAll_os _ _ _)
      (World.shaped_of_ZipB (by kernel_rfl) (by kernel_rfl)) (by kernel_rfl) (by kernel_rfl) (by kernel_rfl)
      (by rw [MakeChecks.laidMetH_plain _ _ _ (by kernel_rfl)]; exact laidMet_laidAll _ (by kernel_rfl) (by kernel_rfl))) ?_
  intro W base args ds gs before hval0 hW _ _ _ _
  have hval : ∀ (j : Nat) t v, Tryd.f4.params[j]? = some t → args[j]? = some v → Value.okWide Tryd.prog W .any base t v := hval0
  have hW' : DataW.Whole enc Tryd.prog Tryd.f4.params.toList Rows.pulseCutsSpec.vars false W args.toList ds gs before := hW
  obtain ⟨p, q, hA0, _⟩ := hW
  have hA : DataW.TrodAll enc Tryd.prog W 0 (fun _ => true) true Tryd.f4.params.toList args.toList ds p := hA0
  have hlen := trodAll_len _ _ _ _ hA
  rw [Tryd.params4] at hA hval hlen
  obtain ⟨l, g1, g2, g3⟩ := open_args tab_ok (n := 9) _ _ _ _ (by kernel_rfl) (fun j t v ht hv => hval j t v (by simpa using ht) (by simpa using hv)) hA
  refine (calls_law (pcuts_args l g1) g2 g3).mono fun e W' ⟨he, hb⟩ => ⟨_, he, ?_⟩
  have hd : ∃ d0 d1, ds = [d0, d1] := by
    match ds, hlen with
    | [d0, d1], _ => exact ⟨d0, d1, rfl⟩
  obtain ⟨d0, d1, hd⟩ := hd
  exact law_post cuts_laid rfl (by kernel_rfl) Tryd.underlying4 (by kernel_rfl) hW' (by rw [hd]; rfl) hb

theorem cuts_row : Rows.PulseCutsSaid :=
  OpenClaim.holds_of_wide 4 Tryd.f4 rfl rfl rfl rfl rfl rfl rfl ⟨rfl, rfl, rfl, rfl, rfl⟩ rfl rfl rfl rfl rfl (by kernel_rfl) Tryd.func4 (by kernel_rfl)
    (of_decide_eq_true (by kernel_rfl)) (by unfold Func.isWrapper; first | (rw [if_pos (by decide +kernel)]; kernel_rfl) | (rw [if_neg (by decide +kernel)]; exact ⟨rfl, rfl⟩))
    (fun os started H enc _ => cuts_lifted os started H enc)

set_option maxRecDepth 100000 in
theorem cuts_proved : Rows.PulseCutsCardSaid :=
  Claim7.holds_tied_plain_at .later [] [.data, .pinned] true (true, "7945d414ab09093965876e31dd6b4978442a0a4717c9b86d1acfa96c401e0b0d") false cuts_row (fun _ h => by cases h) (by kernel_rfl) (fun _ h => by cases h) pulseCuts_row_tie rfl ⟨rfl, rfl⟩ (by kernel_rfl) rfl
    (fun f fn hf hfn => by
      obtain rfl : f = 4 := Option.some.inj ((show Tryd.prog.funcNamed "campanile/campanilelaw10.PulseCuts" = some 4 by kernel_rfl).symm.trans hf) |>.symm
      obtain rfl : fn = Tryd.f4 := (Option.some.inj (Tryd.func4.symm.trans hfn)).symm
      exact ⟨by kernel_rfl, fun j t ht => by
        rw [Tryd.params4] at ht
        have hm : t ∈ [23, 9] := by simpa using Array.mem_of_getElem? ht
        have hall : ([23, 9].all fun u => !Tryd.prog.wantsStandIn u) = true := by kernel_rfl
        exact (show Tryd.prog.wantsStandIn t = false by simpa using List.all_eq_true.1 hall t hm)⟩)
    (by kernel_rfl)
#print axioms cuts_proved
end Go.Proofs.YtokhongbpnkinaaDoor
