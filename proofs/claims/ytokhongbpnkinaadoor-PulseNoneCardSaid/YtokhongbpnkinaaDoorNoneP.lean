/-
  LAW PulseNone, PROVED FOR EVERY ROW OF ARGUMENTS: it returns true, and its arguments read as before. Condition: the listed tables of Go's library (unicode/utf8) read as laid when the call begins; the card ties them to the program's text.
-/
import Derived.Test.YtokhongbpnkinaaDoorF10
import Derived.Test.YtokhongbpnkinaaDoorTie
import Derived.Test.YtokhongbpnkinaaDoorCards
import Derived.Test.YtokhongbpnkinaaDoorRows
import Derived.LaidMore
import Derived.Lay
import Derived.SevenTiedAt
import Derived.Stop.Joined
namespace Go.Proofs.YtokhongbpnkinaaDoor
open Go.RowKit Go.ChangeShapes Go.WideShapes Go.ChangeAt Go.Joins Go.Sy

theorem none_own : ownKnob Tryd.prog.godebug = none := by kernel_rfl
theorem none_laid : laidOutB Tryd.prog = true := by kernel_rfl

set_option maxRecDepth 100000 in
theorem none_lifted (os : Os) (started : os.Started) (H : Type) (enc : TypeId × Value → H) :
    ReturnsInHanded {} Tryd.checked os 5 .any (fun w args => (Rows.pulseNoneSpec.pre enc Tryd.prog Tryd.f5 Rows.pulseNoneRow.domain false w args ∧ laidMetH Tryd.prog Rows.pulseNoneRow.laid w) ∧ sizedMet enc Tryd.prog Tryd.f5 (OpenSpec.ofChange Rows.pulseNoneSpec) false w args) (Rows.pulseNoneSpec.post enc Tryd.prog Tryd.f5 false true false false) := by
  refine handed_shaped (C := Tryd.checked) (X := fun w _ => laidMetH Tryd.prog Rows.pulseNoneRow.laid w) (fun _ _ _ hh h => h.of_heap hh) none_own started (by kernel_rfl) Tryd.func5
    (ChangeSpec.witness_shaped (enc := enc) (C := Tryd.checked) (os := os) (X := fun w _ => laidMetH Tryd.prog Rows.pulseNoneRow.laid w) false (World.laidAll Tryd.prog os Rows.pulseNoneRow.laid) #[.string .empty, .int .i64 0, .int .i64 0] 8 (World.laidAll_os _ _ _)
      (World.shaped_of_ZipB (by kernel_rfl) (by kernel_rfl)) (by kernel_rfl) (by kernel_rfl) (by kernel_rfl)
      (by rw [MakeChecks.laidMetH_plain _ _ _ (by kernel_rfl)]; exact laidMet_laidAll _ (by kernel_rfl) (by kernel_rfl))) ?_
  intro W base args ds gs before hval0 hW _ _ _ hsh _
  have hG : HasInt 0 W := Go.Proofs.cell_of_shapedOpen_int (t := 3) (zero := #[.int .i64 0]) hsh (of_decide_eq_true (by kernel_rfl)) (by kernel_rfl) rfl (by kernel_rfl) (by kernel_rfl) (by kernel_rfl)
  have hval : ∀ (j : Nat) t v, Tryd.f5.params[j]? = some t → args[j]? = some v → Value.okWide Tryd.prog W .any base t v := hval0
  have hW' : DataW.Whole enc Tryd.prog Tryd.f5.params.toList Rows.pulseNoneSpec.vars false W args.toList ds gs before := hW
  obtain ⟨p, q, hA0, _⟩ := hW
  have hA : DataW.TrodAll enc Tryd.prog W 0 (fun _ => true) true Tryd.f5.params.toList args.toList ds p := hA0
  have hlen := trodAll_len _ _ _ _ hA
  rw [Tryd.params5] at hA hval hlen
  obtain ⟨l, g1, g2, g3⟩ := open_args tab_ok (n := 9) _ _ _ _ (by kernel_rfl) (fun j t v ht hv => hval j t v (by simpa using ht) (by simpa using hv)) hA
  refine (calls_lawG hG (pnone_args l g1) g2 g3).mono fun e W' ⟨he, hb⟩ => ⟨_, he, ?_⟩
  have hd : ∃ d0 d1 d2, ds = [d0, d1, d2] := by
    match ds, hlen with
    | [d0, d1, d2], _ => exact ⟨d0, d1, d2, rfl⟩
  obtain ⟨d0, d1, d2, hd⟩ := hd
  exact law_post none_laid rfl (by kernel_rfl) Tryd.underlying4 (by kernel_rfl) hW' (by rw [hd]; rfl) hb

theorem none_row : Rows.PulseNoneSaid :=
  OpenClaim.holds_of_wide 5 Tryd.f5 rfl rfl rfl rfl rfl rfl rfl ⟨rfl, rfl, rfl, rfl, rfl⟩ rfl rfl rfl rfl rfl (by kernel_rfl) Tryd.func5 (by kernel_rfl)
    (of_decide_eq_true (by kernel_rfl)) (by unfold Func.isWrapper; first | (rw [if_pos (by decide +kernel)]; kernel_rfl) | (rw [if_neg (by decide +kernel)]; exact ⟨rfl, rfl⟩))
    (fun os started H enc _ => none_lifted os started H enc)

set_option maxRecDepth 100000 in
theorem none_proved : Rows.PulseNoneCardSaid :=
  Claim7.holds_tied_plain_at .later [] [.data, .pinned] true (true, "7945d414ab09093965876e31dd6b4978442a0a4717c9b86d1acfa96c401e0b0d") false none_row (fun _ h => by cases h) (by kernel_rfl) (fun _ h => by cases h) pulseNone_row_tie rfl ⟨rfl, rfl⟩ (by kernel_rfl) rfl
    (fun f fn hf hfn => by
      obtain rfl : f = 5 := Option.some.inj ((show Tryd.prog.funcNamed "campanile/campanilelaw10.PulseNone" = some 5 by kernel_rfl).symm.trans hf) |>.symm
      obtain rfl : fn = Tryd.f5 := (Option.some.inj (Tryd.func5.symm.trans hfn)).symm
      exact ⟨by kernel_rfl, fun j t ht => by
        rw [Tryd.params5] at ht
        have hm : t ∈ [9, 3, 3] := by simpa using Array.mem_of_getElem? ht
        have hall : ([9, 3, 3].all fun u => !Tryd.prog.wantsStandIn u) = true := by kernel_rfl
        exact (show Tryd.prog.wantsStandIn t = false by simpa using List.all_eq_true.1 hall t hm)⟩)
    (by kernel_rfl)
#print axioms none_proved
end Go.Proofs.YtokhongbpnkinaaDoor
