/-
  LAW TopOff, PROVED FOR EVERY ROW OF ARGUMENTS: it returns true, and its arguments read as before. Condition: the listed tables of Go's library (unicode/utf8) read as laid when the call begins; the card ties them to the program's text.
-/
import Derived.Test.YthdcegeampcalaaGreatDoorD1
import Derived.Test.YthdcegeampcalaaGreatDoorTie
import Derived.Test.YthdcegeampcalaaGreatDoorCards
import Derived.Test.YthdcegeampcalaaGreatDoorRows
import Derived.LaidMore
import Derived.Lay
import Derived.SevenTiedAt
import Derived.Stop.Joined
namespace Go.Proofs.YthdcegeampcalaaGreatDoor
open Go.RowKit Go.ChangeShapes Go.WideShapes Go.ChangeAt Go.Joins Go.Sy

theorem topoff_own : ownKnob Tryz.prog.godebug = none := by kernel_rfl
theorem topoff_laid : laidOutB Tryz.prog = true := by kernel_rfl

set_option maxRecDepth 100000 in
theorem topoff_lifted (os : Os) (started : os.Started) (H : Type) (enc : TypeId × Value → H) :
    ReturnsInHanded {} Tryz.checked os 3 .any (fun w args => (Rows.topOffSpec.pre enc Tryz.prog Tryz.f3 Rows.topOffRow.domain false w args ∧ laidMetH Tryz.prog Rows.topOffRow.laid w) ∧ sizedMet enc Tryz.prog Tryz.f3 (OpenSpec.ofChange Rows.topOffSpec) false w args) (Rows.topOffSpec.post enc Tryz.prog Tryz.f3 false true false false) := by
  refine returnsInHanded_of_change_and (C := Tryz.checked) (X := fun w _ => laidMetH Tryz.prog Rows.topOffRow.laid w) (fun _ _ _ hh h => h.of_heap hh) topoff_own started (by kernel_rfl) Tryz.func3
    (ChangeSpec.witness_shaped (enc := enc) (C := Tryz.checked) (os := os) (X := fun w _ => laidMetH Tryz.prog Rows.topOffRow.laid w) false (World.laidAll Tryz.prog os Rows.topOffRow.laid) #[.agg #[.int .u32 0, .bool false, .bool false, .int .i64 0, .string .empty], .int .i64 0] 8 (World.laidAll_os _ _ _)
      (World.shaped_of_ZipB (by kernel_rfl) (by kernel_rfl)) (by kernel_rfl) (by kernel_rfl) (by kernel_rfl)
      (by rw [MakeChecks.laidMetH_plain _ _ _ (by kernel_rfl)]; exact laidMet_laidAll _ (by kernel_rfl) (by kernel_rfl))) ?_
  intro W base args ds gs before hval0 hW _ _ _ _
  have hval : ∀ (j : Nat) t v, Tryz.f3.params[j]? = some t → args[j]? = some v → Value.okWide Tryz.prog W .any base t v := hval0
  have hW' : DataW.Whole enc Tryz.prog Tryz.f3.params.toList Rows.topOffSpec.vars false W args.toList ds gs before := hW
  obtain ⟨p, q, hA0, _⟩ := hW
  have hA : DataW.TrodAll enc Tryz.prog W 0 (fun _ => true) true Tryz.f3.params.toList args.toList ds p := hA0
  have hlen := trodAll_len _ _ _ _ hA
  rw [Tryz.params3] at hA hval hlen
  obtain ⟨l, g1, g2, g3⟩ := open_args tab_ok (n := 9) _ _ _ _ (by kernel_rfl) (fun j t v ht hv => hval j t v (by simpa using ht) (by simpa using hv)) hA
  refine (calls_law (topoff_args l g1) g2 g3).mono fun e W' ⟨he, hb⟩ => ⟨_, he, ?_⟩
  have hd : ∃ d0 d1, ds = [d0, d1] := by
    match ds, hlen with
    | [d0, d1], _ => exact ⟨d0, d1, rfl⟩
  obtain ⟨d0, d1, hd⟩ := hd
  exact law_post topoff_laid rfl (by kernel_rfl) Tryz.underlying4 (by kernel_rfl) hW' (by rw [hd]; rfl) hb

theorem topoff_row : Rows.TopOffSaid :=
  OpenClaim.holds_of_wide 3 Tryz.f3 rfl rfl rfl rfl rfl rfl rfl ⟨rfl, rfl, rfl, rfl, rfl⟩ rfl rfl rfl rfl rfl (by kernel_rfl) Tryz.func3 (by kernel_rfl)
    (of_decide_eq_true (by kernel_rfl)) (by unfold Func.isWrapper; first | (rw [if_pos (by decide +kernel)]; kernel_rfl) | (rw [if_neg (by decide +kernel)]; exact ⟨rfl, rfl⟩))
    (fun os started H enc _ => topoff_lifted os started H enc)

set_option maxRecDepth 100000 in
theorem topoff_proved : Rows.TopOffCardSaid :=
  Claim7.holds_tied_plain_at .later [] [.data, .pinned] true (true, "3763d5186429a06c9009ba7d186918592681099e5c8e81a4762a3eeb1444c691") false topoff_row (fun _ h => by cases h) (by kernel_rfl) (fun _ h => by cases h) topOff_row_tie rfl ⟨rfl, rfl⟩ (by kernel_rfl) rfl
    (fun f fn hf hfn => by
      obtain rfl : f = 3 := Option.some.inj ((show Tryz.prog.funcNamed "campanile/campaniletop.TopOff" = some 3 by kernel_rfl).symm.trans hf) |>.symm
      obtain rfl : fn = Tryz.f3 := (Option.some.inj (Tryz.func3.symm.trans hfn)).symm
      exact ⟨by kernel_rfl, fun j t ht => by
        rw [Tryz.params3] at ht
        have hm : t ∈ [24,  3] := by simpa using Array.mem_of_getElem? ht
        have hall : ([24,  3].all fun u => !Tryz.prog.wantsStandIn u) = true := by kernel_rfl
        exact (show Tryz.prog.wantsStandIn t = false by simpa using List.all_eq_true.1 hall t hm)⟩)
    (by kernel_rfl)
#print axioms topoff_proved
end Go.Proofs.YthdcegeampcalaaGreatDoor
