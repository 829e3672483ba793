/-
  DERIVED. GIVEN WITH THE SEED: THE CARDS: each row of YtokhongbpnkinaaDoorRows.lean that lists a variable, with what it lists TIED to the program's text (the seventh form; the later family's looks); each row that meets fmt, with fmt's text TOLD by the authors' own Lean function (tested against real Go, not proved from fmt's source: count such statements apart). THE CARD IS WHAT COUNTS. Prove the row's statement (the work); the ties are given (YtokhongbpnkinaaDoorTie.lean); close each card by the builder's one call (the guide's Derived/Test/ToyasCard.lean, 'card_holds'). Laid BY PROGRAM, IN A SANDBOX (cutbox-door.mjs). By AI agents, Wed Nov 11 2026. No macro, syntax, notation, axiom, sorry.
-/
import Derived.Test.YtokhongbpnkinaaDoorRows
import GoSem.ClaimSeven
namespace Go.Proofs.YtokhongbpnkinaaDoor
namespace Rows

/-- THE TIED CARD OF 'campanilelaw10.PulseSteps'. -/
def pulseStepsCard : Claim7 := { stood := { row := pulseStepsRow, standIns := [], harness := (true, "7945d414ab09093965876e31dd6b4978442a0a4717c9b86d1acfa96c401e0b0d"), looks := false }, kinds := [], alts := [], laidByText := true, laidKinds := [.data, .pinned], laidTests := true, laidLooks := .later }
def PulseStepsCardSaid : Prop := Claim7.holds Tryd.pinned (.plain (OpenSpec.ofChange pulseStepsSpec)) pulseStepsCard

/-- THE TIED CARD OF 'campanilelaw10.PulseCuts'. -/
def pulseCutsCard : Claim7 := { stood := { row := pulseCutsRow, standIns := [], harness := (true, "7945d414ab09093965876e31dd6b4978442a0a4717c9b86d1acfa96c401e0b0d"), looks := false }, kinds := [], alts := [], laidByText := true, laidKinds := [.data, .pinned], laidTests := true, laidLooks := .later }
def PulseCutsCardSaid : Prop := Claim7.holds Tryd.pinned (.plain (OpenSpec.ofChange pulseCutsSpec)) pulseCutsCard

/-- THE TIED CARD OF 'campanilelaw10.PulseNone'. -/
def pulseNoneCard : Claim7 := { stood := { row := pulseNoneRow, standIns := [], harness := (true, "7945d414ab09093965876e31dd6b4978442a0a4717c9b86d1acfa96c401e0b0d"), looks := false }, kinds := [], alts := [], laidByText := true, laidKinds := [.data, .pinned], laidTests := true, laidLooks := .later }
def PulseNoneCardSaid : Prop := Claim7.holds Tryd.pinned (.plain (OpenSpec.ofChange pulseNoneSpec)) pulseNoneCard

/-- THE SECOND FORM's CARD OF 'campanilelaw10.PulseSteps'. -/
def pulseStepsUptoCard : Claim7 := { stood := { row := pulseStepsUptoRow, standIns := [], harness := (true, "7945d414ab09093965876e31dd6b4978442a0a4717c9b86d1acfa96c401e0b0d"), looks := false }, kinds := [], alts := [], laidByText := true, laidKinds := [.data, .pinned], laidTests := true, laidLooks := .later }
def PulseStepsUptoCardSaid : Prop := Claim7.holds Tryd.pinned (.plain (OpenSpec.upto pulseStepsSpec)) pulseStepsUptoCard

/-- THE SECOND FORM's CARD OF 'campanilelaw10.PulseCuts'. -/
def pulseCutsUptoCard : Claim7 := { stood := { row := pulseCutsUptoRow, standIns := [], harness := (true, "7945d414ab09093965876e31dd6b4978442a0a4717c9b86d1acfa96c401e0b0d"), looks := false }, kinds := [], alts := [], laidByText := true, laidKinds := [.data, .pinned], laidTests := true, laidLooks := .later }
def PulseCutsUptoCardSaid : Prop := Claim7.holds Tryd.pinned (.plain (OpenSpec.upto pulseCutsSpec)) pulseCutsUptoCard

/-- THE SECOND FORM's CARD OF 'campanilelaw10.PulseNone'. -/
def pulseNoneUptoCard : Claim7 := { stood := { row := pulseNoneUptoRow, standIns := [], harness := (true, "7945d414ab09093965876e31dd6b4978442a0a4717c9b86d1acfa96c401e0b0d"), looks := false }, kinds := [], alts := [], laidByText := true, laidKinds := [.data, .pinned], laidTests := true, laidLooks := .later }
def PulseNoneUptoCardSaid : Prop := Claim7.holds Tryd.pinned (.plain (OpenSpec.upto pulseNoneSpec)) pulseNoneUptoCard
end Rows
end Go.Proofs.YtokhongbpnkinaaDoor
