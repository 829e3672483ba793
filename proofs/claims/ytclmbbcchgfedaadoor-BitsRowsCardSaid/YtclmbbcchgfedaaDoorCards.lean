/-
  DERIVED. GIVEN WITH THE SEED: THE CARDS: each row of YtclmbbcchgfedaaDoorRows.lean that lists a variable, with what it lists TIED to the program's text (the seventh form; the later family's looks); each row that meets fmt, with fmt's text TOLD by the authors' own Lean function (tested against real Go, not proved from fmt's source: count such statements apart). THE CARD IS WHAT COUNTS. Prove the row's statement (the work); the ties are given (YtclmbbcchgfedaaDoorTie.lean); close each card by the builder's one call (the guide's Derived/Test/ToyasCard.lean, 'card_holds'). Laid BY PROGRAM, IN A SANDBOX (cutbox-door.mjs). By AI agents, Wed Nov 11 2026. No macro, syntax, notation, axiom, sorry.
-/
import Derived.Test.YtclmbbcchgfedaaDoorRows
import GoSem.ClaimSeven
namespace Go.Proofs.YtclmbbcchgfedaaDoor
namespace Rows

/-- THE TIED CARD OF 'campanilelaw01.BitsNumbers'. -/
def bitsNumbersCard : Claim7 := { stood := { row := bitsNumbersRow, standIns := [], harness := (true, "ddb2b1cb4007300edf827072792b98a665a892d2cbe712e4a68996cb4c06fbae"), looks := false }, kinds := [], alts := [], laidByText := true, laidKinds := [.data, .pinned], laidTests := true, laidLooks := .later }
def BitsNumbersCardSaid : Prop := Claim7.holds Tryd.pinned (.plain (OpenSpec.ofChange bitsNumbersSpec)) bitsNumbersCard

/-- THE TIED CARD OF 'campanilelaw01.BitsBack'. -/
def bitsBackCard : Claim7 := { stood := { row := bitsBackRow, standIns := [], harness := (true, "ddb2b1cb4007300edf827072792b98a665a892d2cbe712e4a68996cb4c06fbae"), looks := false }, kinds := [], alts := [], laidByText := true, laidKinds := [.data, .pinned], laidTests := true, laidLooks := .later }
def BitsBackCardSaid : Prop := Claim7.holds Tryd.pinned (.plain (OpenSpec.ofChange bitsBackSpec)) bitsBackCard

/-- THE TIED CARD OF 'campanilelaw01.BitsJoin'. -/
def bitsJoinCard : Claim7 := { stood := { row := bitsJoinRow, standIns := [], harness := (true, "ddb2b1cb4007300edf827072792b98a665a892d2cbe712e4a68996cb4c06fbae"), looks := false }, kinds := [], alts := [], laidByText := true, laidKinds := [.data, .pinned], laidTests := true, laidLooks := .later }
def BitsJoinCardSaid : Prop := Claim7.holds Tryd.pinned (.plain (OpenSpec.ofChange bitsJoinSpec)) bitsJoinCard

/-- THE TIED CARD OF 'campanilelaw01.BitsRows'. -/
def bitsRowsCard : Claim7 := { stood := { row := bitsRowsRow, standIns := [], harness := (true, "ddb2b1cb4007300edf827072792b98a665a892d2cbe712e4a68996cb4c06fbae"), looks := false }, kinds := [], alts := [], laidByText := true, laidKinds := [.data, .pinned], laidTests := true, laidLooks := .later }
def BitsRowsCardSaid : Prop := Claim7.holds Tryd.pinned (.plain (OpenSpec.ofChange bitsRowsSpec)) bitsRowsCard

/-- THE TIED CARD OF 'campanilelaw01.BitsBus'. -/
def bitsBusCard : Claim7 := { stood := { row := bitsBusRow, standIns := [], harness := (true, "ddb2b1cb4007300edf827072792b98a665a892d2cbe712e4a68996cb4c06fbae"), looks := false }, kinds := [], alts := [], laidByText := true, laidKinds := [.data, .pinned], laidTests := true, laidLooks := .later }
def BitsBusCardSaid : Prop := Claim7.holds Tryd.pinned (.plain (OpenSpec.ofChange bitsBusSpec)) bitsBusCard

/-- THE TIED CARD OF 'campanilelaw01.BitsRuns'. -/
def bitsRunsCard : Claim7 := { stood := { row := bitsRunsRow, standIns := [], harness := (true, "ddb2b1cb4007300edf827072792b98a665a892d2cbe712e4a68996cb4c06fbae"), looks := false }, kinds := [], alts := [], laidByText := true, laidKinds := [.data, .pinned], laidTests := true, laidLooks := .later }
def BitsRunsCardSaid : Prop := Claim7.holds Tryd.pinned (.plain (OpenSpec.ofChange bitsRunsSpec)) bitsRunsCard

/-- THE SECOND FORM's CARD OF 'campanilelaw01.BitsNumbers'. -/
def bitsNumbersUptoCard : Claim7 := { stood := { row := bitsNumbersUptoRow, standIns := [], harness := (true, "ddb2b1cb4007300edf827072792b98a665a892d2cbe712e4a68996cb4c06fbae"), looks := false }, kinds := [], alts := [], laidByText := true, laidKinds := [.data, .pinned], laidTests := true, laidLooks := .later }
def BitsNumbersUptoCardSaid : Prop := Claim7.holds Tryd.pinned (.plain (OpenSpec.upto bitsNumbersSpec)) bitsNumbersUptoCard

/-- THE SECOND FORM's CARD OF 'campanilelaw01.BitsBack'. -/
def bitsBackUptoCard : Claim7 := { stood := { row := bitsBackUptoRow, standIns := [], harness := (true, "ddb2b1cb4007300edf827072792b98a665a892d2cbe712e4a68996cb4c06fbae"), looks := false }, kinds := [], alts := [], laidByText := true, laidKinds := [.data, .pinned], laidTests := true, laidLooks := .later }
def BitsBackUptoCardSaid : Prop := Claim7.holds Tryd.pinned (.plain (OpenSpec.upto bitsBackSpec)) bitsBackUptoCard

/-- THE SECOND FORM's CARD OF 'campanilelaw01.BitsJoin'. -/
def bitsJoinUptoCard : Claim7 := { stood := { row := bitsJoinUptoRow, standIns := [], harness := (true, "ddb2b1cb4007300edf827072792b98a665a892d2cbe712e4a68996cb4c06fbae"), looks := false }, kinds := [], alts := [], laidByText := true, laidKinds := [.data, .pinned], laidTests := true, laidLooks := .later }
def BitsJoinUptoCardSaid : Prop := Claim7.holds Tryd.pinned (.plain (OpenSpec.upto bitsJoinSpec)) bitsJoinUptoCard

/-- THE SECOND FORM's CARD OF 'campanilelaw01.BitsRows'. -/
def bitsRowsUptoCard : Claim7 := { stood := { row := bitsRowsUptoRow, standIns := [], harness := (true, "ddb2b1cb4007300edf827072792b98a665a892d2cbe712e4a68996cb4c06fbae"), looks := false }, kinds := [], alts := [], laidByText := true, laidKinds := [.data, .pinned], laidTests := true, laidLooks := .later }
def BitsRowsUptoCardSaid : Prop := Claim7.holds Tryd.pinned (.plain (OpenSpec.upto bitsRowsSpec)) bitsRowsUptoCard

/-- THE SECOND FORM's CARD OF 'campanilelaw01.BitsBus'. -/
def bitsBusUptoCard : Claim7 := { stood := { row := bitsBusUptoRow, standIns := [], harness := (true, "ddb2b1cb4007300edf827072792b98a665a892d2cbe712e4a68996cb4c06fbae"), looks := false }, kinds := [], alts := [], laidByText := true, laidKinds := [.data, .pinned], laidTests := true, laidLooks := .later }
def BitsBusUptoCardSaid : Prop := Claim7.holds Tryd.pinned (.plain (OpenSpec.upto bitsBusSpec)) bitsBusUptoCard

/-- THE SECOND FORM's CARD OF 'campanilelaw01.BitsRuns'. -/
def bitsRunsUptoCard : Claim7 := { stood := { row := bitsRunsUptoRow, standIns := [], harness := (true, "ddb2b1cb4007300edf827072792b98a665a892d2cbe712e4a68996cb4c06fbae"), looks := false }, kinds := [], alts := [], laidByText := true, laidKinds := [.data, .pinned], laidTests := true, laidLooks := .later }
def BitsRunsUptoCardSaid : Prop := Claim7.holds Tryd.pinned (.plain (OpenSpec.upto bitsRunsSpec)) bitsRunsUptoCard
end Rows
end Go.Proofs.YtclmbbcchgfedaaDoor
