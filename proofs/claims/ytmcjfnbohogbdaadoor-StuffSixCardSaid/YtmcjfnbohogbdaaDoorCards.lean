/-
  DERIVED. GIVEN WITH THE SEED: THE CARDS: each row of YtmcjfnbohogbdaaDoorRows.lean that lists a variable, with what it lists TIED to the program's text (the seventh form; the later family's looks); each row that meets fmt, with fmt's text TOLD by the authors' own Lean function (tested against real Go, not proved from fmt's source: count such statements apart). THE CARD IS WHAT COUNTS. Prove the row's statement (the work); the ties are given (YtmcjfnbohogbdaaDoorTie.lean); close each card by the builder's one call (the guide's Derived/Test/ToyasCard.lean, 'card_holds'). Laid BY PROGRAM, IN A SANDBOX (cutbox-door.mjs). By AI agents, Wed Nov 11 2026. No macro, syntax, notation, axiom, sorry.
-/
import Derived.Test.YtmcjfnbohogbdaaDoorRows
import GoSem.ClaimSeven
namespace Go.Proofs.YtmcjfnbohogbdaaDoor
namespace Rows

/-- THE TIED CARD OF 'campanilelaw03.StuffSteps'. -/
def stuffStepsCard : Claim7 := { stood := { row := stuffStepsRow, standIns := [], harness := (true, "396fcc0dcf88e43edfdf800d455178672c5ef0162170fc159ff221e0b951b1f5"), looks := false }, kinds := [], alts := [], laidByText := true, laidKinds := [.data, .pinned], laidTests := true, laidLooks := .later }
def StuffStepsCardSaid : Prop := Claim7.holds Tryd.pinned (.plain (OpenSpec.ofChange stuffStepsSpec)) stuffStepsCard

/-- THE TIED CARD OF 'campanilelaw03.StuffRows'. -/
def stuffRowsCard : Claim7 := { stood := { row := stuffRowsRow, standIns := [], harness := (true, "396fcc0dcf88e43edfdf800d455178672c5ef0162170fc159ff221e0b951b1f5"), looks := false }, kinds := [], alts := [], laidByText := true, laidKinds := [.data, .pinned], laidTests := true, laidLooks := .later }
def StuffRowsCardSaid : Prop := Claim7.holds Tryd.pinned (.plain (OpenSpec.ofChange stuffRowsSpec)) stuffRowsCard

/-- THE TIED CARD OF 'campanilelaw03.StuffBack'. -/
def stuffBackCard : Claim7 := { stood := { row := stuffBackRow, standIns := [], harness := (true, "396fcc0dcf88e43edfdf800d455178672c5ef0162170fc159ff221e0b951b1f5"), looks := false }, kinds := [], alts := [], laidByText := true, laidKinds := [.data, .pinned], laidTests := true, laidLooks := .later }
def StuffBackCardSaid : Prop := Claim7.holds Tryd.pinned (.plain (OpenSpec.ofChange stuffBackSpec)) stuffBackCard

/-- THE TIED CARD OF 'campanilelaw03.StuffCuts'. -/
def stuffCutsCard : Claim7 := { stood := { row := stuffCutsRow, standIns := [], harness := (true, "396fcc0dcf88e43edfdf800d455178672c5ef0162170fc159ff221e0b951b1f5"), looks := false }, kinds := [], alts := [], laidByText := true, laidKinds := [.data, .pinned], laidTests := true, laidLooks := .later }
def StuffCutsCardSaid : Prop := Claim7.holds Tryd.pinned (.plain (OpenSpec.ofChange stuffCutsSpec)) stuffCutsCard

/-- THE TIED CARD OF 'campanilelaw03.StuffOne'. -/
def stuffOneCard : Claim7 := { stood := { row := stuffOneRow, standIns := [], harness := (true, "396fcc0dcf88e43edfdf800d455178672c5ef0162170fc159ff221e0b951b1f5"), looks := false }, kinds := [], alts := [], laidByText := true, laidKinds := [.data, .pinned], laidTests := true, laidLooks := .later }
def StuffOneCardSaid : Prop := Claim7.holds Tryd.pinned (.plain (OpenSpec.ofChange stuffOneSpec)) stuffOneCard

/-- THE TIED CARD OF 'campanilelaw03.StuffSix'. -/
def stuffSixCard : Claim7 := { stood := { row := stuffSixRow, standIns := [], harness := (true, "396fcc0dcf88e43edfdf800d455178672c5ef0162170fc159ff221e0b951b1f5"), looks := false }, kinds := [], alts := [], laidByText := true, laidKinds := [.data, .pinned], laidTests := true, laidLooks := .later }
def StuffSixCardSaid : Prop := Claim7.holds Tryd.pinned (.plain (OpenSpec.ofChange stuffSixSpec)) stuffSixCard

/-- THE SECOND FORM's CARD OF 'campanilelaw03.StuffSteps'. -/
def stuffStepsUptoCard : Claim7 := { stood := { row := stuffStepsUptoRow, standIns := [], harness := (true, "396fcc0dcf88e43edfdf800d455178672c5ef0162170fc159ff221e0b951b1f5"), looks := false }, kinds := [], alts := [], laidByText := true, laidKinds := [.data, .pinned], laidTests := true, laidLooks := .later }
def StuffStepsUptoCardSaid : Prop := Claim7.holds Tryd.pinned (.plain (OpenSpec.upto stuffStepsSpec)) stuffStepsUptoCard

/-- THE SECOND FORM's CARD OF 'campanilelaw03.StuffRows'. -/
def stuffRowsUptoCard : Claim7 := { stood := { row := stuffRowsUptoRow, standIns := [], harness := (true, "396fcc0dcf88e43edfdf800d455178672c5ef0162170fc159ff221e0b951b1f5"), looks := false }, kinds := [], alts := [], laidByText := true, laidKinds := [.data, .pinned], laidTests := true, laidLooks := .later }
def StuffRowsUptoCardSaid : Prop := Claim7.holds Tryd.pinned (.plain (OpenSpec.upto stuffRowsSpec)) stuffRowsUptoCard

/-- THE SECOND FORM's CARD OF 'campanilelaw03.StuffBack'. -/
def stuffBackUptoCard : Claim7 := { stood := { row := stuffBackUptoRow, standIns := [], harness := (true, "396fcc0dcf88e43edfdf800d455178672c5ef0162170fc159ff221e0b951b1f5"), looks := false }, kinds := [], alts := [], laidByText := true, laidKinds := [.data, .pinned], laidTests := true, laidLooks := .later }
def StuffBackUptoCardSaid : Prop := Claim7.holds Tryd.pinned (.plain (OpenSpec.upto stuffBackSpec)) stuffBackUptoCard

/-- THE SECOND FORM's CARD OF 'campanilelaw03.StuffCuts'. -/
def stuffCutsUptoCard : Claim7 := { stood := { row := stuffCutsUptoRow, standIns := [], harness := (true, "396fcc0dcf88e43edfdf800d455178672c5ef0162170fc159ff221e0b951b1f5"), looks := false }, kinds := [], alts := [], laidByText := true, laidKinds := [.data, .pinned], laidTests := true, laidLooks := .later }
def StuffCutsUptoCardSaid : Prop := Claim7.holds Tryd.pinned (.plain (OpenSpec.upto stuffCutsSpec)) stuffCutsUptoCard

/-- THE SECOND FORM's CARD OF 'campanilelaw03.StuffOne'. -/
def stuffOneUptoCard : Claim7 := { stood := { row := stuffOneUptoRow, standIns := [], harness := (true, "396fcc0dcf88e43edfdf800d455178672c5ef0162170fc159ff221e0b951b1f5"), looks := false }, kinds := [], alts := [], laidByText := true, laidKinds := [.data, .pinned], laidTests := true, laidLooks := .later }
def StuffOneUptoCardSaid : Prop := Claim7.holds Tryd.pinned (.plain (OpenSpec.upto stuffOneSpec)) stuffOneUptoCard

/-- THE SECOND FORM's CARD OF 'campanilelaw03.StuffSix'. -/
def stuffSixUptoCard : Claim7 := { stood := { row := stuffSixUptoRow, standIns := [], harness := (true, "396fcc0dcf88e43edfdf800d455178672c5ef0162170fc159ff221e0b951b1f5"), looks := false }, kinds := [], alts := [], laidByText := true, laidKinds := [.data, .pinned], laidTests := true, laidLooks := .later }
def StuffSixUptoCardSaid : Prop := Claim7.holds Tryd.pinned (.plain (OpenSpec.upto stuffSixSpec)) stuffSixUptoCard
end Rows
end Go.Proofs.YtmcjfnbohogbdaaDoor
