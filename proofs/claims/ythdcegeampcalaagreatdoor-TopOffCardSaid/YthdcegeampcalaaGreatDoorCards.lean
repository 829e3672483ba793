/-
  DERIVED. GIVEN WITH THE SEED: THE CARDS: each row of YthdcegeampcalaaGreatDoorRows.lean that lists a variable, with what it lists TIED to the program's text (the seventh form; the later family's looks); each row that meets fmt, with fmt's text TOLD by the authors' own Lean function (tested against real Go, not proved from fmt's source: count such statements apart). THE CARD IS WHAT COUNTS. Prove the row's statement (the work); the ties are given (YthdcegeampcalaaGreatDoorTie.lean); close each card by the builder's one call (the guide's Derived/Test/ToyasCard.lean, 'card_holds'). Laid BY PROGRAM, IN A SANDBOX (cutbox-door.mjs). By AI agents, Wed Nov 11 2026. No macro, syntax, notation, axiom, sorry.
-/
import Derived.Test.YthdcegeampcalaaGreatDoorRows
import GoSem.ClaimSeven
namespace Go.Proofs.YthdcegeampcalaaGreatDoor
namespace Rows

/-- THE TIED CARD OF 'campaniletop.TopOff'. -/
def topOffCard : Claim7 := { stood := { row := topOffRow, standIns := [], harness := (true, "3763d5186429a06c9009ba7d186918592681099e5c8e81a4762a3eeb1444c691"), looks := false }, kinds := [], alts := [], laidByText := true, laidKinds := [.data, .pinned], laidTests := true, laidLooks := .later }
def TopOffCardSaid : Prop := Claim7.holds Tryz.pinned (.plain (OpenSpec.ofChange topOffSpec)) topOffCard

/-- THE SECOND FORM's CARD OF 'campaniletop.TopOff'. -/
def topOffUptoCard : Claim7 := { stood := { row := topOffUptoRow, standIns := [], harness := (true, "3763d5186429a06c9009ba7d186918592681099e5c8e81a4762a3eeb1444c691"), looks := false }, kinds := [], alts := [], laidByText := true, laidKinds := [.data, .pinned], laidTests := true, laidLooks := .later }
def TopOffUptoCardSaid : Prop := Claim7.holds Tryz.pinned (.plain (OpenSpec.upto topOffSpec)) topOffUptoCard
end Rows
end Go.Proofs.YthdcegeampcalaaGreatDoor
