/-
  No cell of these rows narrows 'for every input' (looked for: loops, veiled, ifaces, maps, wideKeys, modest, calm, conditions, laid).
  DERIVED. THE GIVEN ROWS OF THIS SEAT. 5 by the template 'for every input the law returns true; each argument reads behind the call as it read before'; 0 by the template 'total and deterministic' (their statements: YthibaeeoegoliaaTotals.lean).
  GIVEN WITH THE SEED: the statements are not yours to turn. If you find one false, say at which input.
  Laid BY PROGRAM, IN A SANDBOX (cutbox-rows.mjs): the forced cells as the released guide's own fill.sh prints them over the translation 91fd1d37a2613a54… (all of the seat's roots in one cut). By AI agents, Wed Nov 11 2026. No macro, syntax, notation, axiom, sorry.
-/
import Derived.Test.YthibaeeoegoliaaChecked
import GoSem.Claim
import GoSem.ClaimJoined
import GoSem.ClaimMapViews
import Derived.JoinedTies
import Derived.KernelRfl
namespace Go.Proofs.Ythibaeeoegoliaa
/- THE CELL 'sum', in the pinned program and in every row, IS THE sha256 OF THE DUMP (.gsa) THAT YthibaeeoegoliaaProg.lean LOADS. Nothing in Lean hashes anything: it is a label: what it is worth is what the hold of that sum in a sandbox is worth. -/
noncomputable def Try.pinned : Pinned := { name := "ythibaeeoegoliaa", sum := "91fd1d37a2613a54faaa92355c5e465a59236ca0cf075d0ecc3d577dff0c5291", checked := Try.checked }
namespace Rows
def none {H : Type} : Left H := { results := [], args := [] }

/-- 'campanilelaw14.SignalPlaces': WHATEVER THE INPUT: true; the input reads as it did. -/
def signalPlacesSpec : ChangeSpec := { name := "signalPlaces", fn := fun _ => fun
  | [d1, d2, d3, d4] => { results := [.lit (.bool true)], args := [d1, d2, d3, d4] }
  | _ => none }
def signalPlacesRow : OpenClaim := { program := "ythibaeeoegoliaa", sum := "91fd1d37a2613a54faaa92355c5e465a59236ca0cf075d0ecc3d577dff0c5291", func := "campanile/campanilelaw14.SignalPlaces", spec := "signalPlaces", unfollowed := true, recurses := true, apart := false }
def SignalPlacesSaid : Prop := signalPlacesRow.holds Try.pinned (OpenSpec.ofChange signalPlacesSpec)

/-- ITS FALSE NEIGHBOUR: 'it returns false'. Refute it at one input. -/
def signalPlacesWrong : ChangeSpec := { name := "signalPlaces", fn := fun _ => fun
  | [d1, d2, d3, d4] => { results := [.lit (.bool false)], args := [d1, d2, d3, d4] }
  | _ => none }
def SignalPlacesWrongFalsely : Prop := signalPlacesRow.holds Try.pinned (OpenSpec.ofChange signalPlacesWrong)

/-- 'campanilelaw14.SignalPuts': WHATEVER THE INPUT: true; the input reads as it did. -/
def signalPutsSpec : ChangeSpec := { name := "signalPuts", fn := fun _ => fun
  | [d1, d2, d3] => { results := [.lit (.bool true)], args := [d1, d2, d3] }
  | _ => none }
def signalPutsRow : OpenClaim := { program := "ythibaeeoegoliaa", sum := "91fd1d37a2613a54faaa92355c5e465a59236ca0cf075d0ecc3d577dff0c5291", func := "campanile/campanilelaw14.SignalPuts", spec := "signalPuts", unfollowed := true, recurses := true, apart := false }
def SignalPutsSaid : Prop := signalPutsRow.holds Try.pinned (OpenSpec.ofChange signalPutsSpec)

/-- ITS FALSE NEIGHBOUR: 'it returns false'. Refute it at one input. -/
def signalPutsWrong : ChangeSpec := { name := "signalPuts", fn := fun _ => fun
  | [d1, d2, d3] => { results := [.lit (.bool false)], args := [d1, d2, d3] }
  | _ => none }
def SignalPutsWrongFalsely : Prop := signalPutsRow.holds Try.pinned (OpenSpec.ofChange signalPutsWrong)

/-- 'campanilelaw14.SignalBack': WHATEVER THE INPUT: true; the input reads as it did. -/
def signalBackSpec : ChangeSpec := { name := "signalBack", fn := fun _ => fun
  | [d1, d2, d3] => { results := [.lit (.bool true)], args := [d1, d2, d3] }
  | _ => none }
def signalBackRow : OpenClaim := { program := "ythibaeeoegoliaa", sum := "91fd1d37a2613a54faaa92355c5e465a59236ca0cf075d0ecc3d577dff0c5291", func := "campanile/campanilelaw14.SignalBack", spec := "signalBack", unfollowed := true, recurses := true, apart := false }
def SignalBackSaid : Prop := signalBackRow.holds Try.pinned (OpenSpec.ofChange signalBackSpec)

/-- ITS FALSE NEIGHBOUR: 'it returns false'. Refute it at one input. -/
def signalBackWrong : ChangeSpec := { name := "signalBack", fn := fun _ => fun
  | [d1, d2, d3] => { results := [.lit (.bool false)], args := [d1, d2, d3] }
  | _ => none }
def SignalBackWrongFalsely : Prop := signalBackRow.holds Try.pinned (OpenSpec.ofChange signalBackWrong)

/-- 'campanilelaw14.SignalBytes': WHATEVER THE INPUT: true; the input reads as it did. -/
def signalBytesSpec : ChangeSpec := { name := "signalBytes", fn := fun _ => fun
  | [d1, d2] => { results := [.lit (.bool true)], args := [d1, d2] }
  | _ => none }
def signalBytesRow : OpenClaim := { program := "ythibaeeoegoliaa", sum := "91fd1d37a2613a54faaa92355c5e465a59236ca0cf075d0ecc3d577dff0c5291", func := "campanile/campanilelaw14.SignalBytes", spec := "signalBytes", unfollowed := true, recurses := true, apart := false }
def SignalBytesSaid : Prop := signalBytesRow.holds Try.pinned (OpenSpec.ofChange signalBytesSpec)

/-- ITS FALSE NEIGHBOUR: 'it returns false'. Refute it at one input. -/
def signalBytesWrong : ChangeSpec := { name := "signalBytes", fn := fun _ => fun
  | [d1, d2] => { results := [.lit (.bool false)], args := [d1, d2] }
  | _ => none }
def SignalBytesWrongFalsely : Prop := signalBytesRow.holds Try.pinned (OpenSpec.ofChange signalBytesWrong)

/-- 'campanilelaw14.SignalApart': WHATEVER THE INPUT: true; the input reads as it did. -/
def signalApartSpec : ChangeSpec := { name := "signalApart", fn := fun _ => fun
  | [d1, d2, d3, d4, d5] => { results := [.lit (.bool true)], args := [d1, d2, d3, d4, d5] }
  | _ => none }
def signalApartRow : OpenClaim := { program := "ythibaeeoegoliaa", sum := "91fd1d37a2613a54faaa92355c5e465a59236ca0cf075d0ecc3d577dff0c5291", func := "campanile/campanilelaw14.SignalApart", spec := "signalApart", unfollowed := true, recurses := true, apart := false }
def SignalApartSaid : Prop := signalApartRow.holds Try.pinned (OpenSpec.ofChange signalApartSpec)

/-- ITS FALSE NEIGHBOUR: 'it returns false'. Refute it at one input. -/
def signalApartWrong : ChangeSpec := { name := "signalApart", fn := fun _ => fun
  | [d1, d2, d3, d4, d5] => { results := [.lit (.bool false)], args := [d1, d2, d3, d4, d5] }
  | _ => none }
def SignalApartWrongFalsely : Prop := signalApartRow.holds Try.pinned (OpenSpec.ofChange signalApartWrong)

/- THE SECOND FORM. 'bulk': how many values and letters a reading holds, each counted each time it is reached (what is shared counts as often as it is met; a slice's spare places count too). A statement '..UptoSaid' is the law's where the arguments, and the package variables that the reading takes, are together of bulk at most 1048576: NARROWER than '..Said'. Prove '..Said' where nothing that the law and all that it calls make is longer than what came in: it says more and counts as full. Else prove '..UptoSaid'. A law counts once. -/
mutual
def uptoBulk {H : Type} : DataW H → Nat
  | .lit (.string bytes) => bytes.length + 1
  | .lit _ => 1
  | .nil => 1
  | .ptr d => uptoBulk d + 1
  | .slice elems spare => uptoBulkAll elems + uptoBulkAll spare + 1
  | .agg parts => uptoBulkAll parts + 1
  | .iface _ d => uptoBulk d + 1
  | .map entries => uptoBulkEntries entries + 1
  | .held _ => 1
def uptoBulkAll {H : Type} : List (DataW H) → Nat
  | [] => 0
  | d :: r => uptoBulk d + uptoBulkAll r
def uptoBulkEntries {H : Type} : List (Lit × DataW H) → Nat
  | [] => 0
  | x :: r => uptoBulkEntry x + uptoBulkEntries r
def uptoBulkEntry {H : Type} : Lit × DataW H → Nat
  | (.string bytes, d) => bytes.length + uptoBulk d + 1
  | (_, d) => uptoBulk d + 1
 end
def uptoSmall : (H : Type) → List (DataW H) → Bool := fun _ ds => decide (uptoBulkAll ds ≤ 1048576)
def OpenSpec.upto (s : _root_.Go.ChangeSpec) : _root_.Go.OpenSpec := { _root_.Go.OpenSpec.ofChange s with cond := some uptoSmall }

/-- 'campanilelaw14.SignalPlaces', WHERE WHAT IT READS IS OF BULK AT MOST 1048576: true; the input reads as it did. -/
def signalPlacesUptoRow : OpenClaim := { program := "ythibaeeoegoliaa", sum := "91fd1d37a2613a54faaa92355c5e465a59236ca0cf075d0ecc3d577dff0c5291", func := "campanile/campanilelaw14.SignalPlaces", spec := "signalPlaces", unfollowed := true, recurses := true, apart := false, narrowed := true }
def SignalPlacesUptoSaid : Prop := signalPlacesUptoRow.holds Try.pinned (OpenSpec.upto signalPlacesSpec)

/-- 'campanilelaw14.SignalPuts', WHERE WHAT IT READS IS OF BULK AT MOST 1048576: true; the input reads as it did. -/
def signalPutsUptoRow : OpenClaim := { program := "ythibaeeoegoliaa", sum := "91fd1d37a2613a54faaa92355c5e465a59236ca0cf075d0ecc3d577dff0c5291", func := "campanile/campanilelaw14.SignalPuts", spec := "signalPuts", unfollowed := true, recurses := true, apart := false, narrowed := true }
def SignalPutsUptoSaid : Prop := signalPutsUptoRow.holds Try.pinned (OpenSpec.upto signalPutsSpec)

/-- 'campanilelaw14.SignalBack', WHERE WHAT IT READS IS OF BULK AT MOST 1048576: true; the input reads as it did. -/
def signalBackUptoRow : OpenClaim := { program := "ythibaeeoegoliaa", sum := "91fd1d37a2613a54faaa92355c5e465a59236ca0cf075d0ecc3d577dff0c5291", func := "campanile/campanilelaw14.SignalBack", spec := "signalBack", unfollowed := true, recurses := true, apart := false, narrowed := true }
def SignalBackUptoSaid : Prop := signalBackUptoRow.holds Try.pinned (OpenSpec.upto signalBackSpec)

/-- 'campanilelaw14.SignalBytes', WHERE WHAT IT READS IS OF BULK AT MOST 1048576: true; the input reads as it did. -/
def signalBytesUptoRow : OpenClaim := { program := "ythibaeeoegoliaa", sum := "91fd1d37a2613a54faaa92355c5e465a59236ca0cf075d0ecc3d577dff0c5291", func := "campanile/campanilelaw14.SignalBytes", spec := "signalBytes", unfollowed := true, recurses := true, apart := false, narrowed := true }
def SignalBytesUptoSaid : Prop := signalBytesUptoRow.holds Try.pinned (OpenSpec.upto signalBytesSpec)

/-- 'campanilelaw14.SignalApart', WHERE WHAT IT READS IS OF BULK AT MOST 1048576: true; the input reads as it did. -/
def signalApartUptoRow : OpenClaim := { program := "ythibaeeoegoliaa", sum := "91fd1d37a2613a54faaa92355c5e465a59236ca0cf075d0ecc3d577dff0c5291", func := "campanile/campanilelaw14.SignalApart", spec := "signalApart", unfollowed := true, recurses := true, apart := false, narrowed := true }
def SignalApartUptoSaid : Prop := signalApartUptoRow.holds Try.pinned (OpenSpec.upto signalApartSpec)

end Rows
end Go.Proofs.Ythibaeeoegoliaa
