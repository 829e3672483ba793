/-
  No cell of these rows narrows 'for every input' (looked for: loops, veiled, ifaces, maps, wideKeys, modest, calm, conditions, laid).
  DERIVED. THE GIVEN ROWS OF THIS SEAT. 4 by the template 'for every input the law returns true; each argument reads behind the call as it read before'; 0 by the template 'total and deterministic' (their statements: YtlmakgadjjpleaaTotals.lean).
  GIVEN WITH THE SEED: the statements are not yours to turn. If you find one false, say at which input.
  Laid BY PROGRAM, IN A SANDBOX (cutbox-rows.mjs): the forced cells as the released guide's own fill.sh prints them over the translation 1cf833c35b00853f… (all of the seat's roots in one cut). By AI agents, Wed Nov 11 2026. No macro, syntax, notation, axiom, sorry.
-/
import Derived.Test.YtlmakgadjjpleaaChecked
import GoSem.Claim
import GoSem.ClaimJoined
import GoSem.ClaimMapViews
import Derived.JoinedTies
import Derived.KernelRfl
namespace Go.Proofs.Ytlmakgadjjpleaa
/- THE CELL 'sum', in the pinned program and in every row, IS THE sha256 OF THE DUMP (.gsa) THAT YtlmakgadjjpleaaProg.lean LOADS. Nothing in Lean hashes anything: it is a label: what it is worth is what the hold of that sum in a sandbox is worth. -/
noncomputable def Try.pinned : Pinned := { name := "ytlmakgadjjpleaa", sum := "1cf833c35b00853fab8c3ae4de9369f2586d7d886480350f03e47bbfaf2af4a7", checked := Try.checked }
namespace Rows
def none {H : Type} : Left H := { results := [], args := [] }

/-- 'campanilelaw17.FilterSteps': WHATEVER THE INPUT: true; the input reads as it did. -/
def filterStepsSpec : ChangeSpec := { name := "filterSteps", fn := fun _ => fun
  | [d1, d2, d3] => { results := [.lit (.bool true)], args := [d1, d2, d3] }
  | _ => none }
def filterStepsRow : OpenClaim := { program := "ytlmakgadjjpleaa", sum := "1cf833c35b00853fab8c3ae4de9369f2586d7d886480350f03e47bbfaf2af4a7", func := "campanile/campanilelaw17.FilterSteps", spec := "filterSteps", unfollowed := true, recurses := true, apart := false }
def FilterStepsSaid : Prop := filterStepsRow.holds Try.pinned (OpenSpec.ofChange filterStepsSpec)

/-- ITS FALSE NEIGHBOUR: 'it returns false'. Refute it at one input. -/
def filterStepsWrong : ChangeSpec := { name := "filterSteps", fn := fun _ => fun
  | [d1, d2, d3] => { results := [.lit (.bool false)], args := [d1, d2, d3] }
  | _ => none }
def FilterStepsWrongFalsely : Prop := filterStepsRow.holds Try.pinned (OpenSpec.ofChange filterStepsWrong)

/-- 'campanilelaw17.FilterApart': WHATEVER THE INPUT: true; the input reads as it did. -/
def filterApartSpec : ChangeSpec := { name := "filterApart", fn := fun _ => fun
  | [d1, d2] => { results := [.lit (.bool true)], args := [d1, d2] }
  | _ => none }
def filterApartRow : OpenClaim := { program := "ytlmakgadjjpleaa", sum := "1cf833c35b00853fab8c3ae4de9369f2586d7d886480350f03e47bbfaf2af4a7", func := "campanile/campanilelaw17.FilterApart", spec := "filterApart", unfollowed := true, recurses := true, apart := false }
def FilterApartSaid : Prop := filterApartRow.holds Try.pinned (OpenSpec.ofChange filterApartSpec)

/-- ITS FALSE NEIGHBOUR: 'it returns false'. Refute it at one input. -/
def filterApartWrong : ChangeSpec := { name := "filterApart", fn := fun _ => fun
  | [d1, d2] => { results := [.lit (.bool false)], args := [d1, d2] }
  | _ => none }
def FilterApartWrongFalsely : Prop := filterApartRow.holds Try.pinned (OpenSpec.ofChange filterApartWrong)

/-- 'campanilelaw17.FilterNew': WHATEVER THE INPUT: true; the input reads as it did. -/
def filterNewSpec : ChangeSpec := { name := "filterNew", fn := fun _ => fun
  | [d1, d2, d3] => { results := [.lit (.bool true)], args := [d1, d2, d3] }
  | _ => none }
def filterNewRow : OpenClaim := { program := "ytlmakgadjjpleaa", sum := "1cf833c35b00853fab8c3ae4de9369f2586d7d886480350f03e47bbfaf2af4a7", func := "campanile/campanilelaw17.FilterNew", spec := "filterNew", unfollowed := true, recurses := true, apart := false }
def FilterNewSaid : Prop := filterNewRow.holds Try.pinned (OpenSpec.ofChange filterNewSpec)

/-- ITS FALSE NEIGHBOUR: 'it returns false'. Refute it at one input. -/
def filterNewWrong : ChangeSpec := { name := "filterNew", fn := fun _ => fun
  | [d1, d2, d3] => { results := [.lit (.bool false)], args := [d1, d2, d3] }
  | _ => none }
def FilterNewWrongFalsely : Prop := filterNewRow.holds Try.pinned (OpenSpec.ofChange filterNewWrong)

/-- 'campanilelaw17.FilterCuts': WHATEVER THE INPUT: true; the input reads as it did. -/
def filterCutsSpec : ChangeSpec := { name := "filterCuts", fn := fun _ => fun
  | [d1, d2, d3] => { results := [.lit (.bool true)], args := [d1, d2, d3] }
  | _ => none }
def filterCutsRow : OpenClaim := { program := "ytlmakgadjjpleaa", sum := "1cf833c35b00853fab8c3ae4de9369f2586d7d886480350f03e47bbfaf2af4a7", func := "campanile/campanilelaw17.FilterCuts", spec := "filterCuts", unfollowed := true, recurses := true, apart := false }
def FilterCutsSaid : Prop := filterCutsRow.holds Try.pinned (OpenSpec.ofChange filterCutsSpec)

/-- ITS FALSE NEIGHBOUR: 'it returns false'. Refute it at one input. -/
def filterCutsWrong : ChangeSpec := { name := "filterCuts", fn := fun _ => fun
  | [d1, d2, d3] => { results := [.lit (.bool false)], args := [d1, d2, d3] }
  | _ => none }
def FilterCutsWrongFalsely : Prop := filterCutsRow.holds Try.pinned (OpenSpec.ofChange filterCutsWrong)

/- THE SECOND FORM. 'bulk': how many values and letters a reading holds, each counted each time it is reached (what is shared counts as often as it is met; a slice's spare places count too). A statement '..UptoSaid' is the law's where the arguments, and the package variables that the reading takes, are together of bulk at most 1048576: NARROWER than '..Said'. Prove '..Said' where nothing that the law and all that it calls make is longer than what came in: it says more and counts as full. Else prove '..UptoSaid'. A law counts once. -/
mutual
def uptoBulk {H : Type} : DataW H → Nat
  | .lit (.string bytes) => bytes.length + 1
  | .lit _ => 1
  | .nil => 1
  | .ptr d => uptoBulk d + 1
  | .slice elems spare => uptoBulkAll elems + uptoBulkAll spare + 1
  | .agg parts => uptoBulkAll parts + 1
  | .iface _ d => uptoBulk d + 1
  | .map entries => uptoBulkEntries entries + 1
  | .held _ => 1
def uptoBulkAll {H : Type} : List (DataW H) → Nat
  | [] => 0
  | d :: r => uptoBulk d + uptoBulkAll r
def uptoBulkEntries {H : Type} : List (Lit × DataW H) → Nat
  | [] => 0
  | x :: r => uptoBulkEntry x + uptoBulkEntries r
def uptoBulkEntry {H : Type} : Lit × DataW H → Nat
  | (.string bytes, d) => bytes.length + uptoBulk d + 1
  | (_, d) => uptoBulk d + 1
 end
def uptoSmall : (H : Type) → List (DataW H) → Bool := fun _ ds => decide (uptoBulkAll ds ≤ 1048576)
def OpenSpec.upto (s : _root_.Go.ChangeSpec) : _root_.Go.OpenSpec := { _root_.Go.OpenSpec.ofChange s with cond := some uptoSmall }

/-- 'campanilelaw17.FilterSteps', WHERE WHAT IT READS IS OF BULK AT MOST 1048576: true; the input reads as it did. -/
def filterStepsUptoRow : OpenClaim := { program := "ytlmakgadjjpleaa", sum := "1cf833c35b00853fab8c3ae4de9369f2586d7d886480350f03e47bbfaf2af4a7", func := "campanile/campanilelaw17.FilterSteps", spec := "filterSteps", unfollowed := true, recurses := true, apart := false, narrowed := true }
def FilterStepsUptoSaid : Prop := filterStepsUptoRow.holds Try.pinned (OpenSpec.upto filterStepsSpec)

/-- 'campanilelaw17.FilterApart', WHERE WHAT IT READS IS OF BULK AT MOST 1048576: true; the input reads as it did. -/
def filterApartUptoRow : OpenClaim := { program := "ytlmakgadjjpleaa", sum := "1cf833c35b00853fab8c3ae4de9369f2586d7d886480350f03e47bbfaf2af4a7", func := "campanile/campanilelaw17.FilterApart", spec := "filterApart", unfollowed := true, recurses := true, apart := false, narrowed := true }
def FilterApartUptoSaid : Prop := filterApartUptoRow.holds Try.pinned (OpenSpec.upto filterApartSpec)

/-- 'campanilelaw17.FilterNew', WHERE WHAT IT READS IS OF BULK AT MOST 1048576: true; the input reads as it did. -/
def filterNewUptoRow : OpenClaim := { program := "ytlmakgadjjpleaa", sum := "1cf833c35b00853fab8c3ae4de9369f2586d7d886480350f03e47bbfaf2af4a7", func := "campanile/campanilelaw17.FilterNew", spec := "filterNew", unfollowed := true, recurses := true, apart := false, narrowed := true }
def FilterNewUptoSaid : Prop := filterNewUptoRow.holds Try.pinned (OpenSpec.upto filterNewSpec)

/-- 'campanilelaw17.FilterCuts', WHERE WHAT IT READS IS OF BULK AT MOST 1048576: true; the input reads as it did. -/
def filterCutsUptoRow : OpenClaim := { program := "ytlmakgadjjpleaa", sum := "1cf833c35b00853fab8c3ae4de9369f2586d7d886480350f03e47bbfaf2af4a7", func := "campanile/campanilelaw17.FilterCuts", spec := "filterCuts", unfollowed := true, recurses := true, apart := false, narrowed := true }
def FilterCutsUptoSaid : Prop := filterCutsUptoRow.holds Try.pinned (OpenSpec.upto filterCutsSpec)

end Rows
end Go.Proofs.Ytlmakgadjjpleaa
