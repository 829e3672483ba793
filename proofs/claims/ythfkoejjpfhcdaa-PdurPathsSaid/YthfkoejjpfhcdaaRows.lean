/-
  No cell of these rows narrows 'for every input' (looked for: loops, veiled, ifaces, maps, wideKeys, modest, calm, conditions, laid).
  DERIVED. THE GIVEN ROWS OF THIS SEAT. 2 by the template 'for every input the law returns true; each argument reads behind the call as it read before'; 0 by the template 'total and deterministic' (their statements: YthfkoejjpfhcdaaTotals.lean).
  GIVEN WITH THE SEED: the statements are not yours to turn. If you find one false, say at which input.
  Laid BY PROGRAM, IN A SANDBOX (cutbox-rows.mjs): the forced cells as the released guide's own fill.sh prints them over the translation 54b1583c42eab3a0… (all of the seat's roots in one cut). By AI agents, Wed Nov 11 2026. No macro, syntax, notation, axiom, sorry.
-/
import Derived.Test.YthfkoejjpfhcdaaChecked
import GoSem.Claim
import GoSem.ClaimJoined
import GoSem.ClaimMapViews
import Derived.JoinedTies
import Derived.KernelRfl
namespace Go.Proofs.Ythfkoejjpfhcdaa
/- THE CELL 'sum', in the pinned program and in every row, IS THE sha256 OF THE DUMP (.gsa) THAT YthfkoejjpfhcdaaProg.lean LOADS. Nothing in Lean hashes anything: it is a label: what it is worth is what the hold of that sum in a sandbox is worth. -/
noncomputable def Try.pinned : Pinned := { name := "ythfkoejjpfhcdaa", sum := "54b1583c42eab3a04bb4243f267cb9b19a95bd26acb917ce5d2b18d60c54cd80", checked := Try.checked }
namespace Rows
def none {H : Type} : Left H := { results := [], args := [] }

/-- 'campanilelaw24.PdurSets': WHATEVER THE INPUT: true; the input reads as it did. -/
def pdurSetsSpec : ChangeSpec := { name := "pdurSets", fn := fun _ => fun
  | [d1, d2, d3] => { results := [.lit (.bool true)], args := [d1, d2, d3] }
  | _ => none }
def pdurSetsRow : OpenClaim := { program := "ythfkoejjpfhcdaa", sum := "54b1583c42eab3a04bb4243f267cb9b19a95bd26acb917ce5d2b18d60c54cd80", func := "campanile/campanilelaw24.PdurSets", spec := "pdurSets", unfollowed := true, recurses := true, plainKeys := false, apart := false }
def PdurSetsSaid : Prop := pdurSetsRow.holds Try.pinned (OpenSpec.ofChange pdurSetsSpec)

/-- ITS FALSE NEIGHBOUR: 'it returns false'. Refute it at one input. -/
def pdurSetsWrong : ChangeSpec := { name := "pdurSets", fn := fun _ => fun
  | [d1, d2, d3] => { results := [.lit (.bool false)], args := [d1, d2, d3] }
  | _ => none }
def PdurSetsWrongFalsely : Prop := pdurSetsRow.holds Try.pinned (OpenSpec.ofChange pdurSetsWrong)

/-- 'campanilelaw24.PdurPaths': WHATEVER THE INPUT: true; the input reads as it did. -/
def pdurPathsSpec : ChangeSpec := { name := "pdurPaths", fn := fun _ => fun
  | [d1, d2] => { results := [.lit (.bool true)], args := [d1, d2] }
  | _ => none }
def pdurPathsRow : OpenClaim := { program := "ythfkoejjpfhcdaa", sum := "54b1583c42eab3a04bb4243f267cb9b19a95bd26acb917ce5d2b18d60c54cd80", func := "campanile/campanilelaw24.PdurPaths", spec := "pdurPaths", unfollowed := true, recurses := true, plainKeys := false, apart := false }
def PdurPathsSaid : Prop := pdurPathsRow.holds Try.pinned (OpenSpec.ofChange pdurPathsSpec)

/-- ITS FALSE NEIGHBOUR: 'it returns false'. Refute it at one input. -/
def pdurPathsWrong : ChangeSpec := { name := "pdurPaths", fn := fun _ => fun
  | [d1, d2] => { results := [.lit (.bool false)], args := [d1, d2] }
  | _ => none }
def PdurPathsWrongFalsely : Prop := pdurPathsRow.holds Try.pinned (OpenSpec.ofChange pdurPathsWrong)

/- THE SECOND FORM. 'bulk': how many values and letters a reading holds, each counted each time it is reached (what is shared counts as often as it is met; a slice's spare places count too). A statement '..UptoSaid' is the law's where the arguments, and the package variables that the reading takes, are together of bulk at most 1048576: NARROWER than '..Said'. Prove '..Said' where nothing that the law and all that it calls make is longer than what came in: it says more and counts as full. Else prove '..UptoSaid'. A law counts once. -/
mutual
def uptoBulk {H : Type} : DataW H → Nat
  | .lit (.string bytes) => bytes.length + 1
  | .lit _ => 1
  | .nil => 1
  | .ptr d => uptoBulk d + 1
  | .slice elems spare => uptoBulkAll elems + uptoBulkAll spare + 1
  | .agg parts => uptoBulkAll parts + 1
  | .iface _ d => uptoBulk d + 1
  | .map entries => uptoBulkEntries entries + 1
  | .held _ => 1
def uptoBulkAll {H : Type} : List (DataW H) → Nat
  | [] => 0
  | d :: r => uptoBulk d + uptoBulkAll r
def uptoBulkEntries {H : Type} : List (Lit × DataW H) → Nat
  | [] => 0
  | x :: r => uptoBulkEntry x + uptoBulkEntries r
def uptoBulkEntry {H : Type} : Lit × DataW H → Nat
  | (.string bytes, d) => bytes.length + uptoBulk d + 1
  | (_, d) => uptoBulk d + 1
 end
def uptoSmall : (H : Type) → List (DataW H) → Bool := fun _ ds => decide (uptoBulkAll ds ≤ 1048576)
def OpenSpec.upto (s : _root_.Go.ChangeSpec) : _root_.Go.OpenSpec := { _root_.Go.OpenSpec.ofChange s with cond := some uptoSmall }

/-- 'campanilelaw24.PdurSets', WHERE WHAT IT READS IS OF BULK AT MOST 1048576: true; the input reads as it did. -/
def pdurSetsUptoRow : OpenClaim := { program := "ythfkoejjpfhcdaa", sum := "54b1583c42eab3a04bb4243f267cb9b19a95bd26acb917ce5d2b18d60c54cd80", func := "campanile/campanilelaw24.PdurSets", spec := "pdurSets", unfollowed := true, recurses := true, plainKeys := false, apart := false, narrowed := true }
def PdurSetsUptoSaid : Prop := pdurSetsUptoRow.holds Try.pinned (OpenSpec.upto pdurSetsSpec)

/-- 'campanilelaw24.PdurPaths', WHERE WHAT IT READS IS OF BULK AT MOST 1048576: true; the input reads as it did. -/
def pdurPathsUptoRow : OpenClaim := { program := "ythfkoejjpfhcdaa", sum := "54b1583c42eab3a04bb4243f267cb9b19a95bd26acb917ce5d2b18d60c54cd80", func := "campanile/campanilelaw24.PdurPaths", spec := "pdurPaths", unfollowed := true, recurses := true, plainKeys := false, apart := false, narrowed := true }
def PdurPathsUptoSaid : Prop := pdurPathsUptoRow.holds Try.pinned (OpenSpec.upto pdurPathsSpec)

end Rows
end Go.Proofs.Ythfkoejjpfhcdaa
