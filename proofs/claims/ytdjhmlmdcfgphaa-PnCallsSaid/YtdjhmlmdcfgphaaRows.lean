/-
  No cell of these rows narrows 'for every input' (looked for: loops, veiled, ifaces, maps, wideKeys, modest, calm, conditions, laid).
  DERIVED. THE GIVEN ROWS OF THIS SEAT. 4 by the template 'for every input the law returns true; each argument reads behind the call as it read before'; 0 by the template 'total and deterministic' (their statements: YtdjhmlmdcfgphaaTotals.lean).
  GIVEN WITH THE SEED: the statements are not yours to turn. If you find one false, say at which input.
  Laid BY PROGRAM, IN A SANDBOX (cutbox-rows.mjs): the forced cells as the released guide's own fill.sh prints them over the translation 36d73bd9fddd57c2… (all of the seat's roots in one cut). By AI agents, Wed Nov 11 2026. No macro, syntax, notation, axiom, sorry.
-/
import Derived.Test.YtdjhmlmdcfgphaaChecked
import GoSem.Claim
import GoSem.ClaimJoined
import GoSem.ClaimMapViews
import Derived.JoinedTies
import Derived.KernelRfl
namespace Go.Proofs.Ytdjhmlmdcfgphaa
/- THE CELL 'sum', in the pinned program and in every row, IS THE sha256 OF THE DUMP (.gsa) THAT YtdjhmlmdcfgphaaProg.lean LOADS. Nothing in Lean hashes anything: it is a label: what it is worth is what the hold of that sum in a sandbox is worth. -/
noncomputable def Try.pinned : Pinned := { name := "ytdjhmlmdcfgphaa", sum := "36d73bd9fddd57c2939b360877c49b723c6d0d538905e4e09be304bf5ba6906a", checked := Try.checked }
namespace Rows
def none {H : Type} : Left H := { results := [], args := [] }

/-- 'campanilelaw25.PnActive': WHATEVER THE INPUT: true; the input reads as it did. -/
def pnActiveSpec : ChangeSpec := { name := "pnActive", fn := fun _ => fun
  | [d1, d2, d3] => { results := [.lit (.bool true)], args := [d1, d2, d3] }
  | _ => none }
def pnActiveRow : OpenClaim := { program := "ytdjhmlmdcfgphaa", sum := "36d73bd9fddd57c2939b360877c49b723c6d0d538905e4e09be304bf5ba6906a", func := "campanile/campanilelaw25.PnActive", spec := "pnActive", apart := false }
def PnActiveSaid : Prop := pnActiveRow.holds Try.pinned (OpenSpec.ofChange pnActiveSpec)

/-- ITS FALSE NEIGHBOUR: 'it returns false'. Refute it at one input. -/
def pnActiveWrong : ChangeSpec := { name := "pnActive", fn := fun _ => fun
  | [d1, d2, d3] => { results := [.lit (.bool false)], args := [d1, d2, d3] }
  | _ => none }
def PnActiveWrongFalsely : Prop := pnActiveRow.holds Try.pinned (OpenSpec.ofChange pnActiveWrong)

/-- 'campanilelaw25.PnNone': WHATEVER THE INPUT: true; the input reads as it did. -/
def pnNoneSpec : ChangeSpec := { name := "pnNone", fn := fun _ => fun
  | [d1, d2, d3] => { results := [.lit (.bool true)], args := [d1, d2, d3] }
  | _ => none }
def pnNoneRow : OpenClaim := { program := "ytdjhmlmdcfgphaa", sum := "36d73bd9fddd57c2939b360877c49b723c6d0d538905e4e09be304bf5ba6906a", func := "campanile/campanilelaw25.PnNone", spec := "pnNone", apart := false }
def PnNoneSaid : Prop := pnNoneRow.holds Try.pinned (OpenSpec.ofChange pnNoneSpec)

/-- ITS FALSE NEIGHBOUR: 'it returns false'. Refute it at one input. -/
def pnNoneWrong : ChangeSpec := { name := "pnNone", fn := fun _ => fun
  | [d1, d2, d3] => { results := [.lit (.bool false)], args := [d1, d2, d3] }
  | _ => none }
def PnNoneWrongFalsely : Prop := pnNoneRow.holds Try.pinned (OpenSpec.ofChange pnNoneWrong)

/-- 'campanilelaw25.PnTells': WHATEVER THE INPUT: true; the input reads as it did. -/
def pnTellsSpec : ChangeSpec := { name := "pnTells", fn := fun _ => fun
  | [d1, d2, d3, d4, d5] => { results := [.lit (.bool true)], args := [d1, d2, d3, d4, d5] }
  | _ => none }
def pnTellsRow : OpenClaim := { program := "ytdjhmlmdcfgphaa", sum := "36d73bd9fddd57c2939b360877c49b723c6d0d538905e4e09be304bf5ba6906a", func := "campanile/campanilelaw25.PnTells", spec := "pnTells", apart := false }
def PnTellsSaid : Prop := pnTellsRow.holds Try.pinned (OpenSpec.ofChange pnTellsSpec)

/-- ITS FALSE NEIGHBOUR: 'it returns false'. Refute it at one input. -/
def pnTellsWrong : ChangeSpec := { name := "pnTells", fn := fun _ => fun
  | [d1, d2, d3, d4, d5] => { results := [.lit (.bool false)], args := [d1, d2, d3, d4, d5] }
  | _ => none }
def PnTellsWrongFalsely : Prop := pnTellsRow.holds Try.pinned (OpenSpec.ofChange pnTellsWrong)

/-- 'campanilelaw25.PnCalls': WHATEVER THE INPUT: true; the input reads as it did. -/
def pnCallsSpec : ChangeSpec := { name := "pnCalls", fn := fun _ => fun
  | [d1, d2, d3, d4, d5, d6, d7] => { results := [.lit (.bool true)], args := [d1, d2, d3, d4, d5, d6, d7] }
  | _ => none }
def pnCallsRow : OpenClaim := { program := "ytdjhmlmdcfgphaa", sum := "36d73bd9fddd57c2939b360877c49b723c6d0d538905e4e09be304bf5ba6906a", func := "campanile/campanilelaw25.PnCalls", spec := "pnCalls", apart := false }
def PnCallsSaid : Prop := pnCallsRow.holds Try.pinned (OpenSpec.ofChange pnCallsSpec)

/-- ITS FALSE NEIGHBOUR: 'it returns false'. Refute it at one input. -/
def pnCallsWrong : ChangeSpec := { name := "pnCalls", fn := fun _ => fun
  | [d1, d2, d3, d4, d5, d6, d7] => { results := [.lit (.bool false)], args := [d1, d2, d3, d4, d5, d6, d7] }
  | _ => none }
def PnCallsWrongFalsely : Prop := pnCallsRow.holds Try.pinned (OpenSpec.ofChange pnCallsWrong)

/- THE SECOND FORM. 'bulk': how many values and letters a reading holds, each counted each time it is reached (what is shared counts as often as it is met; a slice's spare places count too). A statement '..UptoSaid' is the law's where the arguments, and the package variables that the reading takes, are together of bulk at most 1048576: NARROWER than '..Said'. Prove '..Said' where nothing that the law and all that it calls make is longer than what came in: it says more and counts as full. Else prove '..UptoSaid'. A law counts once. -/
mutual
def uptoBulk {H : Type} : DataW H → Nat
  | .lit (.string bytes) => bytes.length + 1
  | .lit _ => 1
  | .nil => 1
  | .ptr d => uptoBulk d + 1
  | .slice elems spare => uptoBulkAll elems + uptoBulkAll spare + 1
  | .agg parts => uptoBulkAll parts + 1
  | .iface _ d => uptoBulk d + 1
  | .map entries => uptoBulkEntries entries + 1
  | .held _ => 1
def uptoBulkAll {H : Type} : List (DataW H) → Nat
  | [] => 0
  | d :: r => uptoBulk d + uptoBulkAll r
def uptoBulkEntries {H : Type} : List (Lit × DataW H) → Nat
  | [] => 0
  | x :: r => uptoBulkEntry x + uptoBulkEntries r
def uptoBulkEntry {H : Type} : Lit × DataW H → Nat
  | (.string bytes, d) => bytes.length + uptoBulk d + 1
  | (_, d) => uptoBulk d + 1
 end
def uptoSmall : (H : Type) → List (DataW H) → Bool := fun _ ds => decide (uptoBulkAll ds ≤ 1048576)
def OpenSpec.upto (s : _root_.Go.ChangeSpec) : _root_.Go.OpenSpec := { _root_.Go.OpenSpec.ofChange s with cond := some uptoSmall }

/-- 'campanilelaw25.PnActive', WHERE WHAT IT READS IS OF BULK AT MOST 1048576: true; the input reads as it did. -/
def pnActiveUptoRow : OpenClaim := { program := "ytdjhmlmdcfgphaa", sum := "36d73bd9fddd57c2939b360877c49b723c6d0d538905e4e09be304bf5ba6906a", func := "campanile/campanilelaw25.PnActive", spec := "pnActive", apart := false, narrowed := true }
def PnActiveUptoSaid : Prop := pnActiveUptoRow.holds Try.pinned (OpenSpec.upto pnActiveSpec)

/-- 'campanilelaw25.PnNone', WHERE WHAT IT READS IS OF BULK AT MOST 1048576: true; the input reads as it did. -/
def pnNoneUptoRow : OpenClaim := { program := "ytdjhmlmdcfgphaa", sum := "36d73bd9fddd57c2939b360877c49b723c6d0d538905e4e09be304bf5ba6906a", func := "campanile/campanilelaw25.PnNone", spec := "pnNone", apart := false, narrowed := true }
def PnNoneUptoSaid : Prop := pnNoneUptoRow.holds Try.pinned (OpenSpec.upto pnNoneSpec)

/-- 'campanilelaw25.PnTells', WHERE WHAT IT READS IS OF BULK AT MOST 1048576: true; the input reads as it did. -/
def pnTellsUptoRow : OpenClaim := { program := "ytdjhmlmdcfgphaa", sum := "36d73bd9fddd57c2939b360877c49b723c6d0d538905e4e09be304bf5ba6906a", func := "campanile/campanilelaw25.PnTells", spec := "pnTells", apart := false, narrowed := true }
def PnTellsUptoSaid : Prop := pnTellsUptoRow.holds Try.pinned (OpenSpec.upto pnTellsSpec)

/-- 'campanilelaw25.PnCalls', WHERE WHAT IT READS IS OF BULK AT MOST 1048576: true; the input reads as it did. -/
def pnCallsUptoRow : OpenClaim := { program := "ytdjhmlmdcfgphaa", sum := "36d73bd9fddd57c2939b360877c49b723c6d0d538905e4e09be304bf5ba6906a", func := "campanile/campanilelaw25.PnCalls", spec := "pnCalls", apart := false, narrowed := true }
def PnCallsUptoSaid : Prop := pnCallsUptoRow.holds Try.pinned (OpenSpec.upto pnCallsSpec)

end Rows
end Go.Proofs.Ytdjhmlmdcfgphaa
