/-
  No cell of these rows narrows 'for every input' (looked for: loops, veiled, ifaces, maps, wideKeys, modest, calm, conditions, laid).
  DERIVED. THE GIVEN ROWS OF THIS SEAT. 5 by the template 'for every input the law returns true; each argument reads behind the call as it read before'; 0 by the template 'total and deterministic' (their statements: YtjhfeeacdickbaaTotals.lean).
  GIVEN WITH THE SEED: the statements are not yours to turn. If you find one false, say at which input.
  Laid BY PROGRAM, IN A SANDBOX (cutbox-rows.mjs): the forced cells as the released guide's own fill.sh prints them over the translation c56d883f29c00021… (all of the seat's roots in one cut). By AI agents, Wed Nov 11 2026. No macro, syntax, notation, axiom, sorry.
-/
import Derived.Test.YtjhfeeacdickbaaChecked
import GoSem.Claim
import GoSem.ClaimJoined
import GoSem.ClaimMapViews
import Derived.JoinedTies
import Derived.KernelRfl
namespace Go.Proofs.Ytjhfeeacdickbaa
/- THE CELL 'sum', in the pinned program and in every row, IS THE sha256 OF THE DUMP (.gsa) THAT YtjhfeeacdickbaaProg.lean LOADS. Nothing in Lean hashes anything: it is a label: what it is worth is what the hold of that sum in a sandbox is worth. -/
noncomputable def Try.pinned : Pinned := { name := "ytjhfeeacdickbaa", sum := "c56d883f29c000215be7842a9433cf7b6b40440d4f390a1be16eb6a6915bfc00", checked := Try.checked }
namespace Rows
def none {H : Type} : Left H := { results := [], args := [] }

/-- 'campanilelaw11.TrcvBits': WHATEVER THE INPUT: true; the input reads as it did. -/
def trcvBitsSpec : ChangeSpec := { name := "trcvBits", fn := fun _ => fun
  | [d1, d2, d3] => { results := [.lit (.bool true)], args := [d1, d2, d3] }
  | _ => none }
def trcvBitsRow : OpenClaim := { program := "ytjhfeeacdickbaa", sum := "c56d883f29c000215be7842a9433cf7b6b40440d4f390a1be16eb6a6915bfc00", func := "campanile/campanilelaw11.TrcvBits", spec := "trcvBits", unfollowed := true, recurses := true, apart := false }
def TrcvBitsSaid : Prop := trcvBitsRow.holds Try.pinned (OpenSpec.ofChange trcvBitsSpec)

/-- ITS FALSE NEIGHBOUR: 'it returns false'. Refute it at one input. -/
def trcvBitsWrong : ChangeSpec := { name := "trcvBits", fn := fun _ => fun
  | [d1, d2, d3] => { results := [.lit (.bool false)], args := [d1, d2, d3] }
  | _ => none }
def TrcvBitsWrongFalsely : Prop := trcvBitsRow.holds Try.pinned (OpenSpec.ofChange trcvBitsWrong)

/-- 'campanilelaw11.TrcvCounts': WHATEVER THE INPUT: true; the input reads as it did. -/
def trcvCountsSpec : ChangeSpec := { name := "trcvCounts", fn := fun _ => fun
  | [d1, d2] => { results := [.lit (.bool true)], args := [d1, d2] }
  | _ => none }
def trcvCountsRow : OpenClaim := { program := "ytjhfeeacdickbaa", sum := "c56d883f29c000215be7842a9433cf7b6b40440d4f390a1be16eb6a6915bfc00", func := "campanile/campanilelaw11.TrcvCounts", spec := "trcvCounts", unfollowed := true, recurses := true, apart := false }
def TrcvCountsSaid : Prop := trcvCountsRow.holds Try.pinned (OpenSpec.ofChange trcvCountsSpec)

/-- ITS FALSE NEIGHBOUR: 'it returns false'. Refute it at one input. -/
def trcvCountsWrong : ChangeSpec := { name := "trcvCounts", fn := fun _ => fun
  | [d1, d2] => { results := [.lit (.bool false)], args := [d1, d2] }
  | _ => none }
def TrcvCountsWrongFalsely : Prop := trcvCountsRow.holds Try.pinned (OpenSpec.ofChange trcvCountsWrong)

/-- 'campanilelaw11.TrcvSleeps': WHATEVER THE INPUT: true; the input reads as it did. -/
def trcvSleepsSpec : ChangeSpec := { name := "trcvSleeps", fn := fun _ => fun
  | [d1, d2] => { results := [.lit (.bool true)], args := [d1, d2] }
  | _ => none }
def trcvSleepsRow : OpenClaim := { program := "ytjhfeeacdickbaa", sum := "c56d883f29c000215be7842a9433cf7b6b40440d4f390a1be16eb6a6915bfc00", func := "campanile/campanilelaw11.TrcvSleeps", spec := "trcvSleeps", unfollowed := true, recurses := true, apart := false }
def TrcvSleepsSaid : Prop := trcvSleepsRow.holds Try.pinned (OpenSpec.ofChange trcvSleepsSpec)

/-- ITS FALSE NEIGHBOUR: 'it returns false'. Refute it at one input. -/
def trcvSleepsWrong : ChangeSpec := { name := "trcvSleeps", fn := fun _ => fun
  | [d1, d2] => { results := [.lit (.bool false)], args := [d1, d2] }
  | _ => none }
def TrcvSleepsWrongFalsely : Prop := trcvSleepsRow.holds Try.pinned (OpenSpec.ofChange trcvSleepsWrong)

/-- 'campanilelaw11.TrcvModes': WHATEVER THE INPUT: true; the input reads as it did. -/
def trcvModesSpec : ChangeSpec := { name := "trcvModes", fn := fun _ => fun
  | [d1, d2, d3, d4] => { results := [.lit (.bool true)], args := [d1, d2, d3, d4] }
  | _ => none }
def trcvModesRow : OpenClaim := { program := "ytjhfeeacdickbaa", sum := "c56d883f29c000215be7842a9433cf7b6b40440d4f390a1be16eb6a6915bfc00", func := "campanile/campanilelaw11.TrcvModes", spec := "trcvModes", unfollowed := true, recurses := true, apart := false }
def TrcvModesSaid : Prop := trcvModesRow.holds Try.pinned (OpenSpec.ofChange trcvModesSpec)

/-- ITS FALSE NEIGHBOUR: 'it returns false'. Refute it at one input. -/
def trcvModesWrong : ChangeSpec := { name := "trcvModes", fn := fun _ => fun
  | [d1, d2, d3, d4] => { results := [.lit (.bool false)], args := [d1, d2, d3, d4] }
  | _ => none }
def TrcvModesWrongFalsely : Prop := trcvModesRow.holds Try.pinned (OpenSpec.ofChange trcvModesWrong)

/-- 'campanilelaw11.TrcvCalls': WHATEVER THE INPUT: true; the input reads as it did. -/
def trcvCallsSpec : ChangeSpec := { name := "trcvCalls", fn := fun _ => fun
  | [d1, d2, d3, d4] => { results := [.lit (.bool true)], args := [d1, d2, d3, d4] }
  | _ => none }
def trcvCallsRow : OpenClaim := { program := "ytjhfeeacdickbaa", sum := "c56d883f29c000215be7842a9433cf7b6b40440d4f390a1be16eb6a6915bfc00", func := "campanile/campanilelaw11.TrcvCalls", spec := "trcvCalls", unfollowed := true, recurses := true, apart := false }
def TrcvCallsSaid : Prop := trcvCallsRow.holds Try.pinned (OpenSpec.ofChange trcvCallsSpec)

/-- ITS FALSE NEIGHBOUR: 'it returns false'. Refute it at one input. -/
def trcvCallsWrong : ChangeSpec := { name := "trcvCalls", fn := fun _ => fun
  | [d1, d2, d3, d4] => { results := [.lit (.bool false)], args := [d1, d2, d3, d4] }
  | _ => none }
def TrcvCallsWrongFalsely : Prop := trcvCallsRow.holds Try.pinned (OpenSpec.ofChange trcvCallsWrong)

/- THE SECOND FORM. 'bulk': how many values and letters a reading holds, each counted each time it is reached (what is shared counts as often as it is met; a slice's spare places count too). A statement '..UptoSaid' is the law's where the arguments, and the package variables that the reading takes, are together of bulk at most 1048576: NARROWER than '..Said'. Prove '..Said' where nothing that the law and all that it calls make is longer than what came in: it says more and counts as full. Else prove '..UptoSaid'. A law counts once. -/
mutual
def uptoBulk {H : Type} : DataW H → Nat
  | .lit (.string bytes) => bytes.length + 1
  | .lit _ => 1
  | .nil => 1
  | .ptr d => uptoBulk d + 1
  | .slice elems spare => uptoBulkAll elems + uptoBulkAll spare + 1
  | .agg parts => uptoBulkAll parts + 1
  | .iface _ d => uptoBulk d + 1
  | .map entries => uptoBulkEntries entries + 1
  | .held _ => 1
def uptoBulkAll {H : Type} : List (DataW H) → Nat
  | [] => 0
  | d :: r => uptoBulk d + uptoBulkAll r
def uptoBulkEntries {H : Type} : List (Lit × DataW H) → Nat
  | [] => 0
  | x :: r => uptoBulkEntry x + uptoBulkEntries r
def uptoBulkEntry {H : Type} : Lit × DataW H → Nat
  | (.string bytes, d) => bytes.length + uptoBulk d + 1
  | (_, d) => uptoBulk d + 1
 end
def uptoSmall : (H : Type) → List (DataW H) → Bool := fun _ ds => decide (uptoBulkAll ds ≤ 1048576)
def OpenSpec.upto (s : _root_.Go.ChangeSpec) : _root_.Go.OpenSpec := { _root_.Go.OpenSpec.ofChange s with cond := some uptoSmall }

/-- 'campanilelaw11.TrcvBits', WHERE WHAT IT READS IS OF BULK AT MOST 1048576: true; the input reads as it did. -/
def trcvBitsUptoRow : OpenClaim := { program := "ytjhfeeacdickbaa", sum := "c56d883f29c000215be7842a9433cf7b6b40440d4f390a1be16eb6a6915bfc00", func := "campanile/campanilelaw11.TrcvBits", spec := "trcvBits", unfollowed := true, recurses := true, apart := false, narrowed := true }
def TrcvBitsUptoSaid : Prop := trcvBitsUptoRow.holds Try.pinned (OpenSpec.upto trcvBitsSpec)

/-- 'campanilelaw11.TrcvCounts', WHERE WHAT IT READS IS OF BULK AT MOST 1048576: true; the input reads as it did. -/
def trcvCountsUptoRow : OpenClaim := { program := "ytjhfeeacdickbaa", sum := "c56d883f29c000215be7842a9433cf7b6b40440d4f390a1be16eb6a6915bfc00", func := "campanile/campanilelaw11.TrcvCounts", spec := "trcvCounts", unfollowed := true, recurses := true, apart := false, narrowed := true }
def TrcvCountsUptoSaid : Prop := trcvCountsUptoRow.holds Try.pinned (OpenSpec.upto trcvCountsSpec)

/-- 'campanilelaw11.TrcvSleeps', WHERE WHAT IT READS IS OF BULK AT MOST 1048576: true; the input reads as it did. -/
def trcvSleepsUptoRow : OpenClaim := { program := "ytjhfeeacdickbaa", sum := "c56d883f29c000215be7842a9433cf7b6b40440d4f390a1be16eb6a6915bfc00", func := "campanile/campanilelaw11.TrcvSleeps", spec := "trcvSleeps", unfollowed := true, recurses := true, apart := false, narrowed := true }
def TrcvSleepsUptoSaid : Prop := trcvSleepsUptoRow.holds Try.pinned (OpenSpec.upto trcvSleepsSpec)

/-- 'campanilelaw11.TrcvModes', WHERE WHAT IT READS IS OF BULK AT MOST 1048576: true; the input reads as it did. -/
def trcvModesUptoRow : OpenClaim := { program := "ytjhfeeacdickbaa", sum := "c56d883f29c000215be7842a9433cf7b6b40440d4f390a1be16eb6a6915bfc00", func := "campanile/campanilelaw11.TrcvModes", spec := "trcvModes", unfollowed := true, recurses := true, apart := false, narrowed := true }
def TrcvModesUptoSaid : Prop := trcvModesUptoRow.holds Try.pinned (OpenSpec.upto trcvModesSpec)

/-- 'campanilelaw11.TrcvCalls', WHERE WHAT IT READS IS OF BULK AT MOST 1048576: true; the input reads as it did. -/
def trcvCallsUptoRow : OpenClaim := { program := "ytjhfeeacdickbaa", sum := "c56d883f29c000215be7842a9433cf7b6b40440d4f390a1be16eb6a6915bfc00", func := "campanile/campanilelaw11.TrcvCalls", spec := "trcvCalls", unfollowed := true, recurses := true, apart := false, narrowed := true }
def TrcvCallsUptoSaid : Prop := trcvCallsUptoRow.holds Try.pinned (OpenSpec.upto trcvCallsSpec)

end Rows
end Go.Proofs.Ytjhfeeacdickbaa
