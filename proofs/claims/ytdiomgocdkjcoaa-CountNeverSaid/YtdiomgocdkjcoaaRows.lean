/-
  No cell of these rows narrows 'for every input' (looked for: loops, veiled, ifaces, maps, wideKeys, modest, calm, conditions, laid).
  DERIVED. THE GIVEN ROWS OF THIS SEAT. 3 by the template 'for every input the law returns true; each argument reads behind the call as it read before'; 0 by the template 'total and deterministic' (their statements: YtdiomgocdkjcoaaTotals.lean).
  GIVEN WITH THE SEED: the statements are not yours to turn. If you find one false, say at which input.
  Laid BY PROGRAM, IN A SANDBOX (cutbox-rows.mjs): the forced cells as the released guide's own fill.sh prints them over the translation 8172122a98e06710… (all of the seat's roots in one cut). By AI agents, Wed Nov 11 2026. No macro, syntax, notation, axiom, sorry.
-/
import Derived.Test.YtdiomgocdkjcoaaChecked
import GoSem.Claim
import GoSem.ClaimJoined
import GoSem.ClaimMapViews
import Derived.JoinedTies
import Derived.KernelRfl
namespace Go.Proofs.Ytdiomgocdkjcoaa
/- THE CELL 'sum', in the pinned program and in every row, IS THE sha256 OF THE DUMP (.gsa) THAT YtdiomgocdkjcoaaProg.lean LOADS. Nothing in Lean hashes anything: it is a label: what it is worth is what the hold of that sum in a sandbox is worth. -/
noncomputable def Try.pinned : Pinned := { name := "ytdiomgocdkjcoaa", sum := "8172122a98e06710e11f1f89d58177c4f78f715a6c4989e04f95d03c9795b914", checked := Try.checked }
namespace Rows
def none {H : Type} : Left H := { results := [], args := [] }

/-- 'campanilelaw06.CountTurns': WHATEVER THE INPUT: true; the input reads as it did. -/
def countTurnsSpec : ChangeSpec := { name := "countTurns", fn := fun _ => fun
  | [d] => { results := [.lit (.bool true)], args := [d] }
  | _ => none }
def countTurnsRow : OpenClaim := { program := "ytdiomgocdkjcoaa", sum := "8172122a98e06710e11f1f89d58177c4f78f715a6c4989e04f95d03c9795b914", func := "campanile/campanilelaw06.CountTurns", spec := "countTurns", unfollowed := true, recurses := true, apart := false }
def CountTurnsSaid : Prop := countTurnsRow.holds Try.pinned (OpenSpec.ofChange countTurnsSpec)

/-- ITS FALSE NEIGHBOUR: 'it returns false'. Refute it at one input. -/
def countTurnsWrong : ChangeSpec := { name := "countTurns", fn := fun _ => fun
  | [d] => { results := [.lit (.bool false)], args := [d] }
  | _ => none }
def CountTurnsWrongFalsely : Prop := countTurnsRow.holds Try.pinned (OpenSpec.ofChange countTurnsWrong)

/-- 'campanilelaw06.CountOff': WHATEVER THE INPUT: true; the input reads as it did. -/
def countOffSpec : ChangeSpec := { name := "countOff", fn := fun _ => fun
  | [d1, d2] => { results := [.lit (.bool true)], args := [d1, d2] }
  | _ => none }
def countOffRow : OpenClaim := { program := "ytdiomgocdkjcoaa", sum := "8172122a98e06710e11f1f89d58177c4f78f715a6c4989e04f95d03c9795b914", func := "campanile/campanilelaw06.CountOff", spec := "countOff", unfollowed := true, recurses := true, apart := false }
def CountOffSaid : Prop := countOffRow.holds Try.pinned (OpenSpec.ofChange countOffSpec)

/-- ITS FALSE NEIGHBOUR: 'it returns false'. Refute it at one input. -/
def countOffWrong : ChangeSpec := { name := "countOff", fn := fun _ => fun
  | [d1, d2] => { results := [.lit (.bool false)], args := [d1, d2] }
  | _ => none }
def CountOffWrongFalsely : Prop := countOffRow.holds Try.pinned (OpenSpec.ofChange countOffWrong)

/-- 'campanilelaw06.CountNever': WHATEVER THE INPUT: true; the input reads as it did. -/
def countNeverSpec : ChangeSpec := { name := "countNever", fn := fun _ => fun
  | [d1, d2] => { results := [.lit (.bool true)], args := [d1, d2] }
  | _ => none }
def countNeverRow : OpenClaim := { program := "ytdiomgocdkjcoaa", sum := "8172122a98e06710e11f1f89d58177c4f78f715a6c4989e04f95d03c9795b914", func := "campanile/campanilelaw06.CountNever", spec := "countNever", unfollowed := true, recurses := true, apart := false }
def CountNeverSaid : Prop := countNeverRow.holds Try.pinned (OpenSpec.ofChange countNeverSpec)

/-- ITS FALSE NEIGHBOUR: 'it returns false'. Refute it at one input. -/
def countNeverWrong : ChangeSpec := { name := "countNever", fn := fun _ => fun
  | [d1, d2] => { results := [.lit (.bool false)], args := [d1, d2] }
  | _ => none }
def CountNeverWrongFalsely : Prop := countNeverRow.holds Try.pinned (OpenSpec.ofChange countNeverWrong)

/- THE SECOND FORM. 'bulk': how many values and letters a reading holds, each counted each time it is reached (what is shared counts as often as it is met; a slice's spare places count too). A statement '..UptoSaid' is the law's where the arguments, and the package variables that the reading takes, are together of bulk at most 1048576: NARROWER than '..Said'. Prove '..Said' where nothing that the law and all that it calls make is longer than what came in: it says more and counts as full. Else prove '..UptoSaid'. A law counts once. -/
mutual
def uptoBulk {H : Type} : DataW H → Nat
  | .lit (.string bytes) => bytes.length + 1
  | .lit _ => 1
  | .nil => 1
  | .ptr d => uptoBulk d + 1
  | .slice elems spare => uptoBulkAll elems + uptoBulkAll spare + 1
  | .agg parts => uptoBulkAll parts + 1
  | .iface _ d => uptoBulk d + 1
  | .map entries => uptoBulkEntries entries + 1
  | .held _ => 1
def uptoBulkAll {H : Type} : List (DataW H) → Nat
  | [] => 0
  | d :: r => uptoBulk d + uptoBulkAll r
def uptoBulkEntries {H : Type} : List (Lit × DataW H) → Nat
  | [] => 0
  | x :: r => uptoBulkEntry x + uptoBulkEntries r
def uptoBulkEntry {H : Type} : Lit × DataW H → Nat
  | (.string bytes, d) => bytes.length + uptoBulk d + 1
  | (_, d) => uptoBulk d + 1
 end
def uptoSmall : (H : Type) → List (DataW H) → Bool := fun _ ds => decide (uptoBulkAll ds ≤ 1048576)
def OpenSpec.upto (s : _root_.Go.ChangeSpec) : _root_.Go.OpenSpec := { _root_.Go.OpenSpec.ofChange s with cond := some uptoSmall }

/-- 'campanilelaw06.CountTurns', WHERE WHAT IT READS IS OF BULK AT MOST 1048576: true; the input reads as it did. -/
def countTurnsUptoRow : OpenClaim := { program := "ytdiomgocdkjcoaa", sum := "8172122a98e06710e11f1f89d58177c4f78f715a6c4989e04f95d03c9795b914", func := "campanile/campanilelaw06.CountTurns", spec := "countTurns", unfollowed := true, recurses := true, apart := false, narrowed := true }
def CountTurnsUptoSaid : Prop := countTurnsUptoRow.holds Try.pinned (OpenSpec.upto countTurnsSpec)

/-- 'campanilelaw06.CountOff', WHERE WHAT IT READS IS OF BULK AT MOST 1048576: true; the input reads as it did. -/
def countOffUptoRow : OpenClaim := { program := "ytdiomgocdkjcoaa", sum := "8172122a98e06710e11f1f89d58177c4f78f715a6c4989e04f95d03c9795b914", func := "campanile/campanilelaw06.CountOff", spec := "countOff", unfollowed := true, recurses := true, apart := false, narrowed := true }
def CountOffUptoSaid : Prop := countOffUptoRow.holds Try.pinned (OpenSpec.upto countOffSpec)

/-- 'campanilelaw06.CountNever', WHERE WHAT IT READS IS OF BULK AT MOST 1048576: true; the input reads as it did. -/
def countNeverUptoRow : OpenClaim := { program := "ytdiomgocdkjcoaa", sum := "8172122a98e06710e11f1f89d58177c4f78f715a6c4989e04f95d03c9795b914", func := "campanile/campanilelaw06.CountNever", spec := "countNever", unfollowed := true, recurses := true, apart := false, narrowed := true }
def CountNeverUptoSaid : Prop := countNeverUptoRow.holds Try.pinned (OpenSpec.upto countNeverSpec)

end Rows
end Go.Proofs.Ytdiomgocdkjcoaa
