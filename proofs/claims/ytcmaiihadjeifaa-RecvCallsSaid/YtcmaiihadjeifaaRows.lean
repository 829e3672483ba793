/-
  No cell of these rows narrows 'for every input' (looked for: loops, veiled, ifaces, maps, wideKeys, modest, calm, conditions, laid).
  DERIVED. THE GIVEN ROWS OF THIS SEAT. 3 by the template 'for every input the law returns true; each argument reads behind the call as it read before'; 0 by the template 'total and deterministic' (their statements: YtcmaiihadjeifaaTotals.lean).
  GIVEN WITH THE SEED: the statements are not yours to turn. If you find one false, say at which input.
  Laid BY PROGRAM, IN A SANDBOX (cutbox-rows.mjs): the forced cells as the released guide's own fill.sh prints them over the translation 6272734b35db466b… (all of the seat's roots in one cut). By AI agents, Wed Nov 11 2026. No macro, syntax, notation, axiom, sorry.
-/
import Derived.Test.YtcmaiihadjeifaaChecked
import GoSem.Claim
import GoSem.ClaimJoined
import GoSem.ClaimMapViews
import Derived.JoinedTies
import Derived.KernelRfl
namespace Go.Proofs.Ytcmaiihadjeifaa
/- THE CELL 'sum', in the pinned program and in every row, IS THE sha256 OF THE DUMP (.gsa) THAT YtcmaiihadjeifaaProg.lean LOADS. Nothing in Lean hashes anything: it is a label: what it is worth is what the hold of that sum in a sandbox is worth. -/
noncomputable def Try.pinned : Pinned := { name := "ytcmaiihadjeifaa", sum := "6272734b35db466bebe376903e41256efe55d114141465d96d5445a74c1bd557", checked := Try.checked }
namespace Rows
def none {H : Type} : Left H := { results := [], args := [] }

/-- 'campanilelaw19.RecvCalls': WHATEVER THE INPUT: true; the input reads as it did. -/
def recvCallsSpec : ChangeSpec := { name := "recvCalls", fn := fun _ => fun
  | [d1, d2, d3] => { results := [.lit (.bool true)], args := [d1, d2, d3] }
  | _ => none }
def recvCallsRow : OpenClaim := { program := "ytcmaiihadjeifaa", sum := "6272734b35db466bebe376903e41256efe55d114141465d96d5445a74c1bd557", func := "campanile/campanilelaw19.RecvCalls", spec := "recvCalls", unfollowed := true, recurses := true, apart := false }
def RecvCallsSaid : Prop := recvCallsRow.holds Try.pinned (OpenSpec.ofChange recvCallsSpec)

/-- ITS FALSE NEIGHBOUR: 'it returns false'. Refute it at one input. -/
def recvCallsWrong : ChangeSpec := { name := "recvCalls", fn := fun _ => fun
  | [d1, d2, d3] => { results := [.lit (.bool false)], args := [d1, d2, d3] }
  | _ => none }
def RecvCallsWrongFalsely : Prop := recvCallsRow.holds Try.pinned (OpenSpec.ofChange recvCallsWrong)

/-- 'campanilelaw19.RecvLate': WHATEVER THE INPUT: true; the input reads as it did. -/
def recvLateSpec : ChangeSpec := { name := "recvLate", fn := fun _ => fun
  | [d1, d2, d3] => { results := [.lit (.bool true)], args := [d1, d2, d3] }
  | _ => none }
def recvLateRow : OpenClaim := { program := "ytcmaiihadjeifaa", sum := "6272734b35db466bebe376903e41256efe55d114141465d96d5445a74c1bd557", func := "campanile/campanilelaw19.RecvLate", spec := "recvLate", unfollowed := true, recurses := true, apart := false }
def RecvLateSaid : Prop := recvLateRow.holds Try.pinned (OpenSpec.ofChange recvLateSpec)

/-- ITS FALSE NEIGHBOUR: 'it returns false'. Refute it at one input. -/
def recvLateWrong : ChangeSpec := { name := "recvLate", fn := fun _ => fun
  | [d1, d2, d3] => { results := [.lit (.bool false)], args := [d1, d2, d3] }
  | _ => none }
def RecvLateWrongFalsely : Prop := recvLateRow.holds Try.pinned (OpenSpec.ofChange recvLateWrong)

/-- 'campanilelaw19.RecvStops': WHATEVER THE INPUT: true; the input reads as it did. -/
def recvStopsSpec : ChangeSpec := { name := "recvStops", fn := fun _ => fun
  | [d1, d2, d3, d4] => { results := [.lit (.bool true)], args := [d1, d2, d3, d4] }
  | _ => none }
def recvStopsRow : OpenClaim := { program := "ytcmaiihadjeifaa", sum := "6272734b35db466bebe376903e41256efe55d114141465d96d5445a74c1bd557", func := "campanile/campanilelaw19.RecvStops", spec := "recvStops", unfollowed := true, recurses := true, apart := false }
def RecvStopsSaid : Prop := recvStopsRow.holds Try.pinned (OpenSpec.ofChange recvStopsSpec)

/-- ITS FALSE NEIGHBOUR: 'it returns false'. Refute it at one input. -/
def recvStopsWrong : ChangeSpec := { name := "recvStops", fn := fun _ => fun
  | [d1, d2, d3, d4] => { results := [.lit (.bool false)], args := [d1, d2, d3, d4] }
  | _ => none }
def RecvStopsWrongFalsely : Prop := recvStopsRow.holds Try.pinned (OpenSpec.ofChange recvStopsWrong)

/- THE SECOND FORM. 'bulk': how many values and letters a reading holds, each counted each time it is reached (what is shared counts as often as it is met; a slice's spare places count too). A statement '..UptoSaid' is the law's where the arguments, and the package variables that the reading takes, are together of bulk at most 1048576: NARROWER than '..Said'. Prove '..Said' where nothing that the law and all that it calls make is longer than what came in: it says more and counts as full. Else prove '..UptoSaid'. A law counts once. -/
mutual
def uptoBulk {H : Type} : DataW H → Nat
  | .lit (.string bytes) => bytes.length + 1
  | .lit _ => 1
  | .nil => 1
  | .ptr d => uptoBulk d + 1
  | .slice elems spare => uptoBulkAll elems + uptoBulkAll spare + 1
  | .agg parts => uptoBulkAll parts + 1
  | .iface _ d => uptoBulk d + 1
  | .map entries => uptoBulkEntries entries + 1
  | .held _ => 1
def uptoBulkAll {H : Type} : List (DataW H) → Nat
  | [] => 0
  | d :: r => uptoBulk d + uptoBulkAll r
def uptoBulkEntries {H : Type} : List (Lit × DataW H) → Nat
  | [] => 0
  | x :: r => uptoBulkEntry x + uptoBulkEntries r
def uptoBulkEntry {H : Type} : Lit × DataW H → Nat
  | (.string bytes, d) => bytes.length + uptoBulk d + 1
  | (_, d) => uptoBulk d + 1
 end
def uptoSmall : (H : Type) → List (DataW H) → Bool := fun _ ds => decide (uptoBulkAll ds ≤ 1048576)
def OpenSpec.upto (s : _root_.Go.ChangeSpec) : _root_.Go.OpenSpec := { _root_.Go.OpenSpec.ofChange s with cond := some uptoSmall }

/-- 'campanilelaw19.RecvCalls', WHERE WHAT IT READS IS OF BULK AT MOST 1048576: true; the input reads as it did. -/
def recvCallsUptoRow : OpenClaim := { program := "ytcmaiihadjeifaa", sum := "6272734b35db466bebe376903e41256efe55d114141465d96d5445a74c1bd557", func := "campanile/campanilelaw19.RecvCalls", spec := "recvCalls", unfollowed := true, recurses := true, apart := false, narrowed := true }
def RecvCallsUptoSaid : Prop := recvCallsUptoRow.holds Try.pinned (OpenSpec.upto recvCallsSpec)

/-- 'campanilelaw19.RecvLate', WHERE WHAT IT READS IS OF BULK AT MOST 1048576: true; the input reads as it did. -/
def recvLateUptoRow : OpenClaim := { program := "ytcmaiihadjeifaa", sum := "6272734b35db466bebe376903e41256efe55d114141465d96d5445a74c1bd557", func := "campanile/campanilelaw19.RecvLate", spec := "recvLate", unfollowed := true, recurses := true, apart := false, narrowed := true }
def RecvLateUptoSaid : Prop := recvLateUptoRow.holds Try.pinned (OpenSpec.upto recvLateSpec)

/-- 'campanilelaw19.RecvStops', WHERE WHAT IT READS IS OF BULK AT MOST 1048576: true; the input reads as it did. -/
def recvStopsUptoRow : OpenClaim := { program := "ytcmaiihadjeifaa", sum := "6272734b35db466bebe376903e41256efe55d114141465d96d5445a74c1bd557", func := "campanile/campanilelaw19.RecvStops", spec := "recvStops", unfollowed := true, recurses := true, apart := false, narrowed := true }
def RecvStopsUptoSaid : Prop := recvStopsUptoRow.holds Try.pinned (OpenSpec.upto recvStopsSpec)

end Rows
end Go.Proofs.Ytcmaiihadjeifaa
