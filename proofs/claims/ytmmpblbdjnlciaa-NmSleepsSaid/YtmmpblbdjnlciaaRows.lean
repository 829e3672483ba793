/-
  No cell of these rows narrows 'for every input' (looked for: loops, veiled, ifaces, maps, wideKeys, modest, calm, conditions, laid).
  DERIVED. THE GIVEN ROWS OF THIS SEAT. 3 by the template 'for every input the law returns true; each argument reads behind the call as it read before'; 0 by the template 'total and deterministic' (their statements: YtmmpblbdjnlciaaTotals.lean).
  GIVEN WITH THE SEED: the statements are not yours to turn. If you find one false, say at which input.
  Laid BY PROGRAM, IN A SANDBOX (cutbox-rows.mjs): the forced cells as the released guide's own fill.sh prints them over the translation 8d70f28b5593d11d… (all of the seat's roots in one cut). By AI agents, Wed Nov 11 2026. No macro, syntax, notation, axiom, sorry.
-/
import Derived.Test.YtmmpblbdjnlciaaChecked
import GoSem.Claim
import GoSem.ClaimJoined
import GoSem.ClaimMapViews
import Derived.JoinedTies
import Derived.KernelRfl
namespace Go.Proofs.Ytmmpblbdjnlciaa
/- THE CELL 'sum', in the pinned program and in every row, IS THE sha256 OF THE DUMP (.gsa) THAT YtmmpblbdjnlciaaProg.lean LOADS. Nothing in Lean hashes anything: it is a label: what it is worth is what the hold of that sum in a sandbox is worth. -/
noncomputable def Try.pinned : Pinned := { name := "ytmmpblbdjnlciaa", sum := "8d70f28b5593d11d15416c7f9634174340a25e722e5a99cd90f55d5f757e7d29", checked := Try.checked }
namespace Rows
def none {H : Type} : Left H := { results := [], args := [] }

/-- 'campanilelaw26.NmSends': WHATEVER THE INPUT: true; the input reads as it did. -/
def nmSendsSpec : ChangeSpec := { name := "nmSends", fn := fun _ => fun
  | [d1, d2, d3, d4, d5, d6] => { results := [.lit (.bool true)], args := [d1, d2, d3, d4, d5, d6] }
  | _ => none }
def nmSendsRow : OpenClaim := { program := "ytmmpblbdjnlciaa", sum := "8d70f28b5593d11d15416c7f9634174340a25e722e5a99cd90f55d5f757e7d29", func := "campanile/campanilelaw26.NmSends", spec := "nmSends", unfollowed := true, recurses := true, apart := false }
def NmSendsSaid : Prop := nmSendsRow.holds Try.pinned (OpenSpec.ofChange nmSendsSpec)

/-- ITS FALSE NEIGHBOUR: 'it returns false'. Refute it at one input. -/
def nmSendsWrong : ChangeSpec := { name := "nmSends", fn := fun _ => fun
  | [d1, d2, d3, d4, d5, d6] => { results := [.lit (.bool false)], args := [d1, d2, d3, d4, d5, d6] }
  | _ => none }
def NmSendsWrongFalsely : Prop := nmSendsRow.holds Try.pinned (OpenSpec.ofChange nmSendsWrong)

/-- 'campanilelaw26.NmHears': WHATEVER THE INPUT: true; the input reads as it did. -/
def nmHearsSpec : ChangeSpec := { name := "nmHears", fn := fun _ => fun
  | [d1, d2, d3, d4, d5] => { results := [.lit (.bool true)], args := [d1, d2, d3, d4, d5] }
  | _ => none }
def nmHearsRow : OpenClaim := { program := "ytmmpblbdjnlciaa", sum := "8d70f28b5593d11d15416c7f9634174340a25e722e5a99cd90f55d5f757e7d29", func := "campanile/campanilelaw26.NmHears", spec := "nmHears", unfollowed := true, recurses := true, apart := false }
def NmHearsSaid : Prop := nmHearsRow.holds Try.pinned (OpenSpec.ofChange nmHearsSpec)

/-- ITS FALSE NEIGHBOUR: 'it returns false'. Refute it at one input. -/
def nmHearsWrong : ChangeSpec := { name := "nmHears", fn := fun _ => fun
  | [d1, d2, d3, d4, d5] => { results := [.lit (.bool false)], args := [d1, d2, d3, d4, d5] }
  | _ => none }
def NmHearsWrongFalsely : Prop := nmHearsRow.holds Try.pinned (OpenSpec.ofChange nmHearsWrong)

/-- 'campanilelaw26.NmSleeps': WHATEVER THE INPUT: true; the input reads as it did. -/
def nmSleepsSpec : ChangeSpec := { name := "nmSleeps", fn := fun _ => fun
  | [d1, d2, d3, d4, d5] => { results := [.lit (.bool true)], args := [d1, d2, d3, d4, d5] }
  | _ => none }
def nmSleepsRow : OpenClaim := { program := "ytmmpblbdjnlciaa", sum := "8d70f28b5593d11d15416c7f9634174340a25e722e5a99cd90f55d5f757e7d29", func := "campanile/campanilelaw26.NmSleeps", spec := "nmSleeps", unfollowed := true, recurses := true, apart := false }
def NmSleepsSaid : Prop := nmSleepsRow.holds Try.pinned (OpenSpec.ofChange nmSleepsSpec)

/-- ITS FALSE NEIGHBOUR: 'it returns false'. Refute it at one input. -/
def nmSleepsWrong : ChangeSpec := { name := "nmSleeps", fn := fun _ => fun
  | [d1, d2, d3, d4, d5] => { results := [.lit (.bool false)], args := [d1, d2, d3, d4, d5] }
  | _ => none }
def NmSleepsWrongFalsely : Prop := nmSleepsRow.holds Try.pinned (OpenSpec.ofChange nmSleepsWrong)

/- THE SECOND FORM. 'bulk': how many values and letters a reading holds, each counted each time it is reached (what is shared counts as often as it is met; a slice's spare places count too). A statement '..UptoSaid' is the law's where the arguments, and the package variables that the reading takes, are together of bulk at most 1048576: NARROWER than '..Said'. Prove '..Said' where nothing that the law and all that it calls make is longer than what came in: it says more and counts as full. Else prove '..UptoSaid'. A law counts once. -/
mutual
def uptoBulk {H : Type} : DataW H → Nat
  | .lit (.string bytes) => bytes.length + 1
  | .lit _ => 1
  | .nil => 1
  | .ptr d => uptoBulk d + 1
  | .slice elems spare => uptoBulkAll elems + uptoBulkAll spare + 1
  | .agg parts => uptoBulkAll parts + 1
  | .iface _ d => uptoBulk d + 1
  | .map entries => uptoBulkEntries entries + 1
  | .held _ => 1
def uptoBulkAll {H : Type} : List (DataW H) → Nat
  | [] => 0
  | d :: r => uptoBulk d + uptoBulkAll r
def uptoBulkEntries {H : Type} : List (Lit × DataW H) → Nat
  | [] => 0
  | x :: r => uptoBulkEntry x + uptoBulkEntries r
def uptoBulkEntry {H : Type} : Lit × DataW H → Nat
  | (.string bytes, d) => bytes.length + uptoBulk d + 1
  | (_, d) => uptoBulk d + 1
 end
def uptoSmall : (H : Type) → List (DataW H) → Bool := fun _ ds => decide (uptoBulkAll ds ≤ 1048576)
def OpenSpec.upto (s : _root_.Go.ChangeSpec) : _root_.Go.OpenSpec := { _root_.Go.OpenSpec.ofChange s with cond := some uptoSmall }

/-- 'campanilelaw26.NmSends', WHERE WHAT IT READS IS OF BULK AT MOST 1048576: true; the input reads as it did. -/
def nmSendsUptoRow : OpenClaim := { program := "ytmmpblbdjnlciaa", sum := "8d70f28b5593d11d15416c7f9634174340a25e722e5a99cd90f55d5f757e7d29", func := "campanile/campanilelaw26.NmSends", spec := "nmSends", unfollowed := true, recurses := true, apart := false, narrowed := true }
def NmSendsUptoSaid : Prop := nmSendsUptoRow.holds Try.pinned (OpenSpec.upto nmSendsSpec)

/-- 'campanilelaw26.NmHears', WHERE WHAT IT READS IS OF BULK AT MOST 1048576: true; the input reads as it did. -/
def nmHearsUptoRow : OpenClaim := { program := "ytmmpblbdjnlciaa", sum := "8d70f28b5593d11d15416c7f9634174340a25e722e5a99cd90f55d5f757e7d29", func := "campanile/campanilelaw26.NmHears", spec := "nmHears", unfollowed := true, recurses := true, apart := false, narrowed := true }
def NmHearsUptoSaid : Prop := nmHearsUptoRow.holds Try.pinned (OpenSpec.upto nmHearsSpec)

/-- 'campanilelaw26.NmSleeps', WHERE WHAT IT READS IS OF BULK AT MOST 1048576: true; the input reads as it did. -/
def nmSleepsUptoRow : OpenClaim := { program := "ytmmpblbdjnlciaa", sum := "8d70f28b5593d11d15416c7f9634174340a25e722e5a99cd90f55d5f757e7d29", func := "campanile/campanilelaw26.NmSleeps", spec := "nmSleeps", unfollowed := true, recurses := true, apart := false, narrowed := true }
def NmSleepsUptoSaid : Prop := nmSleepsUptoRow.holds Try.pinned (OpenSpec.upto nmSleepsSpec)

end Rows
end Go.Proofs.Ytmmpblbdjnlciaa
