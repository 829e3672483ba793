/-
  No cell of these rows narrows 'for every input' (looked for: loops, veiled, ifaces, maps, wideKeys, modest, calm, conditions, laid).
  DERIVED. THE GIVEN ROWS OF THIS SEAT. 4 by the template 'for every input the law returns true; each argument reads behind the call as it read before'; 0 by the template 'total and deterministic' (their statements: YtaiejjfikdpccaaTotals.lean).
  GIVEN WITH THE SEED: the statements are not yours to turn. If you find one false, say at which input.
  Laid BY PROGRAM, IN A SANDBOX (cutbox-rows.mjs): the forced cells as the released guide's own fill.sh prints them over the translation 0e2c37b7ffd5d8de… (all of the seat's roots in one cut). By AI agents, Wed Nov 11 2026. No macro, syntax, notation, axiom, sorry.
-/
import Derived.Test.YtaiejjfikdpccaaChecked
import GoSem.Claim
import GoSem.ClaimJoined
import GoSem.ClaimMapViews
import Derived.JoinedTies
import Derived.KernelRfl
namespace Go.Proofs.Ytaiejjfikdpccaa
/- THE CELL 'sum', in the pinned program and in every row, IS THE sha256 OF THE DUMP (.gsa) THAT YtaiejjfikdpccaaProg.lean LOADS. Nothing in Lean hashes anything: it is a label: what it is worth is what the hold of that sum in a sandbox is worth. -/
noncomputable def Try.pinned : Pinned := { name := "ytaiejjfikdpccaa", sum := "0e2c37b7ffd5d8de569783bc191cd4340c3412b07650eefccc1a76eadb7c0232", checked := Try.checked }
namespace Rows
def none {H : Type} : Left H := { results := [], args := [] }

/-- 'campanilelaw18.SendCuts': WHATEVER THE INPUT: true; the input reads as it did. -/
def sendCutsSpec : ChangeSpec := { name := "sendCuts", fn := fun _ => fun
  | [d1, d2, d3] => { results := [.lit (.bool true)], args := [d1, d2, d3] }
  | _ => none }
def sendCutsRow : OpenClaim := { program := "ytaiejjfikdpccaa", sum := "0e2c37b7ffd5d8de569783bc191cd4340c3412b07650eefccc1a76eadb7c0232", func := "campanile/campanilelaw18.SendCuts", spec := "sendCuts", unfollowed := true, recurses := true, apart := false }
def SendCutsSaid : Prop := sendCutsRow.holds Try.pinned (OpenSpec.ofChange sendCutsSpec)

/-- ITS FALSE NEIGHBOUR: 'it returns false'. Refute it at one input. -/
def sendCutsWrong : ChangeSpec := { name := "sendCuts", fn := fun _ => fun
  | [d1, d2, d3] => { results := [.lit (.bool false)], args := [d1, d2, d3] }
  | _ => none }
def SendCutsWrongFalsely : Prop := sendCutsRow.holds Try.pinned (OpenSpec.ofChange sendCutsWrong)

/-- 'campanilelaw18.SendSwitched': WHATEVER THE INPUT: true; the input reads as it did. -/
def sendSwitchedSpec : ChangeSpec := { name := "sendSwitched", fn := fun _ => fun
  | [d1, d2, d3] => { results := [.lit (.bool true)], args := [d1, d2, d3] }
  | _ => none }
def sendSwitchedRow : OpenClaim := { program := "ytaiejjfikdpccaa", sum := "0e2c37b7ffd5d8de569783bc191cd4340c3412b07650eefccc1a76eadb7c0232", func := "campanile/campanilelaw18.SendSwitched", spec := "sendSwitched", unfollowed := true, recurses := true, apart := false }
def SendSwitchedSaid : Prop := sendSwitchedRow.holds Try.pinned (OpenSpec.ofChange sendSwitchedSpec)

/-- ITS FALSE NEIGHBOUR: 'it returns false'. Refute it at one input. -/
def sendSwitchedWrong : ChangeSpec := { name := "sendSwitched", fn := fun _ => fun
  | [d1, d2, d3] => { results := [.lit (.bool false)], args := [d1, d2, d3] }
  | _ => none }
def SendSwitchedWrongFalsely : Prop := sendSwitchedRow.holds Try.pinned (OpenSpec.ofChange sendSwitchedWrong)

/-- 'campanilelaw18.SendPeriods': WHATEVER THE INPUT: true; the input reads as it did. -/
def sendPeriodsSpec : ChangeSpec := { name := "sendPeriods", fn := fun _ => fun
  | [d1, d2, d3, d4] => { results := [.lit (.bool true)], args := [d1, d2, d3, d4] }
  | _ => none }
def sendPeriodsRow : OpenClaim := { program := "ytaiejjfikdpccaa", sum := "0e2c37b7ffd5d8de569783bc191cd4340c3412b07650eefccc1a76eadb7c0232", func := "campanile/campanilelaw18.SendPeriods", spec := "sendPeriods", unfollowed := true, recurses := true, apart := false }
def SendPeriodsSaid : Prop := sendPeriodsRow.holds Try.pinned (OpenSpec.ofChange sendPeriodsSpec)

/-- ITS FALSE NEIGHBOUR: 'it returns false'. Refute it at one input. -/
def sendPeriodsWrong : ChangeSpec := { name := "sendPeriods", fn := fun _ => fun
  | [d1, d2, d3, d4] => { results := [.lit (.bool false)], args := [d1, d2, d3, d4] }
  | _ => none }
def SendPeriodsWrongFalsely : Prop := sendPeriodsRow.holds Try.pinned (OpenSpec.ofChange sendPeriodsWrong)

/-- 'campanilelaw18.SendApart': WHATEVER THE INPUT: true; the input reads as it did. -/
def sendApartSpec : ChangeSpec := { name := "sendApart", fn := fun _ => fun
  | [d1, d2, d3, d4] => { results := [.lit (.bool true)], args := [d1, d2, d3, d4] }
  | _ => none }
def sendApartRow : OpenClaim := { program := "ytaiejjfikdpccaa", sum := "0e2c37b7ffd5d8de569783bc191cd4340c3412b07650eefccc1a76eadb7c0232", func := "campanile/campanilelaw18.SendApart", spec := "sendApart", unfollowed := true, recurses := true, apart := false }
def SendApartSaid : Prop := sendApartRow.holds Try.pinned (OpenSpec.ofChange sendApartSpec)

/-- ITS FALSE NEIGHBOUR: 'it returns false'. Refute it at one input. -/
def sendApartWrong : ChangeSpec := { name := "sendApart", fn := fun _ => fun
  | [d1, d2, d3, d4] => { results := [.lit (.bool false)], args := [d1, d2, d3, d4] }
  | _ => none }
def SendApartWrongFalsely : Prop := sendApartRow.holds Try.pinned (OpenSpec.ofChange sendApartWrong)

/- THE SECOND FORM. 'bulk': how many values and letters a reading holds, each counted each time it is reached (what is shared counts as often as it is met; a slice's spare places count too). A statement '..UptoSaid' is the law's where the arguments, and the package variables that the reading takes, are together of bulk at most 1048576: NARROWER than '..Said'. Prove '..Said' where nothing that the law and all that it calls make is longer than what came in: it says more and counts as full. Else prove '..UptoSaid'. A law counts once. -/
mutual
def uptoBulk {H : Type} : DataW H → Nat
  | .lit (.string bytes) => bytes.length + 1
  | .lit _ => 1
  | .nil => 1
  | .ptr d => uptoBulk d + 1
  | .slice elems spare => uptoBulkAll elems + uptoBulkAll spare + 1
  | .agg parts => uptoBulkAll parts + 1
  | .iface _ d => uptoBulk d + 1
  | .map entries => uptoBulkEntries entries + 1
  | .held _ => 1
def uptoBulkAll {H : Type} : List (DataW H) → Nat
  | [] => 0
  | d :: r => uptoBulk d + uptoBulkAll r
def uptoBulkEntries {H : Type} : List (Lit × DataW H) → Nat
  | [] => 0
  | x :: r => uptoBulkEntry x + uptoBulkEntries r
def uptoBulkEntry {H : Type} : Lit × DataW H → Nat
  | (.string bytes, d) => bytes.length + uptoBulk d + 1
  | (_, d) => uptoBulk d + 1
 end
def uptoSmall : (H : Type) → List (DataW H) → Bool := fun _ ds => decide (uptoBulkAll ds ≤ 1048576)
def OpenSpec.upto (s : _root_.Go.ChangeSpec) : _root_.Go.OpenSpec := { _root_.Go.OpenSpec.ofChange s with cond := some uptoSmall }

/-- 'campanilelaw18.SendCuts', WHERE WHAT IT READS IS OF BULK AT MOST 1048576: true; the input reads as it did. -/
def sendCutsUptoRow : OpenClaim := { program := "ytaiejjfikdpccaa", sum := "0e2c37b7ffd5d8de569783bc191cd4340c3412b07650eefccc1a76eadb7c0232", func := "campanile/campanilelaw18.SendCuts", spec := "sendCuts", unfollowed := true, recurses := true, apart := false, narrowed := true }
def SendCutsUptoSaid : Prop := sendCutsUptoRow.holds Try.pinned (OpenSpec.upto sendCutsSpec)

/-- 'campanilelaw18.SendSwitched', WHERE WHAT IT READS IS OF BULK AT MOST 1048576: true; the input reads as it did. -/
def sendSwitchedUptoRow : OpenClaim := { program := "ytaiejjfikdpccaa", sum := "0e2c37b7ffd5d8de569783bc191cd4340c3412b07650eefccc1a76eadb7c0232", func := "campanile/campanilelaw18.SendSwitched", spec := "sendSwitched", unfollowed := true, recurses := true, apart := false, narrowed := true }
def SendSwitchedUptoSaid : Prop := sendSwitchedUptoRow.holds Try.pinned (OpenSpec.upto sendSwitchedSpec)

/-- 'campanilelaw18.SendPeriods', WHERE WHAT IT READS IS OF BULK AT MOST 1048576: true; the input reads as it did. -/
def sendPeriodsUptoRow : OpenClaim := { program := "ytaiejjfikdpccaa", sum := "0e2c37b7ffd5d8de569783bc191cd4340c3412b07650eefccc1a76eadb7c0232", func := "campanile/campanilelaw18.SendPeriods", spec := "sendPeriods", unfollowed := true, recurses := true, apart := false, narrowed := true }
def SendPeriodsUptoSaid : Prop := sendPeriodsUptoRow.holds Try.pinned (OpenSpec.upto sendPeriodsSpec)

/-- 'campanilelaw18.SendApart', WHERE WHAT IT READS IS OF BULK AT MOST 1048576: true; the input reads as it did. -/
def sendApartUptoRow : OpenClaim := { program := "ytaiejjfikdpccaa", sum := "0e2c37b7ffd5d8de569783bc191cd4340c3412b07650eefccc1a76eadb7c0232", func := "campanile/campanilelaw18.SendApart", spec := "sendApart", unfollowed := true, recurses := true, apart := false, narrowed := true }
def SendApartUptoSaid : Prop := sendApartUptoRow.holds Try.pinned (OpenSpec.upto sendApartSpec)

end Rows
end Go.Proofs.Ytaiejjfikdpccaa
