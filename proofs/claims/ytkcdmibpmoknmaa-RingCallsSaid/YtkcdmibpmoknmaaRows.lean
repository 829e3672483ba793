/-
  No cell of these rows narrows 'for every input' (looked for: loops, veiled, ifaces, maps, wideKeys, modest, calm, conditions, laid).
  DERIVED. THE GIVEN ROWS OF THIS SEAT. 4 by the template 'for every input the law returns true; each argument reads behind the call as it read before'; 0 by the template 'total and deterministic' (their statements: YtkcdmibpmoknmaaTotals.lean).
  GIVEN WITH THE SEED: the statements are not yours to turn. If you find one false, say at which input.
  Laid BY PROGRAM, IN A SANDBOX (cutbox-rows.mjs): the forced cells as the released guide's own fill.sh prints them over the translation b4644ecc07e10f63… (all of the seat's roots in one cut). By AI agents, Wed Nov 11 2026. No macro, syntax, notation, axiom, sorry.
-/
import Derived.Test.YtkcdmibpmoknmaaChecked
import GoSem.Claim
import GoSem.ClaimJoined
import GoSem.ClaimMapViews
import Derived.JoinedTies
import Derived.KernelRfl
namespace Go.Proofs.Ytkcdmibpmoknmaa
/- THE CELL 'sum', in the pinned program and in every row, IS THE sha256 OF THE DUMP (.gsa) THAT YtkcdmibpmoknmaaProg.lean LOADS. Nothing in Lean hashes anything: it is a label: what it is worth is what the hold of that sum in a sandbox is worth. -/
noncomputable def Try.pinned : Pinned := { name := "ytkcdmibpmoknmaa", sum := "b4644ecc07e10f6346b8c6ea1d4157d35f7d43d31707dabbe7f688cf070416f0", checked := Try.checked }
namespace Rows
def none {H : Type} : Left H := { results := [], args := [] }

/-- 'campanilelaw12.RingOrder': WHATEVER THE INPUT: true; the input reads as it did. -/
def ringOrderSpec : ChangeSpec := { name := "ringOrder", fn := fun _ => fun
  | [d1, d2, d3] => { results := [.lit (.bool true)], args := [d1, d2, d3] }
  | _ => none }
def ringOrderRow : OpenClaim := { program := "ytkcdmibpmoknmaa", sum := "b4644ecc07e10f6346b8c6ea1d4157d35f7d43d31707dabbe7f688cf070416f0", func := "campanile/campanilelaw12.RingOrder", spec := "ringOrder", apart := false }
def RingOrderSaid : Prop := ringOrderRow.holds Try.pinned (OpenSpec.ofChange ringOrderSpec)

/-- ITS FALSE NEIGHBOUR: 'it returns false'. Refute it at one input. -/
def ringOrderWrong : ChangeSpec := { name := "ringOrder", fn := fun _ => fun
  | [d1, d2, d3] => { results := [.lit (.bool false)], args := [d1, d2, d3] }
  | _ => none }
def RingOrderWrongFalsely : Prop := ringOrderRow.holds Try.pinned (OpenSpec.ofChange ringOrderWrong)

/-- 'campanilelaw12.RingRoom': WHATEVER THE INPUT: true; the input reads as it did. -/
def ringRoomSpec : ChangeSpec := { name := "ringRoom", fn := fun _ => fun
  | [d1, d2] => { results := [.lit (.bool true)], args := [d1, d2] }
  | _ => none }
def ringRoomRow : OpenClaim := { program := "ytkcdmibpmoknmaa", sum := "b4644ecc07e10f6346b8c6ea1d4157d35f7d43d31707dabbe7f688cf070416f0", func := "campanile/campanilelaw12.RingRoom", spec := "ringRoom", apart := false }
def RingRoomSaid : Prop := ringRoomRow.holds Try.pinned (OpenSpec.ofChange ringRoomSpec)

/-- ITS FALSE NEIGHBOUR: 'it returns false'. Refute it at one input. -/
def ringRoomWrong : ChangeSpec := { name := "ringRoom", fn := fun _ => fun
  | [d1, d2] => { results := [.lit (.bool false)], args := [d1, d2] }
  | _ => none }
def RingRoomWrongFalsely : Prop := ringRoomRow.holds Try.pinned (OpenSpec.ofChange ringRoomWrong)

/-- 'campanilelaw12.RingCalls': WHATEVER THE INPUT: true; the input reads as it did. -/
def ringCallsSpec : ChangeSpec := { name := "ringCalls", fn := fun _ => fun
  | [d1, d2, d3] => { results := [.lit (.bool true)], args := [d1, d2, d3] }
  | _ => none }
def ringCallsRow : OpenClaim := { program := "ytkcdmibpmoknmaa", sum := "b4644ecc07e10f6346b8c6ea1d4157d35f7d43d31707dabbe7f688cf070416f0", func := "campanile/campanilelaw12.RingCalls", spec := "ringCalls", unfollowed := true, recurses := true, apart := false }
def RingCallsSaid : Prop := ringCallsRow.holds Try.pinned (OpenSpec.ofChange ringCallsSpec)

/-- ITS FALSE NEIGHBOUR: 'it returns false'. Refute it at one input. -/
def ringCallsWrong : ChangeSpec := { name := "ringCalls", fn := fun _ => fun
  | [d1, d2, d3] => { results := [.lit (.bool false)], args := [d1, d2, d3] }
  | _ => none }
def RingCallsWrongFalsely : Prop := ringCallsRow.holds Try.pinned (OpenSpec.ofChange ringCallsWrong)

/-- 'campanilelaw12.RingKinds': WHATEVER THE INPUT: true; the input reads as it did. -/
def ringKindsSpec : ChangeSpec := { name := "ringKinds", fn := fun _ => fun
  | [d1, d2, d3] => { results := [.lit (.bool true)], args := [d1, d2, d3] }
  | _ => none }
def ringKindsRow : OpenClaim := { program := "ytkcdmibpmoknmaa", sum := "b4644ecc07e10f6346b8c6ea1d4157d35f7d43d31707dabbe7f688cf070416f0", func := "campanile/campanilelaw12.RingKinds", spec := "ringKinds", unfollowed := true, recurses := true, apart := false }
def RingKindsSaid : Prop := ringKindsRow.holds Try.pinned (OpenSpec.ofChange ringKindsSpec)

/-- ITS FALSE NEIGHBOUR: 'it returns false'. Refute it at one input. -/
def ringKindsWrong : ChangeSpec := { name := "ringKinds", fn := fun _ => fun
  | [d1, d2, d3] => { results := [.lit (.bool false)], args := [d1, d2, d3] }
  | _ => none }
def RingKindsWrongFalsely : Prop := ringKindsRow.holds Try.pinned (OpenSpec.ofChange ringKindsWrong)

/- THE SECOND FORM. 'bulk': how many values and letters a reading holds, each counted each time it is reached (what is shared counts as often as it is met; a slice's spare places count too). A statement '..UptoSaid' is the law's where the arguments, and the package variables that the reading takes, are together of bulk at most 1048576: NARROWER than '..Said'. Prove '..Said' where nothing that the law and all that it calls make is longer than what came in: it says more and counts as full. Else prove '..UptoSaid'. A law counts once. -/
mutual
def uptoBulk {H : Type} : DataW H → Nat
  | .lit (.string bytes) => bytes.length + 1
  | .lit _ => 1
  | .nil => 1
  | .ptr d => uptoBulk d + 1
  | .slice elems spare => uptoBulkAll elems + uptoBulkAll spare + 1
  | .agg parts => uptoBulkAll parts + 1
  | .iface _ d => uptoBulk d + 1
  | .map entries => uptoBulkEntries entries + 1
  | .held _ => 1
def uptoBulkAll {H : Type} : List (DataW H) → Nat
  | [] => 0
  | d :: r => uptoBulk d + uptoBulkAll r
def uptoBulkEntries {H : Type} : List (Lit × DataW H) → Nat
  | [] => 0
  | x :: r => uptoBulkEntry x + uptoBulkEntries r
def uptoBulkEntry {H : Type} : Lit × DataW H → Nat
  | (.string bytes, d) => bytes.length + uptoBulk d + 1
  | (_, d) => uptoBulk d + 1
 end
def uptoSmall : (H : Type) → List (DataW H) → Bool := fun _ ds => decide (uptoBulkAll ds ≤ 1048576)
def OpenSpec.upto (s : _root_.Go.ChangeSpec) : _root_.Go.OpenSpec := { _root_.Go.OpenSpec.ofChange s with cond := some uptoSmall }

/-- 'campanilelaw12.RingOrder', WHERE WHAT IT READS IS OF BULK AT MOST 1048576: true; the input reads as it did. -/
def ringOrderUptoRow : OpenClaim := { program := "ytkcdmibpmoknmaa", sum := "b4644ecc07e10f6346b8c6ea1d4157d35f7d43d31707dabbe7f688cf070416f0", func := "campanile/campanilelaw12.RingOrder", spec := "ringOrder", apart := false, narrowed := true }
def RingOrderUptoSaid : Prop := ringOrderUptoRow.holds Try.pinned (OpenSpec.upto ringOrderSpec)

/-- 'campanilelaw12.RingRoom', WHERE WHAT IT READS IS OF BULK AT MOST 1048576: true; the input reads as it did. -/
def ringRoomUptoRow : OpenClaim := { program := "ytkcdmibpmoknmaa", sum := "b4644ecc07e10f6346b8c6ea1d4157d35f7d43d31707dabbe7f688cf070416f0", func := "campanile/campanilelaw12.RingRoom", spec := "ringRoom", apart := false, narrowed := true }
def RingRoomUptoSaid : Prop := ringRoomUptoRow.holds Try.pinned (OpenSpec.upto ringRoomSpec)

/-- 'campanilelaw12.RingCalls', WHERE WHAT IT READS IS OF BULK AT MOST 1048576: true; the input reads as it did. -/
def ringCallsUptoRow : OpenClaim := { program := "ytkcdmibpmoknmaa", sum := "b4644ecc07e10f6346b8c6ea1d4157d35f7d43d31707dabbe7f688cf070416f0", func := "campanile/campanilelaw12.RingCalls", spec := "ringCalls", unfollowed := true, recurses := true, apart := false, narrowed := true }
def RingCallsUptoSaid : Prop := ringCallsUptoRow.holds Try.pinned (OpenSpec.upto ringCallsSpec)

/-- 'campanilelaw12.RingKinds', WHERE WHAT IT READS IS OF BULK AT MOST 1048576: true; the input reads as it did. -/
def ringKindsUptoRow : OpenClaim := { program := "ytkcdmibpmoknmaa", sum := "b4644ecc07e10f6346b8c6ea1d4157d35f7d43d31707dabbe7f688cf070416f0", func := "campanile/campanilelaw12.RingKinds", spec := "ringKinds", unfollowed := true, recurses := true, apart := false, narrowed := true }
def RingKindsUptoSaid : Prop := ringKindsUptoRow.holds Try.pinned (OpenSpec.upto ringKindsSpec)

end Rows
end Go.Proofs.Ytkcdmibpmoknmaa
