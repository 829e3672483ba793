/-
  NARROWER THAN 'FOR EVERY INPUT', by the rows' own cells (each row's printed sentence says how): StuffSteps: laid · StuffRows: laid · StuffBack: laid · StuffCuts: laid · StuffOne: laid · StuffSix: laid.
  DERIVED. THE GIVEN ROWS OF THIS SEAT. 6 by the template 'for every input the law returns true; each argument reads behind the call as it read before'; 0 by the template 'total and deterministic' (their statements: YtmcjfnbohogbdaaDoorTotals.lean).
  GIVEN WITH THE SEED: the statements are not yours to turn. If you find one false, say at which input.
  Laid BY PROGRAM, IN A SANDBOX (cutbox-rows.mjs): the forced cells as the released guide's own fill.sh prints them over the translation 18703bf093524250… (all of the seat's roots in one cut). By AI agents, Wed Nov 11 2026. No macro, syntax, notation, axiom, sorry.
-/
import Derived.Test.YtmcjfnbohogbdaaDoorChecked
import GoSem.PinnedTables
import GoSem.Claim
import GoSem.ClaimJoined
import GoSem.ClaimMapViews
import Derived.JoinedTies
import Derived.KernelRfl
namespace Go.Proofs.YtmcjfnbohogbdaaDoor
/- THE CELL 'sum', in the pinned program and in every row, IS THE sha256 OF THE DUMP (.gsa) THAT YtmcjfnbohogbdaaDoorProg.lean LOADS. Nothing in Lean hashes anything: it is a label: what it is worth is what the hold of that sum in a sandbox is worth. -/
noncomputable def Tryd.pinned : Pinned := { name := "ytmcjfnbohogbdaadoor", sum := "18703bf093524250a971787c6d5865bf9a28145a7874d13fe79fc1e29970bf03", checked := Tryd.checked }
namespace Rows
def none {H : Type} : Left H := { results := [], args := [] }

/- WHAT THE LISTED PACKAGE-LEVEL VARIABLES READ AS WHEN THE CALL BEGINS. Each datum BY PROGRAM (the guide's laid-datum.mjs) off the statement by which the dump's own 'gosem.cut.vars' lays the variable. In a bare row this is a premise. The card (YtmcjfnbohogbdaaDoorCards.lean) ties it to the program's text. -/
def laid_unicode_utf8_acceptRanges {H : Type} : DataW H := .agg [.agg [.lit (.int .u8 128), .lit (.int .u8 191)], .agg [.lit (.int .u8 160), .lit (.int .u8 191)], .agg [.lit (.int .u8 128), .lit (.int .u8 159)], .agg [.lit (.int .u8 144), .lit (.int .u8 191)], .agg [.lit (.int .u8 128), .lit (.int .u8 143)], .agg [.lit (.int .u8 0), .lit (.int .u8 0)], .agg [.lit (.int .u8 0), .lit (.int .u8 0)], .agg [.lit (.int .u8 0), .lit (.int .u8 0)], .agg [.lit (.int .u8 0), .lit (.int .u8 0)], .agg [.lit (.int .u8 0), .lit (.int .u8 0)], .agg [.lit (.int .u8 0), .lit (.int .u8 0)], .agg [.lit (.int .u8 0), .lit (.int .u8 0)], .agg [.lit (.int .u8 0), .lit (.int .u8 0)], .agg [.lit (.int .u8 0), .lit (.int .u8 0)], .agg [.lit (.int .u8 0), .lit (.int .u8 0)], .agg [.lit (.int .u8 0), .lit (.int .u8 0)]]
/-- One of Go's own tables, pinned by name: the form's constant. -/
def laid_unicode_utf8_first : DataW Unit := Go.Pinned.utf8First

/-- 'campanilelaw03.StuffSteps': WHATEVER THE INPUT: true; the input reads as it did. -/
def stuffStepsSpec : ChangeSpec := { name := "stuffSteps", fn := fun _ => fun
  | [d1, d2] => { results := [.lit (.bool true)], args := [d1, d2] }
  | _ => none }
def stuffStepsRow : OpenClaim := { program := "ytmcjfnbohogbdaadoor", sum := "18703bf093524250a971787c6d5865bf9a28145a7874d13fe79fc1e29970bf03", func := "campanile/campanilelaw03.StuffSteps", spec := "stuffSteps", inPlace := ["internal/bytealg.IndexByteString", "internal/bytealg.IndexString"], unfollowed := true, recurses := true, named := ["unicode/utf8.first", "unicode/utf8.acceptRanges", "internal/bytealg.MaxLen"], apart := false, laid := [("unicode/utf8.acceptRanges", laid_unicode_utf8_acceptRanges), ("unicode/utf8.first", laid_unicode_utf8_first)] }
def StuffStepsSaid : Prop := stuffStepsRow.holds Tryd.pinned (OpenSpec.ofChange stuffStepsSpec)

/-- ITS FALSE NEIGHBOUR: 'it returns false'. Refute it at one input. -/
def stuffStepsWrong : ChangeSpec := { name := "stuffSteps", fn := fun _ => fun
  | [d1, d2] => { results := [.lit (.bool false)], args := [d1, d2] }
  | _ => none }
def StuffStepsWrongFalsely : Prop := stuffStepsRow.holds Tryd.pinned (OpenSpec.ofChange stuffStepsWrong)

/-- 'campanilelaw03.StuffRows': WHATEVER THE INPUT: true; the input reads as it did. -/
def stuffRowsSpec : ChangeSpec := { name := "stuffRows", fn := fun _ => fun
  | [d] => { results := [.lit (.bool true)], args := [d] }
  | _ => none }
def stuffRowsRow : OpenClaim := { program := "ytmcjfnbohogbdaadoor", sum := "18703bf093524250a971787c6d5865bf9a28145a7874d13fe79fc1e29970bf03", func := "campanile/campanilelaw03.StuffRows", spec := "stuffRows", inPlace := ["internal/bytealg.IndexByteString", "internal/bytealg.IndexString"], unfollowed := true, recurses := true, named := ["unicode/utf8.first", "unicode/utf8.acceptRanges", "internal/bytealg.MaxLen"], apart := false, laid := [("unicode/utf8.acceptRanges", laid_unicode_utf8_acceptRanges), ("unicode/utf8.first", laid_unicode_utf8_first)] }
def StuffRowsSaid : Prop := stuffRowsRow.holds Tryd.pinned (OpenSpec.ofChange stuffRowsSpec)

/-- ITS FALSE NEIGHBOUR: 'it returns false'. Refute it at one input. -/
def stuffRowsWrong : ChangeSpec := { name := "stuffRows", fn := fun _ => fun
  | [d] => { results := [.lit (.bool false)], args := [d] }
  | _ => none }
def StuffRowsWrongFalsely : Prop := stuffRowsRow.holds Tryd.pinned (OpenSpec.ofChange stuffRowsWrong)

/-- 'campanilelaw03.StuffBack': WHATEVER THE INPUT: true; the input reads as it did. -/
def stuffBackSpec : ChangeSpec := { name := "stuffBack", fn := fun _ => fun
  | [d] => { results := [.lit (.bool true)], args := [d] }
  | _ => none }
def stuffBackRow : OpenClaim := { program := "ytmcjfnbohogbdaadoor", sum := "18703bf093524250a971787c6d5865bf9a28145a7874d13fe79fc1e29970bf03", func := "campanile/campanilelaw03.StuffBack", spec := "stuffBack", inPlace := ["internal/bytealg.IndexByteString", "internal/bytealg.IndexString"], unfollowed := true, recurses := true, named := ["unicode/utf8.first", "unicode/utf8.acceptRanges", "internal/bytealg.MaxLen"], apart := false, laid := [("unicode/utf8.acceptRanges", laid_unicode_utf8_acceptRanges), ("unicode/utf8.first", laid_unicode_utf8_first)] }
def StuffBackSaid : Prop := stuffBackRow.holds Tryd.pinned (OpenSpec.ofChange stuffBackSpec)

/-- ITS FALSE NEIGHBOUR: 'it returns false'. Refute it at one input. -/
def stuffBackWrong : ChangeSpec := { name := "stuffBack", fn := fun _ => fun
  | [d] => { results := [.lit (.bool false)], args := [d] }
  | _ => none }
def StuffBackWrongFalsely : Prop := stuffBackRow.holds Tryd.pinned (OpenSpec.ofChange stuffBackWrong)

/-- 'campanilelaw03.StuffCuts': WHATEVER THE INPUT: true; the input reads as it did. -/
def stuffCutsSpec : ChangeSpec := { name := "stuffCuts", fn := fun _ => fun
  | [d] => { results := [.lit (.bool true)], args := [d] }
  | _ => none }
def stuffCutsRow : OpenClaim := { program := "ytmcjfnbohogbdaadoor", sum := "18703bf093524250a971787c6d5865bf9a28145a7874d13fe79fc1e29970bf03", func := "campanile/campanilelaw03.StuffCuts", spec := "stuffCuts", inPlace := ["internal/bytealg.IndexByteString", "internal/bytealg.IndexString"], unfollowed := true, recurses := true, named := ["unicode/utf8.first", "unicode/utf8.acceptRanges", "internal/bytealg.MaxLen"], apart := false, laid := [("unicode/utf8.acceptRanges", laid_unicode_utf8_acceptRanges), ("unicode/utf8.first", laid_unicode_utf8_first)] }
def StuffCutsSaid : Prop := stuffCutsRow.holds Tryd.pinned (OpenSpec.ofChange stuffCutsSpec)

/-- ITS FALSE NEIGHBOUR: 'it returns false'. Refute it at one input. -/
def stuffCutsWrong : ChangeSpec := { name := "stuffCuts", fn := fun _ => fun
  | [d] => { results := [.lit (.bool false)], args := [d] }
  | _ => none }
def StuffCutsWrongFalsely : Prop := stuffCutsRow.holds Tryd.pinned (OpenSpec.ofChange stuffCutsWrong)

/-- 'campanilelaw03.StuffOne': WHATEVER THE INPUT: true; the input reads as it did. -/
def stuffOneSpec : ChangeSpec := { name := "stuffOne", fn := fun _ => fun
  | [d1, d2] => { results := [.lit (.bool true)], args := [d1, d2] }
  | _ => none }
def stuffOneRow : OpenClaim := { program := "ytmcjfnbohogbdaadoor", sum := "18703bf093524250a971787c6d5865bf9a28145a7874d13fe79fc1e29970bf03", func := "campanile/campanilelaw03.StuffOne", spec := "stuffOne", inPlace := ["internal/bytealg.IndexByteString", "internal/bytealg.IndexString"], unfollowed := true, recurses := true, named := ["unicode/utf8.first", "unicode/utf8.acceptRanges", "internal/bytealg.MaxLen"], apart := false, laid := [("unicode/utf8.acceptRanges", laid_unicode_utf8_acceptRanges), ("unicode/utf8.first", laid_unicode_utf8_first)] }
def StuffOneSaid : Prop := stuffOneRow.holds Tryd.pinned (OpenSpec.ofChange stuffOneSpec)

/-- ITS FALSE NEIGHBOUR: 'it returns false'. Refute it at one input. -/
def stuffOneWrong : ChangeSpec := { name := "stuffOne", fn := fun _ => fun
  | [d1, d2] => { results := [.lit (.bool false)], args := [d1, d2] }
  | _ => none }
def StuffOneWrongFalsely : Prop := stuffOneRow.holds Tryd.pinned (OpenSpec.ofChange stuffOneWrong)

/-- 'campanilelaw03.StuffSix': WHATEVER THE INPUT: true; the input reads as it did. -/
def stuffSixSpec : ChangeSpec := { name := "stuffSix", fn := fun _ => fun
  | [d1, d2, d3] => { results := [.lit (.bool true)], args := [d1, d2, d3] }
  | _ => none }
def stuffSixRow : OpenClaim := { program := "ytmcjfnbohogbdaadoor", sum := "18703bf093524250a971787c6d5865bf9a28145a7874d13fe79fc1e29970bf03", func := "campanile/campanilelaw03.StuffSix", spec := "stuffSix", inPlace := ["internal/bytealg.IndexByteString", "internal/bytealg.IndexString"], unfollowed := true, recurses := true, named := ["unicode/utf8.first", "unicode/utf8.acceptRanges", "internal/bytealg.MaxLen"], apart := false, laid := [("unicode/utf8.acceptRanges", laid_unicode_utf8_acceptRanges), ("unicode/utf8.first", laid_unicode_utf8_first)] }
def StuffSixSaid : Prop := stuffSixRow.holds Tryd.pinned (OpenSpec.ofChange stuffSixSpec)

/-- ITS FALSE NEIGHBOUR: 'it returns false'. Refute it at one input. -/
def stuffSixWrong : ChangeSpec := { name := "stuffSix", fn := fun _ => fun
  | [d1, d2, d3] => { results := [.lit (.bool false)], args := [d1, d2, d3] }
  | _ => none }
def StuffSixWrongFalsely : Prop := stuffSixRow.holds Tryd.pinned (OpenSpec.ofChange stuffSixWrong)

/- THE SECOND FORM. 'bulk': how many values and letters a reading holds, each counted each time it is reached (what is shared counts as often as it is met; a slice's spare places count too). A statement '..UptoSaid' is the law's where the arguments, and the package variables that the reading takes, are together of bulk at most 1048576: NARROWER than '..Said'. Prove '..Said' where nothing that the law and all that it calls make is longer than what came in: it says more and counts as full. Else prove '..UptoSaid'. A law counts once. -/
mutual
def uptoBulk {H : Type} : DataW H → Nat
  | .lit (.string bytes) => bytes.length + 1
  | .lit _ => 1
  | .nil => 1
  | .ptr d => uptoBulk d + 1
  | .slice elems spare => uptoBulkAll elems + uptoBulkAll spare + 1
  | .agg parts => uptoBulkAll parts + 1
  | .iface _ d => uptoBulk d + 1
  | .map entries => uptoBulkEntries entries + 1
  | .held _ => 1
def uptoBulkAll {H : Type} : List (DataW H) → Nat
  | [] => 0
  | d :: r => uptoBulk d + uptoBulkAll r
def uptoBulkEntries {H : Type} : List (Lit × DataW H) → Nat
  | [] => 0
  | x :: r => uptoBulkEntry x + uptoBulkEntries r
def uptoBulkEntry {H : Type} : Lit × DataW H → Nat
  | (.string bytes, d) => bytes.length + uptoBulk d + 1
  | (_, d) => uptoBulk d + 1
 end
def uptoSmall : (H : Type) → List (DataW H) → Bool := fun _ ds => decide (uptoBulkAll ds ≤ 1048576)
def OpenSpec.upto (s : _root_.Go.ChangeSpec) : _root_.Go.OpenSpec := { _root_.Go.OpenSpec.ofChange s with cond := some uptoSmall }

/-- 'campanilelaw03.StuffSteps', WHERE WHAT IT READS IS OF BULK AT MOST 1048576: true; the input reads as it did. -/
def stuffStepsUptoRow : OpenClaim := { program := "ytmcjfnbohogbdaadoor", sum := "18703bf093524250a971787c6d5865bf9a28145a7874d13fe79fc1e29970bf03", func := "campanile/campanilelaw03.StuffSteps", spec := "stuffSteps", inPlace := ["internal/bytealg.IndexByteString", "internal/bytealg.IndexString"], unfollowed := true, recurses := true, named := ["unicode/utf8.first", "unicode/utf8.acceptRanges", "internal/bytealg.MaxLen"], apart := false, laid := [("unicode/utf8.acceptRanges", laid_unicode_utf8_acceptRanges), ("unicode/utf8.first", laid_unicode_utf8_first)], narrowed := true }
def StuffStepsUptoSaid : Prop := stuffStepsUptoRow.holds Tryd.pinned (OpenSpec.upto stuffStepsSpec)

/-- 'campanilelaw03.StuffRows', WHERE WHAT IT READS IS OF BULK AT MOST 1048576: true; the input reads as it did. -/
def stuffRowsUptoRow : OpenClaim := { program := "ytmcjfnbohogbdaadoor", sum := "18703bf093524250a971787c6d5865bf9a28145a7874d13fe79fc1e29970bf03", func := "campanile/campanilelaw03.StuffRows", spec := "stuffRows", inPlace := ["internal/bytealg.IndexByteString", "internal/bytealg.IndexString"], unfollowed := true, recurses := true, named := ["unicode/utf8.first", "unicode/utf8.acceptRanges", "internal/bytealg.MaxLen"], apart := false, laid := [("unicode/utf8.acceptRanges", laid_unicode_utf8_acceptRanges), ("unicode/utf8.first", laid_unicode_utf8_first)], narrowed := true }
def StuffRowsUptoSaid : Prop := stuffRowsUptoRow.holds Tryd.pinned (OpenSpec.upto stuffRowsSpec)

/-- 'campanilelaw03.StuffBack', WHERE WHAT IT READS IS OF BULK AT MOST 1048576: true; the input reads as it did. -/
def stuffBackUptoRow : OpenClaim := { program := "ytmcjfnbohogbdaadoor", sum := "18703bf093524250a971787c6d5865bf9a28145a7874d13fe79fc1e29970bf03", func := "campanile/campanilelaw03.StuffBack", spec := "stuffBack", inPlace := ["internal/bytealg.IndexByteString", "internal/bytealg.IndexString"], unfollowed := true, recurses := true, named := ["unicode/utf8.first", "unicode/utf8.acceptRanges", "internal/bytealg.MaxLen"], apart := false, laid := [("unicode/utf8.acceptRanges", laid_unicode_utf8_acceptRanges), ("unicode/utf8.first", laid_unicode_utf8_first)], narrowed := true }
def StuffBackUptoSaid : Prop := stuffBackUptoRow.holds Tryd.pinned (OpenSpec.upto stuffBackSpec)

/-- 'campanilelaw03.StuffCuts', WHERE WHAT IT READS IS OF BULK AT MOST 1048576: true; the input reads as it did. -/
def stuffCutsUptoRow : OpenClaim := { program := "ytmcjfnbohogbdaadoor", sum := "18703bf093524250a971787c6d5865bf9a28145a7874d13fe79fc1e29970bf03", func := "campanile/campanilelaw03.StuffCuts", spec := "stuffCuts", inPlace := ["internal/bytealg.IndexByteString", "internal/bytealg.IndexString"], unfollowed := true, recurses := true, named := ["unicode/utf8.first", "unicode/utf8.acceptRanges", "internal/bytealg.MaxLen"], apart := false, laid := [("unicode/utf8.acceptRanges", laid_unicode_utf8_acceptRanges), ("unicode/utf8.first", laid_unicode_utf8_first)], narrowed := true }
def StuffCutsUptoSaid : Prop := stuffCutsUptoRow.holds Tryd.pinned (OpenSpec.upto stuffCutsSpec)

/-- 'campanilelaw03.StuffOne', WHERE WHAT IT READS IS OF BULK AT MOST 1048576: true; the input reads as it did. -/
def stuffOneUptoRow : OpenClaim := { program := "ytmcjfnbohogbdaadoor", sum := "18703bf093524250a971787c6d5865bf9a28145a7874d13fe79fc1e29970bf03", func := "campanile/campanilelaw03.StuffOne", spec := "stuffOne", inPlace := ["internal/bytealg.IndexByteString", "internal/bytealg.IndexString"], unfollowed := true, recurses := true, named := ["unicode/utf8.first", "unicode/utf8.acceptRanges", "internal/bytealg.MaxLen"], apart := false, laid := [("unicode/utf8.acceptRanges", laid_unicode_utf8_acceptRanges), ("unicode/utf8.first", laid_unicode_utf8_first)], narrowed := true }
def StuffOneUptoSaid : Prop := stuffOneUptoRow.holds Tryd.pinned (OpenSpec.upto stuffOneSpec)

/-- 'campanilelaw03.StuffSix', WHERE WHAT IT READS IS OF BULK AT MOST 1048576: true; the input reads as it did. -/
def stuffSixUptoRow : OpenClaim := { program := "ytmcjfnbohogbdaadoor", sum := "18703bf093524250a971787c6d5865bf9a28145a7874d13fe79fc1e29970bf03", func := "campanile/campanilelaw03.StuffSix", spec := "stuffSix", inPlace := ["internal/bytealg.IndexByteString", "internal/bytealg.IndexString"], unfollowed := true, recurses := true, named := ["unicode/utf8.first", "unicode/utf8.acceptRanges", "internal/bytealg.MaxLen"], apart := false, laid := [("unicode/utf8.acceptRanges", laid_unicode_utf8_acceptRanges), ("unicode/utf8.first", laid_unicode_utf8_first)], narrowed := true }
def StuffSixUptoSaid : Prop := stuffSixUptoRow.holds Tryd.pinned (OpenSpec.upto stuffSixSpec)

end Rows
end Go.Proofs.YtmcjfnbohogbdaaDoor
