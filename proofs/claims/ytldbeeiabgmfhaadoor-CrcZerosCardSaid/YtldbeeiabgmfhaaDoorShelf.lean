/-
  DERIVED: THE SHELF's CONTRACTS AT THIS DUMP, IN PLAIN WORDS (tools/lay-plain.mjs out of 'TrydScr.lean', which tools/lay-shelf.mjs wrote): THE SAME DECLARATIONS UNDER THE SAME NAMES: 'import', 'namespace', 'open', 'def', 'theorem' AND NOTHING ELSE: no command of the shelf's: FOR A HAND-IN. Each laying: the table of numbers ('.._ren') and one theorem, a field a fact of the dump's own or the kernel's comparison; each contract: ONE APPLICATION.
-/
import Derived.Shelf.Strings.SlTrimAscii
import Derived.Test.YtldbeeiabgmfhaaDoorProg
namespace Go.Proofs
open Go.Shelf
def Tryd.lays161_ren : Go.Shelf.Ren := ⟨fun | 161 => 23 | 231 => 24 | 227 => 25 | 233 => 26 | 235 => 27 | 228 => 28 | 197 => 29 | 151 => 30 | 260 => 31 | 152 => 32 | 137 => 33 | 119 => 34 | 224 => 35 | 225 => 36 | 217 => 37 | 266 => 38 | n => n, fun | 9 => 9 | 4 => 4 | 3 => 3 | 5 => 5 | 117 => 48 | 116 => 47 | 0 => 0 | 124 => 51 | 105 => 53 | 21 => 21 | 119 => 57 | 46 => 38 | 139 => 60 | 138 => 59 | n => n, fun | 3 => 0 | 4 => 1 | n => n⟩
theorem Tryd.lays161 : Go.Proofs.Lays.n161 Tryd.prog Tryd.lays161_ren := {
  mixed := by kernel_rfl
  f119 := Tryd.func34.trans (congrArg some (by kernel_rfl))
  f137 := Tryd.func33.trans (congrArg some (by kernel_rfl))
  f151 := Tryd.func30.trans (congrArg some (by kernel_rfl))
  f152 := Tryd.func32.trans (congrArg some (by kernel_rfl))
  f161 := Tryd.func23.trans (congrArg some (by kernel_rfl))
  f197 := Tryd.func29.trans (congrArg some (by kernel_rfl))
  f217 := Tryd.func37.trans (congrArg some (by kernel_rfl))
  f224 := Tryd.func35.trans (congrArg some (by kernel_rfl))
  f225 := Tryd.func36.trans (congrArg some (by kernel_rfl))
  f227 := Tryd.func25.trans (congrArg some (by kernel_rfl))
  f228 := Tryd.func28.trans (congrArg some (by kernel_rfl))
  f231 := Tryd.func24.trans (congrArg some (by kernel_rfl))
  f233 := Tryd.func26.trans (congrArg some (by kernel_rfl))
  f235 := Tryd.func27.trans (congrArg some (by kernel_rfl))
  f260 := Tryd.func31.trans (congrArg some (by kernel_rfl))
  f266 := Tryd.func38.trans (congrArg some (by kernel_rfl))
  t0 := Tryd.underlying0
  a0 := Tryd.isAgg0
  z0 := Tryd.sizeOf0
  v0 := Tryd.zeroValue0
  t3 := Tryd.underlying3
  a3 := Tryd.isAgg3
  z3 := Tryd.sizeOf3
  v3 := Tryd.zeroValue3
  t4 := Tryd.underlying4
  a4 := Tryd.isAgg4
  z4 := Tryd.sizeOf4
  v4 := Tryd.zeroValue4
  t5 := Tryd.underlying5
  a5 := Tryd.isAgg5
  z5 := Tryd.sizeOf5
  v5 := Tryd.zeroValue5
  t9 := Tryd.underlying9
  a9 := Tryd.isAgg9
  z9 := Tryd.sizeOf9
  v9 := Tryd.zeroValue9
  t21 := Tryd.underlying21
  a21 := Tryd.isAgg21
  z21 := Tryd.sizeOf21
  v21 := Tryd.zeroValue21
  t46 := Tryd.underlying38
  a46 := Tryd.isAgg38
  z46 := Tryd.sizeOf38
  v46 := Tryd.zeroValue38
  t105 := Tryd.underlying53
  a105 := Tryd.isAgg53
  z105 := Tryd.sizeOf53
  v105 := Tryd.zeroValue53
  t116 := Tryd.underlying47
  a116 := Tryd.isAgg47
  z116 := Tryd.sizeOf47
  t117 := Tryd.underlying48
  a117 := Tryd.isAgg48
  z117 := Tryd.sizeOf48
  v117 := Tryd.zeroValue48
  t119 := Tryd.underlying57
  a119 := Tryd.isAgg57
  z119 := Tryd.sizeOf57
  t124 := Tryd.underlying51
  a124 := Tryd.isAgg51
  z124 := Tryd.sizeOf51
  v124 := Tryd.zeroValue51
  t138 := Tryd.underlying59
  a138 := Tryd.isAgg59
  z138 := Tryd.sizeOf59
  v138 := Tryd.zeroValue59
  t139 := Tryd.underlying60
  a139 := Tryd.isAgg60
  z139 := Tryd.sizeOf60
  v139 := Tryd.zeroValue60
  g3 := by kernel_rfl
  g4 := by kernel_rfl }
end Go.Proofs
