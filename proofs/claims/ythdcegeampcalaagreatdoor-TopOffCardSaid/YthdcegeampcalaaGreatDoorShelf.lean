/-
  DERIVED: THE SHELF's CONTRACTS AT THIS DUMP, IN PLAIN WORDS (tools/lay-plain.mjs out of 'TryzScr.lean', which tools/lay-shelf.mjs wrote): THE SAME DECLARATIONS UNDER THE SAME NAMES: 'import', 'namespace', 'open', 'def', 'theorem' AND NOTHING ELSE: no command of the shelf's: FOR A HAND-IN. Each laying: the table of numbers ('.._ren') and one theorem, a field a fact of the dump's own or the kernel's comparison; each contract: ONE APPLICATION.
-/
import Derived.Shelf.Strings.SlTrimAscii
import Derived.Test.YthdcegeampcalaaGreatDoorProg
namespace Go.Proofs
open Go.Shelf
def Tryz.lays161_ren : Go.Shelf.Ren := ⟨fun | 161 => 40 | 231 => 59 | 227 => 60 | 233 => 61 | 235 => 62 | 228 => 80 | 197 => 81 | 151 => 82 | 260 => 89 | 152 => 90 | 137 => 95 | 119 => 96 | 224 => 97 | 225 => 98 | 217 => 102 | 266 => 110 | n => n, fun | 9 => 9 | 4 => 4 | 3 => 3 | 5 => 5 | 117 => 129 | 116 => 128 | 0 => 0 | 124 => 132 | 105 => 142 | 21 => 21 | 119 => 152 | 46 => 90 | 139 => 155 | 138 => 154 | n => n, fun | 3 => 0 | 4 => 1 | n => n⟩
theorem Tryz.lays161 : Go.Proofs.Lays.n161 Tryz.prog Tryz.lays161_ren := {
  mixed := by kernel_rfl
  f119 := Tryz.func96.trans (congrArg some (by kernel_rfl))
  f137 := Tryz.func95.trans (congrArg some (by kernel_rfl))
  f151 := Tryz.func82.trans (congrArg some (by kernel_rfl))
  f152 := Tryz.func90.trans (congrArg some (by kernel_rfl))
  f161 := Tryz.func40.trans (congrArg some (by kernel_rfl))
  f197 := Tryz.func81.trans (congrArg some (by kernel_rfl))
  f217 := Tryz.func102.trans (congrArg some (by kernel_rfl))
  f224 := Tryz.func97.trans (congrArg some (by kernel_rfl))
  f225 := Tryz.func98.trans (congrArg some (by kernel_rfl))
  f227 := Tryz.func60.trans (congrArg some (by kernel_rfl))
  f228 := Tryz.func80.trans (congrArg some (by kernel_rfl))
  f231 := Tryz.func59.trans (congrArg some (by kernel_rfl))
  f233 := Tryz.func61.trans (congrArg some (by kernel_rfl))
  f235 := Tryz.func62.trans (congrArg some (by kernel_rfl))
  f260 := Tryz.func89.trans (congrArg some (by kernel_rfl))
  f266 := Tryz.func110.trans (congrArg some (by kernel_rfl))
  t0 := Tryz.underlying0
  a0 := Tryz.isAgg0
  z0 := Tryz.sizeOf0
  v0 := Tryz.zeroValue0
  t3 := Tryz.underlying3
  a3 := Tryz.isAgg3
  z3 := Tryz.sizeOf3
  v3 := Tryz.zeroValue3
  t4 := Tryz.underlying4
  a4 := Tryz.isAgg4
  z4 := Tryz.sizeOf4
  v4 := Tryz.zeroValue4
  t5 := Tryz.underlying5
  a5 := Tryz.isAgg5
  z5 := Tryz.sizeOf5
  v5 := Tryz.zeroValue5
  t9 := Tryz.underlying9
  a9 := Tryz.isAgg9
  z9 := Tryz.sizeOf9
  v9 := Tryz.zeroValue9
  t21 := Tryz.underlying21
  a21 := Tryz.isAgg21
  z21 := Tryz.sizeOf21
  v21 := Tryz.zeroValue21
  t46 := Tryz.underlying90
  a46 := Tryz.isAgg90
  z46 := Tryz.sizeOf90
  v46 := Tryz.zeroValue90
  t105 := Tryz.underlying142
  a105 := Tryz.isAgg142
  z105 := Tryz.sizeOf142
  v105 := Tryz.zeroValue142
  t116 := Tryz.underlying128
  a116 := Tryz.isAgg128
  z116 := Tryz.sizeOf128
  t117 := Tryz.underlying129
  a117 := Tryz.isAgg129
  z117 := Tryz.sizeOf129
  v117 := Tryz.zeroValue129
  t119 := Tryz.underlying152
  a119 := Tryz.isAgg152
  z119 := Tryz.sizeOf152
  t124 := Tryz.underlying132
  a124 := Tryz.isAgg132
  z124 := Tryz.sizeOf132
  v124 := Tryz.zeroValue132
  t138 := Tryz.underlying154
  a138 := Tryz.isAgg154
  z138 := Tryz.sizeOf154
  v138 := Tryz.zeroValue154
  t139 := Tryz.underlying155
  a139 := Tryz.isAgg155
  z139 := Tryz.sizeOf155
  v139 := Tryz.zeroValue155
  g3 := by kernel_rfl
  g4 := by kernel_rfl }
end Go.Proofs
