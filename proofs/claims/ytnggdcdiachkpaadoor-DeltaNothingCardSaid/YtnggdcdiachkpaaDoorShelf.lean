/-
 DERIVED: THE SHELF's CONTRACTS AT THIS DUMP, IN PLAIN WORDS (tools/lay-plain.mjs out of 'YtnggdcdiachkpaaDoorShelf0.lean', which tools/lay-shelf.mjs wrote): THE SAME DECLARATIONS UNDER THE SAME NAMES: 'import', 'namespace', 'open', 'def', 'theorem' AND NOTHING ELSE: no command of the shelf's: FOR A HAND-IN. Each laying: the table of numbers ('.._ren') and one theorem, a field a fact of the dump's own or the kernel's comparison; each contract: ONE APPLICATION.
-/
import Derived.Ground.NamesProg
import Derived.Ground.SlsfProg
import Derived.Shelf.Unicode.ValidAny
import Derived.Shelf.SlLaysF0
import Derived.Test.YtnggdcdiachkpaaDoorProg
namespace Go.Proofs
open Go.Shelf
def Tryd.laysValid_ren : Go.Shelf.Ren := ⟨fun | 196 => 79 | 259 => 97 | n => n, fun | 9 => 9 | 4 => 4 | 3 => 3 | 5 => 5 | 12 => 12 | 119 => 123 | 0 => 0 | 46 => 104 | 139 => 126 | 138 => 125 | 53 => 132 | n => n, fun | 3 => 0 | 4 => 1 | n => n⟩
theorem Tryd.laysValid : Go.Proofs.Lays.n196 Tryd.prog Tryd.laysValid_ren := {
 mixed := by kernel_rfl
 f196 := Tryd.func79.trans (congrArg some (by kernel_rfl))
 f259 := Tryd.func97.trans (congrArg some (by kernel_rfl))
 t0 := Tryd.underlying0
 a0 := Tryd.isAgg0
 z0 := Tryd.sizeOf0
 v0 := Tryd.zeroValue0
 t3 := Tryd.underlying3
 a3 := Tryd.isAgg3
 z3 := Tryd.sizeOf3
 v3 := Tryd.zeroValue3
 t4 := Tryd.underlying4
 a4 := Tryd.isAgg4
 z4 := Tryd.sizeOf4
 v4 := Tryd.zeroValue4
 t5 := Tryd.underlying5
 a5 := Tryd.isAgg5
 z5 := Tryd.sizeOf5
 v5 := Tryd.zeroValue5
 t9 := Tryd.underlying9
 a9 := Tryd.isAgg9
 z9 := Tryd.sizeOf9
 v9 := Tryd.zeroValue9
 t12 := Tryd.underlying12
 a12 := Tryd.isAgg12
 z12 := Tryd.sizeOf12
 v12 := Tryd.zeroValue12
 t46 := Tryd.underlying104
 a46 := Tryd.isAgg104
 z46 := Tryd.sizeOf104
 v46 := Tryd.zeroValue104
 t53 := Tryd.underlying132
 a53 := Tryd.isAgg132
 z53 := Tryd.sizeOf132
 v53 := Tryd.zeroValue132
 t119 := Tryd.underlying123
 a119 := Tryd.isAgg123
 z119 := Tryd.sizeOf123
 t138 := Tryd.underlying125
 a138 := Tryd.isAgg125
 z138 := Tryd.sizeOf125
 v138 := Tryd.zeroValue125
 t139 := Tryd.underlying126
 a139 := Tryd.isAgg126
 z139 := Tryd.sizeOf126
 v139 := Tryd.zeroValue126
 g3 := by kernel_rfl
 g4 := by kernel_rfl }
def Tryd.laysIns_ren : Go.Shelf.Ren := ⟨fun | 20 => 95 | n => n, fun | 24 => 54 | 22 => 28 | 3 => 3 | 25 => 88 | 4 => 4 | 0 => 0 | n => n, fun | n => n⟩
theorem Tryd.laysIns : Go.Proofs.SlLaysF0.n20 Tryd.prog Tryd.laysIns_ren := {
 mixed := by kernel_rfl
 f20 := ⟨Tryd.f95.name, by decide, Tryd.func95.trans (congrArg some (by kernel_rfl))⟩
 t0 := Tryd.underlying0
 a0 := Tryd.isAgg0
 z0 := Tryd.sizeOf0
 v0 := Tryd.zeroValue0
 t3 := Tryd.underlying3
 a3 := Tryd.isAgg3
 z3 := Tryd.sizeOf3
 v3 := Tryd.zeroValue3
 t4 := Tryd.underlying4
 a4 := Tryd.isAgg4
 z4 := Tryd.sizeOf4
 v4 := Tryd.zeroValue4
 t22 := Tryd.underlying28
 a22 := Tryd.isAgg28
 z22 := Tryd.sizeOf28
 v22 := Tryd.zeroValue28
 t25 := Tryd.underlying88
 a25 := Tryd.isAgg88
 z25 := Tryd.sizeOf88
 v25 := Tryd.zeroValue88 }
end Go.Proofs
