/-
 DERIVED: THE SHELF's CONTRACTS AT THIS DUMP, IN PLAIN WORDS (tools/lay-plain.mjs out of 'YtchpbnabbjdfgaaDoorShelf0.lean', which tools/lay-shelf.mjs wrote): THE SAME DECLARATIONS UNDER THE SAME NAMES: 'import', 'namespace', 'open', 'def', 'theorem' AND NOTHING ELSE: no command of the shelf's: FOR A HAND-IN. Each laying: the table of numbers ('.._ren') and one theorem, a field a fact of the dump's own or the kernel's comparison; each contract: ONE APPLICATION.
-/
import Derived.Ground.NamesProg
import Derived.Ground.SlsfProg
import Derived.Shelf.Unicode.ValidAny
import Derived.Shelf.SlLaysF0
import Derived.Test.YtchpbnabbjdfgaaDoorProg
namespace Go.Proofs
open Go.Shelf
def Tryd.laysValid_ren : Go.Shelf.Ren := ⟨fun | 196 => 99 | 259 => 106 | n => n, fun | 9 => 9 | 4 => 4 | 3 => 3 | 5 => 5 | 12 => 12 | 119 => 128 | 0 => 0 | 46 => 51 | 139 => 131 | 138 => 130 | 53 => 132 | n => n, fun | 3 => 1 | 4 => 2 | n => n⟩
theorem Tryd.laysValid : Go.Proofs.Lays.n196 Tryd.prog Tryd.laysValid_ren := {
 mixed := by kernel_rfl
 f196 := Tryd.func99.trans (congrArg some (by kernel_rfl))
 f259 := Tryd.func106.trans (congrArg some (by kernel_rfl))
 t0 := Tryd.underlying0
 a0 := Tryd.isAgg0
 z0 := Tryd.sizeOf0
 v0 := Tryd.zeroValue0
 t3 := Tryd.underlying3
 a3 := Tryd.isAgg3
 z3 := Tryd.sizeOf3
 v3 := Tryd.zeroValue3
 t4 := Tryd.underlying4
 a4 := Tryd.isAgg4
 z4 := Tryd.sizeOf4
 v4 := Tryd.zeroValue4
 t5 := Tryd.underlying5
 a5 := Tryd.isAgg5
 z5 := Tryd.sizeOf5
 v5 := Tryd.zeroValue5
 t9 := Tryd.underlying9
 a9 := Tryd.isAgg9
 z9 := Tryd.sizeOf9
 v9 := Tryd.zeroValue9
 t12 := Tryd.underlying12
 a12 := Tryd.isAgg12
 z12 := Tryd.sizeOf12
 v12 := Tryd.zeroValue12
 t46 := Tryd.underlying51
 a46 := Tryd.isAgg51
 z46 := Tryd.sizeOf51
 v46 := Tryd.zeroValue51
 t53 := Tryd.underlying132
 a53 := Tryd.isAgg132
 z53 := Tryd.sizeOf132
 v53 := Tryd.zeroValue132
 t119 := Tryd.underlying128
 a119 := Tryd.isAgg128
 z119 := Tryd.sizeOf128
 t138 := Tryd.underlying130
 a138 := Tryd.isAgg130
 z138 := Tryd.sizeOf130
 v138 := Tryd.zeroValue130
 t139 := Tryd.underlying131
 a139 := Tryd.isAgg131
 z139 := Tryd.sizeOf131
 v139 := Tryd.zeroValue131
 g3 := by kernel_rfl
 g4 := by kernel_rfl }
def Tryd.laysIns_ren : Go.Shelf.Ren := ⟨fun | 20 => 103 | n => n, fun | 24 => 81 | 22 => 54 | 3 => 3 | 25 => 109 | 4 => 4 | 0 => 0 | n => n, fun | n => n⟩
theorem Tryd.laysIns : Go.Proofs.SlLaysF0.n20 Tryd.prog Tryd.laysIns_ren := {
 mixed := by kernel_rfl
 f20 := ⟨Tryd.f103.name, by decide, Tryd.func103.trans (congrArg some (by kernel_rfl))⟩
 t0 := Tryd.underlying0
 a0 := Tryd.isAgg0
 z0 := Tryd.sizeOf0
 v0 := Tryd.zeroValue0
 t3 := Tryd.underlying3
 a3 := Tryd.isAgg3
 z3 := Tryd.sizeOf3
 v3 := Tryd.zeroValue3
 t4 := Tryd.underlying4
 a4 := Tryd.isAgg4
 z4 := Tryd.sizeOf4
 v4 := Tryd.zeroValue4
 t22 := Tryd.underlying54
 a22 := Tryd.isAgg54
 z22 := Tryd.sizeOf54
 v22 := Tryd.zeroValue54
 t25 := Tryd.underlying109
 a25 := Tryd.isAgg109
 z25 := Tryd.sizeOf109
 v25 := Tryd.zeroValue109 }
end Go.Proofs
