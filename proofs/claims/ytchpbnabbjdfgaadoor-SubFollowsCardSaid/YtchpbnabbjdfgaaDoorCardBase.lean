-- HALVED
import Derived.Test.YtchpbnabbjdfgaaDoorRows
import Derived.Test.YtchpbnabbjdfgaaDoorPx0
import Derived.Lib.LaidIn
import Derived.Lib.LaidU8T
import Derived.PinnedBridge
import Derived.Deep.DeepWitnessRowRef
import Derived.Deep.DeepHandedRow
namespace Go.Proofs.YtchpbnabbjdfgaaDoor
open Go.ChangeShapes Go.WideShapes Go.ChangeAt Go.RowKit Go.Lib Go.Shelf
theorem acc_eq : (Rows.laid_unicode_utf8_acceptRanges : DataW Unit) = acceptData := by kernel_rfl
theorem first_eq : Rows.laid_unicode_utf8_first = firstData := Pinned.utf8First_eq
def flat : Nat → DataW Unit → List Value
 | 0, _ => []
 | n + 1, .agg xs => xs.flatMap (flat n)
 | _ + 1, .lit (.int k z) => [.int k z]
 | _ + 1, _ => []
noncomputable def laidWorld (os : Os) : World :=
 let w0 := World.holding Tryd.prog os ⟨#[], #[], []⟩
 let put (h : Array Obj) (g : Nat) (cs : Array Value) : Array Obj := h.modify g fun
  | .cells _ t frozen => .cells cs t frozen
  | o => o
 let h1 := put w0.heap 2 (flat 8 Rows.laid_unicode_utf8_acceptRanges).toArray
 let h2 := put h1 1 (flat 8 Rows.laid_unicode_utf8_first).toArray
 { w0 with heap := h2 }
def laidL : List (String × DataW Unit) := [("unicode/utf8.acceptRanges", Rows.laid_unicode_utf8_acceptRanges), ("unicode/utf8.first", Rows.laid_unicode_utf8_first)]
theorem laid_met (os : Os) (args : Array Value) : laidMet Tryd.prog laidL ((laidWorld os).forCall (fun _ _ => 0) ⟨#[], args, []⟩).memory :=
 (LaidIn.of_run (l := laidL) [2, 1] 8 (by kernel_rfl) (by kernel_rfl) (by kernel_rfl) (by kernel_rfl)).met
theorem utf8_of {W : World} (hL : laidMet Tryd.prog laidL W) : Utf8Tabs (Tryd.laysValid_ren.g 3) (Tryd.laysValid_ren.g 4) W :=
 utf8Tabs_of_readsT (U8Types.of196 Tryd.laysValid) ⟨by kernel_rfl, by kernel_rfl, by kernel_rfl, by kernel_rfl, by kernel_rfl, by kernel_rfl, by kernel_rfl⟩ (first_eq ▸ Lib.laidMet.reads hL (by unfold laidL; simp)) (acc_eq ▸ Lib.laidMet.reads hL (by unfold laidL; simp))
theorem glob_of {W : World} (hL : laidMet Tryd.prog laidL W) (_hsh : W.ShapedOpen Tryd.prog) : P.Glob W := utf8_of hL
theorem laid_own : ownKnob Tryd.prog.godebug = none := by kernel_rfl
end Go.Proofs.YtchpbnabbjdfgaaDoor
