/- The world in which the program's own tables lie as its text lays them, and what the printed walks ask of it. -/
-- Written by our own program (wip/xprint/rows.py) for this seat.
import Derived.Test.YtiamgfpeffjcjaaDoorRows
import Derived.Test.YtiamgfpeffjcjaaDoorPx0
import Derived.Lib.LaidIn
import Derived.Lib.LaidU8T
import Derived.PinnedBridge
import Derived.Deep.DeepWitnessRowRef
import Derived.Deep.DeepHandedRow
namespace Go.Proofs.YtiamgfpeffjcjaaDoor
open Go.ChangeShapes Go.WideShapes Go.ChangeAt Go.RowKit Go.Lib Go.Shelf
theorem acc_eq : (Rows.laid_unicode_utf8_acceptRanges : DataW Unit) = acceptData := by kernel_rfl
theorem first_eq : Rows.laid_unicode_utf8_first = firstData := Pinned.utf8First_eq
/-- THE WITNESS: the settled world, the variables holding what their initialisers lay. -/
noncomputable def laidWorld (os : Os) : World :=
  let w0 := World.holding Tryd.prog os ⟨#[], #[], []⟩
  let put (h : Array Obj) (g : Nat) (cs : Array Value) : Array Obj := h.modify g fun
    | .cells _ t frozen => .cells cs t frozen
    | o => o
  let h1 := put w0.heap 0 (firstTab.map fun z => Value.int .u8 z).toArray
  let h2 := put h1 1 ((List.range 16).flatMap fun i => [Value.int .u8 (accLo i), Value.int .u8 (accHi i)]).toArray
  { w0 with heap := h2 }
def laidL : List (String × DataW Unit) := [("unicode/utf8.acceptRanges", Rows.laid_unicode_utf8_acceptRanges), ("unicode/utf8.first", Rows.laid_unicode_utf8_first)]
theorem laid_met (os : Os) (args : Array Value) : laidMet Tryd.prog laidL ((laidWorld os).forCall (fun _ _ => 0) ⟨#[], args, []⟩).memory := by
  have e : laidL = [("unicode/utf8.acceptRanges", acceptData), ("unicode/utf8.first", firstData)] := by unfold laidL; rw [acc_eq, first_eq]
  rw [e]
  exact (LaidIn.of_run (l := [("unicode/utf8.acceptRanges", acceptData), ("unicode/utf8.first", firstData)]) [1, 0] 8 (by kernel_rfl) (by kernel_rfl) (by kernel_rfl) (by kernel_rfl)).met
theorem glob_of {W : World} (hL : laidMet Tryd.prog laidL W) : P.Glob W :=
  utf8Tabs_of_readsT (U8Types.of196 Tryd.laysValid) ⟨by kernel_rfl, by kernel_rfl, by kernel_rfl, by kernel_rfl, by kernel_rfl, by kernel_rfl, by kernel_rfl⟩ (first_eq ▸ Lib.laidMet.reads hL (by unfold laidL; simp)) (acc_eq ▸ Lib.laidMet.reads hL (by unfold laidL; simp))
theorem laid_own : ownKnob Tryd.prog.godebug = none := by kernel_rfl
end Go.Proofs.YtiamgfpeffjcjaaDoor
