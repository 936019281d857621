/- The world in which the program's own tables lie as its text lays them, and what the printed walks ask of it. -/
-- Written by our own program (wip/xprint/rows.py) for this seat.
import Derived.Test.YtjcjndpfihchnaaDoorRows
import Derived.Test.YtjcjndpfihchnaaDoorPx0
import Derived.Lib.LaidIn
import Derived.Lib.LaidU8T
import Derived.PinnedBridge
import Derived.Deep.DeepWitnessRowRef
import Derived.Deep.DeepHandedRow
namespace Go.Proofs.YtjcjndpfihchnaaDoor
open Go.ChangeShapes Go.WideShapes Go.ChangeAt Go.RowKit Go.Lib Go.Shelf
theorem acc_eq : (Rows.laid_unicode_utf8_acceptRanges : DataW Unit) = acceptData := by kernel_rfl
theorem first_eq : Rows.laid_unicode_utf8_first = firstData := Pinned.utf8First_eq
/-- The cells of a datum that holds numbers alone. -/
def flat : Nat → DataW Unit → List Value
  | 0, _ => []
  | n + 1, .agg xs => xs.flatMap (flat n)
  | _ + 1, .lit (.int k z) => [.int k z]
  | _ + 1, _ => []
/-- THE WITNESS: the settled world, the variables holding what their initialisers lay. -/
noncomputable def laidWorld (os : Os) : World :=
  let w0 := World.holding Tryd.prog os ⟨#[], #[], []⟩
  let put (h : Array Obj) (g : Nat) (cs : Array Value) : Array Obj := h.modify g fun
    | .cells _ t frozen => .cells cs t frozen
    | o => o
  let h1 := put w0.heap 4 (flat 8 Rows.laid_math_bits_deBruijn32tab).toArray
  let h2 := put h1 5 (flat 8 Rows.laid_math_bits_deBruijn64tab).toArray
  let h3 := put h2 2 (flat 8 Rows.laid_internal_strconv_uint64pow10).toArray
  let h4 := put h3 1 (flat 8 Rows.laid_unicode_utf8_acceptRanges).toArray
  let h5 := put h4 0 (flat 8 Rows.laid_unicode_utf8_first).toArray
  { w0 with heap := h5 }
def laidL : List (String × DataW Unit) := [("math/bits.deBruijn32tab", Rows.laid_math_bits_deBruijn32tab), ("math/bits.deBruijn64tab", Rows.laid_math_bits_deBruijn64tab), ("internal/strconv.uint64pow10", Rows.laid_internal_strconv_uint64pow10), ("unicode/utf8.acceptRanges", Rows.laid_unicode_utf8_acceptRanges), ("unicode/utf8.first", Rows.laid_unicode_utf8_first)]
theorem laid_met (os : Os) (args : Array Value) : laidMet Tryd.prog laidL ((laidWorld os).forCall (fun _ _ => 0) ⟨#[], args, []⟩).memory :=
  (LaidIn.of_run (l := laidL) [4, 5, 2, 1, 0] 8 (by kernel_rfl) (by kernel_rfl) (by kernel_rfl) (by kernel_rfl)).met
theorem utf8_of {W : World} (hL : laidMet Tryd.prog laidL W) : Utf8Tabs (Tryd.laysValid_ren.g 3) (Tryd.laysValid_ren.g 4) W :=
  utf8Tabs_of_readsT (U8Types.of196 Tryd.laysValid) ⟨by kernel_rfl, by kernel_rfl, by kernel_rfl, by kernel_rfl, by kernel_rfl, by kernel_rfl, by kernel_rfl⟩ (first_eq ▸ Lib.laidMet.reads hL (by unfold laidL; simp)) (acc_eq ▸ Lib.laidMet.reads hL (by unfold laidL; simp))
theorem pow_eq : (Rows.laid_internal_strconv_uint64pow10 : DataW Unit) = Lib.tabData .u64 Lib.pow10Tab := by kernel_rfl
theorem tabIs_of_reads {P : Program} {W : World} {name : String} {k : IntKind} {zs : List Int} {g : Nat} {t e : TypeId} {n : Nat}
    (hg : P.globalNamed name = some g) (hty : (P.globals[g]?).map (·.type) = some t) (ht : P.underlying t = some (.array n e)) (he : P.underlying e = some (.int k)) (hce : P.cellsOf e = 1) (hct : P.cellsOf t = n)
    (h : Lib.VarReads P W name (Lib.tabData k zs)) : Lib.TabIs P W name k zs := by
  obtain ⟨g', t', cs, fuel, p, hg', ht', hvar, hd⟩ := h
  obtain rfl := Option.some.inj (hg.symm.trans hg')
  obtain rfl := Option.some.inj (hty.symm.trans ht')
  unfold Lib.TabIs
  rw [hvar, ← Lib.cells_of_tab ht he hce hct hd]
theorem pow10_of {W : World} (hL : laidMet Tryd.prog laidL W) : Lib.TabIs Tryd.prog W "internal/strconv.uint64pow10" .u64 Lib.pow10Tab :=
  tabIs_of_reads (g := 2) (by kernel_rfl) (by kernel_rfl) Tryd.underlying105 Tryd.underlying87 (by kernel_rfl) (by kernel_rfl) (pow_eq ▸ Lib.laidMet.reads hL (by unfold laidL; simp))
theorem glob_of {W : World} (hL : laidMet Tryd.prog laidL W) (hsh : W.ShapedOpen Tryd.prog) : P.Glob W := ⟨utf8_of hL, Tryd.laysReplace.s1_3 W hsh, pow10_of hL⟩
theorem laid_own : ownKnob Tryd.prog.godebug = none := by kernel_rfl
end Go.Proofs.YtjcjndpfihchnaaDoor
