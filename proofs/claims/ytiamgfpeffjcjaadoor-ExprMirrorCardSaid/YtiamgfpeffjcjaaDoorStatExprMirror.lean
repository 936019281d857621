-- Written by our own program (wip/xprint/rows.py) for this seat.
import Derived.Test.YtiamgfpeffjcjaaDoorPx42
import Derived.Test.YtiamgfpeffjcjaaDoorOpen
namespace Go.Proofs.YtiamgfpeffjcjaaDoor.Stat
open Go.ChangeShapes Go.WideShapes Go.ChangeAt Go.RowKit Go.Proofs.YtiamgfpeffjcjaaDoorW.PrintWords Go.Proofs.YtiamgfpeffjcjaaDoorW.PrintLast Go.Proofs.YtiamgfpeffjcjaaDoor.P Go.Proofs.YtiamgfpeffjcjaaDoor.Open
open Go.ChangeMaps (open_string shut_string)
/-- The one pure statement of ExprMirror. -/
def ExprMirror : Prop := ∀ (a0_0 : Int) (a0_1 : Int) (a0_2 : ByteArray) (a1_0 : Int) (a1_1 : Int) (a1_2 : ByteArray), wf_T31 (⟨a0_0, a0_1, a0_2⟩ : S31) → wf_T31 (⟨a1_0, a1_1, a1_2⟩ : S31) → ∃ k, corollarylaw10_ExprMirror.f k a0_0 a0_1 a0_2 a1_0 a1_1 a1_2 = some true
end Go.Proofs.YtiamgfpeffjcjaaDoor.Stat
