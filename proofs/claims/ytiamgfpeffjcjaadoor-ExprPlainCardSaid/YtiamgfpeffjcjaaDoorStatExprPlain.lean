-- Written by our own program (wip/xprint/rows.py) for this seat.
import Derived.Test.YtiamgfpeffjcjaaDoorPx45
import Derived.Test.YtiamgfpeffjcjaaDoorOpen
namespace Go.Proofs.YtiamgfpeffjcjaaDoor.Stat
open Go.ChangeShapes Go.WideShapes Go.ChangeAt Go.RowKit Go.Proofs.YtiamgfpeffjcjaaDoorW.PrintWords Go.Proofs.YtiamgfpeffjcjaaDoorW.PrintLast Go.Proofs.YtiamgfpeffjcjaaDoor.P Go.Proofs.YtiamgfpeffjcjaaDoor.Open
open Go.ChangeMaps (open_string shut_string)
/-- The one pure statement of ExprPlain. -/
def ExprPlain : Prop := ∀ (a0_0 : Int) (a0_1 : Int) (a0_2 : ByteArray) (l1 : List S31) (a2 : Int), wf_T31 (⟨a0_0, a0_1, a0_2⟩ : S31) → wf_L31_T31 l1 → (fun a => (Lit.int .i64 a).wf = true) a2 → ∃ k, corollarylaw10_ExprPlain.f k a0_0 a0_1 a0_2 l1 a2 = some true
end Go.Proofs.YtiamgfpeffjcjaaDoor.Stat
