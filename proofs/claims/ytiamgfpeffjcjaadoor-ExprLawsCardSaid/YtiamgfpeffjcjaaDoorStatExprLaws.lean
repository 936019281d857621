-- Written by our own program (wip/xprint/rows.py) for this seat.
import Derived.Test.YtiamgfpeffjcjaaDoorPx44
import Derived.Test.YtiamgfpeffjcjaaDoorOpen
namespace Go.Proofs.YtiamgfpeffjcjaaDoor.Stat
open Go.ChangeShapes Go.WideShapes Go.ChangeAt Go.RowKit Go.Proofs.YtiamgfpeffjcjaaDoorW.PrintWords Go.Proofs.YtiamgfpeffjcjaaDoorW.PrintLast Go.Proofs.YtiamgfpeffjcjaaDoor.P Go.Proofs.YtiamgfpeffjcjaaDoor.Open
open Go.ChangeMaps (open_string shut_string)
/-- The one pure statement of ExprLaws. -/
def ExprLaws : Prop := ∀ (a0 : Int) (a1 : Int), (fun a => (Lit.int .u8 a).wf = true) a0 → (fun a => (Lit.int .u8 a).wf = true) a1 → ∃ k, corollarylaw10_ExprLaws.f k a0 a1 = some true
end Go.Proofs.YtiamgfpeffjcjaaDoor.Stat
