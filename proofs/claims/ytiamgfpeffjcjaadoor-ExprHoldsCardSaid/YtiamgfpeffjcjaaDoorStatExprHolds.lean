-- Written by our own program (wip/xprint/rows.py) for this seat.
import Derived.Test.YtiamgfpeffjcjaaDoorPx47
import Derived.Test.YtiamgfpeffjcjaaDoorOpen
namespace Go.Proofs.YtiamgfpeffjcjaaDoor.Stat
open Go.ChangeShapes Go.WideShapes Go.ChangeAt Go.RowKit Go.Proofs.YtiamgfpeffjcjaaDoorW.PrintWords Go.Proofs.YtiamgfpeffjcjaaDoorW.PrintLast Go.Proofs.YtiamgfpeffjcjaaDoor.P Go.Proofs.YtiamgfpeffjcjaaDoor.Open
open Go.ChangeMaps (open_string shut_string)
/-- The one pure statement of ExprHolds. -/
def ExprHolds : Prop := ∀ (l0 : List S39) (l1 : List S31), wf_L39_T39 l0 → wf_L31_T31 l1 → ∃ k, corollarylaw10_ExprHolds.f k l0 l1 = some true
end Go.Proofs.YtiamgfpeffjcjaaDoor.Stat
