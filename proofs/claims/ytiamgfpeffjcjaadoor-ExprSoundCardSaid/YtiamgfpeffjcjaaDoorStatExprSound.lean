-- Written by our own program (wip/xprint/rows.py) for this seat.
import Derived.Test.YtiamgfpeffjcjaaDoorPx41
import Derived.Test.YtiamgfpeffjcjaaDoorOpen
namespace Go.Proofs.YtiamgfpeffjcjaaDoor.Stat
open Go.ChangeShapes Go.WideShapes Go.ChangeAt Go.RowKit Go.Proofs.YtiamgfpeffjcjaaDoorW.PrintWords Go.Proofs.YtiamgfpeffjcjaaDoorW.PrintLast Go.Proofs.YtiamgfpeffjcjaaDoor.P Go.Proofs.YtiamgfpeffjcjaaDoor.Open
open Go.ChangeMaps (open_string shut_string)
/-- The one pure statement of ExprSound. -/
def ExprSound : Prop := ∀ (l0 : List S39) (l1 : List Int) (l2 : List S31), wf_L39_T39 l0 → wf_L3_i64 l1 → wf_L31_T31 l2 → ∃ k, corollarylaw10_ExprSound.f k l0 l1 l2 = some true
end Go.Proofs.YtiamgfpeffjcjaaDoor.Stat
