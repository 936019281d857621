-- Written by our own program (wip/xprint/rows.py) for this seat.
import Derived.Test.YtmdnnpahmoaicaaDoorPx80
import Derived.Test.YtmdnnpahmoaicaaDoorOpen
namespace Go.Proofs.YtmdnnpahmoaicaaDoor.Stat
open Go.ChangeShapes Go.WideShapes Go.ChangeAt Go.RowKit Go.Proofs.YtmdnnpahmoaicaaDoorW.PrintWords Go.Proofs.YtmdnnpahmoaicaaDoorW.PrintLast Go.Proofs.YtmdnnpahmoaicaaDoor.P Go.Proofs.YtmdnnpahmoaicaaDoor.Open
open Go.ChangeMaps (open_string shut_string)
/-- The one pure statement of ValueRows. -/
def ValueRows : Prop := ∀ (l0 : List S23) (l1 : List S23), wf_L23_T23 l0 → wf_L23_T23 l1 → ∃ k, corollarylaw01_ValueRows.f k l0 l1 = some true
end Go.Proofs.YtmdnnpahmoaicaaDoor.Stat
