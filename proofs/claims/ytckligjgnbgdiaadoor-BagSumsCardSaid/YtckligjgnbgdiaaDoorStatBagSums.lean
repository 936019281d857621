-- HALVED
-- Written by our own program (wip/xprint/rows.py) for this seat.
import Derived.Test.YtckligjgnbgdiaaDoorPx78
import Derived.Test.YtckligjgnbgdiaaDoorOpen
namespace Go.Proofs.YtckligjgnbgdiaaDoor.Stat
open Go.ChangeShapes Go.WideShapes Go.ChangeAt Go.RowKit Go.Proofs.YtckligjgnbgdiaaDoorW.PrintWords Go.Proofs.YtckligjgnbgdiaaDoorW.PrintLast Go.Proofs.YtckligjgnbgdiaaDoor.P Go.Proofs.YtckligjgnbgdiaaDoor.Open
open Go.ChangeMaps (open_string shut_string)
/-- The one pure statement of BagSums. -/
def BagSums : Prop := ∀ (l0 : List S27) (l1 : List S27), wf_L27_T27 l0 → wf_L27_T27 l1 → ∃ k, corollarylaw13_BagSums.f k l0 l1 = some true
end Go.Proofs.YtckligjgnbgdiaaDoor.Stat
