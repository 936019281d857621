-- HALVED
-- Written by our own program (wip/xprint/rows.py) for this seat.
import Derived.Test.YtchpbnabbjdfgaaDoorPx118
import Derived.Test.YtchpbnabbjdfgaaDoorOpen
namespace Go.Proofs.YtchpbnabbjdfgaaDoor.Stat
open Go.ChangeShapes Go.WideShapes Go.ChangeAt Go.RowKit Go.Proofs.YtchpbnabbjdfgaaDoorW.PrintWords Go.Proofs.YtchpbnabbjdfgaaDoorW.PrintLast Go.Proofs.YtchpbnabbjdfgaaDoor.P Go.Proofs.YtchpbnabbjdfgaaDoor.Open
open Go.ChangeMaps (open_string shut_string)
/-- The one pure statement of SubApplies. -/
def SubApplies : Prop := ∀ (l0 : List S56) (l1 : List S56), zgy l0 → zgy l1 → ∃ k, zau.f k l0 l1 = some true
end Go.Proofs.YtchpbnabbjdfgaaDoor.Stat
