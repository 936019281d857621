-- HALVED
-- Written by our own program (wip/xprint/rows.py) for this seat.
import Derived.Test.YtchpbnabbjdfgaaDoorPx103
import Derived.Test.YtchpbnabbjdfgaaDoorOpen
namespace Go.Proofs.YtchpbnabbjdfgaaDoor.Stat
open Go.ChangeShapes Go.WideShapes Go.ChangeAt Go.RowKit Go.Proofs.YtchpbnabbjdfgaaDoorW.PrintWords Go.Proofs.YtchpbnabbjdfgaaDoorW.PrintLast Go.Proofs.YtchpbnabbjdfgaaDoor.P Go.Proofs.YtchpbnabbjdfgaaDoor.Open
open Go.ChangeMaps (open_string shut_string)
/-- The one pure statement of SubFollows. -/
def SubFollows : Prop := ∀ (l0 : List (List S56)) (l1 : List Int), zir l0 → wf_L3_i64 l1 → ∃ k, zad.f k l0 l1 = some true
end Go.Proofs.YtchpbnabbjdfgaaDoor.Stat
