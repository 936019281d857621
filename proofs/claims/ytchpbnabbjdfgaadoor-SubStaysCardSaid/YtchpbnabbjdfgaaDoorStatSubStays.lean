-- HALVED
-- Written by our own program (wip/xprint/rows.py) for this seat.
import Derived.Test.YtchpbnabbjdfgaaDoorPx100
import Derived.Test.YtchpbnabbjdfgaaDoorOpen
namespace Go.Proofs.YtchpbnabbjdfgaaDoor.Stat
open Go.ChangeShapes Go.WideShapes Go.ChangeAt Go.RowKit Go.Proofs.YtchpbnabbjdfgaaDoorW.PrintWords Go.Proofs.YtchpbnabbjdfgaaDoorW.PrintLast Go.Proofs.YtchpbnabbjdfgaaDoor.P Go.Proofs.YtchpbnabbjdfgaaDoor.Open
open Go.ChangeMaps (open_string shut_string)
/-- The one pure statement of SubStays. -/
def SubStays : Prop := ∀ (a0_0 : Int) (a0_1 : Int) (l0_2 : List S56) (a0_3 : Int) (a0_4 : Int) (l0_5 : List S41) (l1 : List S41), wf_T33 (⟨a0_0, a0_1, l0_2, a0_3, a0_4, l0_5⟩ : S33) → l0_5.length ≤ 2199023255488 → zix l1 → ∃ k, zac.f k a0_0 a0_1 l0_2 a0_3 a0_4 l0_5 l1 = some true
end Go.Proofs.YtchpbnabbjdfgaaDoor.Stat
