-- HALVED
-- Written by our own program (wip/xprint/rows.py) for this seat.
import Derived.Test.YtchpbnabbjdfgaaDoorPx106
import Derived.Test.YtchpbnabbjdfgaaDoorOpen
namespace Go.Proofs.YtchpbnabbjdfgaaDoor.Stat
open Go.ChangeShapes Go.WideShapes Go.ChangeAt Go.RowKit Go.Proofs.YtchpbnabbjdfgaaDoorW.PrintWords Go.Proofs.YtchpbnabbjdfgaaDoorW.PrintLast Go.Proofs.YtchpbnabbjdfgaaDoor.P Go.Proofs.YtchpbnabbjdfgaaDoor.Open
open Go.ChangeMaps (open_string shut_string)
/-- The one pure statement of SubOld. -/
def SubOld : Prop := ∀ (a0_0 : Int) (a0_1 : Int) (l0_2 : List S56) (a0_3 : Int) (a0_4 : Int) (l0_5 : List S41) (a1_0 : Int) (a1_1 : Int) (a1_2 : Int) (a1_3 : Int) (a1_4 : Int) (l1_5 : List S56), wf_T33 (⟨a0_0, a0_1, l0_2, a0_3, a0_4, l0_5⟩ : S33) → l0_5.length ≤ 2199023255488 → wf_T41 (⟨a1_0, a1_1, a1_2, a1_3, a1_4, l1_5⟩ : S41) → ∃ k, zac.f k a0_0 a0_1 l0_2 a0_3 a0_4 l0_5 a1_0 a1_1 a1_2 a1_3 a1_4 l1_5 = some true
end Go.Proofs.YtchpbnabbjdfgaaDoor.Stat
