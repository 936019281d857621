-- Written by our own program (wip/xprint/rows.py) for this seat.
import Derived.Test.YtmdnnpahmoaicaaDoorPx62
import Derived.Test.YtmdnnpahmoaicaaDoorOpen
namespace Go.Proofs.YtmdnnpahmoaicaaDoor.Stat
open Go.ChangeShapes Go.WideShapes Go.ChangeAt Go.RowKit Go.Proofs.YtmdnnpahmoaicaaDoorW.PrintWords Go.Proofs.YtmdnnpahmoaicaaDoorW.PrintLast Go.Proofs.YtmdnnpahmoaicaaDoor.P Go.Proofs.YtmdnnpahmoaicaaDoor.Open
open Go.ChangeMaps (open_string shut_string)
/-- The one pure statement of ValueSums. -/
def ValueSums : Prop := ∀ (a0_0 : Int) (a0_1 : Int) (a0_2 : ByteArray) (a1_0 : Int) (a1_1 : Int) (a1_2 : ByteArray), wf_T23 (⟨a0_0, a0_1, a0_2⟩ : S23) → wf_T23 (⟨a1_0, a1_1, a1_2⟩ : S23) → ∃ k, corollarylaw01_ValueSums.f k a0_0 a0_1 a0_2 a1_0 a1_1 a1_2 = some true
end Go.Proofs.YtmdnnpahmoaicaaDoor.Stat
