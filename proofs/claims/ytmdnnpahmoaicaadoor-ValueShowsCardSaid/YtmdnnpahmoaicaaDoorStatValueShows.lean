-- Written by our own program (wip/xprint/rows.py) for this seat.
import Derived.Test.YtmdnnpahmoaicaaDoorPx77
import Derived.Test.YtmdnnpahmoaicaaDoorOpen
namespace Go.Proofs.YtmdnnpahmoaicaaDoor.Stat
open Go.ChangeShapes Go.WideShapes Go.ChangeAt Go.RowKit Go.Proofs.YtmdnnpahmoaicaaDoorW.PrintWords Go.Proofs.YtmdnnpahmoaicaaDoorW.PrintLast Go.Proofs.YtmdnnpahmoaicaaDoor.P Go.Proofs.YtmdnnpahmoaicaaDoor.Open
open Go.ChangeMaps (open_string shut_string)
/-- The one pure statement of ValueShows. -/
def ValueShows : Prop := ∀ (a0_0 : Int) (a0_1 : Int) (a0_2 : ByteArray) (l1 : List S23), wf_T23 (⟨a0_0, a0_1, a0_2⟩ : S23) → wf_L23_T23 l1 → ∃ k, corollarylaw01_ValueShows.f k a0_0 a0_1 a0_2 l1 = some true
end Go.Proofs.YtmdnnpahmoaicaaDoor.Stat
