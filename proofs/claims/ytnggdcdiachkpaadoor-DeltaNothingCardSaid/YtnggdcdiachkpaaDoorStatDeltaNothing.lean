-- HALVED
-- Written by our own program (wip/xprint/rows.py) for this seat.
import Derived.Test.YtnggdcdiachkpaaDoorPx135
import Derived.Test.YtnggdcdiachkpaaDoorOpen
namespace Go.Proofs.YtnggdcdiachkpaaDoor.Stat
open Go.ChangeShapes Go.WideShapes Go.ChangeAt Go.RowKit Go.Proofs.YtnggdcdiachkpaaDoorW.PrintWords Go.Proofs.YtnggdcdiachkpaaDoorW.PrintLast Go.Proofs.YtnggdcdiachkpaaDoor.P Go.Proofs.YtnggdcdiachkpaaDoor.Open
open Go.ChangeMaps (open_string shut_string)
/-- The one pure statement of DeltaNothing. -/
def DeltaNothing : Prop := ∀ (a0_0 : ByteArray) (a0_1 : ByteArray) (l0_2 : List Int) (l0_3 : List S50) (l0_4 : List (List S50)) (l0_5 : List Int) (l0_6 : List S150) (a1 : Int) (l2 : List S54) (l3 : List S54) (l4 : List S54), wf_T27 (⟨a0_0, a0_1, l0_2, l0_3, l0_4, l0_5, l0_6⟩ : S27) → (fun a => (Lit.int .i64 a).wf = true) a1 → zcr l2 → zcr l3 → zcr l4 → ∃ k, zaa.f k a0_0 a0_1 l0_2 l0_3 l0_4 l0_5 l0_6 a1 l2 l3 l4 = some true
end Go.Proofs.YtnggdcdiachkpaaDoor.Stat
