-- Written by our own program (wip/xprint/rows.py) for this seat.
import Derived.Test.YtipcggfabjfobaaPx13
import Derived.Test.YtipcggfabjfobaaOpen
namespace Go.Proofs.Ytipcggfabjfobaa.Stat
open Go.ChangeShapes Go.WideShapes Go.ChangeAt Go.RowKit Go.Proofs.YtipcggfabjfobaaW.PrintWords Go.Proofs.YtipcggfabjfobaaW.PrintLast Go.Proofs.Ytipcggfabjfobaa.P Go.Proofs.Ytipcggfabjfobaa.Open
open Go.ChangeMaps (open_string shut_string)
/-- The one pure statement of WideSums. -/
def WideSums : Prop := ∀ (l0 : List Int), wf_L3_i64 l0 → ∃ k, corollarylaw02_WideSums.f k l0 = some true
end Go.Proofs.Ytipcggfabjfobaa.Stat
