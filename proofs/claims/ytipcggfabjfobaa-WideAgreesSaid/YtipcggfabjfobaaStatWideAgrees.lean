-- Written by our own program (wip/xprint/rows.py) for this seat.
import Derived.Test.YtipcggfabjfobaaPx30
import Derived.Test.YtipcggfabjfobaaOpen
namespace Go.Proofs.Ytipcggfabjfobaa.Stat
open Go.ChangeShapes Go.WideShapes Go.ChangeAt Go.RowKit Go.Proofs.YtipcggfabjfobaaW.PrintWords Go.Proofs.YtipcggfabjfobaaW.PrintLast Go.Proofs.Ytipcggfabjfobaa.P Go.Proofs.Ytipcggfabjfobaa.Open
open Go.ChangeMaps (open_string shut_string)
/-- The one pure statement of WideAgrees. -/
def WideAgrees : Prop := ∀ (a0 : Int) (a1 : Int), (fun a => (Lit.int .i64 a).wf = true) a0 → (fun a => (Lit.int .i64 a).wf = true) a1 → ∃ k, corollarylaw02_WideAgrees.f k a0 a1 = some true
end Go.Proofs.Ytipcggfabjfobaa.Stat
