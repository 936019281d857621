-- Written by our own program (wip/xprint/rows.py) for this seat.
import Derived.Test.YtipcggfabjfobaaPx21
import Derived.Test.YtipcggfabjfobaaOpen
namespace Go.Proofs.Ytipcggfabjfobaa.Stat
open Go.ChangeShapes Go.WideShapes Go.ChangeAt Go.RowKit Go.Proofs.YtipcggfabjfobaaW.PrintWords Go.Proofs.YtipcggfabjfobaaW.PrintLast Go.Proofs.Ytipcggfabjfobaa.P Go.Proofs.Ytipcggfabjfobaa.Open
open Go.ChangeMaps (open_string shut_string)
/-- The one pure statement of WideBack. -/
def WideBack : Prop := ∀ (a0_0 : Int) (a0_1 : Int) (a1_0 : Int) (a1_1 : Int), wf_T26 (⟨a0_0, a0_1⟩ : S26) → wf_T26 (⟨a1_0, a1_1⟩ : S26) → ∃ k, corollarylaw02_WideBack.f k a0_0 a0_1 a1_0 a1_1 = some true
end Go.Proofs.Ytipcggfabjfobaa.Stat
