-- Written by our own program (wip/xprint/rows.py) for this seat.
import Derived.Test.YtjcjndpfihchnaaDoorPx69
import Derived.Test.YtjcjndpfihchnaaDoorOpen
namespace Go.Proofs.YtjcjndpfihchnaaDoor.Stat
open Go.ChangeShapes Go.WideShapes Go.ChangeAt Go.RowKit Go.Proofs.YtjcjndpfihchnaaDoorW.PrintWords Go.Proofs.YtjcjndpfihchnaaDoorW.PrintLast Go.Proofs.YtjcjndpfihchnaaDoor.P Go.Proofs.YtjcjndpfihchnaaDoor.Open
open Go.ChangeMaps (open_string shut_string)
/-- The one pure statement of LexShown. -/
def LexShown : Prop := ∀ (a0_0 : Int) (a0_1 : Int) (a0_2 : ByteArray) (a1 : Int), wf_T36 (⟨a0_0, a0_1, a0_2⟩ : S36) → (fun a => (Lit.int .u8 a).wf = true) a1 → ∃ k, corollarylaw11_LexShown.f k a0_0 a0_1 a0_2 a1 = some true
end Go.Proofs.YtjcjndpfihchnaaDoor.Stat
