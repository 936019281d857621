-- Written by our own program (wip/xprint/rows.py) for this seat.
import Derived.Test.YtjcjndpfihchnaaDoorPx49
import Derived.Test.YtjcjndpfihchnaaDoorOpen
namespace Go.Proofs.YtjcjndpfihchnaaDoor.Stat
open Go.ChangeShapes Go.WideShapes Go.ChangeAt Go.RowKit Go.Proofs.YtjcjndpfihchnaaDoorW.PrintWords Go.Proofs.YtjcjndpfihchnaaDoorW.PrintLast Go.Proofs.YtjcjndpfihchnaaDoor.P Go.Proofs.YtjcjndpfihchnaaDoor.Open
open Go.ChangeMaps (open_string shut_string)
/-- The one pure statement of LexScans. -/
def LexScans : Prop := ∀ (a0 : ByteArray), (fun s : ByteArray => s.size ≤ maxLen) a0 → a0.size ≤ 140737488351232 → ∃ k, corollarylaw11_LexScans.f k a0 = some true
end Go.Proofs.YtjcjndpfihchnaaDoor.Stat
