-- HALVED
import Derived.Test.YtnggdcdiachkpaaDoorPureB7
import Derived.Test.YtnggdcdiachkpaaDoorPx111
import Derived.Test.YtnggdcdiachkpaaDoorPx111
namespace Go.Proofs.YtnggdcdiachkpaaDoor.Pure
open Go.ChangeShapes Go.WideShapes Go.ChangeAt Go.RowKit Go.Proofs.YtnggdcdiachkpaaDoorW.PrintWords Go.Proofs.YtnggdcdiachkpaaDoorW.PrintLast Go.Proofs.YtnggdcdiachkpaaDoor.P Go.Proofs.YtnggdcdiachkpaaDoor.Open
set_option linter.unusedVariables false
set_option linter.unusedSimpArgs false
end Go.Proofs.YtnggdcdiachkpaaDoor.Pure
