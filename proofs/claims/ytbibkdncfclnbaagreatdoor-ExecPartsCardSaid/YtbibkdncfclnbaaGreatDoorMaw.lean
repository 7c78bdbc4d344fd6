import Derived.Test.YtbibkdncfclnbaaGreatDoorMV
import Derived.KernelRfl
set_option maxRecDepth 100000
set_option linter.unusedVariables false
namespace Go.Cb.CodeA
open Go Go.Cb
theorem d6k:Go.Cb.G.callG tbl 3000 11 [] []=some (d5U,b2o):=by kernel_rfl
end Go.Cb.CodeA
