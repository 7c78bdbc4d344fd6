import Derived.Test.YtbibkdncfclnbaaGreatDoorMV
import Derived.KernelRfl
set_option maxRecDepth 100000
set_option linter.unusedVariables false
namespace Go.Cb.CodeA
open Go Go.Cb
theorem d5q:Go.Cb.G.callG tbl 3000 12 [] b2o=some (d7c,T_bb):=by kernel_rfl
end Go.Cb.CodeA
