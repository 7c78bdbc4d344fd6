/- What functions of the abstract machine answer. No conditions but those that each theorem names. -/
import Derived.Test.YtbibkdncfclnbaaGreatDoorMV
import Derived.KernelRfl
set_option maxRecDepth 100000
set_option linter.unusedVariables false
namespace Go.Cb.CodeA
open Go Go.Cb
theorem d3i:Go.Cb.G.callG tbl 3000 12 [] b4p=some (d40,N1):=by kernel_rfl
end Go.Cb.CodeA
