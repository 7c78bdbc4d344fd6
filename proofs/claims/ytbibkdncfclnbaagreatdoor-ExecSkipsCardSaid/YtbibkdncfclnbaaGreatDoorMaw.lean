/- What functions of the abstract machine answer. No conditions but those that each theorem names. -/
import Derived.Test.YtbibkdncfclnbaaGreatDoorMV
import Derived.KernelRfl
set_option maxRecDepth 100000
set_option linter.unusedVariables false
namespace Go.Cb.CodeA
open Go Go.Cb
theorem d4l:Go.Cb.G.callG tbl 3000 11 [] []=some (d6c,b4p):=by kernel_rfl
end Go.Cb.CodeA
