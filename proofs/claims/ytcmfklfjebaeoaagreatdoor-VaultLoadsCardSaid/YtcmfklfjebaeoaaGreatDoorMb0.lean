/- What functions of the abstract machine answer. No conditions but those that each theorem names. -/
import Derived.Test.YtcmfklfjebaeoaaGreatDoorMV
import Derived.KernelRfl
set_option maxRecDepth 100000
set_option linter.unusedVariables false
namespace Go.Cb.CodeA
open Go Go.Cb
theorem c6L:Go.Cb.G.callG tbl 3000 5 [] []=some (d0G,T_b0):=by kernel_rfl
end Go.Cb.CodeA
