/- What functions of the abstract machine answer. No conditions but those that each theorem names. -/
import Derived.Test.YtcmfklfjebaeoaaGreatDoorMV
import Derived.KernelRfl
set_option maxRecDepth 100000
set_option linter.unusedVariables false
namespace Go.Cb.CodeA
open Go Go.Cb
theorem c2F:Go.Cb.G.callG tbl 3000 4 [] []=some (c9w,T_aw):=by kernel_rfl
end Go.Cb.CodeA
