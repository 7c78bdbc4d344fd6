/- What functions of the abstract machine answer. No conditions but those that each theorem names. -/
import Derived.Test.YthnliekianmljaaGreatDoorMV
import Derived.KernelRfl
set_option maxRecDepth 100000
set_option linter.unusedVariables false
namespace Go.Cb.CodeA
open Go Go.Cb
theorem d8Z:Go.Cb.G.callG tbl 3000 9 [] []=some (c8T,a4N):=by kernel_rfl
end Go.Cb.CodeA
