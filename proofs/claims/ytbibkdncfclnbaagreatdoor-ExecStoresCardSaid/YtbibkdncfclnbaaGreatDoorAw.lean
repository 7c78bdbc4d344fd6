/- What functions of the abstract machine answer. No conditions but those that each theorem names. -/
import Derived.Test.YtbibkdncfclnbaaGreatDoorCodeA
import Derived.Test.YtbibkdncfclnbaaGreatDoorXAms4
import Derived.KernelRfl
set_option maxRecDepth 100000
set_option linter.unusedVariables false
namespace Go.Cb.CodeA
open Go Go.Cb
theorem c8c:Go.Cb.G.fst' (Go.Cb.G.callG tbl 3000 11 [] [])=some (.bool true):=by kernel_rfl
end Go.Cb.CodeA
