/- What functions of the abstract machine answer. No conditions but those that each theorem names. -/
import Derived.Test.YtendfdoplhhjbaaGreatDoorMV
import Derived.KernelRfl
set_option maxRecDepth 100000
set_option linter.unusedVariables false
namespace Go.Cb.CodeA
open Go Go.Cb
theorem f7o:Go.Cb.G.callG tbl 3000 5 [] []=some (c5E,t7):=by kernel_rfl
end Go.Cb.CodeA
