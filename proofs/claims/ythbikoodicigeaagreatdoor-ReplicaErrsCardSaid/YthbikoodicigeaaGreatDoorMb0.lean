/- What functions of the abstract machine answer. No conditions but those that each theorem names. -/
import Derived.Test.YthbikoodicigeaaGreatDoorT1
import Derived.Test.YthbikoodicigeaaGreatDoorMV
import Derived.Test.YthbikoodicigeaaGreatDoorXAms3
import Derived.KernelRfl
set_option maxRecDepth 100000
set_option linter.unusedVariables false
namespace Go.Cb.CodeA
open Go Go.Cb
theorem m_b0:Go.Cb.G.callG tbl1 3000 5 [] []=some (R_b0,T_b0):=by kernel_rfl
end Go.Cb.CodeA
