/- What functions of the abstract machine answer. No conditions but those that each theorem names. -/
import Derived.Test.YthbikoodicigeaaGreatDoorT1
import Derived.Test.YthbikoodicigeaaGreatDoorMV
import Derived.Test.YthbikoodicigeaaGreatDoorXAms3
import Derived.KernelRfl
set_option maxRecDepth 100000
set_option linter.unusedVariables false
namespace Go.Cb.CodeA
open Go Go.Cb
theorem m_do2:Go.Cb.G.callG tbl1 3000 42 A_do T_ask=some (R_do2,T_do2):=by kernel_rfl
end Go.Cb.CodeA
