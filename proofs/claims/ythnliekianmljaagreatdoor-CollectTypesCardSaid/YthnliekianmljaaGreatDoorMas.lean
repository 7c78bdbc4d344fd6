/- What functions of the abstract machine answer. No conditions but those that each theorem names. -/
import Derived.Test.YthnliekianmljaaGreatDoorMV
import Derived.KernelRfl
set_option maxRecDepth 100000
set_option linter.unusedVariables false
namespace Go.Cb.CodeA
open Go Go.Cb Go.Cb.F
theorem m_as : callQ tbl zs 3000 29 A_as T_at = some (R_as, T_as) := by kernel_rfl
end Go.Cb.CodeA
