/- What functions of the abstract machine answer. No conditions but those that each theorem names. -/
import Derived.Test.YthnliekianmljaaGreatDoorMV
import Derived.KernelRfl
set_option maxRecDepth 100000
set_option linter.unusedVariables false
namespace Go.Cb.CodeA
open Go Go.Cb Go.Cb.F
theorem m_bs : callQ tbl zs 3000 29 A_as T_bt = some (R_bs, T_bs) := by kernel_rfl
end Go.Cb.CodeA
