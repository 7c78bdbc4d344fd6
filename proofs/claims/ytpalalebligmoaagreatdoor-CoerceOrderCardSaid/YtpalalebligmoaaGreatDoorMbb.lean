/- What functions of the abstract machine answer. No conditions but those that each theorem names. -/
import Derived.Test.YtpalalebligmoaaGreatDoorMV
import Derived.KernelRfl
set_option maxRecDepth 100000
set_option linter.unusedVariables false
namespace Go.Cb.CodeA
open Go Go.Cb
theorem m_bb : callF tbl 100 12 A_bb T_aw = some (R_bb, T_bb) := by kernel_rfl
end Go.Cb.CodeA
