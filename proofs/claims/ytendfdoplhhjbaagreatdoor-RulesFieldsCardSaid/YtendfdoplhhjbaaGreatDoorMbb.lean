/- What functions of the abstract machine answer. No conditions but those that each theorem names. -/
import Derived.Test.YtendfdoplhhjbaaGreatDoorMV
import Derived.KernelRfl
set_option maxRecDepth 100000
set_option linter.unusedVariables false
namespace Go.Cb.CodeA
open Go Go.Cb
theorem m_bb : Go.Cb.G.callG tbl 3000 6 [] T_aw = some (R_bb, T_bb) := by kernel_rfl
end Go.Cb.CodeA
