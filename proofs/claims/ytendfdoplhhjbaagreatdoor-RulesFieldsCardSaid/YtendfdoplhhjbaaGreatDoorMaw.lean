/- What functions of the abstract machine answer. No conditions but those that each theorem names. -/
import Derived.Test.YtendfdoplhhjbaaGreatDoorMV
import Derived.KernelRfl
set_option maxRecDepth 100000
set_option linter.unusedVariables false
namespace Go.Cb.CodeA
open Go Go.Cb
theorem m_aw : Go.Cb.G.callG tbl 3000 5 [] [] = some (R_aw, T_aw) := by kernel_rfl
end Go.Cb.CodeA
