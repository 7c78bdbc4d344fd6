/- What functions of the abstract machine answer. No conditions but those that each theorem names. -/
import Derived.Test.YtbanbicfopmcbaaGreatDoorV0
set_option maxRecDepth 100000
set_option linter.unusedVariables false
namespace Go.Cb.CodeA
open Go Go.Cb Go.Cb.G
theorem c4t:FD 0 0 1 false:=by unfold FD; and_intros <;> kernel_rfl
theorem c7l:FD 1 1 2 false:=by unfold FD; and_intros <;> kernel_rfl
theorem c3X:FD 0 2 2 true:=by unfold FD; and_intros <;> kernel_rfl
theorem c54:FD 1 2 2 true:=by unfold FD; and_intros <;> kernel_rfl
theorem c6c:FD 2 2 3 false:=by unfold FD; and_intros <;> kernel_rfl
theorem c5J:FD 3 3 2 false:=by unfold FD; and_intros <;> kernel_rfl
end Go.Cb.CodeA
