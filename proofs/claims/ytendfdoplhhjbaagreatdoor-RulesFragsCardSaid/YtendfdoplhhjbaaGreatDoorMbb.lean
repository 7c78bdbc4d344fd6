/- What functions of the abstract machine answer. No conditions but those that each theorem names. -/
import Derived.Test.YtendfdoplhhjbaaGreatDoorMV
import Derived.KernelRfl
set_option maxRecDepth 100000
set_option linter.unusedVariables false
namespace Go.Cb.CodeA
open Go Go.Cb
theorem f8b (ob:Cb.Obj):Go.Cb.G.callG tbl 3000 6 [] (a0r ob)=some (b3X,(a7s ob)):=by kernel_rfl
end Go.Cb.CodeA
