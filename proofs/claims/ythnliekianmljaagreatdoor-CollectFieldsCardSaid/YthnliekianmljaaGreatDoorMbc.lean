/- What functions of the abstract machine answer. No conditions but those that each theorem names. -/
import Derived.Test.YthnliekianmljaaGreatDoorMV
import Derived.KernelRfl
set_option maxRecDepth 100000
set_option linter.unusedVariables false
namespace Go.Cb.CodeA
open Go Go.Cb
theorem d6h (ob:Cb.Obj):Go.Cb.G.callG tbl 3000 11 [] (d7L ob)=some (d5M,(a9a ob)):=by kernel_rfl
end Go.Cb.CodeA
