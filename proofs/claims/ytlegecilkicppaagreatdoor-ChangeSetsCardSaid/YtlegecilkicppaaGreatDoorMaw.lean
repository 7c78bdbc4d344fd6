import Derived.Test.YtlegecilkicppaaGreatDoorMV
import Derived.KernelRfl
set_option maxRecDepth 100000
set_option linter.all false
namespace Go.Cb.CodeA
open Go Go.Cb
theorem c9P:Go.Cb.G.callG tbl 3000 4 [] []=some (b86,T_aw):=by kernel_rfl
end Go.Cb.CodeA
