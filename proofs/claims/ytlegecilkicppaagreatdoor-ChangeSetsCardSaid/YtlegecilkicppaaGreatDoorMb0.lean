import Derived.Test.YtlegecilkicppaaGreatDoorMV
import Derived.KernelRfl
set_option maxRecDepth 100000
set_option linter.all false
namespace Go.Cb.CodeA
open Go Go.Cb
theorem d9J:Go.Cb.G.callG tbl 3000 5 [] []=some (R_b0,T_b0):=by kernel_rfl
end Go.Cb.CodeA
