import Derived.Test.YtgaibigpannjfaaGreatDoorMV
import Derived.KernelRfl
set_option maxRecDepth 100000
set_option linter.all false
namespace Go.Cb.CodeA
open Go Go.Cb
theorem e7f:Go.Cb.G.callG tbl 3000 4 [] []=some (c1P,T_aw):=by kernel_rfl
end Go.Cb.CodeA
