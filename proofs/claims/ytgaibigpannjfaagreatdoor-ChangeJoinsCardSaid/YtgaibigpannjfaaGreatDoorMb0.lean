import Derived.Test.YtgaibigpannjfaaGreatDoorMV
import Derived.KernelRfl
set_option maxRecDepth 100000
set_option linter.all false
namespace Go.Cb.CodeA
open Go Go.Cb
theorem e3S:Go.Cb.G.callG tbl 3000 5 [] []=some (e4f,T_b0):=by kernel_rfl
end Go.Cb.CodeA
