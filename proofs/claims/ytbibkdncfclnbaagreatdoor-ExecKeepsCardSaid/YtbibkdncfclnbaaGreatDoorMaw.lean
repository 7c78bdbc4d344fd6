import Derived.Test.YtbibkdncfclnbaaGreatDoorMV
import Derived.KernelRfl
set_option maxRecDepth 100000
set_option linter.all false
namespace Go.Cb.CodeA
open Go Go.Cb
theorem d4M:Go.Cb.G.callG tbl 3000 11 [] []=some (d3w,b5T):=by kernel_rfl
end Go.Cb.CodeA
