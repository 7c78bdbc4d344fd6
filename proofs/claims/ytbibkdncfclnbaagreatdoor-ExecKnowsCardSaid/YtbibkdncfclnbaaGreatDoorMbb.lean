import Derived.Test.YtbibkdncfclnbaaGreatDoorMV
import Derived.KernelRfl
set_option maxRecDepth 100000
set_option linter.all false
namespace Go.Cb.CodeA
open Go Go.Cb
theorem d3S:Go.Cb.G.callG tbl 3000 12 [] b5C=some (d44,a6Y):=by kernel_rfl
end Go.Cb.CodeA
