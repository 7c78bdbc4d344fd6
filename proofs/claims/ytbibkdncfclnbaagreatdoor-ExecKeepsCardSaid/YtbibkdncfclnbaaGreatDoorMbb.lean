import Derived.Test.YtbibkdncfclnbaaGreatDoorMV
import Derived.KernelRfl
set_option maxRecDepth 100000
set_option linter.all false
namespace Go.Cb.CodeA
open Go Go.Cb
theorem d4r:Go.Cb.G.callG tbl 3000 12 [] b5T=some (d3L,a8R):=by kernel_rfl
end Go.Cb.CodeA
