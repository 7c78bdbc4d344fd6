import Derived.Test.YtlegecilkicppaaGreatDoorMT
import Derived.KernelRfl
set_option maxRecDepth 100000
set_option linter.all false
namespace Go.Cb.CodeA.W
open Go Go.Cb
theorem m_rd2:Go.Cb.G.callG e7 3000 19 [.ptr 2 0,txt2] T_b0=some (R_rd2,T_rd2):=by kernel_rfl
end Go.Cb.CodeA.W
