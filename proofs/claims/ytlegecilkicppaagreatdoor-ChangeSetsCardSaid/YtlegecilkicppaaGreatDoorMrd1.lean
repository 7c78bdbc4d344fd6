import Derived.Test.YtlegecilkicppaaGreatDoorMT
import Derived.KernelRfl
set_option maxRecDepth 100000
set_option linter.all false
namespace Go.Cb.CodeA.W
open Go Go.Cb
theorem m_rd1:Go.Cb.G.callG e7 3000 19 [.ptr 2 0,txt1] T_b0=some (R_rd1,T_rd1):=by kernel_rfl
end Go.Cb.CodeA.W
