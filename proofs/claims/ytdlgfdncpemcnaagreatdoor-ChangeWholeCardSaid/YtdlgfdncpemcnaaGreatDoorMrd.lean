import Derived.Test.YtdlgfdncpemcnaaGreatDoorMW
import Derived.KernelRfl
set_option maxRecDepth 100000
set_option linter.all false
namespace Go.Cb.CodeA.W
open Go Go.Cb
theorem m_rd:Go.Cb.G.callG e8 3000 19 [.ptr 2 0,txtW] T_b0=some (R_rd,T_rd):=by kernel_rfl
end Go.Cb.CodeA.W
