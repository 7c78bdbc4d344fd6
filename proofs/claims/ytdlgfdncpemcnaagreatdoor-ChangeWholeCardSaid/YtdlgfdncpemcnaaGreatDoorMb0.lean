import Derived.Test.YtdlgfdncpemcnaaGreatDoorMV
import Derived.KernelRfl
set_option maxRecDepth 100000
set_option linter.all false
namespace Go.Cb.CodeA
open Go Go.Cb
theorem g7I:Go.Cb.G.callG tbl 3000 6 [] []=some (R_b0,T_b0):=by kernel_rfl
end Go.Cb.CodeA
