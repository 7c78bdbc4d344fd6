import Derived.Test.YtdlgfdncpemcnaaGreatDoorMV
import Derived.KernelRfl
set_option maxRecDepth 100000
set_option linter.all false
namespace Go.Cb.CodeA
open Go Go.Cb
theorem g64:Go.Cb.G.callG tbl 3000 5 [] []=some (b7b,T_aw):=by kernel_rfl
end Go.Cb.CodeA
