/- What functions of the abstract machine answer. No conditions but those that each theorem names. -/
import Derived.Test.YthbikoodicigeaaGreatDoorOkB
import Derived.Test.YthbikoodicigeaaGreatDoorAps1
import Derived.Test.YthbikoodicigeaaGreatDoorWps1
set_option linter.unusedVariables false
namespace Go.Cb.CodeA
open Go Go.Cb Go.Proofs
theorem prog_okA:ProgD Tryz.prog gts [202,148] [149] tbl:=prog_okT awake_ok want_ok
end Go.Cb.CodeA
