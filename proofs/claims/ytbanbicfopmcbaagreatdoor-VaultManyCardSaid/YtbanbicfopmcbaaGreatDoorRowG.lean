/- One more closed fact of the row VaultMany. No conditions. -/
import Derived.Test.YtbanbicfopmcbaaGreatDoorRow0
set_option linter.unusedVariables false
namespace Go.Proofs.YtbanbicfopmcbaaGreatDoor
open Go.Clock Go.ChangeShapes Go.WideShapes Go.ChangeAt Go.WideMaps Go.WideElems Go.RowKit Go.ChangeMaps Go.Cb Go.Cb.CodeA
set_option maxRecDepth 100000
theorem goesNot:false=Rows.vaultManyRow.goesBy Tryz.pinned.checked.prog:=by kernel_rfl
end Go.Proofs.YtbanbicfopmcbaaGreatDoor
