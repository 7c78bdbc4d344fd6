/- What functions of the abstract machine answer. No conditions but those that each theorem names. -/
import Derived.Test.YtcmfklfjebaeoaaGreatDoorRow0
set_option linter.unusedVariables false
namespace Go.Proofs.YtcmfklfjebaeoaaGreatDoor
open Go.Clock Go.ChangeShapes Go.WideShapes Go.ChangeAt Go.WideMaps Go.WideElems Go.RowKit Go.ChangeMaps Go.Cb Go.Cb.CodeA
set_option maxRecDepth 100000
theorem b8z:false=Rows.vaultLoadsRow.goesBy Tryz.pinned.checked.prog:=by kernel_rfl
end Go.Proofs.YtcmfklfjebaeoaaGreatDoor
