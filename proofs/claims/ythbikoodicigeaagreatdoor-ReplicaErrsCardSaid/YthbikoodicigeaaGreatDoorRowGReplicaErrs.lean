/- What functions of the abstract machine answer. No conditions but those that each theorem names. -/
import Derived.Test.YthbikoodicigeaaGreatDoorRow0
set_option linter.unusedVariables false
namespace Go.Proofs.YthbikoodicigeaaGreatDoor
open Go.ChangeShapes Go.WideShapes Go.ChangeAt Go.WideMaps Go.WideElems Go.RowKit Go.ChangeMaps Go.Cb Go.Cb.CodeA
set_option maxRecDepth 100000
theorem goesNot:false=Rows.replicaErrsRow.goesBy Tryz.pinned.checked.prog:=by kernel_rfl
end Go.Proofs.YthbikoodicigeaaGreatDoor
