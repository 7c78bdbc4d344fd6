/- What functions of the abstract machine answer. No conditions but those that each theorem names. -/
import Derived.Test.YtbibkdncfclnbaaGreatDoorRow0
import Derived.Test.YtbibkdncfclnbaaGreatDoorPostV
import Derived.Test.YtbibkdncfclnbaaGreatDoorChecked
import Derived.Deep.Slices
import Derived.ProofKit
import Derived.Test.YtbibkdncfclnbaaGreatDoorXAms3
import Derived.Test.YtbibkdncfclnbaaGreatDoorXs1
namespace Go.Proofs.YtbibkdncfclnbaaGreatDoor
open Go.ChangeShapes Go.WideShapes Go.ChangeAt Go.WideMaps Go.WideElems Go.RowKit Go.ChangeMaps Go.Cb Go.Cb.CodeA
set_option maxRecDepth 100000
set_option linter.unusedVariables false
theorem c5:Tryz.prog.cellsOf 5=1:=by kernel_rfl
theorem c9:Tryz.prog.cellsOf 9=1:=by kernel_rfl
theorem c21:Tryz.prog.cellsOf 21=1:=by kernel_rfl
section
variable {H:Type} {enc:TypeId×Value→H} {w:World} {base:Nat} {spare:Nat→Bool} {held:Bool}
end
end Go.Proofs.YtbibkdncfclnbaaGreatDoor
