/- What functions of the abstract machine answer. No conditions but those that each theorem names. -/
import Derived.Test.YthbikoodicigeaaGreatDoorCodeA
set_option maxRecDepth 100000
set_option linter.unusedVariables false
namespace Go.Cb.CodeA
open Go Go.Cb
noncomputable def tbl1 (f:Nat):Option AFn:=bif Nat.beq f 3 || Nat.beq f 4 || Nat.beq f 10 then none else tbl f
end Go.Cb.CodeA
