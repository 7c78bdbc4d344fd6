/- What functions of the abstract machine answer. No conditions but those that each theorem names. -/
import Derived.Test.YtbibkdncfclnbaaGreatDoorB0
import Derived.Test.YtbibkdncfclnbaaGreatDoorRD
set_option maxRecDepth 20000
set_option linter.unusedSimpArgs false
set_option linter.unusedVariables false
namespace Go.Cb.CodeA
open Go Go.Cb
theorem b3D {d:List Sel} {es:List Ent} {v:AV} (typ:List Nat) (l:List Sel):(E0 d es v).grp typ l=J0 (I5 { K0 d with typ:=typ } l):=a2k (K:={ K0 d with typ:=typ }) rfl l
section
variable {d:List Sel} {es:List Ent} {v:AV}
end
end Go.Cb.CodeA
