import Derived.Test.YtbibkdncfclnbaaGreatDoorB0
import Derived.Test.YtbibkdncfclnbaaGreatDoorRD
set_option maxRecDepth 20000
set_option linter.unusedSimpArgs false
set_option linter.unusedVariables false
namespace Go.Cb.CodeA
open Go Go.Cb
def c5n:List Nat:=[112,101,111,112,108,101]
def c4f:List Nat:=[80,101,114,115,111,110]
def c31:FDef:=⟨c5n,[],.wrap (.base c4f true) true,false,Val.none⟩
theorem a8h {d:List Sel} {es:List Ent} {v:AV} (typ:List Nat) (l:List Sel):(E0 d es v).grp typ l=G5 (F3 { K0 d with typ:=typ } l):=a2Y (K:={ K0 d with typ:=typ }) rfl l
section
variable {d:List Sel} {es:List Ent} {v:AV}
end
end Go.Cb.CodeA
