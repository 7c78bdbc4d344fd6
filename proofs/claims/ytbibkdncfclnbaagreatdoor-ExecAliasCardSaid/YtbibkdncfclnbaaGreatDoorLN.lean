/- What functions of the abstract machine answer. No conditions but those that each theorem names. -/
import Derived.Test.YtbibkdncfclnbaaGreatDoorB0
import Derived.Test.YtbibkdncfclnbaaGreatDoorRD
set_option maxRecDepth 20000
set_option linter.unusedSimpArgs false
set_option linter.unusedVariables false
namespace Go.Cb.CodeA
open Go Go.Cb
def b3m:List Nat:=[112,101,111,112,108,101]
def c0A:List Nat:=[112,101,116,115]
def b2T:List Nat:=[80,101,114,115,111,110]
def d1Z:List Nat:=[80,101,116]
def c2S:FDef:=⟨b3m,[],.wrap (.base b2T true) true,false,Val.none⟩
def d0S:FDef:=⟨c0A,[],.wrap (.base d1Z true) true,false,Val.none⟩
theorem c2w {d:List Sel} {es:List Ent} {v:AV} (typ:List Nat) (l:List Sel):(E0 d es v).grp typ l=K9 (L2 { K0 d with typ:=typ } l):=a1K (K:={ K0 d with typ:=typ }) rfl l
section
variable {d:List Sel} {es:List Ent} {v:AV}
end
end Go.Cb.CodeA
