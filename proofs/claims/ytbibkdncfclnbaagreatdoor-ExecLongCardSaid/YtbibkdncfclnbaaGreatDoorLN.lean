/- What functions of the abstract machine answer. No conditions but those that each theorem names. -/
import Derived.Test.YtbibkdncfclnbaaGreatDoorB0
import Derived.Test.YtbibkdncfclnbaaGreatDoorRD
set_option maxRecDepth 20000
set_option linter.unusedSimpArgs false
set_option linter.unusedVariables false
namespace Go.Cb.CodeA
open Go Go.Cb
def Q5:List Nat:=[102,114,105,101,110,100,115]
def a0d:List Nat:=[112,101,111,112,108,101]
def l9:List Nat:=[80,101,114,115,111,110]
def b1s:List Nat:=[97,103,101]
def fFriends:FDef:=⟨Q5,[],.wrap (.base l9 true) false,false,Val.none⟩
def fPeople:FDef:=⟨a0d,[],.wrap (.base l9 true) true,false,Val.none⟩
theorem a7i {d:List Sel} {es:List Ent} {v:AV} (typ:List Nat) (l:List Sel):(E0 d es v).grp typ l=P1 (O3 { K0 d with typ:=typ } l):=b7p (K:={ K0 d with typ:=typ }) rfl l
section
variable {d:List Sel} {es:List Ent} {v:AV}
end
end Go.Cb.CodeA
