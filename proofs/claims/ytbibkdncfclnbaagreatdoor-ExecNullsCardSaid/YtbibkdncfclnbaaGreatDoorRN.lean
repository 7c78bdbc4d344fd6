/- What functions of the abstract machine answer. No conditions but those that each theorem names. -/
import Derived.Test.YtbibkdncfclnbaaGreatDoorRD
set_option maxRecDepth 100000
set_option linter.unusedVariables false
namespace Go.Cb.CodeA
open Go Go.Cb
def tN0:List Nat:=[123,112,101,111,112,108,101,32,123,110,97,109,101,32,102,114,105,101,110,100,115,32,123,110,97,109,101,125,125,32,112,101,116,115,32,123,46,46,46,32,111,110,32,67,97,116,32,123,110,97,109,101,32,108,105,118,101,115,125,125,125]
def dN0:List Sel:=[(.mk 1 [] [112,101,111,112,108,101] [] [] [] [(.mk 1 [] [110,97,109,101] [] [] [] []),(.mk 1 [] [102,114,105,101,110,100,115] [] [] [] [(.mk 1 [] [110,97,109,101] [] [] [] [])])]),(.mk 1 [] [112,101,116,115] [] [] [] [(.mk 3 [] [] [67,97,116] [] [] [(.mk 1 [] [110,97,109,101] [] [] [] []),(.mk 1 [] [108,105,118,101,115] [] [] [] [])])])]
theorem d2Z:reads a7x [tN0]=some [c4p dN0]:=by kernel_rfl
end Go.Cb.CodeA
