/- What functions of the abstract machine answer. No conditions but those that each theorem names. -/
import Derived.Test.YtbibkdncfclnbaaGreatDoorRD
set_option maxRecDepth 100000
set_option linter.unusedVariables false
namespace Go.Cb.CodeA
open Go Go.Cb
def tL0:List Nat:=[123,112,101,111,112,108,101,32,123,102,114,105,101,110,100,115,32,123,102,114,105,101,110,100,115,32,123,102,114,105,101,110,100,115,32,123,102,114,105,101,110,100,115,32,123,97,103,101,125,125,125,125,125,125]
def dL0:List Sel:=[(.mk 1 [] [112,101,111,112,108,101] [] [] [] [(.mk 1 [] [102,114,105,101,110,100,115] [] [] [] [(.mk 1 [] [102,114,105,101,110,100,115] [] [] [] [(.mk 1 [] [102,114,105,101,110,100,115] [] [] [] [(.mk 1 [] [102,114,105,101,110,100,115] [] [] [] [(.mk 1 [] [97,103,101] [] [] [] [])])])])])])]
theorem a2l:reads a6F [tL0]=some [a1T dL0]:=by kernel_rfl
end Go.Cb.CodeA
