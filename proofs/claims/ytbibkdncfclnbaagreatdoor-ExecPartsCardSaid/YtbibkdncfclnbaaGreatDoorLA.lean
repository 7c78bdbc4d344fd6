import Derived.Test.YtbibkdncfclnbaaGreatDoorLN2
import Derived.Test.YtbibkdncfclnbaaGreatDoorRD
set_option maxRecDepth 20000
set_option linter.unusedSimpArgs false
set_option linter.unusedVariables false
namespace Go.Cb.CodeA
open Go Go.Cb
def a1h (ks:List (List Nat)) (ls:List Val):Val:=.mk 6 0 [] ks ls
end Go.Cb.CodeA
