import Derived.Test.YthnliekianmljaaGreatDoorS1
set_option maxRecDepth 20000
set_option linter.unusedSimpArgs false
set_option linter.unusedVariables false
namespace Go.Cb.CodeA
open Go Go.Cb

/-! how much is read: as many selections as tokens, at most -/
def fsize (l : List Frag) : Nat := unseen l []
end Go.Cb.CodeA
