import Derived.Test.YtpalalebligmoaaGreatDoorS7
set_option maxRecDepth 20000
set_option linter.unusedSimpArgs false
set_option linter.unusedVariables false
namespace Go.Cb.CodeA
open Go Go.Cb
/-! an object's fields in another order -/
end Go.Cb.CodeA
