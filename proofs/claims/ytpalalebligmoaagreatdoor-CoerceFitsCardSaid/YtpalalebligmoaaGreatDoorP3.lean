/- What functions of the abstract machine answer. No conditions but those that each theorem names. -/
import Derived.Test.YtpalalebligmoaaGreatDoorP2
import Derived.KernelRfl
set_option maxRecDepth 20000
set_option linter.unusedSimpArgs false
set_option linter.unusedVariables false
namespace Go.Cb.CodeA
open Go Go.Cb
abbrev fa : FD := ⟨[97], .one sInt false, false, Val.none⟩
abbrev fb : FD := ⟨[98], .lst [] (.one sE true) false, true, .mk 5 0 [] [] [.mk 4 0 [65] [] []]⟩
def Fx (f : FD) (y : Val) : Prop := valueF true (N0 true) f.T y = (y, true, 0) ∧ fitG B0 f.T y = true
end Go.Cb.CodeA
