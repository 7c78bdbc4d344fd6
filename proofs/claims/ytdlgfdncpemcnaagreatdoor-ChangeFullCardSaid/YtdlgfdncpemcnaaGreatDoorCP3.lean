/- What functions of the abstract machine answer. No conditions but those that each theorem names. -/
import Derived.Test.YtdlgfdncpemcnaaGreatDoorCP0
set_option maxRecDepth 100000
set_option linter.unusedVariables false
namespace Go.Cb.CodeA
open Go Go.Cb Go.Cb.G
theorem h4v:(List.range' 100 10).map cpG=(List.range' 100 10).map cpH:=by kernel_rfl
theorem i0U:(List.range' 100 10).map cpW=(List.range' 100 10).map cpV:=by kernel_rfl
theorem g2f:(List.range' 110 10).map cpG=(List.range' 110 10).map cpH:=by kernel_rfl
theorem f44:(List.range' 110 10).map cpW=(List.range' 110 10).map cpV:=by kernel_rfl
theorem i7e:(List.range' 120 10).map cpG=(List.range' 120 10).map cpH:=by kernel_rfl
theorem h9z:(List.range' 120 10).map cpW=(List.range' 120 10).map cpV:=by kernel_rfl
theorem f6U:(List.range' 130 10).map cpG=(List.range' 130 10).map cpH:=by kernel_rfl
theorem i1Q:(List.range' 130 10).map cpW=(List.range' 130 10).map cpV:=by kernel_rfl
theorem h3o:(List.range' 140 10).map cpG=(List.range' 140 10).map cpH:=by kernel_rfl
theorem h5j:(List.range' 140 10).map cpW=(List.range' 140 10).map cpV:=by kernel_rfl
end Go.Cb.CodeA
