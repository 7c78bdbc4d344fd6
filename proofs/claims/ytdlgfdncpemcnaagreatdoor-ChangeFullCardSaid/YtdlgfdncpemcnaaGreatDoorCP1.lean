/- What functions of the abstract machine answer. No conditions but those that each theorem names. -/
import Derived.Test.YtdlgfdncpemcnaaGreatDoorCP0
set_option maxRecDepth 100000
set_option linter.unusedVariables false
namespace Go.Cb.CodeA
open Go Go.Cb Go.Cb.G
theorem k0P:(List.range' 0 10).map cpG=(List.range' 0 10).map cpH:=by kernel_rfl
theorem k30:(List.range' 0 10).map cpW=(List.range' 0 10).map cpV:=by kernel_rfl
theorem j7e:(List.range' 10 10).map cpG=(List.range' 10 10).map cpH:=by kernel_rfl
theorem j1g:(List.range' 10 10).map cpW=(List.range' 10 10).map cpV:=by kernel_rfl
theorem j3A:(List.range' 20 10).map cpG=(List.range' 20 10).map cpH:=by kernel_rfl
theorem j0V:(List.range' 20 10).map cpW=(List.range' 20 10).map cpV:=by kernel_rfl
theorem j5P:(List.range' 30 10).map cpG=(List.range' 30 10).map cpH:=by kernel_rfl
theorem j9h:(List.range' 30 10).map cpW=(List.range' 30 10).map cpV:=by kernel_rfl
theorem j4r:(List.range' 40 10).map cpG=(List.range' 40 10).map cpH:=by kernel_rfl
theorem j4K:(List.range' 40 10).map cpW=(List.range' 40 10).map cpV:=by kernel_rfl
end Go.Cb.CodeA
