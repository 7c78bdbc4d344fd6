/- What functions of the abstract machine answer. No conditions but those that each theorem names. -/
import Derived.Test.YtdlgfdncpemcnaaGreatDoorCP0
set_option maxRecDepth 100000
set_option linter.unusedVariables false
namespace Go.Cb.CodeA
open Go Go.Cb Go.Cb.G
theorem i9s:(List.range' 50 10).map cpG=(List.range' 50 10).map cpH:=by kernel_rfl
theorem i9r:(List.range' 50 10).map cpW=(List.range' 50 10).map cpV:=by kernel_rfl
theorem j7i:(List.range' 60 10).map cpG=(List.range' 60 10).map cpH:=by kernel_rfl
theorem j4q:(List.range' 60 10).map cpW=(List.range' 60 10).map cpV:=by kernel_rfl
theorem j1r:(List.range' 70 10).map cpG=(List.range' 70 10).map cpH:=by kernel_rfl
theorem i8M:(List.range' 70 10).map cpW=(List.range' 70 10).map cpV:=by kernel_rfl
theorem j5v:(List.range' 80 10).map cpG=(List.range' 80 10).map cpH:=by kernel_rfl
theorem j8V:(List.range' 80 10).map cpW=(List.range' 80 10).map cpV:=by kernel_rfl
theorem i8r:(List.range' 90 10).map cpG=(List.range' 90 10).map cpH:=by kernel_rfl
theorem j1y:(List.range' 90 10).map cpW=(List.range' 90 10).map cpV:=by kernel_rfl
end Go.Cb.CodeA
