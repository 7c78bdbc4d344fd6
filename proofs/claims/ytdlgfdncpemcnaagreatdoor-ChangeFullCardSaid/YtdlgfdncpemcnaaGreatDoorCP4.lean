/- What functions of the abstract machine answer. No conditions but those that each theorem names. -/
import Derived.Test.YtdlgfdncpemcnaaGreatDoorCP0
set_option maxRecDepth 100000
set_option linter.unusedVariables false
namespace Go.Cb.CodeA
open Go Go.Cb Go.Cb.G
theorem f2F:(List.range' 150 10).map cpG=(List.range' 150 10).map cpH:=by kernel_rfl
theorem g3c:(List.range' 150 10).map cpW=(List.range' 150 10).map cpV:=by kernel_rfl
theorem g4z:(List.range' 160 10).map cpG=(List.range' 160 10).map cpH:=by kernel_rfl
theorem h3u:(List.range' 160 10).map cpW=(List.range' 160 10).map cpV:=by kernel_rfl
theorem h9Q:(List.range' 170 10).map cpG=(List.range' 170 10).map cpH:=by kernel_rfl
theorem h85:(List.range' 170 10).map cpW=(List.range' 170 10).map cpV:=by kernel_rfl
theorem i5r:(List.range' 180 10).map cpG=(List.range' 180 10).map cpH:=by kernel_rfl
theorem h7t:(List.range' 180 10).map cpW=(List.range' 180 10).map cpV:=by kernel_rfl
theorem i5s:(List.range' 190 10).map cpG=(List.range' 190 10).map cpH:=by kernel_rfl
theorem g7l:(List.range' 190 10).map cpW=(List.range' 190 10).map cpV:=by kernel_rfl
end Go.Cb.CodeA
