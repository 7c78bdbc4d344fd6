/- What functions of the abstract machine answer. No conditions but those that each theorem names. -/
import Derived.Test.YtdlgfdncpemcnaaGreatDoorCF0
import Derived.KernelRfl
set_option maxRecDepth 100000
set_option linter.unusedVariables false
namespace Go.Cb.CodeA
open Go Go.Cb
def B6 (k:Nat):Option Out:=some (.normal,cfF (k+1),cfT (k+1))
theorem k3o:(List.range' 0 10).map cfW=(List.range' 0 10).map B6:=by kernel_rfl
theorem j5q:(List.range' 10 10).map cfW=(List.range' 10 10).map B6:=by kernel_rfl
theorem i8N:(List.range' 20 10).map cfW=(List.range' 20 10).map B6:=by kernel_rfl
theorem j5G:(List.range' 30 10).map cfW=(List.range' 30 10).map B6:=by kernel_rfl
theorem j2N:(List.range' 40 10).map cfW=(List.range' 40 10).map B6:=by kernel_rfl
theorem j3N:(List.range' 50 10).map cfW=(List.range' 50 10).map B6:=by kernel_rfl
theorem j08:(List.range' 60 10).map cfW=(List.range' 60 10).map B6:=by kernel_rfl
theorem j7U:(List.range' 70 10).map cfW=(List.range' 70 10).map B6:=by kernel_rfl
theorem j3C:(List.range' 80 10).map cfW=(List.range' 80 10).map B6:=by kernel_rfl
theorem j7l:(List.range' 90 10).map cfW=(List.range' 90 10).map B6:=by kernel_rfl
theorem h7b:(List.range' 100 10).map cfW=(List.range' 100 10).map B6:=by kernel_rfl
theorem i6A:(List.range' 110 10).map cfW=(List.range' 110 10).map B6:=by kernel_rfl
theorem g1n:(List.range' 120 10).map cfW=(List.range' 120 10).map B6:=by kernel_rfl
theorem f3o:(List.range' 130 10).map cfW=(List.range' 130 10).map B6:=by kernel_rfl
theorem f4L:(List.range' 140 10).map cfW=(List.range' 140 10).map B6:=by kernel_rfl
theorem g05:(List.range' 150 10).map cfW=(List.range' 150 10).map B6:=by kernel_rfl
theorem i6c:(List.range' 160 10).map cfW=(List.range' 160 10).map B6:=by kernel_rfl
theorem g62:(List.range' 170 10).map cfW=(List.range' 170 10).map B6:=by kernel_rfl
theorem i1q:(List.range' 180 10).map cfW=(List.range' 180 10).map B6:=by kernel_rfl
theorem g5q:(List.range' 190 10).map cfW=(List.range' 190 10).map B6:=by kernel_rfl
end Go.Cb.CodeA
