/-
 RulesFrags: what the check of these documents is.
-/
import Derived.Test.YtendfdoplhhjbaaGreatDoorFX0
import Derived.KernelRfl
set_option maxRecDepth 100000
set_option linter.unusedVariables false
namespace Go.Cb.CodeA
open Go Go.Cb Go.Cb.G
theorem e58 (x0 x1 x2 x4 x5 x7 x8 x9:AV) (ob:Cb.Obj):g8 14 x0 x1 x2 x4 x5 x7 x8 x9 ob false false=okV false false:=by kernel_rfl
theorem e5K (x0 x1 x2 x4 x5 x7 x8 x9:AV) (ob:Cb.Obj):g8 14 x0 x1 x2 x4 x5 x7 x8 x9 ob false true=okV false true:=by kernel_rfl
theorem e6I (x0 x1 x2 x4 x5 x7 x8 x9:AV) (ob:Cb.Obj):g8 14 x0 x1 x2 x4 x5 x7 x8 x9 ob true false=okV true false:=by kernel_rfl
theorem e9L (x0 x1 x2 x4 x5 x7 x8 x9:AV) (ob:Cb.Obj):g8 14 x0 x1 x2 x4 x5 x7 x8 x9 ob true true=okV true true:=by kernel_rfl
theorem e7K (x0 x1 x2 x4 x5 x7 x8 x9:AV) (ob:Cb.Obj):g8 15 x0 x1 x2 x4 x5 x7 x8 x9 ob false false=okV false false:=by kernel_rfl
theorem e2C (x0 x1 x2 x4 x5 x7 x8 x9:AV) (ob:Cb.Obj):g8 15 x0 x1 x2 x4 x5 x7 x8 x9 ob false true=okV false true:=by kernel_rfl
theorem e33 (x0 x1 x2 x4 x5 x7 x8 x9:AV) (ob:Cb.Obj):g8 15 x0 x1 x2 x4 x5 x7 x8 x9 ob true false=okV true false:=by kernel_rfl
theorem d9X (x0 x1 x2 x4 x5 x7 x8 x9:AV) (ob:Cb.Obj):g8 15 x0 x1 x2 x4 x5 x7 x8 x9 ob true true=okV true true:=by kernel_rfl
end Go.Cb.CodeA
