/-
 RulesFrags: what the check of these documents is.
-/
import Derived.Test.YtendfdoplhhjbaaGreatDoorFX0
import Derived.KernelRfl
set_option maxRecDepth 100000
set_option linter.unusedVariables false
namespace Go.Cb.CodeA
open Go Go.Cb Go.Cb.G
theorem f6P (x0 x1 x2 x4 x5 x7 x8 x9:AV) (ob:Cb.Obj):[g8 11 x0 x1 x2 x4 x5 x7 x8 x9 ob false false,g8 11 x0 x1 x2 x4 x5 x7 x8 x9 ob false true]=[okV false false,okV false true]:=by kernel_rfl
theorem f4n (x0 x1 x2 x4 x5 x7 x8 x9:AV) (ob:Cb.Obj):[g8 11 x0 x1 x2 x4 x5 x7 x8 x9 ob true false,g8 11 x0 x1 x2 x4 x5 x7 x8 x9 ob true true]=[okV true false,okV true true]:=by kernel_rfl
theorem f05 (x0 x1 x2 x4 x5 x7 x8 x9:AV) (ob:Cb.Obj):g8 12 x0 x1 x2 x4 x5 x7 x8 x9 ob false false=okV false false:=by kernel_rfl
theorem e1Y (x0 x1 x2 x4 x5 x7 x8 x9:AV) (ob:Cb.Obj):g8 12 x0 x1 x2 x4 x5 x7 x8 x9 ob false true=okV false true:=by kernel_rfl
theorem e9x (x0 x1 x2 x4 x5 x7 x8 x9:AV) (ob:Cb.Obj):g8 12 x0 x1 x2 x4 x5 x7 x8 x9 ob true false=okV true false:=by kernel_rfl
theorem e1g (x0 x1 x2 x4 x5 x7 x8 x9:AV) (ob:Cb.Obj):g8 12 x0 x1 x2 x4 x5 x7 x8 x9 ob true true=okV true true:=by kernel_rfl
theorem d9v (x0 x1 x2 x4 x5 x7 x8 x9:AV) (ob:Cb.Obj):g8 13 x0 x1 x2 x4 x5 x7 x8 x9 ob false false=okV false false:=by kernel_rfl
theorem d9D (x0 x1 x2 x4 x5 x7 x8 x9:AV) (ob:Cb.Obj):g8 13 x0 x1 x2 x4 x5 x7 x8 x9 ob false true=okV false true:=by kernel_rfl
theorem d9F (x0 x1 x2 x4 x5 x7 x8 x9:AV) (ob:Cb.Obj):g8 13 x0 x1 x2 x4 x5 x7 x8 x9 ob true false=okV true false:=by kernel_rfl
theorem e4a (x0 x1 x2 x4 x5 x7 x8 x9:AV) (ob:Cb.Obj):g8 13 x0 x1 x2 x4 x5 x7 x8 x9 ob true true=okV true true:=by kernel_rfl
end Go.Cb.CodeA
