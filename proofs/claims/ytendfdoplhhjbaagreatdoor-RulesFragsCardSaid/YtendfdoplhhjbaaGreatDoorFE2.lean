/-
 RulesFrags: what the check of these documents is.
-/
import Derived.Test.YtendfdoplhhjbaaGreatDoorFX0
import Derived.KernelRfl
set_option maxRecDepth 100000
set_option linter.unusedVariables false
namespace Go.Cb.CodeA
open Go Go.Cb Go.Cb.G
theorem e8f (x0 x1 x2 x4 x5 x7 x8 x9:AV) (ob:Cb.Obj):[g8 8 x0 x1 x2 x4 x5 x7 x8 x9 ob false false,g8 8 x0 x1 x2 x4 x5 x7 x8 x9 ob false true]=[okV false false,okV false true]:=by kernel_rfl
theorem e8t (x0 x1 x2 x4 x5 x7 x8 x9:AV) (ob:Cb.Obj):[g8 8 x0 x1 x2 x4 x5 x7 x8 x9 ob true false,g8 8 x0 x1 x2 x4 x5 x7 x8 x9 ob true true]=[okV true false,okV true true]:=by kernel_rfl
theorem e9f (x0 x1 x2 x4 x5 x7 x8 x9:AV) (ob:Cb.Obj):[g8 9 x0 x1 x2 x4 x5 x7 x8 x9 ob false false,g8 9 x0 x1 x2 x4 x5 x7 x8 x9 ob false true]=[okV false false,okV false true]:=by kernel_rfl
theorem e9t (x0 x1 x2 x4 x5 x7 x8 x9:AV) (ob:Cb.Obj):[g8 9 x0 x1 x2 x4 x5 x7 x8 x9 ob true false,g8 9 x0 x1 x2 x4 x5 x7 x8 x9 ob true true]=[okV true false,okV true true]:=by kernel_rfl
theorem f1p (x0 x1 x2 x4 x5 x7 x8 x9:AV) (ob:Cb.Obj):[g8 10 x0 x1 x2 x4 x5 x7 x8 x9 ob false false,g8 10 x0 x1 x2 x4 x5 x7 x8 x9 ob false true]=[okV false false,okV false true]:=by kernel_rfl
theorem f2f (x0 x1 x2 x4 x5 x7 x8 x9:AV) (ob:Cb.Obj):[g8 10 x0 x1 x2 x4 x5 x7 x8 x9 ob true false,g8 10 x0 x1 x2 x4 x5 x7 x8 x9 ob true true]=[okV true false,okV true true]:=by kernel_rfl
end Go.Cb.CodeA
