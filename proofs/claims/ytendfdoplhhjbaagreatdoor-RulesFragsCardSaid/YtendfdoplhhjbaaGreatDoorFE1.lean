/-
 RulesFrags: what the check of these documents is.
-/
import Derived.Test.YtendfdoplhhjbaaGreatDoorFX0
import Derived.KernelRfl
set_option maxRecDepth 100000
set_option linter.unusedVariables false
namespace Go.Cb.CodeA
open Go Go.Cb Go.Cb.G
theorem e1 (x0 x1 x2 x4 x5 x7 x8 x9:AV) (ob:Cb.Obj):[g8 1 x0 x1 x2 x4 x5 x7 x8 x9 ob false false,g8 1 x0 x1 x2 x4 x5 x7 x8 x9 ob false true,g8 1 x0 x1 x2 x4 x5 x7 x8 x9 ob true false,g8 1 x0 x1 x2 x4 x5 x7 x8 x9 ob true true]=[okV false false,okV false true,okV true false,okV true true]:=by kernel_rfl
theorem e2 (x0 x1 x2 x4 x5 x7 x8 x9:AV) (ob:Cb.Obj):[g8 2 x0 x1 x2 x4 x5 x7 x8 x9 ob false false,g8 2 x0 x1 x2 x4 x5 x7 x8 x9 ob false true,g8 2 x0 x1 x2 x4 x5 x7 x8 x9 ob true false,g8 2 x0 x1 x2 x4 x5 x7 x8 x9 ob true true]=[okV false false,okV false true,okV true false,okV true true]:=by kernel_rfl
theorem e3 (x0 x1 x2 x4 x5 x7 x8 x9:AV) (ob:Cb.Obj):[g8 3 x0 x1 x2 x4 x5 x7 x8 x9 ob false false,g8 3 x0 x1 x2 x4 x5 x7 x8 x9 ob false true,g8 3 x0 x1 x2 x4 x5 x7 x8 x9 ob true false,g8 3 x0 x1 x2 x4 x5 x7 x8 x9 ob true true]=[okV false false,okV false true,okV true false,okV true true]:=by kernel_rfl
theorem e4 (x0 x1 x2 x4 x5 x7 x8 x9:AV) (ob:Cb.Obj):[g8 4 x0 x1 x2 x4 x5 x7 x8 x9 ob false false,g8 4 x0 x1 x2 x4 x5 x7 x8 x9 ob false true,g8 4 x0 x1 x2 x4 x5 x7 x8 x9 ob true false,g8 4 x0 x1 x2 x4 x5 x7 x8 x9 ob true true]=[okV false false,okV false true,okV true false,okV true true]:=by kernel_rfl
theorem e5 (x0 x1 x2 x4 x5 x7 x8 x9:AV) (ob:Cb.Obj):[g8 5 x0 x1 x2 x4 x5 x7 x8 x9 ob false false,g8 5 x0 x1 x2 x4 x5 x7 x8 x9 ob false true,g8 5 x0 x1 x2 x4 x5 x7 x8 x9 ob true false,g8 5 x0 x1 x2 x4 x5 x7 x8 x9 ob true true]=[okV false false,okV false true,okV true false,okV true true]:=by kernel_rfl
theorem e6 (x0 x1 x2 x4 x5 x7 x8 x9:AV) (ob:Cb.Obj):[g8 6 x0 x1 x2 x4 x5 x7 x8 x9 ob false false,g8 6 x0 x1 x2 x4 x5 x7 x8 x9 ob false true,g8 6 x0 x1 x2 x4 x5 x7 x8 x9 ob true false,g8 6 x0 x1 x2 x4 x5 x7 x8 x9 ob true true]=[okV false false,okV false true,okV true false,okV true true]:=by kernel_rfl
theorem e7f (x0 x1 x2 x4 x5 x7 x8 x9:AV) (ob:Cb.Obj):[g8 7 x0 x1 x2 x4 x5 x7 x8 x9 ob false false,g8 7 x0 x1 x2 x4 x5 x7 x8 x9 ob false true]=[okV false false,okV false true]:=by kernel_rfl
theorem e7t (x0 x1 x2 x4 x5 x7 x8 x9:AV) (ob:Cb.Obj):[g8 7 x0 x1 x2 x4 x5 x7 x8 x9 ob true false,g8 7 x0 x1 x2 x4 x5 x7 x8 x9 ob true true]=[okV true false,okV true true]:=by kernel_rfl
end Go.Cb.CodeA
