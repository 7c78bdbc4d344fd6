/-
 RulesFrags: what the texts that are drawn are as documents.
-/
import Derived.Test.YtendfdoplhhjbaaGreatDoorFX0
import Derived.KernelRfl
set_option maxRecDepth 100000
set_option linter.unusedVariables false
namespace Go.Cb.CodeA
open Go Go.Cb Go.Cb.G
theorem d1:[i7 1 false false,i7 1 false true,i7 1 true false,i7 1 true true]=[i8 1 false false,i8 1 false true,i8 1 true false,i8 1 true true]:=by kernel_rfl
theorem d2:[i7 2 false false,i7 2 false true,i7 2 true false,i7 2 true true]=[i8 2 false false,i8 2 false true,i8 2 true false,i8 2 true true]:=by kernel_rfl
theorem d3:[i7 3 false false,i7 3 false true,i7 3 true false,i7 3 true true]=[i8 3 false false,i8 3 false true,i8 3 true false,i8 3 true true]:=by kernel_rfl
theorem d4:[i7 4 false false,i7 4 false true,i7 4 true false,i7 4 true true]=[i8 4 false false,i8 4 false true,i8 4 true false,i8 4 true true]:=by kernel_rfl
theorem d5:[i7 5 false false,i7 5 false true,i7 5 true false,i7 5 true true]=[i8 5 false false,i8 5 false true,i8 5 true false,i8 5 true true]:=by kernel_rfl
theorem d6:[i7 6 false false,i7 6 false true,i7 6 true false,i7 6 true true]=[i8 6 false false,i8 6 false true,i8 6 true false,i8 6 true true]:=by kernel_rfl
theorem d7f:[i7 7 false false,i7 7 false true]=[i8 7 false false,i8 7 false true]:=by kernel_rfl
theorem d7t:[i7 7 true false,i7 7 true true]=[i8 7 true false,i8 7 true true]:=by kernel_rfl
theorem d8f:[i7 8 false false,i7 8 false true]=[i8 8 false false,i8 8 false true]:=by kernel_rfl
theorem d8t:[i7 8 true false,i7 8 true true]=[i8 8 true false,i8 8 true true]:=by kernel_rfl
end Go.Cb.CodeA
