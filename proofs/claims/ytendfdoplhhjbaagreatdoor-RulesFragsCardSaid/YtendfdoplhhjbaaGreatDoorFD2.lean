/-
 RulesFrags: what the texts that are drawn are as documents.
-/
import Derived.Test.YtendfdoplhhjbaaGreatDoorFX0
import Derived.KernelRfl
set_option maxRecDepth 100000
set_option linter.unusedVariables false
namespace Go.Cb.CodeA
open Go Go.Cb Go.Cb.G
theorem d9f:[i7 9 false false,i7 9 false true]=[i8 9 false false,i8 9 false true]:=by kernel_rfl
theorem d9t:[i7 9 true false,i7 9 true true]=[i8 9 true false,i8 9 true true]:=by kernel_rfl
theorem f6w:[i7 10 false false,i7 10 false true]=[i8 10 false false,i8 10 false true]:=by kernel_rfl
theorem f4x:[i7 10 true false,i7 10 true true]=[i8 10 true false,i8 10 true true]:=by kernel_rfl
theorem f7y:[i7 11 false false,i7 11 false true]=[i8 11 false false,i8 11 false true]:=by kernel_rfl
theorem f1l:[i7 11 true false,i7 11 true true]=[i8 11 true false,i8 11 true true]:=by kernel_rfl
theorem f1j:[i7 12 false false,i7 12 false true]=[i8 12 false false,i8 12 false true]:=by kernel_rfl
theorem f2C:[i7 12 true false,i7 12 true true]=[i8 12 true false,i8 12 true true]:=by kernel_rfl
end Go.Cb.CodeA
