/-
 RulesFrags: what the texts that are drawn are as documents.
-/
import Derived.Test.YtendfdoplhhjbaaGreatDoorFX0
import Derived.KernelRfl
set_option maxRecDepth 100000
set_option linter.unusedVariables false
namespace Go.Cb.CodeA
open Go Go.Cb Go.Cb.G
theorem f5o:[i7 13 false false,i7 13 false true]=[i8 13 false false,i8 13 false true]:=by kernel_rfl
theorem f1O:[i7 13 true false,i7 13 true true]=[i8 13 true false,i8 13 true true]:=by kernel_rfl
theorem e1T:i7 14 false false=i8 14 false false:=by kernel_rfl
theorem e9q:i7 14 false true=i8 14 false true:=by kernel_rfl
theorem e6a:i7 14 true false=i8 14 true false:=by kernel_rfl
theorem e7b:i7 14 true true=i8 14 true true:=by kernel_rfl
theorem e0J:i7 15 false false=i8 15 false false:=by kernel_rfl
theorem d9G:i7 15 false true=i8 15 false true:=by kernel_rfl
theorem f0n:i7 15 true false=i8 15 true false:=by kernel_rfl
theorem e3n:i7 15 true true=i8 15 true true:=by kernel_rfl
end Go.Cb.CodeA
