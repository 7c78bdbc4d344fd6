/-
 strconv.FormatInt at base 10: what it answers.
-/
import Derived.Test.YthbikoodicigeaaGreatDoorXAms3
import Derived.Lib.ItoaNum
set_option linter.unusedVariables false
namespace Go.Cb
/-- a number's digits -/
def itoaN (n:Int):List Nat:=(Lib.itoa n).map UInt8.toNat
def fmtX:List AV→St→Option (AV×St)
 | [.int .i64 n,.int .i64 10],st=>if -9223372036854775808≤n∧n≤9223372036854775807 then some (.str (itoaN n),st) else none
 | _,_=>none
end Go.Cb
