/-
 strconv.FormatInt at base 10: what it answers.
-/
import Derived.Test.YtbanbicfopmcbaaGreatDoorXAms3
import Derived.Lib.ItoaNum
set_option linter.unusedVariables false
namespace Go.Cb
/-- a number's digits -/
def b5g (n:Int):List Nat:=(Lib.itoa n).map UInt8.toNat
def a26:List AV→St→Option (AV×St)
 | [.int .i64 n,.int .i64 10],st=>if -9223372036854775808≤n∧n≤9223372036854775807 then some (.str (b5g n),st) else none
 | _,_=>none
end Go.Cb
