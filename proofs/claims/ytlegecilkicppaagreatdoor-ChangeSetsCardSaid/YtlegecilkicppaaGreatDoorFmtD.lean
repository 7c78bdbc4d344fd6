import Derived.Test.YtlegecilkicppaaGreatDoorXAms3
import Derived.Lib.ItoaNum
set_option linter.all false
namespace Go.Cb
def b95 (n:Int):List Nat:=(Lib.itoa n).map UInt8.toNat
def a5Q:List AV→St→Option (AV×St)
 | [.int .i64 n,.int .i64 10],st=>if -9223372036854775808≤n∧n≤9223372036854775807 then some (.str (b95 n),st)else none
 | _,_=>none
end Go.Cb
