import Derived.Test.YtgaibigpannjfaaGreatDoorXAms3
import Derived.Lib.ItoaNum
set_option linter.all false
namespace Go.Cb
def c2l (n:Int):List Nat:=(Lib.itoa n).map UInt8.toNat
def a6M:List AV→St→Option (AV×St)
 | [.int .i64 n,.int .i64 10],st=>if -9223372036854775808≤n∧n≤9223372036854775807 then some (.str (c2l n),st)else none
 | _,_=>none
end Go.Cb
