/-
 Library functions as answers of their own: what they answer. (strings.Builder, bytealg.IndexByteString, a deferred recover where nothing panics)
-/
import Derived.Test.YthbikoodicigeaaGreatDoorFmtD
import Derived.Lib.ParseIntB
import Derived.Lib.AtoiAll
set_option linter.unusedVariables false
namespace Go.Cb
def idxbF (c:Nat):List Nat→Nat→Option Nat
 | [],_=>none
 | x::xs,i=>if Nat.beq x c then some i else idxbF c xs (i+1)
def idxbX:List AV→St→Option (AV×St)
 | [.str s,.int .u8 c],st=>match c with
  | .ofNat n=>if Nat.ble n 255 then some (.int .i64 (match idxbF n s 0 with|some i=>.ofNat i|none=>.negSucc 0),st) else none
  | .negSucc _=>none
 | _,_=>none
/-- internal/strconv.ParseUint at base 10 and 64 bits -/
def puintX:List AV→St→Option (AV×St)
 | [.str s,.int .i64 10,.int .i64 64],st=>match s with
  | []=>none
  | x::t=>if Nat.ble t.length 100 then match Lib.parseUint10 0 ((x::t).map UInt8.ofNat) with
   | .ok v=>some (.tuple [.int .u64 (.ofNat v),.nili],st)
   | _=>none
   else none
 | _,_=>none
/-- columbary/lex.text at a text without a backslash: what stands up to the next quote -/
def upto:List Nat→Option (List Nat)
 | []=>none
 | x::t=>if Nat.beq x 34 then some [] else if Nat.beq x 10 then none else if Nat.beq x 92 then none else (upto t).map (x::·)
def textX:List AV→St→Option (AV×St)
 | [.str (34::t)],st=>match upto t with
  | some b=>if Nat.ble b.length 200 then some (.tuple [.agg [.int .u8 3,.str b,.int .i64 0,.int .i64 0],.int .i64 (.ofNat (b.length+2)),.int .i64 0,.int .i64 0],st) else none
  | none=>none
 | _,_=>none
end Go.Cb
