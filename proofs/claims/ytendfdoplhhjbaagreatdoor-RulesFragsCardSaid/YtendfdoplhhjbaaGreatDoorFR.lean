/-
 RulesFrags: the texts that are drawn, the documents they are, the issues that are wanted.
-/
import Derived.Test.YtendfdoplhhjbaaGreatDoorMV
import Derived.Test.YtendfdoplhhjbaaGreatDoorXAms4
set_option maxRecDepth 100000
set_option linter.unusedVariables false
namespace Go.Cb.CodeA
open Go Go.Cb Go.Cb.G
/-- the name behind, if there is one -/
def b6g (k:Nat) (ring:Bool) (i:Nat):Option Nat:=match Nat.blt (i+1) k,ring with
 | true,_=>some (66+i)
 | false,true=>some 65
 | false,false=>none
def e0B (k:Nat) (ring:Bool) (i:Nat):List Nat:=[32,102,114,97,103,109,101,110,116,32,65+i,32,111,110,32,80,101,114,115,111,110,32,123,32,110,97,109,101]++(match b6g k ring i with
 | some n=>[32,46,46,46,n,32,125]
 | none=>[32,125])
def a5W:List Nat:=[123,32,112,101,111,112,108,101,32,123,32,46,46,46,65,32,125,32,125]
def a5Z (k:Nat) (ring:Bool):List Nat:=a5W++((List.range k).map (e0B k ring)).flatten
def c8E:List Nat:=[32,102,114,97,103,109,101,110,116,32,90,32,111,110,32,67,97,116,32,123,32,108,105,118,101,115,32,125]
def a0U (k:Nat) (ring loose:Bool):List Nat:=match loose with
 | true=>a5Z k ring++c8E
 | false=>a5Z k ring
def a7T (kind:Int) (n:List Nat) (sub:List (List AV)):List AV:=[.int .u8 kind,.str [],.str n,.str [],.list false [],.list false [],.list false sub]
def a10:AV:=.list false [[.bool false,.str [],.list false [],.list false [a7T 1 [112,101,111,112,108,101] [a7T 2 [65] []]]]]
def e7V (k:Nat) (ring:Bool) (i:Nat):List AV:=[.str [65+i],.str [80,101,114,115,111,110],.list false (a7T 1 [110,97,109,101] []::(match b6g k ring i with
 | some n=>[a7T 2 [n] []]
 | none=>[]))]
def d2q:List AV:=[.str [90],.str [67,97,116],.list false [a7T 1 [108,105,118,101,115] []]]
def a7R (k:Nat) (ring loose:Bool):AV:=.list false ((List.range k).map (e7V k ring)++(match loose with|true=>[d2q]|false=>[]))
def b1f (loose:Bool):List (List AV):=match loose with|true=>[[.int .i64 6,.str [90]]]|false=>[]
def a0X (k:Nat) (ring loose:Bool):List (List AV):=b1f loose++(match ring with|true=>(List.range k).map fun i=>[.int .i64 7,.str [65+i]]|false=>[])
/-- an answer, the older objects, how many are new -/
def d0J (x:Option (AV×St)):Option (AV×St×Nat):=match x with
 | some (v,s)=>some (v,s.take 38,(s.drop 38).length)
 | none=>none
def b4P (k:Nat) (ring loose:Bool):AV:=.tuple [.agg [a10,a7R k ring loose],.int .i64 0,.int .i64 0]
end Go.Cb.CodeA
