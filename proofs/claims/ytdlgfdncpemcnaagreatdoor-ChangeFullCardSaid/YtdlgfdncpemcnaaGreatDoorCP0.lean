import Derived.Test.YtdlgfdncpemcnaaGreatDoorCFS
set_option maxRecDepth 100000
set_option linter.unusedVariables false
namespace Go.Cb.CodeA
open Go Go.Cb Go.Cb.G
/-- the r-th name; the rows but the r-th -/
def cpI (r:Nat):AV:=.str [107,.succ (47+r / 100),.succ (47+r / 10 % 10),.succ (47+r % 10)]
def gOf (r i:Nat):Nat×Nat×Nat:=match Nat.blt i r with
 | true=>(47+i / 100,47+i / 10 % 10,47+i % 10)
 | false=>(47+(i+1) / 100,47+(i+1) / 10 % 10,47+(i+1) % 10)
noncomputable def cpG (r:Nat):Option (AV×St):=callG e7 3000 177 [.agg [.sl 0 0 200 4],cpI r] [.cells cfZ]
def cpH (r:Nat):Option (AV×St):=some (.tuple [.agg [zc,cpI r,zn,zv],.bool true],[.cells cfZ])
noncomputable def cpW (r:Nat):Option (AV×St):=callG e7 3000 116 [.agg [.sl 0 0 200 4],cpI r] [.cells cfZ]
def cpV (r:Nat):Option (AV×St):=some (.agg [.sl 2 0 199 4],[.cells cfZ,.dead,.cells (n7 (gOf r))])
end Go.Cb.CodeA
