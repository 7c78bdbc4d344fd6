import Derived.Test.YtcmfklfjebaeoaaGreatDoorStrD
set_option maxRecDepth 4000
set_option linter.unusedVariables false
namespace Go.Cb
/-- a copy of a list, as an object -/
def O6 (sz bytes:Nat):List AV→St→Option (AV×St)
 | [.list _ []],st=>some (.list true [],st)
 | [.nils],st=>some (.nils,st)
 | [.list _ xs],st=>if g8 sz xs=true∧xs.length*bytes≤70368744177664 then some (.sl st.length 0 xs.length sz,st++[.cells (xs.flatten.map AV.weak1)]) else none
 | _,_=>none
end Go.Cb
