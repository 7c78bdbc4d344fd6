import Derived.Test.YtbibkdncfclnbaaGreatDoorC4
set_option maxRecDepth 20000
set_option linter.unusedSimpArgs false
set_option linter.unusedVariables false
namespace Go.Cb.CodeA
open Go Go.Cb
attribute [local congr] j1 k8 l5 k9 k4 j9 m0 m2 V.runR_congr
/-- a type's definition; its fields as rows -/
structure TD where
 k:Int
 n:List Nat
 fs:List (List AV)
 ns:List (List Nat)
def TD.row (t:TD):List AV:=[.int .u8 t.k,.str t.n,.list false t.fs,.list false (t.ns.map j6)]
def TD.OK (t:TD):Prop:=t.ns.length≤3001
def a7X:List TD→Nat→List (AV×AV)
 | [],_=>[]
 | t::ts,i=>(.str t.n,.int .i64 i)::a7X ts (i+1)
/-- the schema's object: types, and the places of their names -/
structure Sch (l:List TD) (so:Nat) (st:St):Prop where
 len:l.length≤3001
 ok:∀ t∈l,t.OK
 ob:∃ w mo,st[so]?=some (.cells [.list w (l.map TD.row),.map mo])∧st[mo]?=some (.map (a7X l 0))
theorem Sch.gr {l:List TD} {so:Nat} {st st':St} (h:Sch l so st) (hg:Gr st st'):Sch l so st' :=
 ⟨h.len,h.ok,let ⟨w,mo,h1,h2⟩:=h.ob; ⟨w,mo,hg _ _ h1,hg _ _ h2⟩⟩
def TD.zero:TD:=⟨0,[],[],[]⟩
end Go.Cb.CodeA
