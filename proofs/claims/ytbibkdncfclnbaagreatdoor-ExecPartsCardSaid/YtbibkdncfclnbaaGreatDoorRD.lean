import Derived.Test.YtbibkdncfclnbaaGreatDoorMS
import Derived.Test.YtbibkdncfclnbaaGreatDoorZs1
set_option maxRecDepth 20000
set_option linter.unusedVariables false
namespace Go.Cb.CodeA
open Go Go.Cb
def a8j:St→St→Bool
 | [],_=>true
 | b::bs,s::ss=>a6J b s && a8j bs ss
 | _::_,[]=>false
theorem b3J:∀ {B st:St},a8j B st=true→Gr B st
 | [],_,_=>fun i x hx=>by simp at hx
 | b::bs,s::ss,h=>by
  simp only [a8j,AA] at h
  have e:=(Q2 _ _).1 h.1
  have ih:=b3J h.2
  intro i x hx
  cases i with
  | zero=>simp at hx ⊢; rw [← e]; exact hx
  | succ i=>simp at hx ⊢; exact ih i x hx
 | _::_,[],h=>by simp [a8j] at h
noncomputable def b70 (B:St):List (List Nat)→St→Option (List AV)
 | [],_=>some []
 | t::ts,st=>match Go.Cb.G.callG tbl 3000 13 [.ptr mo0 0,.str t] st with
  | some (v,st')=>if a8j B st' then (match b70 B ts st' with
   | some vs=>some (v::vs)
   | none=>none) else none
  | none=>none
noncomputable def reads (B:St) (ts:List (List Nat)):Option (List AV):=b70 B ts B
def a8M (d:List Sel):AV:=.tuple [.agg [.list false [[.bool false,.str [],.list false [],.list false (d.map Sel.row)]],.list false []],.bool true]
end Go.Cb.CodeA
