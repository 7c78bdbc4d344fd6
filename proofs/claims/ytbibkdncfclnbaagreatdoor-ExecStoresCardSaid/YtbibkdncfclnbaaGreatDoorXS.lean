/- What functions of the abstract machine answer. No conditions but those that each theorem names. -/
import Derived.Test.YtbibkdncfclnbaaGreatDoorX9
import Derived.Test.YtbibkdncfclnbaaGreatDoorAw
set_option maxRecDepth 20000
set_option linter.unusedVariables false
namespace Go.Cb.CodeA
open Go Go.Cb
theorem b8R {k f:Nat} {as:List AV} {st:St} {v:AV} (h:Go.Cb.G.fst' (Go.Cb.G.callG tbl k f as st)=some v):EvQ tbl f as st (fun a _=>a=v):=by
 cases hc:Go.Cb.G.callG tbl k f as st with
 | none=>rw [hc] at h; cases h
 | some x =>
  obtain ⟨a,s⟩:=x
  rw [hc] at h
  cases h
  exact ⟨_,_,Go.Cb.G.ev_ofG hc,rfl⟩
theorem stores_am (l:List Thg) (hl:∀ x∈l,x.OK) (out:List Int) (ho:∀ r∈out,0≤r):EvQ tbl 10 [.list false (l.map Thg.row),.list false (out.map C9)] [] (fun a _=>a=.bool true) :=
 b1r l hl out ho (b8R c8c)
end Go.Cb.CodeA
