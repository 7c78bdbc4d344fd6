import Derived.Test.YtbibkdncfclnbaaGreatDoorMS
import Derived.Test.YtbibkdncfclnbaaGreatDoorZs1
set_option maxRecDepth 20000
set_option linter.unusedVariables false
namespace Go.Cb.CodeA
open Go Go.Cb
/-! documents that are read one behind the other -/
def a9J:St→St→Bool
 | [],_=>true
 | b::bs,s::ss=>a5C b s && a9J bs ss
 | _::_,[]=>false
theorem b2u:∀ {B st:St},a9J B st=true→Gr B st
 | [],_,_=>fun i x hx=>by simp at hx
 | b::bs,s::ss,h=>by
  simp only [a9J,Bool.and_eq_true] at h
  have e:=(Y1 _ _).1 h.1
  have ih:=b2u h.2
  intro i x hx
  cases i with
  | zero=>simp at hx ⊢; rw [← e]; exact hx
  | succ i=>simp at hx ⊢; exact ih i x hx
 | _::_,[],h=>by simp [a9J] at h
noncomputable def a1q (B:St):List (List Nat)→St→Option (List AV)
 | [],_=>some []
 | t::ts,st=>match Go.Cb.G.callG tbl 3000 13 [.ptr mo0 0,.str t] st with
  | some (v,st')=>if a9J B st' then (match a1q B ts st' with
   | some vs=>some (v::vs)
   | none=>none) else none
  | none=>none
noncomputable def reads (B:St) (ts:List (List Nat)):Option (List AV):=a1q B ts B
def N2 (d:List Sel):AV:=.tuple [.agg [.list false [[.bool false,.str [],.list false [],.list false (d.map Sel.row)]],.list false []],.bool true]
theorem L6 {B st:St} {t:List Nat} {ts:List (List Nat)} {v:AV} {vs:List AV} (h:a1q B (t::ts) st=some (v::vs)):EvQ tbl 13 [.ptr mo0 0,.str t] st (fun a st'=>a=v∧Gr B st'∧a1q B ts st'=some vs):=by
 unfold a1q at h
 cases hc:Go.Cb.G.callG tbl 3000 13 [.ptr mo0 0,.str t] st with
 | none=>rw [hc] at h; cases h
 | some x =>
  obtain ⟨w,st'⟩:=x
  rw [hc] at h
  dsimp only at h
  split at h
  · rename_i hp
    cases hr:a1q B ts st' with
    | none=>rw [hr] at h; cases h
    | some ws =>
     rw [hr] at h
     cases h
     exact ⟨_,_,Go.Cb.G.ev_ofG hc,rfl,b2u hp,hr⟩
  · cases h
end Go.Cb.CodeA
