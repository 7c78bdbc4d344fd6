import Derived.Test.YtbibkdncfclnbaaGreatDoorMS
import Derived.Test.YtbibkdncfclnbaaGreatDoorZs1
set_option maxRecDepth 20000
set_option linter.unusedVariables false
namespace Go.Cb.CodeA
open Go Go.Cb
/-! documents that are read one behind the other -/
def b1T:St→St→Bool
 | [],_=>true
 | b::bs,s::ss=>a5G b s && b1T bs ss
 | _::_,[]=>false
theorem b3a:∀ {B st:St},b1T B st=true→Gr B st
 | [],_,_=>fun i x hx=>by simp at hx
 | b::bs,s::ss,h=>by
  simp only [b1T,Bool.and_eq_true] at h
  have e:=(Y6 _ _).1 h.1
  have ih:=b3a h.2
  intro i x hx
  cases i with
  | zero=>simp at hx ⊢; rw [← e]; exact hx
  | succ i=>simp at hx ⊢; exact ih i x hx
 | _::_,[],h=>by simp [b1T] at h
noncomputable def a1j (B:St):List (List Nat)→St→Option (List AV)
 | [],_=>some []
 | t::ts,st=>match Go.Cb.G.callG tbl 3000 13 [.ptr mo0 0,.str t] st with
  | some (v,st')=>if b1T B st' then (match a1j B ts st' with
   | some vs=>some (v::vs)
   | none=>none) else none
  | none=>none
noncomputable def reads (B:St) (ts:List (List Nat)):Option (List AV):=a1j B ts B
def c4p (d:List Sel):AV:=.tuple [.agg [.list false [[.bool false,.str [],.list false [],.list false (d.map Sel.row)]],.list false []],.bool true]
theorem c1D {B st:St} {t:List Nat} {ts:List (List Nat)} {v:AV} {vs:List AV} (h:a1j B (t::ts) st=some (v::vs)):EvQ tbl 13 [.ptr mo0 0,.str t] st (fun a st'=>a=v∧Gr B st'∧a1j B ts st'=some vs):=by
 unfold a1j at h
 cases hc:Go.Cb.G.callG tbl 3000 13 [.ptr mo0 0,.str t] st with
 | none=>rw [hc] at h; cases h
 | some x =>
  obtain ⟨w,st'⟩:=x
  rw [hc] at h
  dsimp only at h
  split at h
  · rename_i hp
    cases hr:a1j B ts st' with
    | none=>rw [hr] at h; cases h
    | some ws =>
     rw [hr] at h
     cases h
     exact ⟨_,_,Go.Cb.G.ev_ofG hc,rfl,b3a hp,hr⟩
  · cases h
end Go.Cb.CodeA
