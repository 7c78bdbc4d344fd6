import Derived.Test.YtbibkdncfclnbaaGreatDoorMS
import Derived.Test.YtbibkdncfclnbaaGreatDoorZs1
set_option maxRecDepth 20000
set_option linter.unusedVariables false
namespace Go.Cb.CodeA
open Go Go.Cb
/-! documents that are read one behind the other -/
def b0C:St→St→Bool
 | [],_=>true
 | b::bs,s::ss=>a5V b s && b0C bs ss
 | _::_,[]=>false
theorem b2n:∀ {B st:St},b0C B st=true→Gr B st
 | [],_,_=>fun i x hx=>by simp at hx
 | b::bs,s::ss,h=>by
  simp only [b0C,Bool.and_eq_true] at h
  have e:=(Y0 _ _).1 h.1
  have ih:=b2n h.2
  intro i x hx
  cases i with
  | zero=>simp at hx ⊢; rw [← e]; exact hx
  | succ i=>simp at hx ⊢; exact ih i x hx
 | _::_,[],h=>by simp [b0C] at h
noncomputable def a1l (B:St):List (List Nat)→St→Option (List AV)
 | [],_=>some []
 | t::ts,st=>match Go.Cb.G.callG tbl 3000 13 [.ptr mo0 0,.str t] st with
  | some (v,st')=>if b0C B st' then (match a1l B ts st' with
   | some vs=>some (v::vs)
   | none=>none) else none
  | none=>none
noncomputable def reads (B:St) (ts:List (List Nat)):Option (List AV):=a1l B ts B
def s6 (d:List Sel):AV:=.tuple [.agg [.list false [[.bool false,.str [],.list false [],.list false (d.map Sel.row)]],.list false []],.bool true]
theorem n9 {B st:St} {t:List Nat} {ts:List (List Nat)} {v:AV} {vs:List AV} (h:a1l B (t::ts) st=some (v::vs)):EvQ tbl 13 [.ptr mo0 0,.str t] st (fun a st'=>a=v∧Gr B st'∧a1l B ts st'=some vs):=by
 unfold a1l at h
 cases hc:Go.Cb.G.callG tbl 3000 13 [.ptr mo0 0,.str t] st with
 | none=>rw [hc] at h; cases h
 | some x =>
  obtain ⟨w,st'⟩:=x
  rw [hc] at h
  dsimp only at h
  split at h
  · rename_i hp
    cases hr:a1l B ts st' with
    | none=>rw [hr] at h; cases h
    | some ws =>
     rw [hr] at h
     cases h
     exact ⟨_,_,Go.Cb.G.ev_ofG hc,rfl,b2n hp,hr⟩
  · cases h
end Go.Cb.CodeA
