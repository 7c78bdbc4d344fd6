/- What functions of the abstract machine answer. No conditions but those that each theorem names. -/
import Derived.Test.YthbikoodicigeaaGreatDoorRow0
import Derived.Test.YthbikoodicigeaaGreatDoorPostV
import Derived.Test.YthbikoodicigeaaGreatDoorOpen
import Derived.Test.YthbikoodicigeaaGreatDoorRs1
namespace Go.Proofs.YthbikoodicigeaaGreatDoor
open Go.ChangeShapes Go.WideShapes Go.ChangeAt Go.WideMaps Go.WideElems Go.RowKit Go.ChangeMaps Go.Cb Go.Cb.CodeA
set_option maxRecDepth 100000
set_option linter.unusedVariables false
theorem c9:Tryz.prog.cellsOf 9=1:=by kernel_rfl
theorem strs_of:∀ {ks:List (List AV)},(∀ r∈ks,∃ s:List Nat,r=sRow s)→∃ ss:List (List Nat),ks=ss.map sRow
 | [],_=>⟨[],rfl⟩
 | k::ks,h=>by
  obtain ⟨s,rfl⟩:=h k (by simp)
  obtain ⟨ss,rfl⟩:=strs_of (ks:=ks) fun r hr=>h r (by simp [hr])
  exact ⟨s::ss,rfl⟩
section
variable {H:Type} {enc:TypeId×Value→H} {w:World} {base:Nat} {spare:Nat→Bool} {held:Bool}
theorem open_text {m:Nat} {cs:List Value} {y:DataW H×List MemPlace} (h:DataW.trod enc Tryz.prog w base spare held m 9 cs=some y):∃ r,(∃ s:List Nat,r=sRow s)∧RowRel (gh0 w) w r cs:=by
 obtain ⟨s,rfl,_,_⟩:=DataW.trod_string Tryz.underlying9 h
 refine ⟨sRow (s.data.toList.map UInt8.toNat),⟨_,rfl⟩,?_,?_⟩
 · simp only [sRow,RelL,Rel]; exact ⟨_,_,rfl,⟨_,rfl,rfl⟩,rfl⟩
 · intro c hc; simp at hc; subst hc; rfl
end
end Go.Proofs.YthbikoodicigeaaGreatDoor
