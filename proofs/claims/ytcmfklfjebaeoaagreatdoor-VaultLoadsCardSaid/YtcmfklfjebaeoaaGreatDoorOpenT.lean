/- What functions of the abstract machine answer. No conditions but those that each theorem names. -/
import Derived.Test.YtcmfklfjebaeoaaGreatDoorRow0
import Derived.Test.YtcmfklfjebaeoaaGreatDoorPostV
import Derived.Test.YtcmfklfjebaeoaaGreatDoorOpen
import Derived.Test.YtcmfklfjebaeoaaGreatDoorWs1
namespace Go.Proofs.YtcmfklfjebaeoaaGreatDoor
open Go.ChangeShapes Go.WideShapes Go.ChangeAt Go.WideMaps Go.WideElems Go.RowKit Go.ChangeMaps Go.Cb Go.Cb.CodeA
set_option maxRecDepth 100000
set_option linter.unusedVariables false
theorem c5:Tryz.prog.cellsOf 5=1:=by kernel_rfl
theorem c5W {k:Int} (h:(Lit.int .u8 k).wf=true):0≤k∧k < 256:=by
 simp [Lit.wf,IntKind.min,IntKind.max,IntKind.signed,IntKind.bits] at h
 omega
theorem a8d:∀ {ks:List (List AV)},(∀ r∈ks,∃ s:Nat,s < 256∧r=a4k s)→∃ ss:List Nat,ks=m0 ss∧∀ s∈ss,s < 256
 | [],_=>⟨[],rfl,by simp⟩
 | k::ks,h=>by
  obtain ⟨s,hs,rfl⟩:=h k (by simp)
  obtain ⟨ss,rfl,hss⟩:=a8d (ks:=ks) fun r hr=>h r (by simp [hr])
  refine ⟨s::ss,rfl,fun u hu=>?_⟩
  rcases List.mem_cons.1 hu with rfl|hu
  · exact hs
  · exact hss u hu
section
variable {H:Type} {enc:TypeId×Value→H} {w:World} {base:Nat} {spare:Nat→Bool} {held:Bool}
theorem b38 {m:Nat} {cs:List Value} {y:DataW H×List MemPlace} (h:DataW.trod enc Tryz.prog w base spare held m 5 cs=some y):∃ r,(∃ s:Nat,s < 256∧r=a4k s)∧a2D (gh0 w) w r cs:=by
 obtain ⟨k,rfl,_,wi⟩:=DataW.trod_int Tryz.underlying5 h
 have wi:(Lit.int .u8 k).wf=true:=by assumption
 obtain ⟨h0,h1⟩:=c5W wi
 obtain ⟨n,rfl⟩:=Int.eq_ofNat_of_zero_le h0
 refine ⟨a4k n,⟨n,by omega,rfl⟩,?_,?_⟩
 · simp only [a4k,RelL,Rel]; exact ⟨_,_,rfl,rfl,rfl⟩
 · intro c hc; simp at hc; subst hc; rfl
end
end Go.Proofs.YtcmfklfjebaeoaaGreatDoor
