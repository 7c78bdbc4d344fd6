/- The law ReplicaErrs answers true for all inputs: the tied card of that row; its premises are those of the row. -/
import Derived.Test.YthbikoodicigeaaGreatDoorRowHReplicaErrs
import Derived.Test.YthbikoodicigeaaGreatDoorRowGReplicaErrs
set_option linter.unusedVariables false
namespace Go.Proofs.YthbikoodicigeaaGreatDoor
open Go.ChangeShapes Go.WideShapes Go.ChangeAt Go.WideMaps Go.WideElems Go.RowKit Go.ChangeMaps Go.Cb Go.Cb.CodeA
set_option maxRecDepth 100000
theorem replicaErrs_card:Rows.ReplicaErrsCardSaid :=
 Claim7.holds_tied_plain_at .later [] [.data,.data,.data,.sentinel,.sentinel,.widerDeep] true (true, "c8334949f9f29a5ec825afcc68c47f2d9af7c4fb97869442873e1395179bc855") true
  replicaErrs_holds (fun _ h=>by cases h) (by kernel_rfl) (fun _ h=>by cases h) replicaErrs_row_tie rfl ⟨rfl,rfl⟩ (by kernel_rfl) rfl
  (fun f fn hf hfn=>by
   obtain rfl:f=3:=Option.some.inj ((show Tryz.prog.funcNamed "columbary/columbarylaw16.ReplicaErrs"=some 3 by kernel_rfl).symm.trans hf) |>.symm
   obtain rfl:fn=Tryz.f3:=(Option.some.inj (Tryz.func3.symm.trans hfn)).symm
   exact ⟨by kernel_rfl,fun j t ht=>by
    rw [Tryz.params3] at ht
    have hm:t∈[3,22,23]:=by simpa using Array.mem_of_getElem? ht
    have hall:([3,22,23].all fun u=>!Tryz.prog.wantsStandIn u)=true:=by kernel_rfl
    exact (show Tryz.prog.wantsStandIn t=false by simpa using List.all_eq_true.1 hall t hm)⟩)
  goesNot
#print axioms replicaErrs_card
end Go.Proofs.YthbikoodicigeaaGreatDoor
