/- What functions of the abstract machine answer. No conditions but those that each theorem names. -/
import Derived.Test.YthbikoodicigeaaGreatDoorRow0
set_option linter.unusedVariables false
namespace Go.Proofs.YthbikoodicigeaaGreatDoor
open Go.ChangeShapes Go.WideShapes Go.ChangeAt Go.WideMaps Go.WideElems Go.RowKit Go.ChangeMaps Go.Cb Go.Cb.CodeA
set_option maxRecDepth 100000
theorem j1:Rows.replicaErrsRow.wf (OpenSpec.ofChange Rows.replicaErrsSpec)=true:=by kernel_rfl
theorem j2:laidOutB Tryz.prog=true:=by kernel_rfl
theorem j3:mapsRowed Tryz.prog=true:=by kernel_rfl
theorem j4:(Rows.replicaErrsRow.inPlace == Tryz.prog.inPlace 3)=true:=by kernel_rfl
theorem j5:(Rows.replicaErrsRow.unfollowed == Tryz.prog.unfollowed 3)=true:=by kernel_rfl
theorem j6:(Rows.replicaErrsRow.recurses == Tryz.prog.recurses 3)=true:=by kernel_rfl
theorem j7:(Rows.replicaErrsRow.named == Tryz.prog.varsNamed 3)=true:=by kernel_rfl
theorem j8:(Rows.replicaErrsRow.plainKeys == Tryz.prog.plainKeys)=true:=by kernel_rfl
theorem joined:joinedFacts Tryz.prog 3 Tryz.f3 Rows.replicaErrsSpec Rows.replicaErrsRow=true:=by
 simp only [joinedFacts,j1,j2,j3,j4,j5,j6,j7,j8,Bool.true_and,Bool.and_true]
 kernel_rfl
end Go.Proofs.YthbikoodicigeaaGreatDoor
