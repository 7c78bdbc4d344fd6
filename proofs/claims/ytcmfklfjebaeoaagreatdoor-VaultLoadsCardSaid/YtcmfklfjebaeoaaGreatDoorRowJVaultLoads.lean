/- What functions of the abstract machine answer. No conditions but those that each theorem names. -/
import Derived.Test.YtcmfklfjebaeoaaGreatDoorRow0
set_option linter.unusedVariables false
namespace Go.Proofs.YtcmfklfjebaeoaaGreatDoor
open Go.Clock Go.ChangeShapes Go.WideShapes Go.ChangeAt Go.WideMaps Go.WideElems Go.RowKit Go.ChangeMaps Go.Cb Go.Cb.CodeA
set_option maxRecDepth 100000
theorem j1:Rows.vaultLoadsRow.wf (OpenSpec.ofChange Rows.vaultLoadsSpec)=true:=by kernel_rfl
theorem j2:laidOutB Tryz.prog=true:=by kernel_rfl
theorem j3:mapsRowed Tryz.prog=true:=by kernel_rfl
theorem j4:(Rows.vaultLoadsRow.inPlace == Tryz.prog.inPlace 3)=true:=by kernel_rfl
theorem j5:(Rows.vaultLoadsRow.unfollowed == Tryz.prog.unfollowed 3)=true:=by kernel_rfl
theorem j6:(Rows.vaultLoadsRow.recurses == Tryz.prog.recurses 3)=true:=by kernel_rfl
theorem j7:(Rows.vaultLoadsRow.named == Tryz.prog.varsNamed 3)=true:=by kernel_rfl
theorem j8:(Rows.vaultLoadsRow.plainKeys == Tryz.prog.plainKeys)=true:=by kernel_rfl
theorem c4s:joinedFacts Tryz.prog 3 Tryz.f3 Rows.vaultLoadsSpec Rows.vaultLoadsRow=true:=by
 simp only [joinedFacts,j1,j2,j3,j4,j5,j6,j7,j8,Bool.true_and,Bool.and_true]
 kernel_rfl
end Go.Proofs.YtcmfklfjebaeoaaGreatDoor
