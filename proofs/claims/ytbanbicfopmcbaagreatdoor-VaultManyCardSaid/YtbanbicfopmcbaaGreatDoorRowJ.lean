/- The closed facts of the row VaultMany, together. No conditions. -/
import Derived.Test.YtbanbicfopmcbaaGreatDoorRow0
set_option linter.unusedVariables false
namespace Go.Proofs.YtbanbicfopmcbaaGreatDoor
open Go.Clock Go.ChangeShapes Go.WideShapes Go.ChangeAt Go.WideMaps Go.WideElems Go.RowKit Go.ChangeMaps Go.Cb Go.Cb.CodeA
set_option maxRecDepth 100000
theorem j1:Rows.vaultManyRow.wf (OpenSpec.ofChange Rows.vaultManySpec)=true:=by kernel_rfl
theorem j2:laidOutB Tryz.prog=true:=by kernel_rfl
theorem j3:mapsRowed Tryz.prog=true:=by kernel_rfl
theorem j4:(Rows.vaultManyRow.inPlace == Tryz.prog.inPlace 3)=true:=by kernel_rfl
theorem j5:(Rows.vaultManyRow.unfollowed == Tryz.prog.unfollowed 3)=true:=by kernel_rfl
theorem j6:(Rows.vaultManyRow.recurses == Tryz.prog.recurses 3)=true:=by kernel_rfl
theorem j7:(Rows.vaultManyRow.named == Tryz.prog.varsNamed 3)=true:=by kernel_rfl
theorem j8:(Rows.vaultManyRow.plainKeys == Tryz.prog.plainKeys)=true:=by kernel_rfl
theorem c0A:joinedFacts Tryz.prog 3 Tryz.f3 Rows.vaultManySpec Rows.vaultManyRow=true:=by
 simp only [joinedFacts,j1,j2,j3,j4,j5,j6,j7,j8,Bool.true_and,Bool.and_true]
 kernel_rfl
end Go.Proofs.YtbanbicfopmcbaaGreatDoor
