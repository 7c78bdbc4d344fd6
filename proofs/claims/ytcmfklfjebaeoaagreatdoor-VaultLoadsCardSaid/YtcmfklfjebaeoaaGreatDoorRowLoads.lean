/- The law VaultLoads answers true for all inputs: the tied card of that row; its premises are those of the row (calm, no time passes outside). -/
import Derived.Test.YtcmfklfjebaeoaaGreatDoorRowHVaultLoads
import Derived.Test.YtcmfklfjebaeoaaGreatDoorRowGVaultLoads
set_option linter.unusedVariables false
namespace Go.Proofs.YtcmfklfjebaeoaaGreatDoor
open Go.Clock Go.ChangeShapes Go.WideShapes Go.ChangeAt Go.WideMaps Go.WideElems Go.RowKit Go.ChangeMaps Go.Cb Go.Cb.CodeA
set_option maxRecDepth 100000
theorem vaultLoads_card:Rows.VaultLoadsCardSaid :=
 Claim7.holds_tied_plain_at .later [] [.data,.data,.data,.sentinel,.sentinel,.widerDeep] true (true, "c7feba1aac9a24a983f79e9e78ab2d410d59015a4794fba2a655ff124258571e") true
  a4d (fun _ h=>by cases h) (by kernel_rfl) (fun _ h=>by cases h) vaultLoads_row_tie rfl ⟨rfl,rfl⟩ (by kernel_rfl) rfl
  (fun f fn hf hfn=>by
   obtain rfl:f=3:=Option.some.inj ((show Tryz.prog.funcNamed "columbary/columbarylaw15.VaultLoads"=some 3 by kernel_rfl).symm.trans hf) |>.symm
   obtain rfl:fn=Tryz.f3:=(Option.some.inj (Tryz.func3.symm.trans hfn)).symm
   exact ⟨by kernel_rfl,fun j t ht=>by
    rw [Tryz.params3] at ht
    have hm:t∈[22]:=by simpa using Array.mem_of_getElem? ht
    have hall:([22].all fun u=>!Tryz.prog.wantsStandIn u)=true:=by kernel_rfl
    exact (show Tryz.prog.wantsStandIn t=false by simpa using List.all_eq_true.1 hall t hm)⟩)
  b8z
#print axioms vaultLoads_card
end Go.Proofs.YtcmfklfjebaeoaaGreatDoor
