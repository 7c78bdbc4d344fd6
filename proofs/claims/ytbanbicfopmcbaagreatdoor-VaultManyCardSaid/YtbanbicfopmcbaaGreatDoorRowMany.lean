/- The law VaultMany answers true for all inputs: the tied card of that row; no conditions. -/
import Derived.Test.YtbanbicfopmcbaaGreatDoorRowH
import Derived.Test.YtbanbicfopmcbaaGreatDoorRowG
set_option linter.unusedVariables false
namespace Go.Proofs.YtbanbicfopmcbaaGreatDoor
open Go.Clock Go.ChangeShapes Go.WideShapes Go.ChangeAt Go.WideMaps Go.WideElems Go.RowKit Go.ChangeMaps Go.Cb Go.Cb.CodeA
set_option maxRecDepth 100000
theorem vaultMany_card:Rows.VaultManyCardSaid :=
 Claim7.holds_tied_plain_at .later [] [.data,.data,.data,.sentinel,.sentinel,.widerDeep] true (true, "b6b20b9784af634f3d753a4c8805bd57c84028e3a23d6f8741885d93a2fc28a6") true
  a3u (fun _ h=>by cases h) (by kernel_rfl) (fun _ h=>by cases h) vaultMany_row_tie rfl ⟨rfl,rfl⟩ (by kernel_rfl) rfl
  (fun f fn hf hfn=>by
   obtain rfl:f=3:=Option.some.inj ((show Tryz.prog.funcNamed "columbary/columbarylaw15.VaultMany"=some 3 by kernel_rfl).symm.trans hf) |>.symm
   obtain rfl:fn=Tryz.f3:=(Option.some.inj (Tryz.func3.symm.trans hfn)).symm
   exact ⟨by kernel_rfl,fun j t ht=>by
    rw [Tryz.params3] at ht
    have hm:t∈[5,5]:=by simpa using Array.mem_of_getElem? ht
    have hall:([5,5].all fun u=>!Tryz.prog.wantsStandIn u)=true:=by kernel_rfl
    exact (show Tryz.prog.wantsStandIn t=false by simpa using List.all_eq_true.1 hall t hm)⟩)
  goesNot
#print axioms vaultMany_card
end Go.Proofs.YtbanbicfopmcbaaGreatDoor
