/- What functions of the abstract machine answer. No conditions but those that each theorem names. -/
import Derived.Test.YtpalalebligmoaaGreatDoorS7
import Derived.Test.YtpalalebligmoaaGreatDoorMaw
import Derived.Test.YtpalalebligmoaaGreatDoorMbb
set_option maxRecDepth 20000
set_option linter.unusedSimpArgs false
set_option linter.unusedVariables false
namespace Go.Cb.CodeA
open Go Go.Cb
attribute [local congr] obind_congr gv_congr2 gv2_congr brT_congr seqK_congr blkK_congr m1_congr gm_congr
theorem sch_bb : Sch T_bb := ⟨rfl, rfl, rfl⟩
theorem awake_q : EvQ tbl 9 [] [] (fun a st' => st' = T_aw ∧ a = .bool true) := ⟨_, _, ⟨100, m_aw⟩, rfl, rfl⟩
theorem both_q : EvQ tbl 12 A_bb T_aw (fun a st' => st' = T_bb ∧ a = .tuple [.ptr 14 0, .ptr 23 0, .bool true]) := ⟨_, _, ⟨100, m_bb⟩, rfl, rfl⟩
end Go.Cb.CodeA
