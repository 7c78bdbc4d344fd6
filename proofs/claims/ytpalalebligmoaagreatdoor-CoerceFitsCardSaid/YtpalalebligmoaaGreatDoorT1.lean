/- What functions of the abstract machine answer. No conditions but those that each theorem names. -/
import Derived.Test.YtpalalebligmoaaGreatDoorT0
import Derived.Test.YtpalalebligmoaaGreatDoorS8
import Derived.Test.YtpalalebligmoaaGreatDoorMax
set_option maxRecDepth 20000
set_option linter.unusedSimpArgs false
set_option linter.unusedVariables false
namespace Go.Cb.CodeA
open Go Go.Cb
attribute [local congr] obind_congr gv_congr2 gv2_congr brT_congr seqK_congr blkK_congr m1_congr gm_congr
theorem again2_q : EvQ tbl 9 [] T_aw (fun a st' => st' = T_bb ∧ a = .bool true) := ⟨_, _, ⟨100, m_ax⟩, rfl, rfl⟩
end Go.Cb.CodeA
