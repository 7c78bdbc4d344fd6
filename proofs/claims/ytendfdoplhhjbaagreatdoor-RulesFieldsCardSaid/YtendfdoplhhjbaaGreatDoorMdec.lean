/- What functions of the abstract machine answer. No conditions but those that each theorem names. -/
import Derived.Test.YtendfdoplhhjbaaGreatDoorMV
import Derived.KernelRfl
set_option maxRecDepth 100000
set_option linter.unusedVariables false
namespace Go.Cb.CodeA
open Go Go.Cb
theorem m_d0 : Go.Cb.G.callG tbl 3000 7 A_d0 T_bb = some (R_d0, T_d0) := by kernel_rfl
theorem m_d1 : Go.Cb.G.callG tbl 3000 7 A_d1 T_bb = some (R_d1, T_d1) := by kernel_rfl
theorem m_d2 : Go.Cb.G.callG tbl 3000 7 A_d2 T_bb = some (R_d2, T_d2) := by kernel_rfl
theorem m_d3 : Go.Cb.G.callG tbl 3000 7 A_d3 T_bb = some (R_d3, T_d3) := by kernel_rfl
theorem m_d4 : Go.Cb.G.callG tbl 3000 7 A_d4 T_bb = some (R_d4, T_d4) := by kernel_rfl
theorem m_d5 : Go.Cb.G.callG tbl 3000 7 A_d5 T_bb = some (R_d5, T_d5) := by kernel_rfl
theorem m_d6 : Go.Cb.G.callG tbl 3000 7 A_d6 T_bb = some (R_d6, T_d6) := by kernel_rfl
theorem m_e0 (ob : Cb.Obj) : Go.Cb.G.callG tbl 3000 7 A_e0 (S_e0 ob) = some (R_e0, (T_e0 ob)) := by kernel_rfl
theorem m_e1 (ob : Cb.Obj) : Go.Cb.G.callG tbl 3000 7 A_e1 (S_e0 ob) = some (R_e1, (T_e1 ob)) := by kernel_rfl
theorem m_e2 (ob : Cb.Obj) : Go.Cb.G.callG tbl 3000 7 A_e2 (S_e0 ob) = some (R_e2, (T_e2 ob)) := by kernel_rfl
theorem m_e3 (ob : Cb.Obj) : Go.Cb.G.callG tbl 3000 7 A_e3 (S_e0 ob) = some (R_e3, (T_e3 ob)) := by kernel_rfl
theorem m_e4 (ob : Cb.Obj) : Go.Cb.G.callG tbl 3000 7 A_e4 (S_e0 ob) = some (R_e4, (T_e4 ob)) := by kernel_rfl
theorem m_e5 (ob : Cb.Obj) : Go.Cb.G.callG tbl 3000 7 A_e5 (S_e0 ob) = some (R_e5, (T_e5 ob)) := by kernel_rfl
theorem m_e6 (ob : Cb.Obj) : Go.Cb.G.callG tbl 3000 7 A_e6 (S_e0 ob) = some (R_e6, (T_e6 ob)) := by kernel_rfl
theorem m_c0 (ob : Cb.Obj) : Go.Cb.G.callG tbl 3000 8 A_c0 (T_e0 ob) = some (R_c0, (T_c0 ob)) := by kernel_rfl
theorem m_c1 (ob : Cb.Obj) : Go.Cb.G.callG tbl 3000 8 A_c1 (T_e1 ob) = some (R_c0, (T_c1 ob)) := by kernel_rfl
theorem m_c2 (ob : Cb.Obj) : Go.Cb.G.callG tbl 3000 8 A_c2 (T_e2 ob) = some (R_c2, (T_c2 ob)) := by kernel_rfl
theorem m_c3 (ob : Cb.Obj) : Go.Cb.G.callG tbl 3000 8 A_c3 (T_e3 ob) = some (R_c2, (T_c3 ob)) := by kernel_rfl
theorem m_c4 (ob : Cb.Obj) : Go.Cb.G.callG tbl 3000 8 A_c4 (T_e4 ob) = some (R_c4, (T_c4 ob)) := by kernel_rfl
theorem m_c5 (ob : Cb.Obj) : Go.Cb.G.callG tbl 3000 8 A_c5 (T_e5 ob) = some (R_c5, (T_c5 ob)) := by kernel_rfl
theorem m_c6 (ob : Cb.Obj) : Go.Cb.G.callG tbl 3000 8 A_c6 (T_e6 ob) = some (R_c6, (T_c6 ob)) := by kernel_rfl
end Go.Cb.CodeA
