/- What functions of the abstract machine answer. No conditions but those that each theorem names. -/
import Derived.Test.YthbikoodicigeaaGreatDoorT1
import Derived.Test.YthbikoodicigeaaGreatDoorMV
import Derived.Test.YthbikoodicigeaaGreatDoorXAms3
import Derived.KernelRfl
set_option maxRecDepth 100000
set_option linter.unusedVariables false
namespace Go.Cb.CodeA
open Go Go.Cb
theorem m_tp:Go.Cb.G.callG tbl1 3000 34 A_tp T_nw=some (R_tp,T_nw):=by kernel_rfl
theorem m_rp (ob:Cb.Obj):Go.Cb.G.callG tbl 3000 23 A_rp (S_rp ob)=some (R_rp,(S_rp ob)):=by kernel_rfl
theorem m_tc:Go.Cb.G.callG tbl1 3000 34 A_tc T_nw=some (R_tc,T_nw):=by kernel_rfl
theorem m_rc (ob:Cb.Obj):Go.Cb.G.callG tbl 3000 23 A_rc (S_rp ob)=some (R_rc,(S_rp ob)):=by kernel_rfl
theorem m_td:Go.Cb.G.callG tbl1 3000 34 A_td T_nw=some (R_td,T_nw):=by kernel_rfl
theorem m_rd (ob:Cb.Obj):Go.Cb.G.callG tbl 3000 23 A_rd (S_rp ob)=some (R_rd,(S_rp ob)):=by kernel_rfl
theorem m_tq:Go.Cb.G.callG tbl1 3000 34 A_tq T_nw=some (R_tq,T_nw):=by kernel_rfl
theorem m_rq (ob:Cb.Obj):Go.Cb.G.callG tbl 3000 23 A_rq (S_rp ob)=some (R_rq,(S_rp ob)):=by kernel_rfl
theorem m_tm:Go.Cb.G.callG tbl1 3000 34 A_tm T_nw=some (R_tm,T_nw):=by kernel_rfl
theorem m_rm (ob:Cb.Obj):Go.Cb.G.callG tbl 3000 23 A_rm (S_rp ob)=some (R_rm,(S_rp ob)):=by kernel_rfl
theorem m_tn:Go.Cb.G.callG tbl1 3000 34 A_tn T_nw=some (R_tn,T_nw):=by kernel_rfl
theorem m_rn (ob:Cb.Obj):Go.Cb.G.callG tbl 3000 23 A_rn (S_rp ob)=some (R_rn,(S_rp ob)):=by kernel_rfl
theorem m_to:Go.Cb.G.callG tbl1 3000 34 A_to T_nw=some (R_to,T_nw):=by kernel_rfl
theorem m_ro (ob:Cb.Obj):Go.Cb.G.callG tbl 3000 23 A_ro (S_rp ob)=some (R_ro,(S_rp ob)):=by kernel_rfl
theorem m_tu:Go.Cb.G.callG tbl1 3000 34 A_tu T_nw=some (R_tu,T_nw):=by kernel_rfl
theorem m_ru (ob:Cb.Obj):Go.Cb.G.callG tbl 3000 23 A_ru (S_rp ob)=some (R_ru,(S_rp ob)):=by kernel_rfl
theorem m_ti:Go.Cb.G.callG tbl1 3000 34 A_ti T_nw=some (R_ti,T_nw):=by kernel_rfl
theorem m_ri (ob:Cb.Obj):Go.Cb.G.callG tbl 3000 23 A_ri (S_rp ob)=some (R_ri,(S_rp ob)):=by kernel_rfl
theorem m_tj:Go.Cb.G.callG tbl1 3000 34 A_tj T_nw=some (R_tj,T_nw):=by kernel_rfl
theorem m_rj (ob:Cb.Obj):Go.Cb.G.callG tbl 3000 23 A_rj (S_rp ob)=some (R_rj,(S_rp ob)):=by kernel_rfl
theorem m_tk:Go.Cb.G.callG tbl1 3000 34 A_tk T_nw=some (R_tk,T_nw):=by kernel_rfl
theorem m_rk (ob:Cb.Obj):Go.Cb.G.callG tbl 3000 23 A_rk (S_rp ob)=some (R_rk,(S_rp ob)):=by kernel_rfl
theorem m_cp:Go.Cb.G.callG tbl1 3000 35 A_tp T_nw=some (R_cp,T_nw):=by kernel_rfl
theorem m_cc:Go.Cb.G.callG tbl1 3000 35 A_tc T_nw=some (R_cp,T_nw):=by kernel_rfl
theorem m_cd:Go.Cb.G.callG tbl1 3000 35 A_td T_nw=some (R_cp,T_nw):=by kernel_rfl
theorem m_cq:Go.Cb.G.callG tbl1 3000 35 A_tq T_nw=some (R_cq,T_nw):=by kernel_rfl
theorem m_cm:Go.Cb.G.callG tbl1 3000 35 A_tm T_nw=some (R_cq,T_nw):=by kernel_rfl
theorem m_len:Go.Cb.G.callG tbl1 3000 21 A_len T_do2=some (R_len,T_do2):=by kernel_rfl
end Go.Cb.CodeA
