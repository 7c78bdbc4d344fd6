/- What functions of the abstract machine answer. No conditions but those that each theorem names. -/
import Derived.Test.YthnliekianmljaaGreatDoorMat
import Derived.Test.YthnliekianmljaaGreatDoorMas
import Derived.Test.YthnliekianmljaaGreatDoorMar
import Derived.Test.YthnliekianmljaaGreatDoorMbt
import Derived.Test.YthnliekianmljaaGreatDoorMbs
import Derived.Test.YthnliekianmljaaGreatDoorMbr
import Derived.Test.YthnliekianmljaaGreatDoorXAms3
import Derived.KernelRfl
set_option maxRecDepth 100000
namespace Go.Cb.CodeA
open Go Go.Cb Go.Cb.F
theorem both_x {T0 T1 T2 T3 : St} {o1 o2 : Nat} (h1 : callQ tbl zs 3000 28 A_at T0 = some (R_at, T1)) (h2 : callQ tbl zs 3000 29 A_as T1 = some (.tuple [.ptr o1 0, .str [], .int .i64 0], T2))
    (h3 : callQ tbl zs 3000 30 A_as T2 = some (.tuple [.ptr o2 0, .str [], .int .i64 0], T3)) : Ev tbl 11 [] T0 (.tuple [.ptr o1 0, .ptr o2 0]) T3 := by
  have e1 := ev_ofQ zs_ok h1
  have e2 := ev_ofQ zs_ok h2
  have e3 := ev_ofQ zs_ok h3
  let L := A_as.headD .undef
  have hx : XC tbl a11c (List.replicate 6 .undef) T0 (.ret, [.ptr o1 0, .ptr o2 0, A_as.headD .undef, .int .i64 0, .ptr o1 0, .ptr o2 0], T3) := by
    refine XC.seq (xc_of0 (out := (.normal, [.nilp, .nilp, .undef, .undef, .undef, .undef], T0)) z11s1_r (fun c n => by kernel_rfl)) ?_
    refine XC.seq (xc_ofC z11s3_r e1 (out := (.normal, [.nilp, .nilp, A_as.headD .undef, .int .i64 0, .undef, .undef], T1)) (fun c n => by kernel_rfl) (fun n => by kernel_rfl)) ?_
    refine XC.seq (xc_of0 (out := (.normal, [.nilp, .nilp, A_as.headD .undef, .int .i64 0, .undef, .undef], T1)) z11s8_r (fun c n => by kernel_rfl)) ?_
    refine XC.seq (xc_ofC z11s10_r e2 (out := (.normal, [.nilp, .nilp, A_as.headD .undef, .int .i64 0, .ptr o1 0, .undef], T2)) (fun c n => by kernel_rfl) (fun n => by kernel_rfl)) ?_
    refine XC.seq (xc_ofC z11s12_r e3 (out := (.normal, [.nilp, .nilp, A_as.headD .undef, .int .i64 0, .ptr o1 0, .ptr o2 0], T3)) (fun c n => by kernel_rfl) (fun n => by kernel_rfl)) ?_
    exact xc_of0 z11s15_r (fun c n => by kernel_rfl)
  exact Ev.of_body (r := (.tuple [.ptr o1 0, .ptr o2 0], T3)) (fn := a11) (by kernel_rfl) (by kernel_rfl) (by kernel_rfl) hx (by kernel_rfl)
theorem both_a : Ev tbl 11 [] [] R_ab T_ar := both_x m_at m_as m_ar
theorem both_b : Ev tbl 11 [] T_aw R_bb T_br := both_x m_bt m_bs m_br
end Go.Cb.CodeA
