/- What the pieces of that code come to, as chains. No conditions. -/
import Derived.Test.YtkfbiiedabbgfaaDoorCodeA
import Derived.Test.YtkfbiiedabbgfaaDoorXAms2
import Derived.KernelRfl
set_option maxRecDepth 100000
set_option linter.unusedVariables false
namespace Go.Cb.CodeA
open Go Go.Cb
variable (call : CallT) (n : Nat) (v0 v1 v2 v3 v4 v5 v6 v7 v8 v9 v10 v11 v12 v13 v14 v15 v16 v17 v18 v19 v20 v21 v22 : AV) (st : St)
theorem AA {p q : Prop} (x : p) (y : q) : p ∧ q := ⟨x, y⟩
theorem a4s1_x : exec call n a4s1 [v0,v1,v2,v3,v4,v5,v6,v7,v8,v9,v10,v11,v12,v13,v14] st =
 m1 (.bool false) fun x0 =>
 some (Ex.normal,[v0,v1,AV.strip x0,v3,v4,v5,v6,v7,v8,v9,v10,v11,v12,v13,v14],st) :=
  (exec_reg ..).trans (by kernel_rfl)
theorem a4s4_x : exec call n a4s4 [v0,v1,v2,v3,v4,v5,v6,v7,v8,v9,v10,v11,v12,v13,v14] st =
 m1 (.bool false) fun x0 =>
 some (Ex.normal,[v0,v1,AV.strip x0,v3,v4,v5,v6,v7,v8,v9,v10,v11,v12,v13,v14],st) :=
  (exec_reg ..).trans (by kernel_rfl)
def a4s6_k0 (call : CallT) (n : Nat) (v0 v1 v2 v3 v4 v5 v6 v7 v8 v9 v10 v11 v12 v13 v14 : AV) (x0 : AV × St) : Option Out :=
 obind (p1 (semUn .not call [W x0.1] .undef x0.2)) fun x1 =>
 brE (W x1) call n a4s5 .skip [v0,v1,v2,v3,v4,v5,v6,v7,v8,v9,v10,v11,v12,v13,v14] x0.2
theorem a4s6_x : exec call n a4s6 [v0,v1,v2,v3,v4,v5,v6,v7,v8,v9,v10,v11,v12,v13,v14] st =
 obind (p2 (semCall 8 call [] .undef st)) (a4s6_k0 call n v0 v1 v2 v3 v4 v5 v6 v7 v8 v9 v10 v11 v12 v13 v14) :=
  (exec_testT ..).trans (by kernel_rfl)
def a4s8_k0 (call : CallT) (n : Nat) (v0 v1 v2 v5 v6 v7 v8 v9 v10 v11 v12 v13 v14 : AV) (x1 : AV × St) : Option Out :=
 m1 (W x1.1) fun x2 =>
 obind (p1 (semExt 0 call [W x2] .undef x1.2)) fun x3 =>
 obind (p1 (semExt 1 call [W x2] .undef x1.2)) fun x4 =>
 obind (p1 (semExt 2 call [W x2] .undef x1.2)) fun x5 =>
 obind (semMv call [(AV.stripB x3)] .undef x1.2) fun x6 =>
 m1 (W x4) fun x7 =>
 m1 (W x5) fun x8 =>
 some (Ex.normal,[v0,v1,v2,(AV.strip x6.1),AV.strip x8,v5,v6,v7,v8,v9,v10,v11,v12,v13,v14],x6.2.2)
theorem a4s8_x : exec call n a4s8 [v0,v1,v2,v3,v4,v5,v6,v7,v8,v9,v10,v11,v12,v13,v14] st =
 m1 (AV.weak v0) fun x0 =>
 obind (p2 (semCall 9 call [W x0] .undef st)) (a4s8_k0 call n v0 v1 v2 v5 v6 v7 v8 v9 v10 v11 v12 v13 v14) :=
  (exec_reg ..).trans (by kernel_rfl)
theorem a4s11_x : exec call n a4s11 [v0,v1,v2,v3,v4,v5,v6,v7,v8,v9,v10,v11,v12,v13,v14] st =
 m1 (.bool true) fun x0 =>
 some (Ex.normal,[v0,v1,AV.strip x0,v3,v4,v5,v6,v7,v8,v9,v10,v11,v12,v13,v14],st) :=
  (exec_reg ..).trans (by kernel_rfl)
theorem a4s13_x : exec call n a4s13 [v0,v1,v2,v3,v4,v5,v6,v7,v8,v9,v10,v11,v12,v13,v14] st =
 m1 (AV.weak v4) fun x0 =>
 obind (p1 (semBin .neq call [W x0,(.int .i64 0)] .undef st)) fun x1 =>
 brE (W x1) call n a4s12 .skip [v0,v1,v2,v3,v4,v5,v6,v7,v8,v9,v10,v11,v12,v13,v14] st :=
  (exec_testT ..).trans (by kernel_rfl)
theorem a4s15_x : exec call n a4s15 [v0,v1,v2,v3,v4,v5,v6,v7,v8,v9,v10,v11,v12,v13,v14] st =
 m1 (.list true []) fun x0 =>
 some (Ex.normal,[v0,v1,v2,v3,v4,AV.strip x0,v6,v7,v8,v9,v10,v11,v12,v13,v14],st) :=
  (exec_reg ..).trans (by kernel_rfl)
theorem a4s17_x : exec call n a4s17 [v0,v1,v2,v3,v4,v5,v6,v7,v8,v9,v10,v11,v12,v13,v14] st =
 m1 (AV.weak v1) fun x0 =>
 obind (p1 (semConv .i64 call [W x0] .undef st)) fun x1 =>
 m1 (AV.weak v3) fun x2 =>
 obind (p1 (semLenL call [W x2] .undef st)) fun x3 =>
 obind (p1 (semBin .rem call [W x1,W x3] .undef st)) fun x4 =>
 m1 (W x4) fun x5 =>
 some (Ex.normal,[v0,v1,v2,v3,v4,v5,AV.strip x5,v7,v8,v9,v10,v11,v12,v13,v14],st) :=
  (exec_reg ..).trans (by kernel_rfl)
theorem a4s19_x : exec call n a4s19 [v0,v1,v2,v3,v4,v5,v6,v7,v8,v9,v10,v11,v12,v13,v14] st =
 obind (semMv call [v5] .undef st) fun x0 =>
 m1 (AV.weak v3) fun x1 =>
 m1 (AV.weak v6) fun x2 =>
 obind (p1 (semSlL 4 true false call [W x1,W x2] .undef x0.2.2)) fun x3 =>
 obind (semApp 4 72 call [(AV.stripB x0.1),W x3] .undef x0.2.2) fun x4 =>
 obind (semMv call [(AV.stripB x4.1)] .undef x4.2.2) fun x5 =>
 some (Ex.normal,[v0,v1,v2,v3,v4,(AV.strip x5.1),v6,v7,v8,v9,v10,v11,v12,v13,v14],x5.2.2) :=
  (exec_reg ..).trans (by kernel_rfl)
theorem a4s21_x : exec call n a4s21 [v0,v1,v2,v3,v4,v5,v6,v7,v8,v9,v10,v11,v12,v13,v14] st =
 obind (semMv call [v5] .undef st) fun x0 =>
 m1 (AV.weak v3) fun x1 =>
 m1 (AV.weak v6) fun x2 =>
 obind (p1 (semSlL 4 false true call [W x1,W x2] .undef x0.2.2)) fun x3 =>
 obind (semApp 4 72 call [(AV.stripB x0.1),W x3] .undef x0.2.2) fun x4 =>
 obind (semMv call [(AV.stripB x4.1)] .undef x4.2.2) fun x5 =>
 some (Ex.normal,[v0,v1,v2,v3,v4,(AV.strip x5.1),v6,v7,v8,v9,v10,v11,v12,v13,v14],x5.2.2) :=
  (exec_reg ..).trans (by kernel_rfl)
def a4s23_k0 (call : CallT) (n : Nat) (v0 v1 v2 v3 v4 v5 v6 v9 v10 v11 v12 v13 v14 : AV) (x1 : AV × St) : Option Out :=
 m1 (W x1.1) fun x2 =>
 obind (p1 (semExt 0 call [W x2] .undef x1.2)) fun x3 =>
 obind (p1 (semExt 1 call [W x2] .undef x1.2)) fun x4 =>
 obind (p1 (semExt 2 call [W x2] .undef x1.2)) fun x5 =>
 m1 (W x3) fun x6 =>
 m1 (W x4) fun x7 =>
 m1 (W x5) fun x8 =>
 some (Ex.normal,[v0,v1,v2,v3,v4,v5,v6,AV.strip x6,AV.strip x8,v9,v10,v11,v12,v13,v14],x1.2)
theorem a4s23_x : exec call n a4s23 [v0,v1,v2,v3,v4,v5,v6,v7,v8,v9,v10,v11,v12,v13,v14] st =
 m1 (AV.weak v3) fun x0 =>
 obind (p2 (semCall 10 call [W x0] .undef st)) (a4s23_k0 call n v0 v1 v2 v3 v4 v5 v6 v9 v10 v11 v12 v13 v14) :=
  (exec_reg ..).trans (by kernel_rfl)
def a4s25_k0 (call : CallT) (n : Nat) (v0 v1 v2 v3 v4 v5 v6 v7 v8 v11 v12 v13 v14 : AV) (x1 : AV × St) : Option Out :=
 m1 (W x1.1) fun x2 =>
 obind (p1 (semExt 0 call [W x2] .undef x1.2)) fun x3 =>
 obind (p1 (semExt 1 call [W x2] .undef x1.2)) fun x4 =>
 obind (p1 (semExt 2 call [W x2] .undef x1.2)) fun x5 =>
 m1 (W x3) fun x6 =>
 m1 (W x4) fun x7 =>
 m1 (W x5) fun x8 =>
 some (Ex.normal,[v0,v1,v2,v3,v4,v5,v6,v7,v8,AV.strip x6,AV.strip x8,v11,v12,v13,v14],x1.2)
theorem a4s25_x : exec call n a4s25 [v0,v1,v2,v3,v4,v5,v6,v7,v8,v9,v10,v11,v12,v13,v14] st =
 m1 (AV.weak v5) fun x0 =>
 obind (p2 (semCall 10 call [W x0] .undef st)) (a4s25_k0 call n v0 v1 v2 v3 v4 v5 v6 v7 v8 v11 v12 v13 v14) :=
  (exec_reg ..).trans (by kernel_rfl)
theorem a4s28_x : exec call n a4s28 [v0,v1,v2,v3,v4,v5,v6,v7,v8,v9,v10,v11,v12,v13,v14] st =
 m1 (.bool false) fun x0 =>
 some (Ex.normal,[v0,v1,AV.strip x0,v3,v4,v5,v6,v7,v8,v9,v10,v11,v12,v13,v14],st) :=
  (exec_reg ..).trans (by kernel_rfl)
theorem a4s30_x : exec call n a4s30 [v0,v1,v2,v3,v4,v5,v6,v7,v8,v9,v10,v11,v12,v13,v14] st =
 m1 (AV.weak v8) fun x0 =>
 obind (p1 (semBin .eql call [W x0,(.int .i64 0)] .undef st)) fun x1 =>
 m1 (AV.weak v10) fun x2 =>
 obind (p1 (semBin .eql call [W x2,(.int .i64 0)] .undef st)) fun x3 =>
 obind (p1 (semBinB .neq call [W x1,W x3] .undef st)) fun x4 =>
 brE (W x4) call n a4s29 .skip [v0,v1,v2,v3,v4,v5,v6,v7,v8,v9,v10,v11,v12,v13,v14] st :=
  (exec_testT ..).trans (by kernel_rfl)
theorem a4s32_x : exec call n a4s32 [v0,v1,v2,v3,v4,v5,v6,v7,v8,v9,v10,v11,v12,v13,v14] st =
 m1 (.int .i64 0) fun x0 =>
 some (Ex.normal,[v0,v1,v2,v3,v4,v5,v6,v7,v8,v9,v10,AV.strip x0,v12,v13,v14],st) :=
  (exec_reg ..).trans (by kernel_rfl)
theorem a4s34_x : exec call n a4s34 [v0,v1,v2,v3,v4,v5,v6,v7,v8,v9,v10,v11,v12,v13,v14] st =
 m1 (AV.weak v11) fun x0 =>
 m1 (AV.weak v3) fun x1 =>
 obind (p1 (semLenL call [W x1] .undef st)) fun x2 =>
 obind (p1 (semBin .lss call [W x0,W x2] .undef st)) fun x3 =>
 m1 (W x3) fun x4 =>
 gm (W x4) true (AV.weak v8) fun x5 =>
 obind (gv (W x4) true (p1 (semBin .eql call [W x5,(.int .i64 0)] .undef st))) fun x6 =>
 obind (p1 (semPick call [W x4,W x6,(.bool false)] .undef st)) fun x7 =>
 brE (W x7) call n .skip (.exit 0) [v0,v1,v2,v3,v4,v5,v6,v7,v8,v9,v10,v11,v12,v13,v14] st :=
  (exec_testT ..).trans (by kernel_rfl)
def a4s36_k0 (call : CallT) (n : Nat) (v0 v1 v2 v3 v4 v5 v6 v7 v8 v9 v10 v11 v13 v14 : AV) (x6 : AV × St) : Option Out :=
 obind (semMv call [(AV.stripB x6.1)] .undef x6.2) fun x7 =>
 some (Ex.normal,[v0,v1,v2,v3,v4,v5,v6,v7,v8,v9,v10,v11,(AV.strip x7.1),v13,v14],x7.2.2)
theorem a4s36_x : exec call n a4s36 [v0,v1,v2,v3,v4,v5,v6,v7,v8,v9,v10,v11,v12,v13,v14] st =
 m1 (AV.weak v7) fun x0 =>
 m1 (AV.weak v3) fun x1 =>
 m1 (AV.weak v11) fun x2 =>
 obind (p1 (semIad 4 call [W x1,W x2] .undef st)) fun x3 =>
 obind (p1 (semFad 1 call [W x3] .undef st)) fun x4 =>
 obind (p1 (semLdRo false 1 call [W x4] .undef st)) fun x5 =>
 obind (p2 (semCall 11 call [W x0,W x5] .undef st)) (a4s36_k0 call n v0 v1 v2 v3 v4 v5 v6 v7 v8 v9 v10 v11 v13 v14) :=
  (exec_reg ..).trans (by kernel_rfl)
def a4s38_k0 (call : CallT) (n : Nat) (v0 v1 v2 v3 v4 v5 v6 v7 v8 v9 v10 v11 v12 v14 : AV) (x6 : AV × St) : Option Out :=
 obind (semMv call [(AV.stripB x6.1)] .undef x6.2) fun x7 =>
 some (Ex.normal,[v0,v1,v2,v3,v4,v5,v6,v7,v8,v9,v10,v11,v12,(AV.strip x7.1),v14],x7.2.2)
theorem a4s38_x : exec call n a4s38 [v0,v1,v2,v3,v4,v5,v6,v7,v8,v9,v10,v11,v12,v13,v14] st =
 m1 (AV.weak v9) fun x0 =>
 m1 (AV.weak v3) fun x1 =>
 m1 (AV.weak v11) fun x2 =>
 obind (p1 (semIad 4 call [W x1,W x2] .undef st)) fun x3 =>
 obind (p1 (semFad 1 call [W x3] .undef st)) fun x4 =>
 obind (p1 (semLdRo false 1 call [W x4] .undef st)) fun x5 =>
 obind (p2 (semCall 11 call [W x0,W x5] .undef st)) (a4s38_k0 call n v0 v1 v2 v3 v4 v5 v6 v7 v8 v9 v10 v11 v12 v14) :=
  (exec_reg ..).trans (by kernel_rfl)
theorem a4s41_x : exec call n a4s41 [v0,v1,v2,v3,v4,v5,v6,v7,v8,v9,v10,v11,v12,v13,v14] st =
 m1 (.bool false) fun x0 =>
 some (Ex.normal,[v0,v1,AV.strip x0,v3,v4,v5,v6,v7,v8,v9,v10,v11,v12,v13,v14],st) :=
  (exec_reg ..).trans (by kernel_rfl)
def a4s43_k1 (call : CallT) (n : Nat) (v0 v1 v2 v3 v4 v5 v6 v7 v8 v9 v10 v11 v12 v13 v14 x5 : AV) (x12 : AV × St) (x19 : AV × St) : Option Out :=
 obind (gv (W x5) false (p1 (semBinB .neq call [W x12.1,W x19.1] .undef x19.2))) fun x20 =>
 obind (p1 (semPick call [W x5,(.bool true),W x20] .undef x19.2)) fun x21 =>
 brE (W x21) call n a4s42 .skip [v0,v1,v2,v3,v4,v5,v6,v7,v8,v9,v10,v11,v12,v13,v14] x19.2
def a4s43_k0 (call : CallT) (n : Nat) (v0 v1 v2 v3 v4 v5 v6 v7 v8 v9 v10 v11 v12 v13 v14 x5 : AV) (x12 : AV × St) : Option Out :=
 gm (W x5) false (AV.weak v9) fun x13 =>
 gm (W x5) false (AV.weak v3) fun x14 =>
 gm (W x5) false (AV.weak v11) fun x15 =>
 obind (gv (W x5) false (p1 (semIad 4 call [W x14,W x15] .undef x12.2))) fun x16 =>
 obind (gv (W x5) false (p1 (semFad 1 call [W x16] .undef x12.2))) fun x17 =>
 obind (gv (W x5) false (p1 (semLdRo false 1 call [W x17] .undef x12.2))) fun x18 =>
 obind (gv2 (W x5) false x12.2 (p2 (semCall 12 call [W x13,W x18] .undef x12.2))) (a4s43_k1 call n v0 v1 v2 v3 v4 v5 v6 v7 v8 v9 v10 v11 v12 v13 v14 x5 x12)
theorem a4s43_x : exec call n a4s43 [v0,v1,v2,v3,v4,v5,v6,v7,v8,v9,v10,v11,v12,v13,v14] st =
 m1 (AV.weak v12) fun x0 =>
 obind (p1 (semLenL call [W x0] .undef st)) fun x1 =>
 m1 (AV.weak v13) fun x2 =>
 obind (p1 (semLenL call [W x2] .undef st)) fun x3 =>
 obind (p1 (semBin .neq call [W x1,W x3] .undef st)) fun x4 =>
 m1 (W x4) fun x5 =>
 gm (W x5) false (AV.weak v7) fun x6 =>
 gm (W x5) false (AV.weak v3) fun x7 =>
 gm (W x5) false (AV.weak v11) fun x8 =>
 obind (gv (W x5) false (p1 (semIad 4 call [W x7,W x8] .undef st))) fun x9 =>
 obind (gv (W x5) false (p1 (semFad 1 call [W x9] .undef st))) fun x10 =>
 obind (gv (W x5) false (p1 (semLdRo false 1 call [W x10] .undef st))) fun x11 =>
 obind (gv2 (W x5) false st (p2 (semCall 12 call [W x6,W x11] .undef st))) (a4s43_k0 call n v0 v1 v2 v3 v4 v5 v6 v7 v8 v9 v10 v11 v12 v13 v14 x5) :=
  (exec_testT ..).trans (by kernel_rfl)
theorem a4s45_x : exec call n a4s45 [v0,v1,v2,v3,v4,v5,v6,v7,v8,v9,v10,v11,v12,v13,v14] st =
 m1 (.int .i64 0) fun x0 =>
 some (Ex.normal,[v0,v1,v2,v3,v4,v5,v6,v7,v8,v9,v10,v11,v12,v13,AV.strip x0],st) :=
  (exec_reg ..).trans (by kernel_rfl)
theorem a4s47_x : exec call n a4s47 [v0,v1,v2,v3,v4,v5,v6,v7,v8,v9,v10,v11,v12,v13,v14] st =
 m1 (AV.weak v14) fun x0 =>
 m1 (AV.weak v12) fun x1 =>
 obind (p1 (semLenL call [W x1] .undef st)) fun x2 =>
 obind (p1 (semBin .lss call [W x0,W x2] .undef st)) fun x3 =>
 brE (W x3) call n .skip (.exit 2) [v0,v1,v2,v3,v4,v5,v6,v7,v8,v9,v10,v11,v12,v13,v14] st :=
  (exec_testT ..).trans (by kernel_rfl)
theorem a4s50_x : exec call n a4s50 [v0,v1,v2,v3,v4,v5,v6,v7,v8,v9,v10,v11,v12,v13,v14] st =
 m1 (.bool false) fun x0 =>
 some (Ex.normal,[v0,v1,AV.strip x0,v3,v4,v5,v6,v7,v8,v9,v10,v11,v12,v13,v14],st) :=
  (exec_reg ..).trans (by kernel_rfl)
def a4s52_k0 (call : CallT) (n : Nat) (v0 v1 v2 v3 v4 v5 v6 v7 v8 v9 v10 v11 v12 v13 v14 : AV) (x5 : AV × St) : Option Out :=
 obind (p1 (semUn .not call [W x5.1] .undef x5.2)) fun x6 =>
 brE (W x6) call n a4s51 .skip [v0,v1,v2,v3,v4,v5,v6,v7,v8,v9,v10,v11,v12,v13,v14] x5.2
theorem a4s52_x : exec call n a4s52 [v0,v1,v2,v3,v4,v5,v6,v7,v8,v9,v10,v11,v12,v13,v14] st =
 m1 (AV.weak v13) fun x0 =>
 m1 (AV.weak v12) fun x1 =>
 m1 (AV.weak v14) fun x2 =>
 obind (p1 (semIad 1 call [W x1,W x2] .undef st)) fun x3 =>
 obind (p1 (semLdRo false 1 call [W x3] .undef st)) fun x4 =>
 obind (p2 (semCall 13 call [W x0,W x4] .undef st)) (a4s52_k0 call n v0 v1 v2 v3 v4 v5 v6 v7 v8 v9 v10 v11 v12 v13 v14) :=
  (exec_testT ..).trans (by kernel_rfl)
theorem a4s55_x : exec call n a4s55 [v0,v1,v2,v3,v4,v5,v6,v7,v8,v9,v10,v11,v12,v13,v14] st =
 m1 (AV.weak v14) fun x0 =>
 obind (p1 (semBin .add call [W x0,(.int .i64 1)] .undef st)) fun x1 =>
 m1 (W x1) fun x2 =>
 some (Ex.normal,[v0,v1,v2,v3,v4,v5,v6,v7,v8,v9,v10,v11,v12,v13,AV.strip x2],st) :=
  (exec_reg ..).trans (by kernel_rfl)
theorem a4s66_x : exec call n a4s66 [v0,v1,v2,v3,v4,v5,v6,v7,v8,v9,v10,v11,v12,v13,v14] st =
 m1 (AV.weak v11) fun x0 =>
 obind (p1 (semBin .add call [W x0,(.int .i64 1)] .undef st)) fun x1 =>
 m1 (W x1) fun x2 =>
 some (Ex.normal,[v0,v1,v2,v3,v4,v5,v6,v7,v8,v9,v10,AV.strip x2,v12,v13,v14],st) :=
  (exec_reg ..).trans (by kernel_rfl)
theorem a4s73_x : exec call n a4s73 [v0,v1,v2,v3,v4,v5,v6,v7,v8,v9,v10,v11,v12,v13,v14] st =
 m1 (.bool true) fun x0 =>
 some (Ex.normal,[v0,v1,AV.strip x0,v3,v4,v5,v6,v7,v8,v9,v10,v11,v12,v13,v14],st) :=
  (exec_reg ..).trans (by kernel_rfl)
theorem a9s1_x : exec call n a9s1 [v0,v1,v2,v3,v4,v5,v6,v7,v8,v9,v10] st =
 m1 (.list true []) fun x0 =>
 m1 (.int .i64 0) fun x1 =>
 m1 (.int .i64 0) fun x2 =>
 some (Ex.normal,[v0,AV.strip x0,AV.strip x1,AV.strip x2,v4,v5,v6,v7,v8,v9,v10],st) :=
  (exec_reg ..).trans (by kernel_rfl)
def a9s3_k0 (call : CallT) (n : Nat) (v0 v1 v2 v3 v7 v8 v9 v10 : AV) (x1 : AV × St) : Option Out :=
 m1 (W x1.1) fun x2 =>
 obind (p1 (semExt 0 call [W x2] .undef x1.2)) fun x3 =>
 obind (p1 (semExt 1 call [W x2] .undef x1.2)) fun x4 =>
 obind (p1 (semExt 2 call [W x2] .undef x1.2)) fun x5 =>
 obind (semMv call [(AV.stripB x3)] .undef x1.2) fun x6 =>
 m1 (W x4) fun x7 =>
 m1 (W x5) fun x8 =>
 some (Ex.normal,[v0,v1,v2,v3,(AV.strip x6.1),AV.strip x7,AV.strip x8,v7,v8,v9,v10],x6.2.2)
theorem a9s3_x : exec call n a9s3 [v0,v1,v2,v3,v4,v5,v6,v7,v8,v9,v10] st =
 m1 (AV.weak v0) fun x0 =>
 obind (p2 (semCall 25 call [W x0] .undef st)) (a9s3_k0 call n v0 v1 v2 v3 v7 v8 v9 v10) :=
  (exec_reg ..).trans (by kernel_rfl)
theorem a9s6_x : exec call n a9s6 [v0,v1,v2,v3,v4,v5,v6,v7,v8,v9,v10] st =
 m1 (AV.weak v5) fun x0 =>
 m1 (AV.weak v6) fun x1 =>
 m1 (.list true []) fun x2 =>
 m1 (W x0) fun x3 =>
 m1 (W x1) fun x4 =>
 some (Ex.normal,[v0,AV.strip x2,AV.strip x3,AV.strip x4,v4,v5,v6,v7,v8,v9,v10],st) :=
  (exec_reg ..).trans (by kernel_rfl)
theorem a9s8_x : exec call n a9s8 [v0,v1,v2,v3,v4,v5,v6,v7,v8,v9,v10] st =
 m1 (AV.weak v6) fun x0 =>
 obind (p1 (semBin .neq call [W x0,(.int .i64 0)] .undef st)) fun x1 =>
 brE (W x1) call n a9s7 .skip [v0,v1,v2,v3,v4,v5,v6,v7,v8,v9,v10] st :=
  (exec_testT ..).trans (by kernel_rfl)
theorem a9s10_x : exec call n a9s10 [v0,v1,v2,v3,v4,v5,v6,v7,v8,v9,v10] st =
 m1 (AV.weak v4) fun x0 =>
 obind (p1 (semBuild [.list true [],.int .i64 0,.int .i64 0,.int .i64 0,.int .i64 0] [(0,1)] call [W x0] .undef st)) fun x1 =>
 obind (semBoxO call [(AV.stripB x1)] .undef st) fun x2 =>
 m1 (W x2.1) fun x3 =>
 some (Ex.normal,[v0,v1,v2,v3,v4,v5,v6,AV.strip x3,v8,v9,v10],x2.2.2) :=
  (exec_reg ..).trans (by kernel_rfl)
theorem a9s12_x : exec call n a9s12 [v0,v1,v2,v3,v4,v5,v6,v7,v8,v9,v10] st =
 m1 (.list true []) fun x0 =>
 some (Ex.normal,[v0,v1,v2,v3,v4,v5,v6,v7,AV.strip x0,v9,v10],st) :=
  (exec_reg ..).trans (by kernel_rfl)
theorem a9s14_x : exec call n a9s14 [v0,v1,v2,v3,v4,v5,v6,v7,v8,v9,v10] st =
 m1 (.bool true) fun x0 =>
 some (Ex.normal,[v0,v1,v2,v3,v4,v5,v6,v7,v8,AV.strip x0,v10],st) :=
  (exec_reg ..).trans (by kernel_rfl)
def a9s16_k0 (call : CallT) (n : Nat) (v0 v1 v2 v3 v4 v5 v6 v7 v8 v9 v10 x1 x7 : AV) (x9 : AV × St) : Option Out :=
 obind (gv (W x7) true (p1 (semUn .not call [W x9.1] .undef x9.2))) fun x10 =>
 obind (gv (W x1) false (p1 (semPick call [W x7,W x10,(.bool false)] .undef x9.2))) fun x11 =>
 obind (p1 (semPick call [W x1,(.bool true),W x11] .undef x9.2)) fun x12 =>
 brE (W x12) call n .skip (.exit 0) [v0,v1,v2,v3,v4,v5,v6,v7,v8,v9,v10] x9.2
theorem a9s16_x : exec call n a9s16 [v0,v1,v2,v3,v4,v5,v6,v7,v8,v9,v10] st =
 m1 (AV.weak v9) fun x0 =>
 m1 (W x0) fun x1 =>
 gm (W x1) false (AV.weak v7) fun x2 =>
 obind (gv (W x1) false (p1 (semNilchk call [W x2] .undef st))) fun x3 =>
 obind (gv (W x1) false (p1 (semFad 4 call [W x3] .undef st))) fun x4 =>
 obind (gv (W x1) false (p1 (semLdSt false 1 call [W x4] .undef st))) fun x5 =>
 obind (gv (W x1) false (p1 (semBin .eql call [W x5,(.int .i64 0)] .undef st))) fun x6 =>
 gm (W x1) false (W x6) fun x7 =>
 gm (W x7) true (AV.weak v7) fun x8 =>
 obind (gv2 (W x7) true st (p2 (semCall 26 call [W x8,(.int .u8 0)] .undef st))) (a9s16_k0 call n v0 v1 v2 v3 v4 v5 v6 v7 v8 v9 v10 x1 x7) :=
  (exec_testT ..).trans (by kernel_rfl)
def a9s18_k0 (call : CallT) (n : Nat) (v0 v1 v2 v3 v4 v5 v6 v7 v8 v9 : AV) (x1 : AV × St) : Option Out :=
 obind (semAlloc [.int .u8 0,.str [],.list true [],.list true []] call [] AV.undef x1.2) fun x2 =>
 obind (semStLc 10 4 call [(locOf 10 x2.2.1),(AV.stripB x1.1)] x2.2.1 x2.2.2) fun x3 =>
 some (Ex.normal,[v0,v1,v2,v3,v4,v5,v6,v7,v8,v9,x3.2.1],x3.2.2)
theorem a9s18_x : exec call n a9s18 [v0,v1,v2,v3,v4,v5,v6,v7,v8,v9,v10] st =
 m1 (AV.weak v7) fun x0 =>
 obind (p2 (semCall 27 call [W x0] .undef st)) (a9s18_k0 call n v0 v1 v2 v3 v4 v5 v6 v7 v8 v9) :=
  (exec_reg ..).trans (by kernel_rfl)
theorem a9s20_x : exec call n a9s20 [v0,v1,v2,v3,v4,v5,v6,v7,v8,v9,v10] st =
 obind (semMv call [v8] .undef st) fun x0 =>
 obind (p1 (semLdLc 10 true 4 call [(locOf 10 v10)] v10 x0.2.2)) fun x1 =>
 obind (p1 (semBslice 4 [[.int .u8 0,.str [],.list true [],.list true []]] [0] call [W x1] .undef x0.2.2)) fun x2 =>
 obind (semApp 4 72 call [(AV.stripB x0.1),W x2] .undef x0.2.2) fun x3 =>
 obind (semMv call [(AV.stripB x3.1)] .undef x3.2.2) fun x4 =>
 some (Ex.normal,[v0,v1,v2,v3,v4,v5,v6,v7,(AV.strip x4.1),v9,v10],x4.2.2) :=
  (exec_reg ..).trans (by kernel_rfl)
theorem a9s24_x : exec call n a9s24 [v0,v1,v2,v3,v4,v5,v6,v7,v8,v9,v10] st =
 m1 (.bool false) fun x0 =>
 some (Ex.normal,[v0,v1,v2,v3,v4,v5,v6,v7,v8,AV.strip x0,v10],st) :=
  (exec_reg ..).trans (by kernel_rfl)
theorem a9s32_x : exec call n a9s32 [v0,v1,v2,v3,v4,v5,v6,v7,v8,v9,v10] st =
 m1 (AV.weak v7) fun x0 =>
 obind (p1 (semNilchk call [W x0] .undef st)) fun x1 =>
 obind (p1 (semFad 3 call [W x1] .undef st)) fun x2 =>
 obind (p1 (semLdSt false 1 call [W x2] .undef st)) fun x3 =>
 m1 (AV.weak v7) fun x4 =>
 obind (p1 (semNilchk call [W x4] .undef st)) fun x5 =>
 obind (p1 (semFad 4 call [W x5] .undef st)) fun x6 =>
 obind (p1 (semLdSt false 1 call [W x6] .undef st)) fun x7 =>
 m1 (.list true []) fun x8 =>
 m1 (W x3) fun x9 =>
 m1 (W x7) fun x10 =>
 some (Ex.normal,[v0,AV.strip x8,AV.strip x9,AV.strip x10,v4,v5,v6,v7,v8,v9,v10],st) :=
  (exec_reg ..).trans (by kernel_rfl)
theorem a9s34_x : exec call n a9s34 [v0,v1,v2,v3,v4,v5,v6,v7,v8,v9,v10] st =
 m1 (AV.weak v7) fun x0 =>
 obind (p1 (semNilchk call [W x0] .undef st)) fun x1 =>
 obind (p1 (semFad 4 call [W x1] .undef st)) fun x2 =>
 obind (p1 (semLdSt false 1 call [W x2] .undef st)) fun x3 =>
 obind (p1 (semBin .neq call [W x3,(.int .i64 0)] .undef st)) fun x4 =>
 brE (W x4) call n a9s33 .skip [v0,v1,v2,v3,v4,v5,v6,v7,v8,v9,v10] st :=
  (exec_testT ..).trans (by kernel_rfl)
theorem a9s36_x : exec call n a9s36 [v0,v1,v2,v3,v4,v5,v6,v7,v8,v9,v10] st =
 m1 (AV.weak v8) fun x0 =>
 obind (semMv call [(AV.stripB x0)] .undef st) fun x1 =>
 m1 (.int .i64 0) fun x2 =>
 m1 (.int .i64 0) fun x3 =>
 some (Ex.normal,[v0,(AV.strip x1.1),AV.strip x2,AV.strip x3,v4,v5,v6,v7,v8,v9,v10],x1.2.2) :=
  (exec_reg ..).trans (by kernel_rfl)
theorem a10s1_x : exec call n a10s1 [v0,v1,v2,v3,v4,v5,v6,v7,v8,v9,v10,v11,v12,v13,v14,v15,v16,v17,v18,v19,v20,v21,v22] st =
 m1 (.nilp) fun x0 =>
 m1 (.str []) fun x1 =>
 m1 (.int .i64 0) fun x2 =>
 some (Ex.normal,[v0,AV.strip x0,AV.strip x1,AV.strip x2,v4,v5,v6,v7,v8,v9,v10,v11,v12,v13,v14,v15,v16,v17,v18,v19,v20,v21,v22],st) :=
  (exec_reg ..).trans (by kernel_rfl)
def a10s3_k0 (call : CallT) (n : Nat) (v0 v1 v2 v3 v5 v6 v7 v8 v9 v10 v11 v12 v13 v14 v15 v16 v17 v18 v19 v20 v21 v22 : AV) (x1 : AV × St) : Option Out :=
 obind (p2 (semMkM call [] .undef x1.2)) fun x2 =>
 obind (p1 (semBuild [.list true [],.nilm] [(0,1),(1,1)] call [W x1.1,W x2.1] .undef x2.2)) fun x3 =>
 obind (semBoxO call [(AV.stripB x3)] .undef x2.2) fun x4 =>
 m1 (W x4.1) fun x5 =>
 some (Ex.normal,[v0,v1,v2,v3,AV.strip x5,v5,v6,v7,v8,v9,v10,v11,v12,v13,v14,v15,v16,v17,v18,v19,v20,v21,v22],x4.2.2)
theorem a10s3_x : exec call n a10s3 [v0,v1,v2,v3,v4,v5,v6,v7,v8,v9,v10,v11,v12,v13,v14,v15,v16,v17,v18,v19,v20,v21,v22] st =
 m1 (AV.weak v0) fun x0 =>
 obind (p2 (semCall 28 call [W x0] .undef st)) (a10s3_k0 call n v0 v1 v2 v3 v5 v6 v7 v8 v9 v10 v11 v12 v13 v14 v15 v16 v17 v18 v19 v20 v21 v22) :=
  (exec_reg ..).trans (by kernel_rfl)
theorem a10s5_x : exec call n a10s5 [v0,v1,v2,v3,v4,v5,v6,v7,v8,v9,v10,v11,v12,v13,v14,v15,v16,v17,v18,v19,v20,v21,v22] st =
 m1 (AV.weak v0) fun x0 =>
 obind (p1 (semLenL call [(AV.weak (AV.strip x0))] .undef st)) fun x1 =>
 m1 (.int .i64 0) fun x2 =>
 some (Ex.normal,[v0,v1,v2,v3,v4,v5,v6,v7,v8,v9,v10,v11,v12,v13,AV.strip x0,AV.strip x1,AV.strip x2,v17,v18,v19,v20,v21,v22],st) :=
  (exec_reg ..).trans (by kernel_rfl)
theorem a10s7_x : exec call n a10s7 [v0,v1,v2,v3,v4,v5,v6,v7,v8,v9,v10,v11,v12,v13,v14,v15,v16,v17,v18,v19,v20,v21,v22] st =
 obind (p1 (semBin .lss call [(AV.weak v16),(AV.weak v15)] .undef st)) fun x0 =>
 brE (W x0) call n .skip (.exit 0) [v0,v1,v2,v3,v4,v5,v6,v7,v8,v9,v10,v11,v12,v13,v14,v15,v16,v17,v18,v19,v20,v21,v22] st :=
  (exec_testT ..).trans (by kernel_rfl)
theorem a10s9_x : exec call n a10s9 [v0,v1,v2,v3,v4,v5,v6,v7,v8,v9,v10,v11,v12,v13,v14,v15,v16,v17,v18,v19,v20,v21,v22] st =
 m1 (AV.weak v16) fun x0 =>
 obind (p1 (semIad 4 call [(AV.weak v14),(AV.weak v16)] .undef st)) fun x1 =>
 obind (p1 (semLdRo true 4 call [W x1] .undef st)) fun x2 =>
 obind (semAlloc [.int .u8 0,.str [],.list true [],.list true []] call [] AV.undef st) fun x3 =>
 m1 (W x0) fun x4 =>
 obind (semStLc 6 4 call [(locOf 6 x3.2.1),(AV.stripB x2)] x3.2.1 x3.2.2) fun x5 =>
 some (Ex.normal,[v0,v1,v2,v3,v4,AV.strip x4,x5.2.1,v7,v8,v9,v10,v11,v12,v13,v14,v15,v16,v17,v18,v19,v20,v21,v22],x5.2.2) :=
  (exec_reg ..).trans (by kernel_rfl)
theorem a10s11_x : exec call n a10s11 [v0,v1,v2,v3,v4,v5,v6,v7,v8,v9,v10,v11,v12,v13,v14,v15,v16,v17,v18,v19,v20,v21,v22] st =
 m1 (AV.weak v4) fun x0 =>
 obind (p1 (semNilchk call [W x0] .undef st)) fun x1 =>
 obind (p1 (semFad 1 call [W x1] .undef st)) fun x2 =>
 obind (p1 (semLdSt false 1 call [W x2] .undef st)) fun x3 =>
 obind (p1 (semFad 1 call [(locOf 6 v6)] .undef st)) fun x4 =>
 obind (p1 (semLdLc 6 false 1 call [W x4] v6 st)) fun x5 =>
 obind (p1 (semMget 1 [.int .i64 0] false true call [W x3,W x5] .undef st)) fun x6 =>
 m1 (W x6) fun x7 =>
 obind (p1 (semExt 0 call [W x7] .undef st)) fun x8 =>
 obind (p1 (semExt 1 call [W x7] .undef st)) fun x9 =>
 m1 (W x8) fun x10 =>
 m1 (W x9) fun x11 =>
 some (Ex.normal,[v0,v1,v2,v3,v4,v5,v6,AV.strip x11,v8,v9,v10,v11,v12,v13,v14,v15,v16,v17,v18,v19,v20,v21,v22],st) :=
  (exec_reg ..).trans (by kernel_rfl)
theorem a10s14_x : exec call n a10s14 [v0,v1,v2,v3,v4,v5,v6,v7,v8,v9,v10,v11,v12,v13,v14,v15,v16,v17,v18,v19,v20,v21,v22] st =
 obind (p1 (semFad 1 call [(locOf 6 v6)] .undef st)) fun x0 =>
 obind (p1 (semLdLc 6 false 1 call [W x0] v6 st)) fun x1 =>
 m1 (.nilp) fun x2 =>
 m1 (W x1) fun x3 =>
 m1 (.int .i64 7) fun x4 =>
 some (Ex.normal,[v0,AV.strip x2,AV.strip x3,AV.strip x4,v4,v5,v6,v7,v8,v9,v10,v11,v12,v13,v14,v15,v16,v17,v18,v19,v20,v21,v22],st) :=
  (exec_reg ..).trans (by kernel_rfl)
def a10s16_k0 (call : CallT) (n : Nat) (v0 v1 v2 v3 v4 v5 v6 v7 v8 v9 v10 v11 v12 v13 v14 v15 v16 v17 v18 v19 v20 v21 v22 x1 : AV) (x5 : AV × St) : Option Out :=
 obind (p1 (semPick call [W x1,(.bool true),W x5.1] .undef x5.2)) fun x6 =>
 brE (W x6) call n a10s15 .skip [v0,v1,v2,v3,v4,v5,v6,v7,v8,v9,v10,v11,v12,v13,v14,v15,v16,v17,v18,v19,v20,v21,v22] x5.2
theorem a10s16_x : exec call n a10s16 [v0,v1,v2,v3,v4,v5,v6,v7,v8,v9,v10,v11,v12,v13,v14,v15,v16,v17,v18,v19,v20,v21,v22] st =
 m1 (AV.weak v7) fun x0 =>
 m1 (W x0) fun x1 =>
 obind (gv (W x1) false (p1 (semSlA 4 1 false false call [(.ro [.str [66,111,111,108,101,97,110],.str [73,68],.str [73,110,116],.str [83,116,114,105,110,103]])] .undef st))) fun x2 =>
 obind (gv (W x1) false (p1 (semFad 1 call [(locOf 6 v6)] .undef st))) fun x3 =>
 obind (gv (W x1) false (p1 (semLdLc 6 false 1 call [W x3] v6 st))) fun x4 =>
 obind (gv2 (W x1) false st (p2 (semCall 29 call [W x2,W x4] .undef st))) (a10s16_k0 call n v0 v1 v2 v3 v4 v5 v6 v7 v8 v9 v10 v11 v12 v13 v14 v15 v16 v17 v18 v19 v20 v21 v22 x1) :=
  (exec_testT ..).trans (by kernel_rfl)
theorem a10s20_x : exec call n a10s20 [v0,v1,v2,v3,v4,v5,v6,v7,v8,v9,v10,v11,v12,v13,v14,v15,v16,v17,v18,v19,v20,v21,v22] st =
 obind (p1 (semFad 1 call [(locOf 6 v6)] .undef st)) fun x0 =>
 obind (p1 (semLdLc 6 false 1 call [W x0] v6 st)) fun x1 =>
 m1 (.nilp) fun x2 =>
 m1 (W x1) fun x3 =>
 m1 (.int .i64 1) fun x4 =>
 some (Ex.normal,[v0,AV.strip x2,AV.strip x3,AV.strip x4,v4,v5,v6,v7,v8,v9,v10,v11,v12,v13,v14,v15,v16,v17,v18,v19,v20,v21,v22],st) :=
  (exec_reg ..).trans (by kernel_rfl)
def a10s22_k0 (call : CallT) (n : Nat) (v0 v1 v2 v3 v4 v5 v6 v7 v8 v9 v10 v11 v12 v13 v14 v15 v16 v17 v18 v19 v20 v21 v22 : AV) (x2 : AV × St) : Option Out :=
 brE (W x2.1) call n a10s21 .skip [v0,v1,v2,v3,v4,v5,v6,v7,v8,v9,v10,v11,v12,v13,v14,v15,v16,v17,v18,v19,v20,v21,v22] x2.2
theorem a10s22_x : exec call n a10s22 [v0,v1,v2,v3,v4,v5,v6,v7,v8,v9,v10,v11,v12,v13,v14,v15,v16,v17,v18,v19,v20,v21,v22] st =
 obind (p1 (semFad 1 call [(locOf 6 v6)] .undef st)) fun x0 =>
 obind (p1 (semLdLc 6 false 1 call [W x0] v6 st)) fun x1 =>
 obind (p2 (semCall 30 call [W x1,(.str [95,95])] .undef st)) (a10s22_k0 call n v0 v1 v2 v3 v4 v5 v6 v7 v8 v9 v10 v11 v12 v13 v14 v15 v16 v17 v18 v19 v20 v21 v22) :=
  (exec_testT ..).trans (by kernel_rfl)
theorem a10s24_x : exec call n a10s24 [v0,v1,v2,v3,v4,v5,v6,v7,v8,v9,v10,v11,v12,v13,v14,v15,v16,v17,v18,v19,v20,v21,v22] st =
 m1 (AV.weak v4) fun x0 =>
 obind (p1 (semNilchk call [W x0] .undef st)) fun x1 =>
 obind (p1 (semFad 1 call [W x1] .undef st)) fun x2 =>
 obind (p1 (semLdSt false 1 call [W x2] .undef st)) fun x3 =>
 obind (p1 (semFad 1 call [(locOf 6 v6)] .undef st)) fun x4 =>
 obind (p1 (semLdLc 6 false 1 call [W x4] v6 st)) fun x5 =>
 m1 (AV.weak v5) fun x6 =>
 obind (p2 (semMset 1 call [W x3,W x5,W x6] .undef st)) fun x7 =>
 some (Ex.normal,[v0,v1,v2,v3,v4,v5,v6,v7,v8,v9,v10,v11,v12,v13,v14,v15,v16,v17,v18,v19,v20,v21,v22],x7.2) :=
  (exec_reg ..).trans (by kernel_rfl)
theorem a10s30_x : exec call n a10s30 [v0,v1,v2,v3,v4,v5,v6,v7,v8,v9,v10,v11,v12,v13,v14,v15,v16,v17,v18,v19,v20,v21,v22] st =
 obind (p1 (semBin .add call [(AV.weak v16),(.int .i64 1)] .undef st)) fun x0 =>
 m1 (W x0) fun x1 =>
 some (Ex.normal,[v0,v1,v2,v3,v4,v5,v6,v7,v8,v9,v10,v11,v12,v13,v14,v15,AV.strip x1,v17,v18,v19,v20,v21,v22],st) :=
  (exec_reg ..).trans (by kernel_rfl)
theorem a10s37_x : exec call n a10s37 [v0,v1,v2,v3,v4,v5,v6,v7,v8,v9,v10,v11,v12,v13,v14,v15,v16,v17,v18,v19,v20,v21,v22] st =
 m1 (AV.weak v0) fun x0 =>
 obind (p1 (semLenL call [(AV.weak (AV.strip x0))] .undef st)) fun x1 =>
 m1 (.int .i64 0) fun x2 =>
 some (Ex.normal,[v0,v1,v2,v3,v4,v5,v6,v7,v8,v9,v10,v11,v12,v13,v14,v15,v16,AV.strip x0,AV.strip x1,AV.strip x2,v20,v21,v22],st) :=
  (exec_reg ..).trans (by kernel_rfl)
theorem a10s39_x : exec call n a10s39 [v0,v1,v2,v3,v4,v5,v6,v7,v8,v9,v10,v11,v12,v13,v14,v15,v16,v17,v18,v19,v20,v21,v22] st =
 obind (p1 (semBin .lss call [(AV.weak v19),(AV.weak v18)] .undef st)) fun x0 =>
 brE (W x0) call n .skip (.exit 2) [v0,v1,v2,v3,v4,v5,v6,v7,v8,v9,v10,v11,v12,v13,v14,v15,v16,v17,v18,v19,v20,v21,v22] st :=
  (exec_testT ..).trans (by kernel_rfl)
theorem a10s41_x : exec call n a10s41 [v0,v1,v2,v3,v4,v5,v6,v7,v8,v9,v10,v11,v12,v13,v14,v15,v16,v17,v18,v19,v20,v21,v22] st =
 obind (p1 (semIad 4 call [(AV.weak v17),(AV.weak v19)] .undef st)) fun x0 =>
 obind (p1 (semLdRo true 4 call [W x0] .undef st)) fun x1 =>
 obind (semAlloc [.int .u8 0,.str [],.list true [],.list true []] call [] AV.undef st) fun x2 =>
 obind (semStLc 8 4 call [(locOf 8 x2.2.1),(AV.stripB x1)] x2.2.1 x2.2.2) fun x3 =>
 some (Ex.normal,[v0,v1,v2,v3,v4,v5,v6,v7,x3.2.1,v9,v10,v11,v12,v13,v14,v15,v16,v17,v18,v19,v20,v21,v22],x3.2.2) :=
  (exec_reg ..).trans (by kernel_rfl)
def a10s43_k0 (call : CallT) (n : Nat) (v0 v1 v2 v3 v4 v5 v6 v7 v8 v10 v11 v12 v13 v14 v15 v16 v17 v18 v19 v20 v21 v22 : AV) (x2 : AV × St) : Option Out :=
 obind (semAlloc [.int .i64 0,.str []] call [] AV.undef x2.2) fun x3 =>
 obind (semStLc 9 2 call [(locOf 9 x3.2.1),W x2.1] x3.2.1 x3.2.2) fun x4 =>
 some (Ex.normal,[v0,v1,v2,v3,v4,v5,v6,v7,v8,x4.2.1,v10,v11,v12,v13,v14,v15,v16,v17,v18,v19,v20,v21,v22],x4.2.2)
theorem a10s43_x : exec call n a10s43 [v0,v1,v2,v3,v4,v5,v6,v7,v8,v9,v10,v11,v12,v13,v14,v15,v16,v17,v18,v19,v20,v21,v22] st =
 m1 (AV.weak v4) fun x0 =>
 obind (p1 (semLdLc 8 true 4 call [(locOf 8 v8)] v8 st)) fun x1 =>
 obind (p2 (semCall 31 call [W x0,W x1] .undef st)) (a10s43_k0 call n v0 v1 v2 v3 v4 v5 v6 v7 v8 v10 v11 v12 v13 v14 v15 v16 v17 v18 v19 v20 v21 v22) :=
  (exec_reg ..).trans (by kernel_rfl)
theorem a10s46_x : exec call n a10s46 [v0,v1,v2,v3,v4,v5,v6,v7,v8,v9,v10,v11,v12,v13,v14,v15,v16,v17,v18,v19,v20,v21,v22] st =
 obind (p1 (semFad 1 call [(locOf 9 v9)] .undef st)) fun x0 =>
 obind (p1 (semLdLc 9 false 1 call [W x0] v9 st)) fun x1 =>
 obind (p1 (semFad 0 call [(locOf 9 v9)] .undef st)) fun x2 =>
 obind (p1 (semLdLc 9 false 1 call [W x2] v9 st)) fun x3 =>
 m1 (.nilp) fun x4 =>
 m1 (W x1) fun x5 =>
 m1 (W x3) fun x6 =>
 some (Ex.normal,[v0,AV.strip x4,AV.strip x5,AV.strip x6,v4,v5,v6,v7,v8,v9,v10,v11,v12,v13,v14,v15,v16,v17,v18,v19,v20,v21,v22],st) :=
  (exec_reg ..).trans (by kernel_rfl)
theorem a10s48_x : exec call n a10s48 [v0,v1,v2,v3,v4,v5,v6,v7,v8,v9,v10,v11,v12,v13,v14,v15,v16,v17,v18,v19,v20,v21,v22] st =
 obind (p1 (semFad 0 call [(locOf 9 v9)] .undef st)) fun x0 =>
 obind (p1 (semLdLc 9 false 1 call [W x0] v9 st)) fun x1 =>
 obind (p1 (semBin .neq call [W x1,(.int .i64 0)] .undef st)) fun x2 =>
 brE (W x2) call n a10s47 .skip [v0,v1,v2,v3,v4,v5,v6,v7,v8,v9,v10,v11,v12,v13,v14,v15,v16,v17,v18,v19,v20,v21,v22] st :=
  (exec_testT ..).trans (by kernel_rfl)
theorem a10s53_x : exec call n a10s53 [v0,v1,v2,v3,v4,v5,v6,v7,v8,v9,v10,v11,v12,v13,v14,v15,v16,v17,v18,v19,v20,v21,v22] st =
 obind (p1 (semBin .add call [(AV.weak v19),(.int .i64 1)] .undef st)) fun x0 =>
 m1 (W x0) fun x1 =>
 some (Ex.normal,[v0,v1,v2,v3,v4,v5,v6,v7,v8,v9,v10,v11,v12,v13,v14,v15,v16,v17,v18,AV.strip x1,v20,v21,v22],st) :=
  (exec_reg ..).trans (by kernel_rfl)
def a10s60_k0 (call : CallT) (n : Nat) (v0 v1 v2 v3 v4 v5 v6 v7 v8 v9 v12 v13 v14 v15 v16 v17 v18 v19 v20 v21 v22 : AV) (x1 : AV × St) : Option Out :=
 m1 (W x1.1) fun x2 =>
 obind (p1 (semExt 0 call [W x2] .undef x1.2)) fun x3 =>
 obind (p1 (semExt 1 call [W x2] .undef x1.2)) fun x4 =>
 obind (semAlloc [.int .u8 0,.str [],.list true [],.list true []] call [] AV.undef x1.2) fun x5 =>
 obind (semStLc 10 4 call [(locOf 10 x5.2.1),(AV.stripB x3)] x5.2.1 x5.2.2) fun x6 =>
 m1 (W x4) fun x7 =>
 some (Ex.normal,[v0,v1,v2,v3,v4,v5,v6,v7,v8,v9,x6.2.1,AV.strip x7,v12,v13,v14,v15,v16,v17,v18,v19,v20,v21,v22],x6.2.2)
theorem a10s60_x : exec call n a10s60 [v0,v1,v2,v3,v4,v5,v6,v7,v8,v9,v10,v11,v12,v13,v14,v15,v16,v17,v18,v19,v20,v21,v22] st =
 m1 (AV.weak v4) fun x0 =>
 obind (p2 (semCall 15 call [W x0,(.str [81,117,101,114,121])] .undef st)) (a10s60_k0 call n v0 v1 v2 v3 v4 v5 v6 v7 v8 v9 v12 v13 v14 v15 v16 v17 v18 v19 v20 v21 v22) :=
  (exec_reg ..).trans (by kernel_rfl)
theorem a10s63_x : exec call n a10s63 [v0,v1,v2,v3,v4,v5,v6,v7,v8,v9,v10,v11,v12,v13,v14,v15,v16,v17,v18,v19,v20,v21,v22] st =
 m1 (.nilp) fun x0 =>
 m1 (.str [81,117,101,114,121]) fun x1 =>
 m1 (.int .i64 6) fun x2 =>
 some (Ex.normal,[v0,AV.strip x0,AV.strip x1,AV.strip x2,v4,v5,v6,v7,v8,v9,v10,v11,v12,v13,v14,v15,v16,v17,v18,v19,v20,v21,v22],st) :=
  (exec_reg ..).trans (by kernel_rfl)
theorem a10s65_x : exec call n a10s65 [v0,v1,v2,v3,v4,v5,v6,v7,v8,v9,v10,v11,v12,v13,v14,v15,v16,v17,v18,v19,v20,v21,v22] st =
 m1 (AV.weak v11) fun x0 =>
 obind (p1 (semUn .not call [W x0] .undef st)) fun x1 =>
 m1 (W x1) fun x2 =>
 obind (gv (W x2) false (p1 (semFad 0 call [(locOf 10 v10)] .undef st))) fun x3 =>
 obind (gv (W x2) false (p1 (semLdLc 10 false 1 call [W x3] v10 st))) fun x4 =>
 obind (gv (W x2) false (p1 (semBin .neq call [W x4,(.int .u8 1)] .undef st))) fun x5 =>
 obind (p1 (semPick call [W x2,(.bool true),W x5] .undef st)) fun x6 =>
 brE (W x6) call n a10s64 .skip [v0,v1,v2,v3,v4,v5,v6,v7,v8,v9,v10,v11,v12,v13,v14,v15,v16,v17,v18,v19,v20,v21,v22] st :=
  (exec_testT ..).trans (by kernel_rfl)
theorem a10s68_x : exec call n a10s68 [v0,v1,v2,v3,v4,v5,v6,v7,v8,v9,v10,v11,v12,v13,v14,v15,v16,v17,v18,v19,v20,v21,v22] st =
 m1 (AV.weak v0) fun x0 =>
 obind (p1 (semLenL call [(AV.weak (AV.strip x0))] .undef st)) fun x1 =>
 m1 (.int .i64 0) fun x2 =>
 some (Ex.normal,[v0,v1,v2,v3,v4,v5,v6,v7,v8,v9,v10,v11,v12,v13,v14,v15,v16,v17,v18,v19,AV.strip x0,AV.strip x1,AV.strip x2],st) :=
  (exec_reg ..).trans (by kernel_rfl)
theorem a10s70_x : exec call n a10s70 [v0,v1,v2,v3,v4,v5,v6,v7,v8,v9,v10,v11,v12,v13,v14,v15,v16,v17,v18,v19,v20,v21,v22] st =
 obind (p1 (semBin .lss call [(AV.weak v22),(AV.weak v21)] .undef st)) fun x0 =>
 brE (W x0) call n .skip (.exit 4) [v0,v1,v2,v3,v4,v5,v6,v7,v8,v9,v10,v11,v12,v13,v14,v15,v16,v17,v18,v19,v20,v21,v22] st :=
  (exec_testT ..).trans (by kernel_rfl)
theorem a10s72_x : exec call n a10s72 [v0,v1,v2,v3,v4,v5,v6,v7,v8,v9,v10,v11,v12,v13,v14,v15,v16,v17,v18,v19,v20,v21,v22] st =
 obind (p1 (semIad 4 call [(AV.weak v20),(AV.weak v22)] .undef st)) fun x0 =>
 obind (p1 (semLdRo true 4 call [W x0] .undef st)) fun x1 =>
 obind (semAlloc [.int .u8 0,.str [],.list true [],.list true []] call [] AV.undef st) fun x2 =>
 obind (semStLc 12 4 call [(locOf 12 x2.2.1),(AV.stripB x1)] x2.2.1 x2.2.2) fun x3 =>
 some (Ex.normal,[v0,v1,v2,v3,v4,v5,v6,v7,v8,v9,v10,v11,x3.2.1,v13,v14,v15,v16,v17,v18,v19,v20,v21,v22],x3.2.2) :=
  (exec_reg ..).trans (by kernel_rfl)
def a10s74_k0 (call : CallT) (n : Nat) (v0 v1 v2 v3 v4 v5 v6 v7 v8 v9 v10 v11 v12 v14 v15 v16 v17 v18 v19 v20 v21 v22 : AV) (x2 : AV × St) : Option Out :=
 obind (semAlloc [.int .i64 0,.str []] call [] AV.undef x2.2) fun x3 =>
 obind (semStLc 13 2 call [(locOf 13 x3.2.1),W x2.1] x3.2.1 x3.2.2) fun x4 =>
 some (Ex.normal,[v0,v1,v2,v3,v4,v5,v6,v7,v8,v9,v10,v11,v12,x4.2.1,v14,v15,v16,v17,v18,v19,v20,v21,v22],x4.2.2)
theorem a10s74_x : exec call n a10s74 [v0,v1,v2,v3,v4,v5,v6,v7,v8,v9,v10,v11,v12,v13,v14,v15,v16,v17,v18,v19,v20,v21,v22] st =
 m1 (AV.weak v4) fun x0 =>
 obind (p1 (semLdLc 12 true 4 call [(locOf 12 v12)] v12 st)) fun x1 =>
 obind (p2 (semCall 32 call [W x0,W x1] .undef st)) (a10s74_k0 call n v0 v1 v2 v3 v4 v5 v6 v7 v8 v9 v10 v11 v12 v14 v15 v16 v17 v18 v19 v20 v21 v22) :=
  (exec_reg ..).trans (by kernel_rfl)
theorem a10s77_x : exec call n a10s77 [v0,v1,v2,v3,v4,v5,v6,v7,v8,v9,v10,v11,v12,v13,v14,v15,v16,v17,v18,v19,v20,v21,v22] st =
 obind (p1 (semFad 1 call [(locOf 13 v13)] .undef st)) fun x0 =>
 obind (p1 (semLdLc 13 false 1 call [W x0] v13 st)) fun x1 =>
 obind (p1 (semFad 0 call [(locOf 13 v13)] .undef st)) fun x2 =>
 obind (p1 (semLdLc 13 false 1 call [W x2] v13 st)) fun x3 =>
 m1 (.nilp) fun x4 =>
 m1 (W x1) fun x5 =>
 m1 (W x3) fun x6 =>
 some (Ex.normal,[v0,AV.strip x4,AV.strip x5,AV.strip x6,v4,v5,v6,v7,v8,v9,v10,v11,v12,v13,v14,v15,v16,v17,v18,v19,v20,v21,v22],st) :=
  (exec_reg ..).trans (by kernel_rfl)
theorem a10s79_x : exec call n a10s79 [v0,v1,v2,v3,v4,v5,v6,v7,v8,v9,v10,v11,v12,v13,v14,v15,v16,v17,v18,v19,v20,v21,v22] st =
 obind (p1 (semFad 0 call [(locOf 13 v13)] .undef st)) fun x0 =>
 obind (p1 (semLdLc 13 false 1 call [W x0] v13 st)) fun x1 =>
 obind (p1 (semBin .neq call [W x1,(.int .i64 0)] .undef st)) fun x2 =>
 brE (W x2) call n a10s78 .skip [v0,v1,v2,v3,v4,v5,v6,v7,v8,v9,v10,v11,v12,v13,v14,v15,v16,v17,v18,v19,v20,v21,v22] st :=
  (exec_testT ..).trans (by kernel_rfl)
theorem a10s84_x : exec call n a10s84 [v0,v1,v2,v3,v4,v5,v6,v7,v8,v9,v10,v11,v12,v13,v14,v15,v16,v17,v18,v19,v20,v21,v22] st =
 obind (p1 (semBin .add call [(AV.weak v22),(.int .i64 1)] .undef st)) fun x0 =>
 m1 (W x0) fun x1 =>
 some (Ex.normal,[v0,v1,v2,v3,v4,v5,v6,v7,v8,v9,v10,v11,v12,v13,v14,v15,v16,v17,v18,v19,v20,v21,AV.strip x1],st) :=
  (exec_reg ..).trans (by kernel_rfl)
theorem a10s91_x : exec call n a10s91 [v0,v1,v2,v3,v4,v5,v6,v7,v8,v9,v10,v11,v12,v13,v14,v15,v16,v17,v18,v19,v20,v21,v22] st =
 m1 (AV.weak v4) fun x0 =>
 m1 (W x0) fun x1 =>
 m1 (.str []) fun x2 =>
 m1 (.int .i64 0) fun x3 =>
 some (Ex.normal,[v0,AV.strip x1,AV.strip x2,AV.strip x3,v4,v5,v6,v7,v8,v9,v10,v11,v12,v13,v14,v15,v16,v17,v18,v19,v20,v21,v22],st) :=
  (exec_reg ..).trans (by kernel_rfl)
theorem a11s1_x : exec call n a11s1 [v0,v1,v2,v3,v4,v5,v6,v7,v8,v9] st =
 m1 (.list true []) fun x0 =>
 some (Ex.normal,[v0,v1,AV.strip x0,v3,v4,v5,v6,v7,v8,v9],st) :=
  (exec_reg ..).trans (by kernel_rfl)
def a11s3_k0 (call : CallT) (n : Nat) (v0 v1 v2 v5 v6 v7 v8 v9 : AV) (x2 : AV × St) : Option Out :=
 m1 (W x2.1) fun x3 =>
 obind (p1 (semExt 0 call [W x3] .undef x2.2)) fun x4 =>
 obind (p1 (semExt 1 call [W x3] .undef x2.2)) fun x5 =>
 obind (semAlloc [.int .u8 0,.str [],.list true [],.list true []] call [] AV.undef x2.2) fun x6 =>
 obind (semStLc 3 4 call [(locOf 3 x6.2.1),(AV.stripB x4)] x6.2.1 x6.2.2) fun x7 =>
 m1 (W x5) fun x8 =>
 some (Ex.normal,[v0,v1,v2,x7.2.1,AV.strip x8,v5,v6,v7,v8,v9],x7.2.2)
theorem a11s3_x : exec call n a11s3 [v0,v1,v2,v3,v4,v5,v6,v7,v8,v9] st =
 m1 (AV.weak v0) fun x0 =>
 m1 (AV.weak v1) fun x1 =>
 obind (p2 (semCall 15 call [W x0,W x1] .undef st)) (a11s3_k0 call n v0 v1 v2 v5 v6 v7 v8 v9) :=
  (exec_reg ..).trans (by kernel_rfl)
theorem a11s6_x : exec call n a11s6 [v0,v1,v2,v3,v4,v5,v6,v7,v8,v9] st =
 m1 (.list true []) fun x0 =>
 some (Ex.normal,[v0,v1,AV.strip x0,v3,v4,v5,v6,v7,v8,v9],st) :=
  (exec_reg ..).trans (by kernel_rfl)
theorem a11s10_x : exec call n a11s10 [v0,v1,v2,v3,v4,v5,v6,v7,v8,v9] st =
 m1 (AV.weak v1) fun x0 =>
 obind (p1 (semBslice 1 [[.str []]] [0] call [W x0] .undef st)) fun x1 =>
 obind (semMv call [(AV.stripB x1)] .undef st) fun x2 =>
 some (Ex.normal,[v0,v1,(AV.strip x2.1),v3,v4,v5,v6,v7,v8,v9],x2.2.2) :=
  (exec_reg ..).trans (by kernel_rfl)
def a11s14_k0 (call : CallT) (n : Nat) (v0 v1 v3 v4 v5 v6 v7 v8 v9 : AV) (x2 : AV × St) : Option Out :=
 obind (semMv call [(AV.stripB x2.1)] .undef x2.2) fun x3 =>
 some (Ex.normal,[v0,v1,(AV.strip x3.1),v3,v4,v5,v6,v7,v8,v9],x3.2.2)
theorem a11s14_x : exec call n a11s14 [v0,v1,v2,v3,v4,v5,v6,v7,v8,v9] st =
 obind (p1 (semFad 3 call [(locOf 3 v3)] .undef st)) fun x0 =>
 obind (p1 (semLdLc 3 false 1 call [W x0] v3 st)) fun x1 =>
 obind (p2 (semCall 33 call [W x1] .undef st)) (a11s14_k0 call n v0 v1 v3 v4 v5 v6 v7 v8 v9) :=
  (exec_reg ..).trans (by kernel_rfl)
theorem a11s18_x : exec call n a11s18 [v0,v1,v2,v3,v4,v5,v6,v7,v8,v9] st =
 m1 (.list true []) fun x0 =>
 some (Ex.normal,[v0,v1,AV.strip x0,v3,v4,v5,v6,v7,v8,v9],st) :=
  (exec_reg ..).trans (by kernel_rfl)
theorem a11s20_x : exec call n a11s20 [v0,v1,v2,v3,v4,v5,v6,v7,v8,v9] st =
 obind (p1 (semFad 0 call [(locOf 3 v3)] .undef st)) fun x0 =>
 obind (p1 (semLdLc 3 false 1 call [W x0] v3 st)) fun x1 =>
 obind (p1 (semBin .neq call [W x1,(.int .u8 2)] .undef st)) fun x2 =>
 m1 (W x2) fun x3 =>
 brE (W x3) call n a11s19 .skip [v0,v1,v2,v3,v4,v5,v6,v7,v8,v9] st :=
  (exec_testT ..).trans (by kernel_rfl)
theorem a11s21_x : exec call n a11s21 [v0,v1,v2,v3,v4,v5,v6,v7,v8,v9] st =
 obind (p1 (semFad 0 call [(locOf 3 v3)] .undef st)) fun x0 =>
 obind (p1 (semLdLc 3 false 1 call [W x0] v3 st)) fun x1 =>
 obind (p1 (semBin .eql call [W x1,(.int .u8 3)] .undef st)) fun x2 =>
 m1 (W x2) fun x3 =>
 brE (W x3) call n a11s15 a11s20 [v0,v1,v2,v3,v4,v5,v6,v7,v8,v9] st :=
  (exec_testT ..).trans (by kernel_rfl)
theorem a11s22_x : exec call n a11s22 [v0,v1,v2,v3,v4,v5,v6,v7,v8,v9] st =
 obind (p1 (semFad 0 call [(locOf 3 v3)] .undef st)) fun x0 =>
 obind (p1 (semLdLc 3 false 1 call [W x0] v3 st)) fun x1 =>
 obind (p1 (semBin .eql call [W x1,(.int .u8 1)] .undef st)) fun x2 =>
 m1 (W x2) fun x3 =>
 brE (W x3) call n a11s11 a11s21 [v0,v1,v2,v3,v4,v5,v6,v7,v8,v9] st :=
  (exec_testT ..).trans (by kernel_rfl)
theorem a11s23_x : exec call n a11s23 [v0,v1,v2,v3,v4,v5,v6,v7,v8,v9] st =
 m1 (AV.weak v4) fun x0 =>
 obind (p1 (semUn .not call [W x0] .undef st)) fun x1 =>
 m1 (W x1) fun x2 =>
 brE (W x2) call n a11s7 a11s22 [v0,v1,v2,v3,v4,v5,v6,v7,v8,v9] st :=
  (exec_testT ..).trans (by kernel_rfl)
theorem a11s26_x : exec call n a11s26 [v0,v1,v2,v3,v4,v5,v6,v7,v8,v9] st =
 m1 (.list true []) fun x0 =>
 some (Ex.normal,[v0,v1,v2,v3,v4,AV.strip x0,v6,v7,v8,v9],st) :=
  (exec_reg ..).trans (by kernel_rfl)
theorem a11s28_x : exec call n a11s28 [v0,v1,v2,v3,v4,v5,v6,v7,v8,v9] st =
 m1 (AV.weak v0) fun x0 =>
 obind (p1 (semNilchk call [W x0] .undef st)) fun x1 =>
 obind (p1 (semFad 0 call [W x1] .undef st)) fun x2 =>
 obind (p1 (semLdSt false 1 call [W x2] .undef st)) fun x3 =>
 obind (p1 (semLenL call [(AV.weak (AV.strip x3))] .undef st)) fun x4 =>
 m1 (.int .i64 0) fun x5 =>
 some (Ex.normal,[v0,v1,v2,v3,v4,v5,v6,AV.strip x3,AV.strip x4,AV.strip x5],st) :=
  (exec_reg ..).trans (by kernel_rfl)
theorem a11s30_x : exec call n a11s30 [v0,v1,v2,v3,v4,v5,v6,v7,v8,v9] st =
 obind (p1 (semBin .lss call [(AV.weak v9),(AV.weak v8)] .undef st)) fun x0 =>
 brE (W x0) call n .skip (.exit 1) [v0,v1,v2,v3,v4,v5,v6,v7,v8,v9] st :=
  (exec_testT ..).trans (by kernel_rfl)
theorem a11s32_x : exec call n a11s32 [v0,v1,v2,v3,v4,v5,v6,v7,v8,v9] st =
 obind (p1 (semIad 4 call [(AV.weak v7),(AV.weak v9)] .undef st)) fun x0 =>
 obind (p1 (semLdRo true 4 call [W x0] .undef st)) fun x1 =>
 obind (semAlloc [.int .u8 0,.str [],.list true [],.list true []] call [] AV.undef st) fun x2 =>
 obind (semStLc 6 4 call [(locOf 6 x2.2.1),(AV.stripB x1)] x2.2.1 x2.2.2) fun x3 =>
 some (Ex.normal,[v0,v1,v2,v3,v4,v5,x3.2.1,v7,v8,v9],x3.2.2) :=
  (exec_reg ..).trans (by kernel_rfl)
theorem a11s35_x : exec call n a11s35 [v0,v1,v2,v3,v4,v5,v6,v7,v8,v9] st =
 obind (semMv call [v5] .undef st) fun x0 =>
 obind (p1 (semFad 1 call [(locOf 6 v6)] .undef x0.2.2)) fun x1 =>
 obind (p1 (semLdLc 6 false 1 call [W x1] v6 x0.2.2)) fun x2 =>
 obind (p1 (semBslice 1 [[.str []]] [0] call [W x2] .undef x0.2.2)) fun x3 =>
 obind (semApp 1 16 call [(AV.stripB x0.1),W x3] .undef x0.2.2) fun x4 =>
 obind (semMv call [(AV.stripB x4.1)] .undef x4.2.2) fun x5 =>
 some (Ex.normal,[v0,v1,v2,v3,v4,(AV.strip x5.1),v6,v7,v8,v9],x5.2.2) :=
  (exec_reg ..).trans (by kernel_rfl)
def a11s36_k0 (call : CallT) (n : Nat) (v0 v1 v2 v3 v4 v5 v6 v7 v8 v9 x3 : AV) (x7 : AV × St) : Option Out :=
 obind (p1 (semPick call [W x3,W x7.1,(.bool false)] .undef x7.2)) fun x8 =>
 brE (W x8) call n a11s35 .skip [v0,v1,v2,v3,v4,v5,v6,v7,v8,v9] x7.2
theorem a11s36_x : exec call n a11s36 [v0,v1,v2,v3,v4,v5,v6,v7,v8,v9] st =
 obind (p1 (semFad 0 call [(locOf 6 v6)] .undef st)) fun x0 =>
 obind (p1 (semLdLc 6 false 1 call [W x0] v6 st)) fun x1 =>
 obind (p1 (semBin .eql call [W x1,(.int .u8 1)] .undef st)) fun x2 =>
 m1 (W x2) fun x3 =>
 obind (gv (W x3) true (p1 (semFad 3 call [(locOf 6 v6)] .undef st))) fun x4 =>
 obind (gv (W x3) true (p1 (semLdLc 6 false 1 call [W x4] v6 st))) fun x5 =>
 gm (W x3) true (AV.weak v1) fun x6 =>
 obind (gv2 (W x3) true st (p2 (semCall 29 call [W x5,W x6] .undef st))) (a11s36_k0 call n v0 v1 v2 v3 v4 v5 v6 v7 v8 v9 x3) :=
  (exec_testT ..).trans (by kernel_rfl)
theorem a11s40_x : exec call n a11s40 [v0,v1,v2,v3,v4,v5,v6,v7,v8,v9] st =
 obind (p1 (semBin .add call [(AV.weak v9),(.int .i64 1)] .undef st)) fun x0 =>
 m1 (W x0) fun x1 =>
 some (Ex.normal,[v0,v1,v2,v3,v4,v5,v6,v7,v8,AV.strip x1],st) :=
  (exec_reg ..).trans (by kernel_rfl)
theorem a11s47_x : exec call n a11s47 [v0,v1,v2,v3,v4,v5,v6,v7,v8,v9] st =
 m1 (AV.weak v5) fun x0 =>
 obind (semMv call [(AV.stripB x0)] .undef st) fun x1 =>
 some (Ex.normal,[v0,v1,(AV.strip x1.1),v3,v4,v5,v6,v7,v8,v9],x1.2.2) :=
  (exec_reg ..).trans (by kernel_rfl)
theorem a12s1_x : exec call n a12s1 [v0,v1,v2] st =
 m1 (.bool false) fun x0 =>
 some (Ex.normal,[v0,v1,AV.strip x0],st) :=
  (exec_reg ..).trans (by kernel_rfl)
def a12s3_k3 (call : CallT) (n : Nat) (v0 v1 x3 x12 : AV) (x15 : AV × St) : Option Out :=
 obind (gv (W x3) true (p1 (semPick call [W x12,(.bool true),W x15.1] .undef x15.2))) fun x16 =>
 obind (p1 (semPick call [W x3,W x16,(.bool false)] .undef x15.2)) fun x17 =>
 m1 (W x17) fun x18 =>
 some (Ex.normal,[v0,v1,AV.strip x18],x15.2)
def a12s3_k2 (call : CallT) (n : Nat) (v0 v1 x3 x7 : AV) (x10 : AV × St) : Option Out :=
 obind (gv (W x3) true (p1 (semPick call [W x7,(.bool true),W x10.1] .undef x10.2))) fun x11 =>
 gm (W x3) true (W x11) fun x12 =>
 gm (W x12) false (AV.weak v0) fun x13 =>
 gm (W x12) false (AV.weak v1) fun x14 =>
 obind (gv2 (W x12) false x10.2 (p2 (semCall 35 call [W x13,W x14,(.int .u8 3)] .undef x10.2))) (a12s3_k3 call n v0 v1 x3 x12)
def a12s3_k1 (call : CallT) (n : Nat) (v0 v1 x3 : AV) (x6 : AV × St) : Option Out :=
 gm (W x3) true (W x6.1) fun x7 =>
 gm (W x7) false (AV.weak v0) fun x8 =>
 gm (W x7) false (AV.weak v1) fun x9 =>
 obind (gv2 (W x7) false x6.2 (p2 (semCall 35 call [W x8,W x9,(.int .u8 2)] .undef x6.2))) (a12s3_k2 call n v0 v1 x3 x7)
def a12s3_k0 (call : CallT) (n : Nat) (v0 v1 : AV) (x1 : AV × St) : Option Out :=
 obind (p1 (semUn .not call [W x1.1] .undef x1.2)) fun x2 =>
 m1 (W x2) fun x3 =>
 gm (W x3) true (AV.weak v0) fun x4 =>
 gm (W x3) true (AV.weak v1) fun x5 =>
 obind (gv2 (W x3) true x1.2 (p2 (semCall 35 call [W x4,W x5,(.int .u8 1)] .undef x1.2))) (a12s3_k1 call n v0 v1 x3)
theorem a12s3_x : exec call n a12s3 [v0,v1,v2] st =
 m1 (AV.weak v1) fun x0 =>
 obind (p2 (semCall 34 call [W x0] .undef st)) (a12s3_k0 call n v0 v1) :=
  (exec_reg ..).trans (by kernel_rfl)
theorem a13s1_x : exec call n a13s1 [v0,v1,v2,v3] st =
 m1 (.bool false) fun x0 =>
 some (Ex.normal,[v0,v1,AV.strip x0,v3],st) :=
  (exec_reg ..).trans (by kernel_rfl)
theorem a13s3_x : exec call n a13s3 [v0,v1,v2,v3] st =
 m1 (.int .i64 0) fun x0 =>
 some (Ex.normal,[v0,v1,v2,AV.strip x0],st) :=
  (exec_reg ..).trans (by kernel_rfl)
theorem a13s5_x : exec call n a13s5 [v0,v1,v2,v3] st =
 m1 (AV.weak v3) fun x0 =>
 m1 (AV.weak v0) fun x1 =>
 obind (p1 (semLenL call [W x1] .undef st)) fun x2 =>
 obind (p1 (semBin .lss call [W x0,W x2] .undef st)) fun x3 =>
 brE (W x3) call n .skip (.exit 0) [v0,v1,v2,v3] st :=
  (exec_testT ..).trans (by kernel_rfl)
theorem a13s8_x : exec call n a13s8 [v0,v1,v2,v3] st =
 m1 (.bool true) fun x0 =>
 some (Ex.normal,[v0,v1,AV.strip x0,v3],st) :=
  (exec_reg ..).trans (by kernel_rfl)
theorem a13s10_x : exec call n a13s10 [v0,v1,v2,v3] st =
 m1 (AV.weak v0) fun x0 =>
 m1 (AV.weak v3) fun x1 =>
 obind (p1 (semIad 1 call [W x0,W x1] .undef st)) fun x2 =>
 obind (p1 (semLdRo false 1 call [W x2] .undef st)) fun x3 =>
 m1 (AV.weak v1) fun x4 =>
 obind (p1 (semBin .eql call [W x3,W x4] .undef st)) fun x5 =>
 brE (W x5) call n a13s9 .skip [v0,v1,v2,v3] st :=
  (exec_testT ..).trans (by kernel_rfl)
theorem a13s13_x : exec call n a13s13 [v0,v1,v2,v3] st =
 m1 (AV.weak v3) fun x0 =>
 obind (p1 (semBin .add call [W x0,(.int .i64 1)] .undef st)) fun x1 =>
 m1 (W x1) fun x2 =>
 some (Ex.normal,[v0,v1,v2,AV.strip x2],st) :=
  (exec_reg ..).trans (by kernel_rfl)
theorem a13s20_x : exec call n a13s20 [v0,v1,v2,v3] st =
 m1 (.bool false) fun x0 =>
 some (Ex.normal,[v0,v1,AV.strip x0,v3],st) :=
  (exec_reg ..).trans (by kernel_rfl)
theorem a15s1_x : exec call n a15s1 [v0,v1,v2,v3,v4,v5] st =
 obind (semAlloc [.int .u8 0,.str [],.list true [],.list true []] call [] AV.undef st) fun x0 =>
 m1 (.bool false) fun x1 =>
 some (Ex.normal,[v0,v1,x0.2.1,AV.strip x1,v4,v5],x0.2.2) :=
  (exec_reg ..).trans (by kernel_rfl)
theorem a15s4_x : exec call n a15s4 [v0,v1,v2,v3,v4,v5] st =
 obind (p1 (semBuild [.int .u8 0,.str [],.list true [],.list true []] [] call [] .undef st)) fun x0 =>
 obind (semStLc 2 4 call [(locOf 2 v2),(AV.stripB x0)] v2 st) fun x1 =>
 m1 (.bool false) fun x2 =>
 some (Ex.normal,[v0,v1,x1.2.1,AV.strip x2,v4,v5],x1.2.2) :=
  (exec_reg ..).trans (by kernel_rfl)
theorem a15s6_x : exec call n a15s6 [v0,v1,v2,v3,v4,v5] st =
 m1 (AV.weak v0) fun x0 =>
 obind (p1 (semBinP .eql call [W x0,(.nilp)] .undef st)) fun x1 =>
 brE (W x1) call n a15s5 .skip [v0,v1,v2,v3,v4,v5] st :=
  (exec_testT ..).trans (by kernel_rfl)
theorem a15s8_x : exec call n a15s8 [v0,v1,v2,v3,v4,v5] st =
 m1 (AV.weak v0) fun x0 =>
 obind (p1 (semNilchk call [W x0] .undef st)) fun x1 =>
 obind (p1 (semFad 1 call [W x1] .undef st)) fun x2 =>
 obind (p1 (semLdSt false 1 call [W x2] .undef st)) fun x3 =>
 m1 (AV.weak v1) fun x4 =>
 obind (p1 (semMget 1 [.int .i64 0] false true call [W x3,W x4] .undef st)) fun x5 =>
 m1 (W x5) fun x6 =>
 obind (p1 (semExt 0 call [W x6] .undef st)) fun x7 =>
 obind (p1 (semExt 1 call [W x6] .undef st)) fun x8 =>
 m1 (W x7) fun x9 =>
 m1 (W x8) fun x10 =>
 some (Ex.normal,[v0,v1,v2,v3,AV.strip x9,AV.strip x10],st) :=
  (exec_reg ..).trans (by kernel_rfl)
theorem a15s11_x : exec call n a15s11 [v0,v1,v2,v3,v4,v5] st =
 obind (p1 (semBuild [.int .u8 0,.str [],.list true [],.list true []] [] call [] .undef st)) fun x0 =>
 obind (semStLc 2 4 call [(locOf 2 v2),(AV.stripB x0)] v2 st) fun x1 =>
 m1 (.bool false) fun x2 =>
 some (Ex.normal,[v0,v1,x1.2.1,AV.strip x2,v4,v5],x1.2.2) :=
  (exec_reg ..).trans (by kernel_rfl)
theorem a15s13_x : exec call n a15s13 [v0,v1,v2,v3,v4,v5] st =
 m1 (AV.weak v5) fun x0 =>
 obind (p1 (semUn .not call [W x0] .undef st)) fun x1 =>
 brE (W x1) call n a15s12 .skip [v0,v1,v2,v3,v4,v5] st :=
  (exec_testT ..).trans (by kernel_rfl)
theorem a15s15_x : exec call n a15s15 [v0,v1,v2,v3,v4,v5] st =
 m1 (AV.weak v0) fun x0 =>
 obind (p1 (semNilchk call [W x0] .undef st)) fun x1 =>
 obind (p1 (semFad 0 call [W x1] .undef st)) fun x2 =>
 obind (p1 (semLdSt false 1 call [W x2] .undef st)) fun x3 =>
 m1 (AV.weak v4) fun x4 =>
 obind (p1 (semIad 4 call [W x3,W x4] .undef st)) fun x5 =>
 obind (p1 (semLdRo true 4 call [W x5] .undef st)) fun x6 =>
 obind (semStLc 2 4 call [(locOf 2 v2),(AV.stripB x6)] v2 st) fun x7 =>
 m1 (.bool true) fun x8 =>
 some (Ex.normal,[v0,v1,x7.2.1,AV.strip x8,v4,v5],x7.2.2) :=
  (exec_reg ..).trans (by kernel_rfl)
theorem a18s1_x : exec call n a18s1 [v0,v1,v2,v3,v4] st =
 obind (semBoxV call [(AV.weak v0)] AV.undef st) fun x0 =>
 obind (semBoxV call [(AV.weak v1)] AV.undef x0.2.2) fun x1 =>
 m1 (.bool false) fun x2 =>
 some (Ex.normal,[v0,v1,x0.2.1,x1.2.1,AV.strip x2],x1.2.2) :=
  (exec_reg ..).trans (by kernel_rfl)
def a18s3_k0 (call : CallT) (n : Nat) (v0 v1 v2 v3 x12 : AV) (x17 : AV × St) : Option Out :=
 obind (p1 (semPick call [W x12,W x17.1,(.bool false)] .undef x17.2)) fun x18 =>
 m1 (W x18) fun x19 =>
 some (Ex.normal,[v0,v1,v2,v3,AV.strip x19],x17.2)
theorem a18s3_x : exec call n a18s3 [v0,v1,v2,v3,v4] st =
 obind (p1 (semFad 0 call [(locOf 2 v2)] .undef st)) fun x0 =>
 obind (p1 (semLdLc 2 false 1 call [W x0] v2 st)) fun x1 =>
 obind (p1 (semFad 0 call [(locOf 3 v3)] .undef st)) fun x2 =>
 obind (p1 (semLdLc 3 false 1 call [W x2] v3 st)) fun x3 =>
 obind (p1 (semBin .eql call [W x1,W x3] .undef st)) fun x4 =>
 m1 (W x4) fun x5 =>
 obind (gv (W x5) true (p1 (semFad 2 call [(locOf 2 v2)] .undef st))) fun x6 =>
 obind (gv (W x5) true (p1 (semLdLc 2 false 1 call [W x6] v2 st))) fun x7 =>
 obind (gv (W x5) true (p1 (semFad 2 call [(locOf 3 v3)] .undef st))) fun x8 =>
 obind (gv (W x5) true (p1 (semLdLc 3 false 1 call [W x8] v3 st))) fun x9 =>
 obind (gv (W x5) true (p1 (semBinB .eql call [W x7,W x9] .undef st))) fun x10 =>
 obind (p1 (semPick call [W x5,W x10,(.bool false)] .undef st)) fun x11 =>
 m1 (W x11) fun x12 =>
 obind (gv (W x12) true (p1 (semFad 1 call [(locOf 2 v2)] .undef st))) fun x13 =>
 obind (gv (W x12) true (p1 (semLdLc 2 false 1 call [W x13] v2 st))) fun x14 =>
 obind (gv (W x12) true (p1 (semFad 1 call [(locOf 3 v3)] .undef st))) fun x15 =>
 obind (gv (W x12) true (p1 (semLdLc 3 false 1 call [W x15] v3 st))) fun x16 =>
 obind (gv2 (W x12) true st (p2 (semCall 38 call [W x14,W x16,(.func 18 [] [])] .undef st))) (a18s3_k0 call n v0 v1 v2 v3 x12) :=
  (exec_reg ..).trans (by kernel_rfl)
theorem a21s1_x : exec call n a21s1 [v0,v1,v2] st =
 m1 (.bool false) fun x0 =>
 some (Ex.normal,[v0,v1,AV.strip x0],st) :=
  (exec_reg ..).trans (by kernel_rfl)
def a21s3_k0 (call : CallT) (n : Nat) (v0 v1 x2 : AV) (x5 : AV × St) : Option Out :=
 obind (p1 (semPick call [W x2,W x5.1,(.bool false)] .undef x5.2)) fun x6 =>
 m1 (W x6) fun x7 =>
 some (Ex.normal,[v0,v1,AV.strip x7],x5.2)
theorem a21s3_x : exec call n a21s3 [v0,v1,v2] st =
 m1 (AV.weak v0) fun x0 =>
 obind (p1 (semBinP .neq call [W x0,(.nilp)] .undef st)) fun x1 =>
 m1 (W x1) fun x2 =>
 obind (gv (W x2) true (p1 (semSlA 4 1 false false call [(.ro [.str [66,111,111,108,101,97,110],.str [73,68],.str [73,110,116],.str [83,116,114,105,110,103]])] .undef st))) fun x3 =>
 gm (W x2) true (AV.weak v1) fun x4 =>
 obind (gv2 (W x2) true st (p2 (semCall 29 call [W x3,W x4] .undef st))) (a21s3_k0 call n v0 v1 x2) :=
  (exec_reg ..).trans (by kernel_rfl)
theorem a22s1_x : exec call n a22s1 [v0,v1,v2] st =
 m1 (.bool false) fun x0 =>
 some (Ex.normal,[v0,v1,AV.strip x0],st) :=
  (exec_reg ..).trans (by kernel_rfl)
def a22s3_k0 (call : CallT) (n : Nat) (v0 v1 : AV) (x2 : AV × St) : Option Out :=
 m1 (W x2.1) fun x3 =>
 some (Ex.normal,[v0,v1,AV.strip x3],x2.2)
theorem a22s3_x : exec call n a22s3 [v0,v1,v2] st =
 m1 (AV.weak v0) fun x0 =>
 m1 (AV.weak v1) fun x1 =>
 obind (p2 (semCall 35 call [W x0,W x1,(.int .u8 4)] .undef st)) (a22s3_k0 call n v0 v1) :=
  (exec_reg ..).trans (by kernel_rfl)
theorem a23s1_x : exec call n a23s1 [v0,v1,v2] st =
 m1 (.bool false) fun x0 =>
 some (Ex.normal,[v0,v1,AV.strip x0],st) :=
  (exec_reg ..).trans (by kernel_rfl)
def a23s3_k0 (call : CallT) (n : Nat) (v0 v1 : AV) (x2 : AV × St) : Option Out :=
 m1 (W x2.1) fun x3 =>
 some (Ex.normal,[v0,v1,AV.strip x3],x2.2)
theorem a23s3_x : exec call n a23s3 [v0,v1,v2] st =
 m1 (AV.weak v0) fun x0 =>
 m1 (AV.weak v1) fun x1 =>
 obind (p2 (semCall 35 call [W x0,W x1,(.int .u8 5)] .undef st)) (a23s3_k0 call n v0 v1) :=
  (exec_reg ..).trans (by kernel_rfl)
theorem a25s1_x : exec call n a25s1 [v0,v1,v2,v3,v4,v5,v6,v7,v8,v9,v10] st =
 m1 (.list true []) fun x0 =>
 m1 (.int .i64 0) fun x1 =>
 m1 (.int .i64 0) fun x2 =>
 some (Ex.normal,[v0,AV.strip x0,AV.strip x1,AV.strip x2,v4,v5,v6,v7,v8,v9,v10],st) :=
  (exec_reg ..).trans (by kernel_rfl)
theorem a25s4_x : exec call n a25s4 [v0,v1,v2,v3,v4,v5,v6,v7,v8,v9,v10] st =
 m1 (.list true []) fun x0 =>
 m1 (.int .i64 0) fun x1 =>
 m1 (.int .i64 2) fun x2 =>
 some (Ex.normal,[v0,AV.strip x0,AV.strip x1,AV.strip x2,v4,v5,v6,v7,v8,v9,v10],st) :=
  (exec_reg ..).trans (by kernel_rfl)
theorem a25s6_x : exec call n a25s6 [v0,v1,v2,v3,v4,v5,v6,v7,v8,v9,v10] st =
 m1 (AV.weak v0) fun x0 =>
 obind (p1 (semLenS call [W x0] .undef st)) fun x1 =>
 obind (p1 (semBin .gtr call [W x1,(.int .i64 2000)] .undef st)) fun x2 =>
 brE (W x2) call n a25s5 .skip [v0,v1,v2,v3,v4,v5,v6,v7,v8,v9,v10] st :=
  (exec_testT ..).trans (by kernel_rfl)
theorem a25s8_x : exec call n a25s8 [v0,v1,v2,v3,v4,v5,v6,v7,v8,v9,v10] st =
 m1 (.list true []) fun x0 =>
 some (Ex.normal,[v0,v1,v2,v3,AV.strip x0,v5,v6,v7,v8,v9,v10],st) :=
  (exec_reg ..).trans (by kernel_rfl)
theorem a25s10_x : exec call n a25s10 [v0,v1,v2,v3,v4,v5,v6,v7,v8,v9,v10] st =
 m1 (.int .i64 0) fun x0 =>
 some (Ex.normal,[v0,v1,v2,v3,v4,AV.strip x0,v6,v7,v8,v9,v10],st) :=
  (exec_reg ..).trans (by kernel_rfl)
theorem a25s12_x : exec call n a25s12 [v0,v1,v2,v3,v4,v5,v6,v7,v8,v9,v10] st =
 m1 (AV.weak v5) fun x0 =>
 m1 (AV.weak v0) fun x1 =>
 obind (p1 (semLenS call [W x1] .undef st)) fun x2 =>
 obind (p1 (semBin .lss call [W x0,W x2] .undef st)) fun x3 =>
 brE (W x3) call n .skip (.exit 0) [v0,v1,v2,v3,v4,v5,v6,v7,v8,v9,v10] st :=
  (exec_testT ..).trans (by kernel_rfl)
theorem a25s14_x : exec call n a25s14 [v0,v1,v2,v3,v4,v5,v6,v7,v8,v9,v10] st =
 m1 (AV.weak v0) fun x0 =>
 m1 (AV.weak v5) fun x1 =>
 obind (p1 (semIdxS call [W x0,W x1] .undef st)) fun x2 =>
 m1 (W x2) fun x3 =>
 some (Ex.normal,[v0,v1,v2,v3,v4,v5,AV.strip x3,v7,v8,v9,v10],st) :=
  (exec_reg ..).trans (by kernel_rfl)
theorem a25s17_x : exec call n a25s17 [v0,v1,v2,v3,v4,v5,v6,v7,v8,v9,v10] st =
 m1 (AV.weak v5) fun x0 =>
 obind (p1 (semBin .add call [W x0,(.int .i64 1)] .undef st)) fun x1 =>
 m1 (W x1) fun x2 =>
 some (Ex.normal,[v0,v1,v2,v3,v4,AV.strip x2,v6,v7,v8,v9,v10],st) :=
  (exec_reg ..).trans (by kernel_rfl)
theorem a25s21_x : exec call n a25s21 [v0,v1,v2,v3,v4,v5,v6,v7,v8,v9,v10] st =
 m1 (AV.weak v5) fun x0 =>
 m1 (AV.weak v0) fun x1 =>
 obind (p1 (semLenS call [W x1] .undef st)) fun x2 =>
 obind (p1 (semBin .lss call [W x0,W x2] .undef st)) fun x3 =>
 m1 (W x3) fun x4 =>
 gm (W x4) true (AV.weak v0) fun x5 =>
 gm (W x4) true (AV.weak v5) fun x6 =>
 obind (gv (W x4) true (p1 (semIdxS call [W x5,W x6] .undef st))) fun x7 =>
 obind (gv (W x4) true (p1 (semBin .neq call [W x7,(.int .u8 10)] .undef st))) fun x8 =>
 obind (p1 (semPick call [W x4,W x8,(.bool false)] .undef st)) fun x9 =>
 brE (W x9) call n .skip (.exit 3) [v0,v1,v2,v3,v4,v5,v6,v7,v8,v9,v10] st :=
  (exec_testT ..).trans (by kernel_rfl)
theorem a25s23_x : exec call n a25s23 [v0,v1,v2,v3,v4,v5,v6,v7,v8,v9,v10] st =
 m1 (AV.weak v5) fun x0 =>
 obind (p1 (semBin .add call [W x0,(.int .i64 1)] .undef st)) fun x1 =>
 m1 (W x1) fun x2 =>
 some (Ex.normal,[v0,v1,v2,v3,v4,AV.strip x2,v6,v7,v8,v9,v10],st) :=
  (exec_reg ..).trans (by kernel_rfl)
theorem a25s29_x : exec call n a25s29 [v0,v1,v2,v3,v4,v5,v6,v7,v8,v9,v10] st =
 m1 (AV.weak v6) fun x0 =>
 obind (p1 (semBin .eql call [W x0,(.int .u8 35)] .undef st)) fun x1 =>
 m1 (W x1) fun x2 =>
 brE (W x2) call n a25s28 .skip [v0,v1,v2,v3,v4,v5,v6,v7,v8,v9,v10] st :=
  (exec_testT ..).trans (by kernel_rfl)
theorem a25s30_x : exec call n a25s30 [v0,v1,v2,v3,v4,v5,v6,v7,v8,v9,v10] st =
 m1 (AV.weak v6) fun x0 =>
 obind (p1 (semBin .eql call [W x0,(.int .u8 32)] .undef st)) fun x1 =>
 m1 (W x1) fun x2 =>
 gm (W x2) false (AV.weak v6) fun x3 =>
 obind (gv (W x2) false (p1 (semBin .eql call [W x3,(.int .u8 10)] .undef st))) fun x4 =>
 obind (p1 (semPick call [W x2,(.bool true),W x4] .undef st)) fun x5 =>
 m1 (W x5) fun x6 =>
 gm (W x6) false (AV.weak v6) fun x7 =>
 obind (gv (W x6) false (p1 (semBin .eql call [W x7,(.int .u8 9)] .undef st))) fun x8 =>
 obind (p1 (semPick call [W x6,(.bool true),W x8] .undef st)) fun x9 =>
 m1 (W x9) fun x10 =>
 gm (W x10) false (AV.weak v6) fun x11 =>
 obind (gv (W x10) false (p1 (semBin .eql call [W x11,(.int .u8 13)] .undef st))) fun x12 =>
 obind (p1 (semPick call [W x10,(.bool true),W x12] .undef st)) fun x13 =>
 m1 (W x13) fun x14 =>
 gm (W x14) false (AV.weak v6) fun x15 =>
 obind (gv (W x14) false (p1 (semBin .eql call [W x15,(.int .u8 44)] .undef st))) fun x16 =>
 obind (p1 (semPick call [W x14,(.bool true),W x16] .undef st)) fun x17 =>
 m1 (W x17) fun x18 =>
 brE (W x18) call n a25s18 a25s29 [v0,v1,v2,v3,v4,v5,v6,v7,v8,v9,v10] st :=
  (exec_testT ..).trans (by kernel_rfl)
def a25s33_k0 (call : CallT) (n : Nat) (v0 v1 v2 v3 v4 v5 v6 : AV) (x2 : AV × St) : Option Out :=
 m1 (W x2.1) fun x3 =>
 obind (p1 (semExt 0 call [W x3] .undef x2.2)) fun x4 =>
 obind (p1 (semExt 1 call [W x3] .undef x2.2)) fun x5 =>
 obind (p1 (semExt 2 call [W x3] .undef x2.2)) fun x6 =>
 obind (p1 (semExt 3 call [W x3] .undef x2.2)) fun x7 =>
 obind (semAlloc [.int .u8 0,.str [],.int .i64 0,.int .i64 0] call [] AV.undef x2.2) fun x8 =>
 obind (semStLc 7 4 call [(locOf 7 x8.2.1),W x4] x8.2.1 x8.2.2) fun x9 =>
 m1 (W x5) fun x10 =>
 m1 (W x6) fun x11 =>
 m1 (W x7) fun x12 =>
 some (Ex.normal,[v0,v1,v2,v3,v4,v5,v6,x9.2.1,AV.strip x10,AV.strip x11,AV.strip x12],x9.2.2)
theorem a25s33_x : exec call n a25s33 [v0,v1,v2,v3,v4,v5,v6,v7,v8,v9,v10] st =
 m1 (AV.weak v0) fun x0 =>
 m1 (AV.weak v5) fun x1 =>
 obind (p2 (semCall 40 call [W x0,W x1] .undef st)) (a25s33_k0 call n v0 v1 v2 v3 v4 v5 v6) :=
  (exec_reg ..).trans (by kernel_rfl)
theorem a25s36_x : exec call n a25s36 [v0,v1,v2,v3,v4,v5,v6,v7,v8,v9,v10] st =
 m1 (AV.weak v9) fun x0 =>
 m1 (AV.weak v10) fun x1 =>
 m1 (.list true []) fun x2 =>
 m1 (W x0) fun x3 =>
 m1 (W x1) fun x4 =>
 some (Ex.normal,[v0,AV.strip x2,AV.strip x3,AV.strip x4,v4,v5,v6,v7,v8,v9,v10],st) :=
  (exec_reg ..).trans (by kernel_rfl)
theorem a25s38_x : exec call n a25s38 [v0,v1,v2,v3,v4,v5,v6,v7,v8,v9,v10] st =
 m1 (AV.weak v10) fun x0 =>
 obind (p1 (semBin .neq call [W x0,(.int .i64 0)] .undef st)) fun x1 =>
 brE (W x1) call n a25s37 .skip [v0,v1,v2,v3,v4,v5,v6,v7,v8,v9,v10] st :=
  (exec_testT ..).trans (by kernel_rfl)
theorem a25s40_x : exec call n a25s40 [v0,v1,v2,v3,v4,v5,v6,v7,v8,v9,v10] st =
 m1 (AV.weak v5) fun x0 =>
 obind (p1 (semFad 3 call [(locOf 7 v7)] .undef st)) fun x1 =>
 obind (semStLc 7 1 call [W x1,W x0] v7 st) fun x2 =>
 some (Ex.normal,[v0,v1,v2,v3,v4,v5,v6,x2.2.1,v8,v9,v10],x2.2.2) :=
  (exec_reg ..).trans (by kernel_rfl)
theorem a25s42_x : exec call n a25s42 [v0,v1,v2,v3,v4,v5,v6,v7,v8,v9,v10] st =
 obind (semMv call [v4] .undef st) fun x0 =>
 obind (p1 (semLdLc 7 true 4 call [(locOf 7 v7)] v7 x0.2.2)) fun x1 =>
 obind (p1 (semBslice 4 [[.int .u8 0,.str [],.int .i64 0,.int .i64 0]] [0] call [W x1] .undef x0.2.2)) fun x2 =>
 obind (semApp 4 40 call [(AV.stripB x0.1),W x2] .undef x0.2.2) fun x3 =>
 obind (semMv call [(AV.stripB x3.1)] .undef x3.2.2) fun x4 =>
 some (Ex.normal,[v0,v1,v2,v3,(AV.strip x4.1),v5,v6,v7,v8,v9,v10],x4.2.2) :=
  (exec_reg ..).trans (by kernel_rfl)
theorem a25s44_x : exec call n a25s44 [v0,v1,v2,v3,v4,v5,v6,v7,v8,v9,v10] st =
 m1 (AV.weak v8) fun x0 =>
 m1 (W x0) fun x1 =>
 some (Ex.normal,[v0,v1,v2,v3,v4,AV.strip x1,v6,v7,v8,v9,v10],st) :=
  (exec_reg ..).trans (by kernel_rfl)
theorem a25s56_x : exec call n a25s56 [v0,v1,v2,v3,v4,v5,v6,v7,v8,v9,v10] st =
 obind (semMv call [v4] .undef st) fun x0 =>
 m1 (AV.weak v5) fun x1 =>
 obind (p1 (semBuild [.int .u8 0,.str [],.int .i64 0,.int .i64 0] [(3,1)] call [W x1] .undef x0.2.2)) fun x2 =>
 obind (p1 (semBslice 4 [[.int .u8 0,.str [],.int .i64 0,.int .i64 0]] [0] call [W x2] .undef x0.2.2)) fun x3 =>
 obind (semApp 4 40 call [(AV.stripB x0.1),W x3] .undef x0.2.2) fun x4 =>
 obind (semMv call [(AV.stripB x4.1)] .undef x4.2.2) fun x5 =>
 m1 (.int .i64 0) fun x6 =>
 m1 (.int .i64 0) fun x7 =>
 some (Ex.normal,[v0,(AV.strip x5.1),AV.strip x6,AV.strip x7,(AV.weak v4),v5,v6,v7,v8,v9,v10],x5.2.2) :=
  (exec_reg ..).trans (by kernel_rfl)
theorem a26s1_x : exec call n a26s1 [v0,v1,v2] st =
 m1 (.bool false) fun x0 =>
 some (Ex.normal,[v0,v1,AV.strip x0],st) :=
  (exec_reg ..).trans (by kernel_rfl)
theorem a26s3_x : exec call n a26s3 [v0,v1,v2] st =
 m1 (AV.weak v0) fun x0 =>
 obind (p1 (semNilchk call [W x0] .undef st)) fun x1 =>
 obind (p1 (semFad 4 call [W x1] .undef st)) fun x2 =>
 obind (p1 (semLdSt false 1 call [W x2] .undef st)) fun x3 =>
 obind (p1 (semBin .eql call [W x3,(.int .i64 0)] .undef st)) fun x4 =>
 m1 (W x4) fun x5 =>
 gm (W x5) true (AV.weak v0) fun x6 =>
 obind (gv (W x5) true (p1 (semNilchk call [W x6] .undef st))) fun x7 =>
 obind (gv (W x5) true (p1 (semFad 0 call [W x7] .undef st))) fun x8 =>
 obind (gv (W x5) true (p1 (semLdSt false 1 call [W x8] .undef st))) fun x9 =>
 gm (W x5) true (AV.weak v0) fun x10 =>
 obind (gv (W x5) true (p1 (semNilchk call [W x10] .undef st))) fun x11 =>
 obind (gv (W x5) true (p1 (semFad 1 call [W x11] .undef st))) fun x12 =>
 obind (gv (W x5) true (p1 (semLdSt false 1 call [W x12] .undef st))) fun x13 =>
 obind (gv (W x5) true (p1 (semIad 4 call [W x9,W x13] .undef st))) fun x14 =>
 obind (gv (W x5) true (p1 (semFad 0 call [W x14] .undef st))) fun x15 =>
 obind (gv (W x5) true (p1 (semLdRo false 1 call [W x15] .undef st))) fun x16 =>
 gm (W x5) true (AV.weak v1) fun x17 =>
 obind (gv (W x5) true (p1 (semBin .eql call [W x16,W x17] .undef st))) fun x18 =>
 obind (p1 (semPick call [W x5,W x18,(.bool false)] .undef st)) fun x19 =>
 m1 (W x19) fun x20 =>
 some (Ex.normal,[v0,v1,AV.strip x20],st) :=
  (exec_reg ..).trans (by kernel_rfl)
theorem a27s1_x : exec call n a27s1 [v0,v1,v2,v3,v4,v5,v6] st =
 obind (semAlloc [.int .u8 0,.str [],.list true [],.list true []] call [] AV.undef st) fun x0 =>
 some (Ex.normal,[v0,x0.2.1,v2,v3,v4,v5,v6],x0.2.2) :=
  (exec_reg ..).trans (by kernel_rfl)
theorem a27s3_x : exec call n a27s3 [v0,v1,v2,v3,v4,v5,v6] st =
 obind (semAlloc [.int .u8 0,.str [],.list true [],.list true []] call [] AV.undef st) fun x0 =>
 some (Ex.normal,[v0,v1,x0.2.1,v3,v4,v5,v6],x0.2.2) :=
  (exec_reg ..).trans (by kernel_rfl)
theorem a27s6_x : exec call n a27s6 [v0,v1,v2,v3,v4,v5,v6] st =
 obind (p1 (semFad 0 call [(locOf 2 v2)] .undef st)) fun x0 =>
 obind (semStLc 2 1 call [W x0,(.int .u8 1)] v2 st) fun x1 =>
 some (Ex.normal,[v0,v1,x1.2.1,v3,v4,v5,v6],x1.2.2) :=
  (exec_reg ..).trans (by kernel_rfl)
theorem a27s9_x : exec call n a27s9 [v0,v1,v2,v3,v4,v5,v6] st =
 obind (p1 (semFad 0 call [(locOf 2 v2)] .undef st)) fun x0 =>
 obind (semStLc 2 1 call [W x0,(.int .u8 2)] v2 st) fun x1 =>
 some (Ex.normal,[v0,v1,x1.2.1,v3,v4,v5,v6],x1.2.2) :=
  (exec_reg ..).trans (by kernel_rfl)
theorem a27s12_x : exec call n a27s12 [v0,v1,v2,v3,v4,v5,v6] st =
 obind (p1 (semFad 0 call [(locOf 2 v2)] .undef st)) fun x0 =>
 obind (semStLc 2 1 call [W x0,(.int .u8 3)] v2 st) fun x1 =>
 some (Ex.normal,[v0,v1,x1.2.1,v3,v4,v5,v6],x1.2.2) :=
  (exec_reg ..).trans (by kernel_rfl)
theorem a27s15_x : exec call n a27s15 [v0,v1,v2,v3,v4,v5,v6] st =
 obind (p1 (semFad 0 call [(locOf 2 v2)] .undef st)) fun x0 =>
 obind (semStLc 2 1 call [W x0,(.int .u8 4)] v2 st) fun x1 =>
 some (Ex.normal,[v0,v1,x1.2.1,v3,v4,v5,v6],x1.2.2) :=
  (exec_reg ..).trans (by kernel_rfl)
theorem a27s18_x : exec call n a27s18 [v0,v1,v2,v3,v4,v5,v6] st =
 obind (p1 (semFad 0 call [(locOf 2 v2)] .undef st)) fun x0 =>
 obind (semStLc 2 1 call [W x0,(.int .u8 5)] v2 st) fun x1 =>
 some (Ex.normal,[v0,v1,x1.2.1,v3,v4,v5,v6],x1.2.2) :=
  (exec_reg ..).trans (by kernel_rfl)
def a27s20_k0 (call : CallT) (n : Nat) (v0 v1 v2 v3 v4 v5 v6 : AV) (x1 : AV × St) : Option Out :=
 some (Ex.normal,[v0,v1,v2,v3,v4,v5,v6],x1.2)
theorem a27s20_x : exec call n a27s20 [v0,v1,v2,v3,v4,v5,v6] st =
 m1 (AV.weak v0) fun x0 =>
 obind (p2 (semCall 42 call [W x0,(.int .i64 4)] .undef st)) (a27s20_k0 call n v0 v1 v2 v3 v4 v5 v6) :=
  (exec_reg ..).trans (by kernel_rfl)
theorem a27s22_x : exec call n a27s22 [v0,v1,v2,v3,v4,v5,v6] st =
 obind (p1 (semLdLc 2 true 4 call [(locOf 2 v2)] v2 st)) fun x0 =>
 obind (semStLc 1 4 call [(locOf 1 v1),(AV.stripB x0)] v1 st) fun x1 =>
 some (Ex.normal,[v0,x1.2.1,v2,v3,v4,v5,v6],x1.2.2) :=
  (exec_reg ..).trans (by kernel_rfl)
def a27s25_k0 (call : CallT) (n : Nat) (v0 v1 v2 v3 v4 v5 v6 : AV) (x1 : AV × St) : Option Out :=
 m1 (W x1.1) fun x2 =>
 brE (W x2) call n a27s18 a27s24 [v0,v1,v2,v3,v4,v5,v6] x1.2
theorem a27s25_x : exec call n a27s25 [v0,v1,v2,v3,v4,v5,v6] st =
 m1 (AV.weak v0) fun x0 =>
 obind (p2 (semCall 41 call [W x0,(.str [105,110,112,117,116])] .undef st)) (a27s25_k0 call n v0 v1 v2 v3 v4 v5 v6) :=
  (exec_testT ..).trans (by kernel_rfl)
def a27s26_k0 (call : CallT) (n : Nat) (v0 v1 v2 v3 v4 v5 v6 : AV) (x1 : AV × St) : Option Out :=
 m1 (W x1.1) fun x2 =>
 brE (W x2) call n a27s15 a27s25 [v0,v1,v2,v3,v4,v5,v6] x1.2
theorem a27s26_x : exec call n a27s26 [v0,v1,v2,v3,v4,v5,v6] st =
 m1 (AV.weak v0) fun x0 =>
 obind (p2 (semCall 41 call [W x0,(.str [101,110,117,109])] .undef st)) (a27s26_k0 call n v0 v1 v2 v3 v4 v5 v6) :=
  (exec_testT ..).trans (by kernel_rfl)
def a27s27_k0 (call : CallT) (n : Nat) (v0 v1 v2 v3 v4 v5 v6 : AV) (x1 : AV × St) : Option Out :=
 m1 (W x1.1) fun x2 =>
 brE (W x2) call n a27s12 a27s26 [v0,v1,v2,v3,v4,v5,v6] x1.2
theorem a27s27_x : exec call n a27s27 [v0,v1,v2,v3,v4,v5,v6] st =
 m1 (AV.weak v0) fun x0 =>
 obind (p2 (semCall 41 call [W x0,(.str [117,110,105,111,110])] .undef st)) (a27s27_k0 call n v0 v1 v2 v3 v4 v5 v6) :=
  (exec_testT ..).trans (by kernel_rfl)
def a27s28_k0 (call : CallT) (n : Nat) (v0 v1 v2 v3 v4 v5 v6 : AV) (x1 : AV × St) : Option Out :=
 m1 (W x1.1) fun x2 =>
 brE (W x2) call n a27s9 a27s27 [v0,v1,v2,v3,v4,v5,v6] x1.2
theorem a27s28_x : exec call n a27s28 [v0,v1,v2,v3,v4,v5,v6] st =
 m1 (AV.weak v0) fun x0 =>
 obind (p2 (semCall 41 call [W x0,(.str [105,110,116,101,114,102,97,99,101])] .undef st)) (a27s28_k0 call n v0 v1 v2 v3 v4 v5 v6) :=
  (exec_testT ..).trans (by kernel_rfl)
def a27s29_k0 (call : CallT) (n : Nat) (v0 v1 v2 v3 v4 v5 v6 : AV) (x1 : AV × St) : Option Out :=
 m1 (W x1.1) fun x2 =>
 brE (W x2) call n a27s6 a27s28 [v0,v1,v2,v3,v4,v5,v6] x1.2
theorem a27s29_x : exec call n a27s29 [v0,v1,v2,v3,v4,v5,v6] st =
 m1 (AV.weak v0) fun x0 =>
 obind (p2 (semCall 41 call [W x0,(.str [116,121,112,101])] .undef st)) (a27s29_k0 call n v0 v1 v2 v3 v4 v5 v6) :=
  (exec_testT ..).trans (by kernel_rfl)
theorem a27s32_x : exec call n a27s32 [v0,v1,v2,v3,v4,v5,v6] st =
 m1 (AV.weak v0) fun x0 =>
 obind (p1 (semNilchk call [W x0] .undef st)) fun x1 =>
 obind (p1 (semFad 1 call [W x1] .undef st)) fun x2 =>
 obind (p1 (semLdSt false 1 call [W x2] .undef st)) fun x3 =>
 obind (p1 (semBin .add call [W x3,(.int .i64 1)] .undef st)) fun x4 =>
 obind (p1 (semNilchk call [W x0] .undef st)) fun x5 =>
 obind (p1 (semFad 1 call [W x5] .undef st)) fun x6 =>
 obind (p2 (semStSt 1 call [W x6,W x4] .undef st)) fun x7 =>
 some (Ex.normal,[v0,v1,v2,v3,v4,v5,v6],x7.2) :=
  (exec_reg ..).trans (by kernel_rfl)
def a27s34_k0 (call : CallT) (n : Nat) (v0 v1 v2 v3 v4 v5 v6 : AV) (x1 : AV × St) : Option Out :=
 obind (p1 (semFad 1 call [(locOf 2 v2)] .undef x1.2)) fun x2 =>
 obind (semStLc 2 1 call [W x2,W x1.1] v2 x1.2) fun x3 =>
 some (Ex.normal,[v0,v1,x3.2.1,v3,v4,v5,v6],x3.2.2)
theorem a27s34_x : exec call n a27s34 [v0,v1,v2,v3,v4,v5,v6] st =
 m1 (AV.weak v0) fun x0 =>
 obind (p2 (semCall 43 call [W x0] .undef st)) (a27s34_k0 call n v0 v1 v2 v3 v4 v5 v6) :=
  (exec_reg ..).trans (by kernel_rfl)
theorem a27s36_x : exec call n a27s36 [v0,v1,v2,v3,v4,v5,v6] st =
 obind (p1 (semFad 0 call [(locOf 2 v2)] .undef st)) fun x0 =>
 obind (p1 (semLdLc 2 false 1 call [W x0] v2 st)) fun x1 =>
 some (Ex.normal,[v0,v1,v2,v3,v4,v5,AV.strip x1],st) :=
  (exec_reg ..).trans (by kernel_rfl)
def a27s39_k0 (call : CallT) (n : Nat) (v0 v1 v2 v3 v4 v5 v6 : AV) (x1 : AV × St) : Option Out :=
 some (Ex.normal,[v0,v1,v2,v3,v4,v5,v6],x1.2)
theorem a27s39_x : exec call n a27s39 [v0,v1,v2,v3,v4,v5,v6] st =
 m1 (AV.weak v0) fun x0 =>
 obind (p2 (semCall 44 call [W x0,(.str [61])] .undef st)) (a27s39_k0 call n v0 v1 v2 v3 v4 v5 v6) :=
  (exec_reg ..).trans (by kernel_rfl)
def a27s41_k0 (call : CallT) (n : Nat) (v0 v1 v2 v3 v4 v5 v6 : AV) (x1 : AV × St) : Option Out :=
 obind (p1 (semFad 3 call [(locOf 2 v2)] .undef x1.2)) fun x2 =>
 obind (semStLc 2 1 call [W x2,(AV.stripB x1.1)] v2 x1.2) fun x3 =>
 some (Ex.normal,[v0,v1,x3.2.1,v3,v4,v5,v6],x3.2.2)
theorem a27s41_x : exec call n a27s41 [v0,v1,v2,v3,v4,v5,v6] st =
 m1 (AV.weak v0) fun x0 =>
 obind (p2 (semCall 45 call [W x0,(.str [124])] .undef st)) (a27s41_k0 call n v0 v1 v2 v3 v4 v5 v6) :=
  (exec_reg ..).trans (by kernel_rfl)
def a27s45_k0 (call : CallT) (n : Nat) (v0 v1 v2 v3 v4 v5 v6 : AV) (x1 : AV × St) : Option Out :=
 some (Ex.normal,[v0,v1,v2,v3,v4,v5,v6],x1.2)
theorem a27s45_x : exec call n a27s45 [v0,v1,v2,v3,v4,v5,v6] st =
 m1 (AV.weak v0) fun x0 =>
 obind (p2 (semCall 44 call [W x0,(.str [123])] .undef st)) (a27s45_k0 call n v0 v1 v2 v3 v4 v5 v6) :=
  (exec_reg ..).trans (by kernel_rfl)
theorem a27s47_x : exec call n a27s47 [v0,v1,v2,v3,v4,v5,v6] st =
 m1 (.bool true) fun x0 =>
 some (Ex.normal,[v0,v1,v2,AV.strip x0,v4,v5,v6],st) :=
  (exec_reg ..).trans (by kernel_rfl)
def a27s49_k0 (call : CallT) (n : Nat) (v0 v1 v2 v3 v4 v5 v6 x5 x7 : AV) (x9 : AV × St) : Option Out :=
 obind (gv (W x7) false (p1 (semUn .not call [W x9.1] .undef x9.2))) fun x10 =>
 obind (gv (W x5) true (p1 (semPick call [W x7,(.bool true),W x10] .undef x9.2))) fun x11 =>
 obind (p1 (semPick call [W x5,W x11,(.bool false)] .undef x9.2)) fun x12 =>
 brE (W x12) call n .skip (.exit 4) [v0,v1,v2,v3,v4,v5,v6] x9.2
theorem a27s49_x : exec call n a27s49 [v0,v1,v2,v3,v4,v5,v6] st =
 m1 (AV.weak v0) fun x0 =>
 obind (p1 (semNilchk call [W x0] .undef st)) fun x1 =>
 obind (p1 (semFad 4 call [W x1] .undef st)) fun x2 =>
 obind (p1 (semLdSt false 1 call [W x2] .undef st)) fun x3 =>
 obind (p1 (semBin .eql call [W x3,(.int .i64 0)] .undef st)) fun x4 =>
 m1 (W x4) fun x5 =>
 gm (W x5) true (AV.weak v3) fun x6 =>
 gm (W x5) true (W x6) fun x7 =>
 gm (W x7) false (AV.weak v0) fun x8 =>
 obind (gv2 (W x7) false st (p2 (semCall 46 call [W x8,(.str [125])] .undef st))) (a27s49_k0 call n v0 v1 v2 v3 v4 v5 v6 x5 x7) :=
  (exec_testT ..).trans (by kernel_rfl)
def a27s52_k0 (call : CallT) (n : Nat) (v0 v1 v2 v3 v4 v5 v6 : AV) (x1 : AV × St) : Option Out :=
 some (Ex.normal,[v0,v1,v2,v3,v4,v5,v6],x1.2)
theorem a27s52_x : exec call n a27s52 [v0,v1,v2,v3,v4,v5,v6] st =
 m1 (AV.weak v0) fun x0 =>
 obind (p2 (semCall 42 call [W x0,(.int .i64 4)] .undef st)) (a27s52_k0 call n v0 v1 v2 v3 v4 v5 v6) :=
  (exec_reg ..).trans (by kernel_rfl)
def a27s53_k2 (call : CallT) (n : Nat) (v0 v1 v2 v3 v4 v5 v6 x6 : AV) (x8 : AV × St) : Option Out :=
 obind (p1 (semPick call [W x6,(.bool true),W x8.1] .undef x8.2)) fun x9 =>
 brE (W x9) call n a27s52 .skip [v0,v1,v2,v3,v4,v5,v6] x8.2
def a27s53_k1 (call : CallT) (n : Nat) (v0 v1 v2 v3 v4 v5 v6 x2 : AV) (x4 : AV × St) : Option Out :=
 obind (p1 (semPick call [W x2,(.bool true),W x4.1] .undef x4.2)) fun x5 =>
 m1 (W x5) fun x6 =>
 gm (W x6) false (AV.weak v0) fun x7 =>
 obind (gv2 (W x6) false x4.2 (p2 (semCall 41 call [W x7,(.str [110,117,108,108])] .undef x4.2))) (a27s53_k2 call n v0 v1 v2 v3 v4 v5 v6 x6)
def a27s53_k0 (call : CallT) (n : Nat) (v0 v1 v2 v3 v4 v5 v6 : AV) (x1 : AV × St) : Option Out :=
 m1 (W x1.1) fun x2 =>
 gm (W x2) false (AV.weak v0) fun x3 =>
 obind (gv2 (W x2) false x1.2 (p2 (semCall 41 call [W x3,(.str [102,97,108,115,101])] .undef x1.2))) (a27s53_k1 call n v0 v1 v2 v3 v4 v5 v6 x2)
theorem a27s53_x : exec call n a27s53 [v0,v1,v2,v3,v4,v5,v6] st =
 m1 (AV.weak v0) fun x0 =>
 obind (p2 (semCall 41 call [W x0,(.str [116,114,117,101])] .undef st)) (a27s53_k0 call n v0 v1 v2 v3 v4 v5 v6) :=
  (exec_testT ..).trans (by kernel_rfl)
def a27s55_k0 (call : CallT) (n : Nat) (v0 v1 v3 v4 v5 v6 : AV) (x1 : AV × AV × St) (x3 : AV × St) : Option Out :=
 obind (p1 (semBslice 1 [[.str []]] [0] call [W x3.1] .undef x3.2)) fun x4 =>
 obind (semApp 1 16 call [(AV.stripB x1.1),W x4] .undef x3.2) fun x5 =>
 obind (p1 (semFad 3 call [(locOf 2 x1.2.1)] .undef x5.2.2)) fun x6 =>
 obind (semStLc 2 1 call [W x6,(AV.stripB x5.1)] x1.2.1 x5.2.2) fun x7 =>
 some (Ex.normal,[v0,v1,x7.2.1,v3,v4,v5,v6],x7.2.2)
theorem a27s55_x : exec call n a27s55 [v0,v1,v2,v3,v4,v5,v6] st =
 obind (p1 (semFad 3 call [(locOf 2 v2)] .undef st)) fun x0 =>
 obind (semLdLcS 2 call [W x0] v2 st) fun x1 =>
 m1 (AV.weak v0) fun x2 =>
 obind (p2 (semCall 43 call [W x2] .undef x1.2.2)) (a27s55_k0 call n v0 v1 v3 v4 v5 v6 x1) :=
  (exec_reg ..).trans (by kernel_rfl)
theorem a27s59_x : exec call n a27s59 [v0,v1,v2,v3,v4,v5,v6] st =
 m1 (.bool false) fun x0 =>
 some (Ex.normal,[v0,v1,v2,AV.strip x0,v4,v5,v6],st) :=
  (exec_reg ..).trans (by kernel_rfl)
def a27s68_k0 (call : CallT) (n : Nat) (v0 v1 v2 v3 v4 v5 v6 : AV) (x1 : AV × St) : Option Out :=
 some (Ex.normal,[v0,v1,v2,v3,v4,v5,v6],x1.2)
theorem a27s68_x : exec call n a27s68 [v0,v1,v2,v3,v4,v5,v6] st =
 m1 (AV.weak v0) fun x0 =>
 obind (p2 (semCall 44 call [W x0,(.str [123])] .undef st)) (a27s68_k0 call n v0 v1 v2 v3 v4 v5 v6) :=
  (exec_reg ..).trans (by kernel_rfl)
def a27s70_k0 (call : CallT) (n : Nat) (v0 v1 v2 v3 v4 v5 v6 : AV) (x1 : AV × St) : Option Out :=
 obind (p1 (semFad 2 call [(locOf 2 v2)] .undef x1.2)) fun x2 =>
 obind (semStLc 2 1 call [W x2,(AV.stripB x1.1)] v2 x1.2) fun x3 =>
 some (Ex.normal,[v0,v1,x3.2.1,v3,v4,v5,v6],x3.2.2)
theorem a27s70_x : exec call n a27s70 [v0,v1,v2,v3,v4,v5,v6] st =
 m1 (AV.weak v0) fun x0 =>
 obind (p2 (semCall 47 call [W x0,(.str [125])] .undef st)) (a27s70_k0 call n v0 v1 v2 v3 v4 v5 v6) :=
  (exec_reg ..).trans (by kernel_rfl)
def a27s74_k0 (call : CallT) (n : Nat) (v0 v1 v2 v3 v4 v5 v6 : AV) (x1 : AV × St) : Option Out :=
 obind (p1 (semFad 3 call [(locOf 2 v2)] .undef x1.2)) fun x2 =>
 obind (semStLc 2 1 call [W x2,(AV.stripB x1.1)] v2 x1.2) fun x3 =>
 some (Ex.normal,[v0,v1,x3.2.1,v3,v4,v5,v6],x3.2.2)
theorem a27s74_x : exec call n a27s74 [v0,v1,v2,v3,v4,v5,v6] st =
 m1 (AV.weak v0) fun x0 =>
 obind (p2 (semCall 45 call [W x0,(.str [38])] .undef st)) (a27s74_k0 call n v0 v1 v2 v3 v4 v5 v6) :=
  (exec_reg ..).trans (by kernel_rfl)
def a27s75_k0 (call : CallT) (n : Nat) (v0 v1 v2 v3 v4 v5 v6 x3 : AV) (x5 : AV × St) : Option Out :=
 obind (p1 (semPick call [W x3,W x5.1,(.bool false)] .undef x5.2)) fun x6 =>
 brE (W x6) call n a27s74 .skip [v0,v1,v2,v3,v4,v5,v6] x5.2
theorem a27s75_x : exec call n a27s75 [v0,v1,v2,v3,v4,v5,v6] st =
 obind (p1 (semFad 0 call [(locOf 2 v2)] .undef st)) fun x0 =>
 obind (p1 (semLdLc 2 false 1 call [W x0] v2 st)) fun x1 =>
 obind (p1 (semBin .eql call [W x1,(.int .u8 1)] .undef st)) fun x2 =>
 m1 (W x2) fun x3 =>
 gm (W x3) true (AV.weak v0) fun x4 =>
 obind (gv2 (W x3) true st (p2 (semCall 46 call [W x4,(.str [105,109,112,108,101,109,101,110,116,115])] .undef st))) (a27s75_k0 call n v0 v1 v2 v3 v4 v5 v6 x3) :=
  (exec_testT ..).trans (by kernel_rfl)
def a27s77_k0 (call : CallT) (n : Nat) (v0 v1 v2 v3 v4 v5 v6 : AV) (x1 : AV × St) : Option Out :=
 some (Ex.normal,[v0,v1,v2,v3,v4,v5,v6],x1.2)
theorem a27s77_x : exec call n a27s77 [v0,v1,v2,v3,v4,v5,v6] st =
 m1 (AV.weak v0) fun x0 =>
 obind (p2 (semCall 44 call [W x0,(.str [123])] .undef st)) (a27s77_k0 call n v0 v1 v2 v3 v4 v5 v6) :=
  (exec_reg ..).trans (by kernel_rfl)
theorem a27s79_x : exec call n a27s79 [v0,v1,v2,v3,v4,v5,v6] st =
 m1 (.bool true) fun x0 =>
 some (Ex.normal,[v0,v1,v2,v3,AV.strip x0,v5,v6],st) :=
  (exec_reg ..).trans (by kernel_rfl)
def a27s81_k0 (call : CallT) (n : Nat) (v0 v1 v2 v3 v4 v5 v6 x5 x7 : AV) (x9 : AV × St) : Option Out :=
 obind (gv (W x7) false (p1 (semUn .not call [W x9.1] .undef x9.2))) fun x10 =>
 obind (gv (W x5) true (p1 (semPick call [W x7,(.bool true),W x10] .undef x9.2))) fun x11 =>
 obind (p1 (semPick call [W x5,W x11,(.bool false)] .undef x9.2)) fun x12 =>
 brE (W x12) call n .skip (.exit 2) [v0,v1,v2,v3,v4,v5,v6] x9.2
theorem a27s81_x : exec call n a27s81 [v0,v1,v2,v3,v4,v5,v6] st =
 m1 (AV.weak v0) fun x0 =>
 obind (p1 (semNilchk call [W x0] .undef st)) fun x1 =>
 obind (p1 (semFad 4 call [W x1] .undef st)) fun x2 =>
 obind (p1 (semLdSt false 1 call [W x2] .undef st)) fun x3 =>
 obind (p1 (semBin .eql call [W x3,(.int .i64 0)] .undef st)) fun x4 =>
 m1 (W x4) fun x5 =>
 gm (W x5) true (AV.weak v4) fun x6 =>
 gm (W x5) true (W x6) fun x7 =>
 gm (W x7) false (AV.weak v0) fun x8 =>
 obind (gv2 (W x7) false st (p2 (semCall 46 call [W x8,(.str [125])] .undef st))) (a27s81_k0 call n v0 v1 v2 v3 v4 v5 v6 x5 x7) :=
  (exec_testT ..).trans (by kernel_rfl)
def a27s83_k0 (call : CallT) (n : Nat) (v0 v1 v2 v3 v4 v6 : AV) (x1 : AV × St) : Option Out :=
 obind (p1 (semBuild [.str [],.list true [],.str [],.list true [],.bool false,.bool false,.int .u8 0,.int .i64 0,.str [],.list true [],.list true []] [(0,1)] call [W x1.1] .undef x1.2)) fun x2 =>
 obind (semAlloc [.str [],.list true [],.str [],.list true [],.bool false,.bool false,.int .u8 0,.int .i64 0,.str [],.list true [],.list true []] call [] AV.undef x1.2) fun x3 =>
 obind (semStLc 5 11 call [(locOf 5 x3.2.1),(AV.stripB x2)] x3.2.1 x3.2.2) fun x4 =>
 some (Ex.normal,[v0,v1,v2,v3,v4,x4.2.1,v6],x4.2.2)
theorem a27s83_x : exec call n a27s83 [v0,v1,v2,v3,v4,v5,v6] st =
 m1 (AV.weak v0) fun x0 =>
 obind (p2 (semCall 43 call [W x0] .undef st)) (a27s83_k0 call n v0 v1 v2 v3 v4 v6) :=
  (exec_reg ..).trans (by kernel_rfl)
def a27s86_k0 (call : CallT) (n : Nat) (v0 v1 v2 v3 v4 v5 v6 : AV) (x1 : AV × St) : Option Out :=
 obind (p1 (semFad 1 call [(locOf 5 v5)] .undef x1.2)) fun x2 =>
 obind (semStLc 5 1 call [W x2,(AV.stripB x1.1)] v5 x1.2) fun x3 =>
 some (Ex.normal,[v0,v1,v2,v3,v4,x3.2.1,v6],x3.2.2)
theorem a27s86_x : exec call n a27s86 [v0,v1,v2,v3,v4,v5,v6] st =
 m1 (AV.weak v0) fun x0 =>
 obind (p2 (semCall 47 call [W x0,(.str [41])] .undef st)) (a27s86_k0 call n v0 v1 v2 v3 v4 v5 v6) :=
  (exec_reg ..).trans (by kernel_rfl)
def a27s87_k0 (call : CallT) (n : Nat) (v0 v1 v2 v3 v4 v5 v6 : AV) (x1 : AV × St) : Option Out :=
 brE (W x1.1) call n a27s86 .skip [v0,v1,v2,v3,v4,v5,v6] x1.2
theorem a27s87_x : exec call n a27s87 [v0,v1,v2,v3,v4,v5,v6] st =
 m1 (AV.weak v0) fun x0 =>
 obind (p2 (semCall 46 call [W x0,(.str [40])] .undef st)) (a27s87_k0 call n v0 v1 v2 v3 v4 v5 v6) :=
  (exec_testT ..).trans (by kernel_rfl)
def a27s89_k0 (call : CallT) (n : Nat) (v0 v1 v2 v3 v4 v5 v6 : AV) (x1 : AV × St) : Option Out :=
 some (Ex.normal,[v0,v1,v2,v3,v4,v5,v6],x1.2)
theorem a27s89_x : exec call n a27s89 [v0,v1,v2,v3,v4,v5,v6] st =
 m1 (AV.weak v0) fun x0 =>
 obind (p2 (semCall 44 call [W x0,(.str [58])] .undef st)) (a27s89_k0 call n v0 v1 v2 v3 v4 v5 v6) :=
  (exec_reg ..).trans (by kernel_rfl)
def a27s91_k0 (call : CallT) (n : Nat) (v0 v1 v2 v3 v4 v5 v6 : AV) (x1 : AV × St) : Option Out :=
 obind (p1 (semFad 2 call [(locOf 5 v5)] .undef x1.2)) fun x2 =>
 obind (semStLc 5 3 call [W x2,(AV.stripB x1.1)] v5 x1.2) fun x3 =>
 some (Ex.normal,[v0,v1,v2,v3,v4,x3.2.1,v6],x3.2.2)
theorem a27s91_x : exec call n a27s91 [v0,v1,v2,v3,v4,v5,v6] st =
 m1 (AV.weak v0) fun x0 =>
 obind (p2 (semCall 48 call [W x0] .undef st)) (a27s91_k0 call n v0 v1 v2 v3 v4 v5 v6) :=
  (exec_reg ..).trans (by kernel_rfl)
theorem a27s93_x : exec call n a27s93 [v0,v1,v2,v3,v4,v5,v6] st =
 obind (p1 (semFad 2 call [(locOf 2 v2)] .undef st)) fun x0 =>
 obind (semLdLcS 2 call [W x0] v2 st) fun x1 =>
 obind (p1 (semLdLc 5 true 11 call [(locOf 5 v5)] v5 x1.2.2)) fun x2 =>
 obind (p1 (semBslice 11 [[.str [],.list true [],.str [],.list true [],.bool false,.bool false,.int .u8 0,.int .i64 0,.str [],.list true [],.list true []]] [0] call [W x2] .undef x1.2.2)) fun x3 =>
 obind (semApp 11 176 call [(AV.stripB x1.1),W x3] .undef x1.2.2) fun x4 =>
 obind (p1 (semFad 2 call [(locOf 2 x1.2.1)] .undef x4.2.2)) fun x5 =>
 obind (semStLc 2 1 call [W x5,(AV.stripB x4.1)] x1.2.1 x4.2.2) fun x6 =>
 some (Ex.normal,[v0,v1,x6.2.1,v3,v4,v5,v6],x6.2.2) :=
  (exec_reg ..).trans (by kernel_rfl)
theorem a27s100_x : exec call n a27s100 [v0,v1,v2,v3,v4,v5,v6] st =
 m1 (.bool false) fun x0 =>
 some (Ex.normal,[v0,v1,v2,v3,AV.strip x0,v5,v6],st) :=
  (exec_reg ..).trans (by kernel_rfl)
theorem a27s108_x : exec call n a27s108 [v0,v1,v2,v3,v4,v5,v6] st =
 obind (p1 (semBin .eql call [(AV.weak v6),(.int .u8 5)] .undef st)) fun x0 =>
 m1 (W x0) fun x1 =>
 brE (W x1) call n a27s71 a27s107 [v0,v1,v2,v3,v4,v5,v6] st :=
  (exec_testT ..).trans (by kernel_rfl)
theorem a27s109_x : exec call n a27s109 [v0,v1,v2,v3,v4,v5,v6] st =
 obind (p1 (semBin .eql call [(AV.weak v6),(.int .u8 4)] .undef st)) fun x0 =>
 m1 (W x0) fun x1 =>
 brE (W x1) call n a27s65 a27s108 [v0,v1,v2,v3,v4,v5,v6] st :=
  (exec_testT ..).trans (by kernel_rfl)
theorem a27s110_x : exec call n a27s110 [v0,v1,v2,v3,v4,v5,v6] st =
 obind (p1 (semBin .eql call [(AV.weak v6),(.int .u8 3)] .undef st)) fun x0 =>
 m1 (W x0) fun x1 =>
 brE (W x1) call n a27s42 a27s109 [v0,v1,v2,v3,v4,v5,v6] st :=
  (exec_testT ..).trans (by kernel_rfl)
theorem a27s114_x : exec call n a27s114 [v0,v1,v2,v3,v4,v5,v6] st =
 obind (p1 (semLdLc 2 true 4 call [(locOf 2 v2)] v2 st)) fun x0 =>
 obind (semStLc 1 4 call [(locOf 1 v1),(AV.stripB x0)] v1 st) fun x1 =>
 some (Ex.normal,[v0,x1.2.1,v2,v3,v4,v5,v6],x1.2.2) :=
  (exec_reg ..).trans (by kernel_rfl)
theorem a29s1_x : exec call n a29s1 [v0,v1,v2] st =
 m1 (.bool false) fun x0 =>
 some (Ex.normal,[v0,v1,AV.strip x0],st) :=
  (exec_reg ..).trans (by kernel_rfl)
def a29s3_k0 (call : CallT) (n : Nat) (v0 v1 : AV) (x2 : AV × St) : Option Out :=
 obind (p1 (semBin .geq call [W x2.1,(.int .i64 0)] .undef x2.2)) fun x3 =>
 m1 (W x3) fun x4 =>
 some (Ex.normal,[v0,v1,AV.strip x4],x2.2)
theorem a29s3_x : exec call n a29s3 [v0,v1,v2] st =
 m1 (AV.weak v0) fun x0 =>
 m1 (AV.weak v1) fun x1 =>
 obind (p2 (semCall 36 call [W x0,W x1] .undef st)) (a29s3_k0 call n v0 v1) :=
  (exec_reg ..).trans (by kernel_rfl)
theorem a30s1_x : exec call n a30s1 [v0,v1,v2] st =
 m1 (.bool false) fun x0 =>
 some (Ex.normal,[v0,v1,AV.strip x0],st) :=
  (exec_reg ..).trans (by kernel_rfl)
def a30s3_k0 (call : CallT) (n : Nat) (v0 v1 : AV) (x2 : AV × St) : Option Out :=
 m1 (W x2.1) fun x3 =>
 some (Ex.normal,[v0,v1,AV.strip x3],x2.2)
theorem a30s3_x : exec call n a30s3 [v0,v1,v2] st =
 m1 (AV.weak v0) fun x0 =>
 m1 (AV.weak v1) fun x1 =>
 obind (p2 (semCall 49 call [W x0,W x1] .undef st)) (a30s3_k0 call n v0 v1) :=
  (exec_reg ..).trans (by kernel_rfl)
theorem a31s1_x : exec call n a31s1 [v0,v1,v2,v3,v4,v5,v6,v7,v8,v9,v10,v11,v12,v13,v14,v15,v16,v17,v18] st =
 obind (semBoxV call [(AV.weak v1)] AV.undef st) fun x0 =>
 obind (semAlloc [.int .i64 0,.str []] call [] AV.undef x0.2.2) fun x1 =>
 some (Ex.normal,[v0,v1,x0.2.1,x1.2.1,v4,v5,v6,v7,v8,v9,v10,v11,v12,v13,v14,v15,v16,v17,v18],x1.2.2) :=
  (exec_reg ..).trans (by kernel_rfl)
def a31s3_k1 (call : CallT) (n : Nat) (v0 v1 v2 v3 v5 v6 v7 v8 v9 v10 v11 v12 v13 v14 v15 v16 v17 v18 : AV) (x6 : AV × St) : Option Out :=
 obind (semAlloc [.int .i64 0,.str []] call [] AV.undef x6.2) fun x7 =>
 obind (semStLc 4 2 call [(locOf 4 x7.2.1),W x6.1] x7.2.1 x7.2.2) fun x8 =>
 some (Ex.normal,[v0,v1,v2,v3,x8.2.1,v5,v6,v7,v8,v9,v10,v11,v12,v13,v14,v15,v16,v17,v18],x8.2.2)
def a31s3_k0 (call : CallT) (n : Nat) (v0 v1 v2 v3 v5 v6 v7 v8 v9 v10 v11 v12 v13 v14 v15 v16 v17 v18 : AV) (x2 : AV × St) : Option Out :=
 obind (p1 (semFad 3 call [(locOf 2 v2)] .undef x2.2)) fun x3 =>
 obind (p1 (semLdLc 2 false 1 call [W x3] v2 x2.2)) fun x4 =>
 obind (semApp 1 16 call [(AV.stripB x2.1),W x4] .undef x2.2) fun x5 =>
 obind (p2 (semCall 50 call [W x5.1] .undef x5.2.2)) (a31s3_k1 call n v0 v1 v2 v3 v5 v6 v7 v8 v9 v10 v11 v12 v13 v14 v15 v16 v17 v18)
theorem a31s3_x : exec call n a31s3 [v0,v1,v2,v3,v4,v5,v6,v7,v8,v9,v10,v11,v12,v13,v14,v15,v16,v17,v18] st =
 obind (p1 (semFad 2 call [(locOf 2 v2)] .undef st)) fun x0 =>
 obind (p1 (semLdLc 2 false 1 call [W x0] v2 st)) fun x1 =>
 obind (p2 (semCall 37 call [W x1] .undef st)) (a31s3_k0 call n v0 v1 v2 v3 v5 v6 v7 v8 v9 v10 v11 v12 v13 v14 v15 v16 v17 v18) :=
  (exec_reg ..).trans (by kernel_rfl)
theorem a31s6_x : exec call n a31s6 [v0,v1,v2,v3,v4,v5,v6,v7,v8,v9,v10,v11,v12,v13,v14,v15,v16,v17,v18] st =
 obind (p1 (semLdLc 4 true 2 call [(locOf 4 v4)] v4 st)) fun x0 =>
 obind (semStLc 3 2 call [(locOf 3 v3),W x0] v3 st) fun x1 =>
 some (Ex.normal,[v0,v1,v2,x1.2.1,v4,v5,v6,v7,v8,v9,v10,v11,v12,v13,v14,v15,v16,v17,v18],x1.2.2) :=
  (exec_reg ..).trans (by kernel_rfl)
theorem a31s8_x : exec call n a31s8 [v0,v1,v2,v3,v4,v5,v6,v7,v8,v9,v10,v11,v12,v13,v14,v15,v16,v17,v18] st =
 obind (p1 (semFad 0 call [(locOf 4 v4)] .undef st)) fun x0 =>
 obind (p1 (semLdLc 4 false 1 call [W x0] v4 st)) fun x1 =>
 obind (p1 (semBin .neq call [W x1,(.int .i64 0)] .undef st)) fun x2 =>
 m1 (W x2) fun x3 =>
 obind (gv (W x3) true (p1 (semFad 0 call [(locOf 2 v2)] .undef st))) fun x4 =>
 obind (gv (W x3) true (p1 (semLdLc 2 false 1 call [W x4] v2 st))) fun x5 =>
 obind (gv (W x3) true (p1 (semBin .neq call [W x5,(.int .u8 1)] .undef st))) fun x6 =>
 obind (p1 (semPick call [W x3,W x6,(.bool false)] .undef st)) fun x7 =>
 brE (W x7) call n a31s7 .skip [v0,v1,v2,v3,v4,v5,v6,v7,v8,v9,v10,v11,v12,v13,v14,v15,v16,v17,v18] st :=
  (exec_testT ..).trans (by kernel_rfl)
def a31s11_k1 (call : CallT) (n : Nat) (v0 v1 v2 v3 v4 v6 v7 v8 v9 v10 v11 v12 v13 v14 v15 v16 v17 v18 : AV) (x3 : AV × St) : Option Out :=
 obind (semAlloc [.int .i64 0,.str []] call [] AV.undef x3.2) fun x4 =>
 obind (semStLc 5 2 call [(locOf 5 x4.2.1),W x3.1] x4.2.1 x4.2.2) fun x5 =>
 some (Ex.normal,[v0,v1,v2,v3,v4,x5.2.1,v6,v7,v8,v9,v10,v11,v12,v13,v14,v15,v16,v17,v18],x5.2.2)
def a31s11_k0 (call : CallT) (n : Nat) (v0 v1 v2 v3 v4 v6 v7 v8 v9 v10 v11 v12 v13 v14 v15 v16 v17 v18 : AV) (x2 : AV × St) : Option Out :=
 obind (p2 (semCall 50 call [W x2.1] .undef x2.2)) (a31s11_k1 call n v0 v1 v2 v3 v4 v6 v7 v8 v9 v10 v11 v12 v13 v14 v15 v16 v17 v18)
theorem a31s11_x : exec call n a31s11 [v0,v1,v2,v3,v4,v5,v6,v7,v8,v9,v10,v11,v12,v13,v14,v15,v16,v17,v18] st =
 obind (p1 (semFad 2 call [(locOf 2 v2)] .undef st)) fun x0 =>
 obind (p1 (semLdLc 2 false 1 call [W x0] v2 st)) fun x1 =>
 obind (p2 (semCall 37 call [W x1] .undef st)) (a31s11_k0 call n v0 v1 v2 v3 v4 v6 v7 v8 v9 v10 v11 v12 v13 v14 v15 v16 v17 v18) :=
  (exec_reg ..).trans (by kernel_rfl)
theorem a31s14_x : exec call n a31s14 [v0,v1,v2,v3,v4,v5,v6,v7,v8,v9,v10,v11,v12,v13,v14,v15,v16,v17,v18] st =
 obind (p1 (semLdLc 5 true 2 call [(locOf 5 v5)] v5 st)) fun x0 =>
 obind (semStLc 3 2 call [(locOf 3 v3),W x0] v3 st) fun x1 =>
 some (Ex.normal,[v0,v1,v2,x1.2.1,v4,v5,v6,v7,v8,v9,v10,v11,v12,v13,v14,v15,v16,v17,v18],x1.2.2) :=
  (exec_reg ..).trans (by kernel_rfl)
theorem a31s16_x : exec call n a31s16 [v0,v1,v2,v3,v4,v5,v6,v7,v8,v9,v10,v11,v12,v13,v14,v15,v16,v17,v18] st =
 obind (p1 (semFad 0 call [(locOf 5 v5)] .undef st)) fun x0 =>
 obind (p1 (semLdLc 5 false 1 call [W x0] v5 st)) fun x1 =>
 obind (p1 (semBin .neq call [W x1,(.int .i64 0)] .undef st)) fun x2 =>
 brE (W x2) call n a31s15 .skip [v0,v1,v2,v3,v4,v5,v6,v7,v8,v9,v10,v11,v12,v13,v14,v15,v16,v17,v18] st :=
  (exec_testT ..).trans (by kernel_rfl)
def a31s19_k0 (call : CallT) (n : Nat) (v0 v1 v2 v3 v4 v5 v7 v8 v9 v10 v11 v12 v13 v14 v15 v16 v17 v18 : AV) (x2 : AV × St) : Option Out :=
 obind (semAlloc [.int .i64 0,.str []] call [] AV.undef x2.2) fun x3 =>
 obind (semStLc 6 2 call [(locOf 6 x3.2.1),W x2.1] x3.2.1 x3.2.2) fun x4 =>
 some (Ex.normal,[v0,v1,v2,v3,v4,v5,x4.2.1,v7,v8,v9,v10,v11,v12,v13,v14,v15,v16,v17,v18],x4.2.2)
theorem a31s19_x : exec call n a31s19 [v0,v1,v2,v3,v4,v5,v6,v7,v8,v9,v10,v11,v12,v13,v14,v15,v16,v17,v18] st =
 obind (p1 (semFad 3 call [(locOf 2 v2)] .undef st)) fun x0 =>
 obind (p1 (semLdLc 2 false 1 call [W x0] v2 st)) fun x1 =>
 obind (p2 (semCall 50 call [W x1] .undef st)) (a31s19_k0 call n v0 v1 v2 v3 v4 v5 v7 v8 v9 v10 v11 v12 v13 v14 v15 v16 v17 v18) :=
  (exec_reg ..).trans (by kernel_rfl)
theorem a31s22_x : exec call n a31s22 [v0,v1,v2,v3,v4,v5,v6,v7,v8,v9,v10,v11,v12,v13,v14,v15,v16,v17,v18] st =
 obind (p1 (semLdLc 6 true 2 call [(locOf 6 v6)] v6 st)) fun x0 =>
 obind (semStLc 3 2 call [(locOf 3 v3),W x0] v3 st) fun x1 =>
 some (Ex.normal,[v0,v1,v2,x1.2.1,v4,v5,v6,v7,v8,v9,v10,v11,v12,v13,v14,v15,v16,v17,v18],x1.2.2) :=
  (exec_reg ..).trans (by kernel_rfl)
theorem a31s24_x : exec call n a31s24 [v0,v1,v2,v3,v4,v5,v6,v7,v8,v9,v10,v11,v12,v13,v14,v15,v16,v17,v18] st =
 obind (p1 (semFad 0 call [(locOf 6 v6)] .undef st)) fun x0 =>
 obind (p1 (semLdLc 6 false 1 call [W x0] v6 st)) fun x1 =>
 obind (p1 (semBin .neq call [W x1,(.int .i64 0)] .undef st)) fun x2 =>
 brE (W x2) call n a31s23 .skip [v0,v1,v2,v3,v4,v5,v6,v7,v8,v9,v10,v11,v12,v13,v14,v15,v16,v17,v18] st :=
  (exec_testT ..).trans (by kernel_rfl)
theorem a31s27_x : exec call n a31s27 [v0,v1,v2,v3,v4,v5,v6,v7,v8,v9,v10,v11,v12,v13,v14,v15,v16,v17,v18] st =
 obind (p1 (semFad 2 call [(locOf 2 v2)] .undef st)) fun x0 =>
 obind (p1 (semLdLc 2 false 1 call [W x0] v2 st)) fun x1 =>
 obind (p1 (semLenL call [(AV.weak (AV.strip x1))] .undef st)) fun x2 =>
 m1 (.int .i64 0) fun x3 =>
 some (Ex.normal,[v0,v1,v2,v3,v4,v5,v6,v7,v8,v9,v10,v11,v12,AV.strip x1,AV.strip x2,AV.strip x3,v16,v17,v18],st) :=
  (exec_reg ..).trans (by kernel_rfl)
theorem a31s29_x : exec call n a31s29 [v0,v1,v2,v3,v4,v5,v6,v7,v8,v9,v10,v11,v12,v13,v14,v15,v16,v17,v18] st =
 obind (p1 (semBin .lss call [(AV.weak v15),(AV.weak v14)] .undef st)) fun x0 =>
 brE (W x0) call n .skip (.exit 0) [v0,v1,v2,v3,v4,v5,v6,v7,v8,v9,v10,v11,v12,v13,v14,v15,v16,v17,v18] st :=
  (exec_testT ..).trans (by kernel_rfl)
theorem a31s31_x : exec call n a31s31 [v0,v1,v2,v3,v4,v5,v6,v7,v8,v9,v10,v11,v12,v13,v14,v15,v16,v17,v18] st =
 obind (p1 (semIad 11 call [(AV.weak v13),(AV.weak v15)] .undef st)) fun x0 =>
 obind (p1 (semLdRo true 11 call [W x0] .undef st)) fun x1 =>
 obind (semAlloc [.str [],.list true [],.str [],.list true [],.bool false,.bool false,.int .u8 0,.int .i64 0,.str [],.list true [],.list true []] call [] AV.undef st) fun x2 =>
 obind (semStLc 7 11 call [(locOf 7 x2.2.1),(AV.stripB x1)] x2.2.1 x2.2.2) fun x3 =>
 some (Ex.normal,[v0,v1,v2,v3,v4,v5,v6,x3.2.1,v8,v9,v10,v11,v12,v13,v14,v15,v16,v17,v18],x3.2.2) :=
  (exec_reg ..).trans (by kernel_rfl)
def a31s33_k0 (call : CallT) (n : Nat) (v0 v1 v2 v3 v4 v5 v6 v7 v9 v10 v11 v12 v13 v14 v15 v16 v17 v18 : AV) (x5 : AV × St) : Option Out :=
 obind (semAlloc [.int .i64 0,.str []] call [] AV.undef x5.2) fun x6 =>
 obind (semStLc 8 2 call [(locOf 8 x6.2.1),W x5.1] x6.2.1 x6.2.2) fun x7 =>
 some (Ex.normal,[v0,v1,v2,v3,v4,v5,v6,v7,x7.2.1,v9,v10,v11,v12,v13,v14,v15,v16,v17,v18],x7.2.2)
theorem a31s33_x : exec call n a31s33 [v0,v1,v2,v3,v4,v5,v6,v7,v8,v9,v10,v11,v12,v13,v14,v15,v16,v17,v18] st =
 m1 (AV.weak v0) fun x0 =>
 obind (p1 (semLdLc 7 true 11 call [(locOf 7 v7)] v7 st)) fun x1 =>
 obind (p1 (semFad 0 call [(locOf 2 v2)] .undef st)) fun x2 =>
 obind (p1 (semLdLc 2 false 1 call [W x2] v2 st)) fun x3 =>
 obind (p1 (semBin .eql call [W x3,(.int .u8 5)] .undef st)) fun x4 =>
 obind (p2 (semCall 51 call [W x0,W x1,W x4] .undef st)) (a31s33_k0 call n v0 v1 v2 v3 v4 v5 v6 v7 v9 v10 v11 v12 v13 v14 v15 v16 v17 v18) :=
  (exec_reg ..).trans (by kernel_rfl)
theorem a31s36_x : exec call n a31s36 [v0,v1,v2,v3,v4,v5,v6,v7,v8,v9,v10,v11,v12,v13,v14,v15,v16,v17,v18] st =
 obind (p1 (semLdLc 8 true 2 call [(locOf 8 v8)] v8 st)) fun x0 =>
 obind (semStLc 3 2 call [(locOf 3 v3),W x0] v3 st) fun x1 =>
 some (Ex.normal,[v0,v1,v2,x1.2.1,v4,v5,v6,v7,v8,v9,v10,v11,v12,v13,v14,v15,v16,v17,v18],x1.2.2) :=
  (exec_reg ..).trans (by kernel_rfl)
theorem a31s38_x : exec call n a31s38 [v0,v1,v2,v3,v4,v5,v6,v7,v8,v9,v10,v11,v12,v13,v14,v15,v16,v17,v18] st =
 obind (p1 (semFad 0 call [(locOf 8 v8)] .undef st)) fun x0 =>
 obind (p1 (semLdLc 8 false 1 call [W x0] v8 st)) fun x1 =>
 obind (p1 (semBin .neq call [W x1,(.int .i64 0)] .undef st)) fun x2 =>
 brE (W x2) call n a31s37 .skip [v0,v1,v2,v3,v4,v5,v6,v7,v8,v9,v10,v11,v12,v13,v14,v15,v16,v17,v18] st :=
  (exec_testT ..).trans (by kernel_rfl)
theorem a31s43_x : exec call n a31s43 [v0,v1,v2,v3,v4,v5,v6,v7,v8,v9,v10,v11,v12,v13,v14,v15,v16,v17,v18] st =
 obind (p1 (semBin .add call [(AV.weak v15),(.int .i64 1)] .undef st)) fun x0 =>
 m1 (W x0) fun x1 =>
 some (Ex.normal,[v0,v1,v2,v3,v4,v5,v6,v7,v8,v9,v10,v11,v12,v13,v14,AV.strip x1,v16,v17,v18],st) :=
  (exec_reg ..).trans (by kernel_rfl)
theorem a31s50_x : exec call n a31s50 [v0,v1,v2,v3,v4,v5,v6,v7,v8,v9,v10,v11,v12,v13,v14,v15,v16,v17,v18] st =
 obind (p2 (semMkM call [] .undef st)) fun x0 =>
 obind (p2 (semMset 0 call [W x0.1,(.int .u8 1),(.int .u8 2)] .undef x0.2)) fun x1 =>
 obind (p2 (semMset 0 call [W x0.1,(.int .u8 3),(.int .u8 1)] .undef x1.2)) fun x2 =>
 m1 (W x0.1) fun x3 =>
 obind (p1 (semFad 0 call [(locOf 2 v2)] .undef x2.2)) fun x4 =>
 obind (p1 (semLdLc 2 false 1 call [W x4] v2 x2.2)) fun x5 =>
 obind (p1 (semMget 0 [.int .u8 0] false false call [W x3,W x5] .undef x2.2)) fun x6 =>
 m1 (W x6) fun x7 =>
 some (Ex.normal,[v0,v1,v2,v3,v4,v5,v6,v7,v8,AV.strip x7,v10,v11,v12,v13,v14,v15,v16,v17,v18],x2.2) :=
  (exec_reg ..).trans (by kernel_rfl)
theorem a31s52_x : exec call n a31s52 [v0,v1,v2,v3,v4,v5,v6,v7,v8,v9,v10,v11,v12,v13,v14,v15,v16,v17,v18] st =
 obind (p1 (semFad 3 call [(locOf 2 v2)] .undef st)) fun x0 =>
 obind (p1 (semLdLc 2 false 1 call [W x0] v2 st)) fun x1 =>
 obind (p1 (semLenL call [(AV.weak (AV.strip x1))] .undef st)) fun x2 =>
 m1 (.int .i64 0) fun x3 =>
 some (Ex.normal,[v0,v1,v2,v3,v4,v5,v6,v7,v8,v9,v10,v11,v12,v13,v14,v15,AV.strip x1,AV.strip x2,AV.strip x3],st) :=
  (exec_reg ..).trans (by kernel_rfl)
theorem a31s54_x : exec call n a31s54 [v0,v1,v2,v3,v4,v5,v6,v7,v8,v9,v10,v11,v12,v13,v14,v15,v16,v17,v18] st =
 obind (p1 (semBin .lss call [(AV.weak v18),(AV.weak v17)] .undef st)) fun x0 =>
 brE (W x0) call n .skip (.exit 2) [v0,v1,v2,v3,v4,v5,v6,v7,v8,v9,v10,v11,v12,v13,v14,v15,v16,v17,v18] st :=
  (exec_testT ..).trans (by kernel_rfl)
theorem a31s56_x : exec call n a31s56 [v0,v1,v2,v3,v4,v5,v6,v7,v8,v9,v10,v11,v12,v13,v14,v15,v16,v17,v18] st =
 obind (p1 (semIad 1 call [(AV.weak v16),(AV.weak v18)] .undef st)) fun x0 =>
 obind (p1 (semLdRo false 1 call [W x0] .undef st)) fun x1 =>
 m1 (W x1) fun x2 =>
 some (Ex.normal,[v0,v1,v2,v3,v4,v5,v6,v7,v8,v9,AV.strip x2,v11,v12,v13,v14,v15,v16,v17,v18],st) :=
  (exec_reg ..).trans (by kernel_rfl)
def a31s58_k0 (call : CallT) (n : Nat) (v0 v1 v2 v3 v4 v5 v6 v7 v8 v9 v10 v13 v14 v15 v16 v17 v18 : AV) (x2 : AV × St) : Option Out :=
 m1 (W x2.1) fun x3 =>
 obind (p1 (semExt 0 call [W x3] .undef x2.2)) fun x4 =>
 obind (p1 (semExt 1 call [W x3] .undef x2.2)) fun x5 =>
 obind (semAlloc [.int .u8 0,.str [],.list true [],.list true []] call [] AV.undef x2.2) fun x6 =>
 obind (semStLc 11 4 call [(locOf 11 x6.2.1),(AV.stripB x4)] x6.2.1 x6.2.2) fun x7 =>
 m1 (W x5) fun x8 =>
 some (Ex.normal,[v0,v1,v2,v3,v4,v5,v6,v7,v8,v9,v10,x7.2.1,AV.strip x8,v13,v14,v15,v16,v17,v18],x7.2.2)
theorem a31s58_x : exec call n a31s58 [v0,v1,v2,v3,v4,v5,v6,v7,v8,v9,v10,v11,v12,v13,v14,v15,v16,v17,v18] st =
 m1 (AV.weak v0) fun x0 =>
 m1 (AV.weak v10) fun x1 =>
 obind (p2 (semCall 15 call [W x0,W x1] .undef st)) (a31s58_k0 call n v0 v1 v2 v3 v4 v5 v6 v7 v8 v9 v10 v13 v14 v15 v16 v17 v18) :=
  (exec_reg ..).trans (by kernel_rfl)
theorem a31s62_x : exec call n a31s62 [v0,v1,v2,v3,v4,v5,v6,v7,v8,v9,v10,v11,v12,v13,v14,v15,v16,v17,v18] st =
 m1 (AV.weak v10) fun x0 =>
 obind (p1 (semBuild [.int .i64 0,.str []] [(0,1),(1,1)] call [(.int .i64 6),W x0] .undef st)) fun x1 =>
 obind (semStLc 3 2 call [(locOf 3 v3),W x1] v3 st) fun x2 =>
 some (Ex.normal,[v0,v1,v2,x2.2.1,v4,v5,v6,v7,v8,v9,v10,v11,v12,v13,v14,v15,v16,v17,v18],x2.2.2) :=
  (exec_reg ..).trans (by kernel_rfl)
theorem a31s66_x : exec call n a31s66 [v0,v1,v2,v3,v4,v5,v6,v7,v8,v9,v10,v11,v12,v13,v14,v15,v16,v17,v18] st =
 m1 (AV.weak v10) fun x0 =>
 obind (p1 (semBuild [.int .i64 0,.str []] [(0,1),(1,1)] call [(.int .i64 8),W x0] .undef st)) fun x1 =>
 obind (semStLc 3 2 call [(locOf 3 v3),W x1] v3 st) fun x2 =>
 some (Ex.normal,[v0,v1,v2,x2.2.1,v4,v5,v6,v7,v8,v9,v10,v11,v12,v13,v14,v15,v16,v17,v18],x2.2.2) :=
  (exec_reg ..).trans (by kernel_rfl)
theorem a31s70_x : exec call n a31s70 [v0,v1,v2,v3,v4,v5,v6,v7,v8,v9,v10,v11,v12,v13,v14,v15,v16,v17,v18] st =
 m1 (AV.weak v10) fun x0 =>
 obind (p1 (semBuild [.int .i64 0,.str []] [(0,1),(1,1)] call [(.int .i64 3),W x0] .undef st)) fun x1 =>
 obind (semStLc 3 2 call [(locOf 3 v3),W x1] v3 st) fun x2 =>
 some (Ex.normal,[v0,v1,v2,x2.2.1,v4,v5,v6,v7,v8,v9,v10,v11,v12,v13,v14,v15,v16,v17,v18],x2.2.2) :=
  (exec_reg ..).trans (by kernel_rfl)
def a31s72_k0 (call : CallT) (n : Nat) (v0 v1 v2 v3 v4 v5 v6 v7 v8 v9 v10 v11 v12 v13 v14 v15 v16 v17 v18 x3 : AV) (x7 : AV × St) : Option Out :=
 obind (gv (W x3) true (p1 (semUn .not call [W x7.1] .undef x7.2))) fun x8 =>
 obind (p1 (semPick call [W x3,W x8,(.bool false)] .undef x7.2)) fun x9 =>
 m1 (W x9) fun x10 =>
 brE (W x10) call n a31s71 .skip [v0,v1,v2,v3,v4,v5,v6,v7,v8,v9,v10,v11,v12,v13,v14,v15,v16,v17,v18] x7.2
theorem a31s72_x : exec call n a31s72 [v0,v1,v2,v3,v4,v5,v6,v7,v8,v9,v10,v11,v12,v13,v14,v15,v16,v17,v18] st =
 obind (p1 (semFad 0 call [(locOf 2 v2)] .undef st)) fun x0 =>
 obind (p1 (semLdLc 2 false 1 call [W x0] v2 st)) fun x1 =>
 obind (p1 (semBin .eql call [W x1,(.int .u8 1)] .undef st)) fun x2 =>
 m1 (W x2) fun x3 =>
 gm (W x3) true (AV.weak v0) fun x4 =>
 obind (gv (W x3) true (p1 (semLdLc 2 true 4 call [(locOf 2 v2)] v2 st))) fun x5 =>
 obind (gv (W x3) true (p1 (semLdLc 11 true 4 call [(locOf 11 v11)] v11 st))) fun x6 =>
 obind (gv2 (W x3) true st (p2 (semCall 52 call [W x4,W x5,W x6] .undef st))) (a31s72_k0 call n v0 v1 v2 v3 v4 v5 v6 v7 v8 v9 v10 v11 v12 v13 v14 v15 v16 v17 v18 x3) :=
  (exec_testT ..).trans (by kernel_rfl)
def a31s73_k0 (call : CallT) (n : Nat) (v0 v1 v2 v3 v4 v5 v6 v7 v8 v9 v10 v11 v12 v13 v14 v15 v16 v17 v18 x4 : AV) (x6 : AV × St) : Option Out :=
 obind (p1 (semPick call [W x4,(.bool true),W x6.1] .undef x6.2)) fun x7 =>
 m1 (W x7) fun x8 =>
 brE (W x8) call n a31s67 a31s72 [v0,v1,v2,v3,v4,v5,v6,v7,v8,v9,v10,v11,v12,v13,v14,v15,v16,v17,v18] x6.2
theorem a31s73_x : exec call n a31s73 [v0,v1,v2,v3,v4,v5,v6,v7,v8,v9,v10,v11,v12,v13,v14,v15,v16,v17,v18] st =
 obind (p1 (semFad 0 call [(locOf 11 v11)] .undef st)) fun x0 =>
 obind (p1 (semLdLc 11 false 1 call [W x0] v11 st)) fun x1 =>
 m1 (AV.weak v9) fun x2 =>
 obind (p1 (semBin .neq call [W x1,W x2] .undef st)) fun x3 =>
 m1 (W x3) fun x4 =>
 gm (W x4) false (AV.weak v10) fun x5 =>
 obind (gv2 (W x4) false st (p2 (semCall 34 call [W x5] .undef st))) (a31s73_k0 call n v0 v1 v2 v3 v4 v5 v6 v7 v8 v9 v10 v11 v12 v13 v14 v15 v16 v17 v18 x4) :=
  (exec_testT ..).trans (by kernel_rfl)
theorem a31s74_x : exec call n a31s74 [v0,v1,v2,v3,v4,v5,v6,v7,v8,v9,v10,v11,v12,v13,v14,v15,v16,v17,v18] st =
 m1 (AV.weak v12) fun x0 =>
 obind (p1 (semUn .not call [W x0] .undef st)) fun x1 =>
 m1 (W x1) fun x2 =>
 brE (W x2) call n a31s63 a31s73 [v0,v1,v2,v3,v4,v5,v6,v7,v8,v9,v10,v11,v12,v13,v14,v15,v16,v17,v18] st :=
  (exec_testT ..).trans (by kernel_rfl)
theorem a31s75_x : exec call n a31s75 [v0,v1,v2,v3,v4,v5,v6,v7,v8,v9,v10,v11,v12,v13,v14,v15,v16,v17,v18] st =
 obind (p1 (semFad 0 call [(locOf 2 v2)] .undef st)) fun x0 =>
 obind (p1 (semLdLc 2 false 1 call [W x0] v2 st)) fun x1 =>
 obind (p1 (semBin .eql call [W x1,(.int .u8 4)] .undef st)) fun x2 =>
 m1 (W x2) fun x3 =>
 brE (W x3) call n .skip a31s74 [v0,v1,v2,v3,v4,v5,v6,v7,v8,v9,v10,v11,v12,v13,v14,v15,v16,v17,v18] st :=
  (exec_testT ..).trans (by kernel_rfl)
theorem a31s81_x : exec call n a31s81 [v0,v1,v2,v3,v4,v5,v6,v7,v8,v9,v10,v11,v12,v13,v14,v15,v16,v17,v18] st =
 obind (p1 (semBin .add call [(AV.weak v18),(.int .i64 1)] .undef st)) fun x0 =>
 m1 (W x0) fun x1 =>
 some (Ex.normal,[v0,v1,v2,v3,v4,v5,v6,v7,v8,v9,v10,v11,v12,v13,v14,v15,v16,v17,AV.strip x1],st) :=
  (exec_reg ..).trans (by kernel_rfl)
theorem a31s88_x : exec call n a31s88 [v0,v1,v2,v3,v4,v5,v6,v7,v8,v9,v10,v11,v12,v13,v14,v15,v16,v17,v18] st =
 obind (p1 (semBuild [.int .i64 0,.str []] [] call [] .undef st)) fun x0 =>
 obind (semStLc 3 2 call [(locOf 3 v3),W x0] v3 st) fun x1 =>
 some (Ex.normal,[v0,v1,v2,x1.2.1,v4,v5,v6,v7,v8,v9,v10,v11,v12,v13,v14,v15,v16,v17,v18],x1.2.2) :=
  (exec_reg ..).trans (by kernel_rfl)
theorem a32s1_x : exec call n a32s1 [v0,v1,v2,v3,v4,v5,v6,v7,v8,v9] st =
 obind (semBoxV call [(AV.weak v1)] AV.undef st) fun x0 =>
 obind (semAlloc [.int .i64 0,.str []] call [] AV.undef x0.2.2) fun x1 =>
 some (Ex.normal,[v0,v1,x0.2.1,x1.2.1,v4,v5,v6,v7,v8,v9],x1.2.2) :=
  (exec_reg ..).trans (by kernel_rfl)
theorem a32s4_x : exec call n a32s4 [v0,v1,v2,v3,v4,v5,v6,v7,v8,v9] st =
 obind (p1 (semBuild [.int .i64 0,.str []] [] call [] .undef st)) fun x0 =>
 obind (semStLc 3 2 call [(locOf 3 v3),W x0] v3 st) fun x1 =>
 some (Ex.normal,[v0,v1,v2,x1.2.1,v4,v5,v6,v7,v8,v9],x1.2.2) :=
  (exec_reg ..).trans (by kernel_rfl)
theorem a32s6_x : exec call n a32s6 [v0,v1,v2,v3,v4,v5,v6,v7,v8,v9] st =
 obind (p1 (semFad 0 call [(locOf 2 v2)] .undef st)) fun x0 =>
 obind (p1 (semLdLc 2 false 1 call [W x0] v2 st)) fun x1 =>
 obind (p1 (semBin .neq call [W x1,(.int .u8 1)] .undef st)) fun x2 =>
 m1 (W x2) fun x3 =>
 obind (gv (W x3) true (p1 (semFad 0 call [(locOf 2 v2)] .undef st))) fun x4 =>
 obind (gv (W x3) true (p1 (semLdLc 2 false 1 call [W x4] v2 st))) fun x5 =>
 obind (gv (W x3) true (p1 (semBin .neq call [W x5,(.int .u8 2)] .undef st))) fun x6 =>
 obind (p1 (semPick call [W x3,W x6,(.bool false)] .undef st)) fun x7 =>
 brE (W x7) call n a32s5 .skip [v0,v1,v2,v3,v4,v5,v6,v7,v8,v9] st :=
  (exec_testT ..).trans (by kernel_rfl)
theorem a32s8_x : exec call n a32s8 [v0,v1,v2,v3,v4,v5,v6,v7,v8,v9] st =
 obind (p1 (semFad 2 call [(locOf 2 v2)] .undef st)) fun x0 =>
 obind (p1 (semLdLc 2 false 1 call [W x0] v2 st)) fun x1 =>
 obind (p1 (semLenL call [(AV.weak (AV.strip x1))] .undef st)) fun x2 =>
 m1 (.int .i64 0) fun x3 =>
 some (Ex.normal,[v0,v1,v2,v3,v4,v5,AV.strip x1,AV.strip x2,AV.strip x3,v9],st) :=
  (exec_reg ..).trans (by kernel_rfl)
theorem a32s10_x : exec call n a32s10 [v0,v1,v2,v3,v4,v5,v6,v7,v8,v9] st =
 obind (p1 (semBin .lss call [(AV.weak v8),(AV.weak v7)] .undef st)) fun x0 =>
 brE (W x0) call n .skip (.exit 0) [v0,v1,v2,v3,v4,v5,v6,v7,v8,v9] st :=
  (exec_testT ..).trans (by kernel_rfl)
theorem a32s12_x : exec call n a32s12 [v0,v1,v2,v3,v4,v5,v6,v7,v8,v9] st =
 obind (p1 (semIad 11 call [(AV.weak v6),(AV.weak v8)] .undef st)) fun x0 =>
 obind (p1 (semLdRo true 11 call [W x0] .undef st)) fun x1 =>
 obind (semAlloc [.str [],.list true [],.str [],.list true [],.bool false,.bool false,.int .u8 0,.int .i64 0,.str [],.list true [],.list true []] call [] AV.undef st) fun x2 =>
 obind (semStLc 4 11 call [(locOf 4 x2.2.1),(AV.stripB x1)] x2.2.1 x2.2.2) fun x3 =>
 some (Ex.normal,[v0,v1,v2,v3,x3.2.1,v5,v6,v7,v8,v9],x3.2.2) :=
  (exec_reg ..).trans (by kernel_rfl)
theorem a32s14_x : exec call n a32s14 [v0,v1,v2,v3,v4,v5,v6,v7,v8,v9] st =
 obind (p1 (semFad 1 call [(locOf 4 v4)] .undef st)) fun x0 =>
 obind (p1 (semLdLc 4 false 1 call [W x0] v4 st)) fun x1 =>
 obind (p1 (semLenL call [W x1] .undef st)) fun x2 =>
 obind (p1 (semBin .eql call [W x2,(.int .i64 0)] .undef st)) fun x3 =>
 m1 (W x3) fun x4 =>
 some (Ex.normal,[v0,v1,v2,v3,v4,AV.strip x4,v6,v7,v8,v9],st) :=
  (exec_reg ..).trans (by kernel_rfl)
theorem a32s16_x : exec call n a32s16 [v0,v1,v2,v3,v4,v5,v6,v7,v8,v9] st =
 obind (p1 (semFad 1 call [(locOf 2 v2)] .undef st)) fun x0 =>
 obind (p1 (semLdLc 2 false 1 call [W x0] v2 st)) fun x1 =>
 some (Ex.normal,[v0,v1,v2,v3,v4,v5,v6,v7,v8,AV.strip x1],st) :=
  (exec_reg ..).trans (by kernel_rfl)
def a32s19_k1 (call : CallT) (n : Nat) (v0 v1 v2 v3 v4 v6 v7 v8 v9 x3 : AV) (x6 : AV × St) : Option Out :=
 obind (p1 (semPick call [W x3,(.bool true),W x6.1] .undef x6.2)) fun x7 =>
 m1 (W x7) fun x8 =>
 some (Ex.normal,[v0,v1,v2,v3,v4,AV.strip x8,v6,v7,v8,v9],x6.2)
def a32s19_k0 (call : CallT) (n : Nat) (v0 v1 v2 v3 v4 v6 v7 v8 v9 : AV) (x2 : AV × St) : Option Out :=
 m1 (W x2.1) fun x3 =>
 gm (W x3) false (AV.weak v0) fun x4 =>
 obind (gv (W x3) false (p1 (semLdLc 4 true 11 call [(locOf 4 v4)] v4 x2.2))) fun x5 =>
 obind (gv2 (W x3) false x2.2 (p2 (semCall 54 call [W x4,W x5] .undef x2.2))) (a32s19_k1 call n v0 v1 v2 v3 v4 v6 v7 v8 v9 x3)
theorem a32s19_x : exec call n a32s19 [v0,v1,v2,v3,v4,v5,v6,v7,v8,v9] st =
 m1 (AV.weak v0) fun x0 =>
 obind (p1 (semLdLc 4 true 11 call [(locOf 4 v4)] v4 st)) fun x1 =>
 obind (p2 (semCall 53 call [W x0,W x1] .undef st)) (a32s19_k0 call n v0 v1 v2 v3 v4 v6 v7 v8 v9) :=
  (exec_reg ..).trans (by kernel_rfl)
def a32s22_k0 (call : CallT) (n : Nat) (v0 v1 v2 v3 v4 v6 v7 v8 v9 x3 : AV) (x6 : AV × St) : Option Out :=
 obind (p1 (semPick call [W x3,W x6.1,(.bool false)] .undef x6.2)) fun x7 =>
 m1 (W x7) fun x8 =>
 some (Ex.normal,[v0,v1,v2,v3,v4,AV.strip x8,v6,v7,v8,v9],x6.2)
theorem a32s22_x : exec call n a32s22 [v0,v1,v2,v3,v4,v5,v6,v7,v8,v9] st =
 obind (p1 (semFad 0 call [(locOf 2 v2)] .undef st)) fun x0 =>
 obind (p1 (semLdLc 2 false 1 call [W x0] v2 st)) fun x1 =>
 obind (p1 (semBin .eql call [W x1,(.int .u8 1)] .undef st)) fun x2 =>
 m1 (W x2) fun x3 =>
 gm (W x3) true (AV.weak v0) fun x4 =>
 obind (gv (W x3) true (p1 (semLdLc 4 true 11 call [(locOf 4 v4)] v4 st))) fun x5 =>
 obind (gv2 (W x3) true st (p2 (semCall 55 call [W x4,W x5] .undef st))) (a32s22_k0 call n v0 v1 v2 v3 v4 v6 v7 v8 v9 x3) :=
  (exec_reg ..).trans (by kernel_rfl)
theorem a32s23_x : exec call n a32s23 [v0,v1,v2,v3,v4,v5,v6,v7,v8,v9] st =
 obind (p1 (semBin .eql call [(AV.weak v9),(.str [77,117,116,97,116,105,111,110])] .undef st)) fun x0 =>
 m1 (W x0) fun x1 =>
 brE (W x1) call n a32s22 .skip [v0,v1,v2,v3,v4,v5,v6,v7,v8,v9] st :=
  (exec_testT ..).trans (by kernel_rfl)
theorem a32s24_x : exec call n a32s24 [v0,v1,v2,v3,v4,v5,v6,v7,v8,v9] st =
 obind (p1 (semBin .eql call [(AV.weak v9),(.str [81,117,101,114,121])] .undef st)) fun x0 =>
 m1 (W x0) fun x1 =>
 brE (W x1) call n a32s19 a32s23 [v0,v1,v2,v3,v4,v5,v6,v7,v8,v9] st :=
  (exec_testT ..).trans (by kernel_rfl)
theorem a32s29_x : exec call n a32s29 [v0,v1,v2,v3,v4,v5,v6,v7,v8,v9] st =
 obind (p1 (semFad 0 call [(locOf 4 v4)] .undef st)) fun x0 =>
 obind (p1 (semLdLc 4 false 1 call [W x0] v4 st)) fun x1 =>
 obind (p1 (semBuild [.int .i64 0,.str []] [(0,1),(1,1)] call [(.int .i64 3),W x1] .undef st)) fun x2 =>
 obind (semStLc 3 2 call [(locOf 3 v3),W x2] v3 st) fun x3 =>
 some (Ex.normal,[v0,v1,v2,x3.2.1,v4,v5,v6,v7,v8,v9],x3.2.2) :=
  (exec_reg ..).trans (by kernel_rfl)
theorem a32s31_x : exec call n a32s31 [v0,v1,v2,v3,v4,v5,v6,v7,v8,v9] st =
 m1 (AV.weak v5) fun x0 =>
 obind (p1 (semUn .not call [W x0] .undef st)) fun x1 =>
 brE (W x1) call n a32s30 .skip [v0,v1,v2,v3,v4,v5,v6,v7,v8,v9] st :=
  (exec_testT ..).trans (by kernel_rfl)
theorem a32s37_x : exec call n a32s37 [v0,v1,v2,v3,v4,v5,v6,v7,v8,v9] st =
 obind (p1 (semBin .add call [(AV.weak v8),(.int .i64 1)] .undef st)) fun x0 =>
 m1 (W x0) fun x1 =>
 some (Ex.normal,[v0,v1,v2,v3,v4,v5,v6,v7,AV.strip x1,v9],st) :=
  (exec_reg ..).trans (by kernel_rfl)
theorem a32s44_x : exec call n a32s44 [v0,v1,v2,v3,v4,v5,v6,v7,v8,v9] st =
 obind (p1 (semBuild [.int .i64 0,.str []] [] call [] .undef st)) fun x0 =>
 obind (semStLc 3 2 call [(locOf 3 v3),W x0] v3 st) fun x1 =>
 some (Ex.normal,[v0,v1,v2,x1.2.1,v4,v5,v6,v7,v8,v9],x1.2.2) :=
  (exec_reg ..).trans (by kernel_rfl)
theorem a34s1_x : exec call n a34s1 [v0,v1] st =
 m1 (.bool false) fun x0 =>
 some (Ex.normal,[v0,AV.strip x0],st) :=
  (exec_reg ..).trans (by kernel_rfl)
theorem a34s3_x : exec call n a34s3 [v0,v1] st =
 m1 (AV.weak v0) fun x0 =>
 obind (p1 (semBin .eql call [W x0,(.str [81,117,101,114,121])] .undef st)) fun x1 =>
 m1 (W x1) fun x2 =>
 gm (W x2) false (AV.weak v0) fun x3 =>
 obind (gv (W x2) false (p1 (semBin .eql call [W x3,(.str [77,117,116,97,116,105,111,110])] .undef st))) fun x4 =>
 obind (p1 (semPick call [W x2,(.bool true),W x4] .undef st)) fun x5 =>
 m1 (W x5) fun x6 =>
 some (Ex.normal,[v0,AV.strip x6],st) :=
  (exec_reg ..).trans (by kernel_rfl)
theorem a35s1_x : exec call n a35s1 [v0,v1,v2,v3,v4,v5] st =
 m1 (.bool false) fun x0 =>
 some (Ex.normal,[v0,v1,v2,AV.strip x0,v4,v5],st) :=
  (exec_reg ..).trans (by kernel_rfl)
def a35s3_k0 (call : CallT) (n : Nat) (v0 v1 v2 v3 : AV) (x2 : AV × St) : Option Out :=
 m1 (W x2.1) fun x3 =>
 obind (p1 (semExt 0 call [W x3] .undef x2.2)) fun x4 =>
 obind (p1 (semExt 1 call [W x3] .undef x2.2)) fun x5 =>
 obind (semAlloc [.int .u8 0,.str [],.list true [],.list true []] call [] AV.undef x2.2) fun x6 =>
 obind (semStLc 4 4 call [(locOf 4 x6.2.1),(AV.stripB x4)] x6.2.1 x6.2.2) fun x7 =>
 m1 (W x5) fun x8 =>
 some (Ex.normal,[v0,v1,v2,v3,x7.2.1,AV.strip x8],x7.2.2)
theorem a35s3_x : exec call n a35s3 [v0,v1,v2,v3,v4,v5] st =
 m1 (AV.weak v0) fun x0 =>
 m1 (AV.weak v1) fun x1 =>
 obind (p2 (semCall 15 call [W x0,W x1] .undef st)) (a35s3_k0 call n v0 v1 v2 v3) :=
  (exec_reg ..).trans (by kernel_rfl)
theorem a35s5_x : exec call n a35s5 [v0,v1,v2,v3,v4,v5] st =
 m1 (AV.weak v5) fun x0 =>
 m1 (W x0) fun x1 =>
 obind (gv (W x1) true (p1 (semFad 0 call [(locOf 4 v4)] .undef st))) fun x2 =>
 obind (gv (W x1) true (p1 (semLdLc 4 false 1 call [W x2] v4 st))) fun x3 =>
 gm (W x1) true (AV.weak v2) fun x4 =>
 obind (gv (W x1) true (p1 (semBin .eql call [W x3,W x4] .undef st))) fun x5 =>
 obind (p1 (semPick call [W x1,W x5,(.bool false)] .undef st)) fun x6 =>
 m1 (W x6) fun x7 =>
 some (Ex.normal,[v0,v1,v2,AV.strip x7,v4,v5],st) :=
  (exec_reg ..).trans (by kernel_rfl)
theorem a36s1_x : exec call n a36s1 [v0,v1,v2,v3,v4,v5] st =
 m1 (.int .i64 0) fun x0 =>
 some (Ex.normal,[v0,v1,AV.strip x0,v3,v4,v5],st) :=
  (exec_reg ..).trans (by kernel_rfl)
theorem a36s3_x : exec call n a36s3 [v0,v1,v2,v3,v4,v5] st =
 m1 (AV.weak v0) fun x0 =>
 obind (p1 (semLenL call [W x0] .undef st)) fun x1 =>
 m1 (.int .i64 0) fun x2 =>
 some (Ex.normal,[v0,v1,v2,v3,AV.strip x1,AV.strip x2],st) :=
  (exec_reg ..).trans (by kernel_rfl)
theorem a36s5_x : exec call n a36s5 [v0,v1,v2,v3,v4,v5] st =
 obind (p1 (semBin .lss call [(AV.weak v5),(AV.weak v4)] .undef st)) fun x0 =>
 brE (W x0) call n .skip (.exit 0) [v0,v1,v2,v3,v4,v5] st :=
  (exec_testT ..).trans (by kernel_rfl)
theorem a36s7_x : exec call n a36s7 [v0,v1,v2,v3,v4,v5] st =
 m1 (AV.weak v5) fun x0 =>
 m1 (W x0) fun x1 =>
 some (Ex.normal,[v0,v1,v2,AV.strip x1,v4,v5],st) :=
  (exec_reg ..).trans (by kernel_rfl)
theorem a36s10_x : exec call n a36s10 [v0,v1,v2,v3,v4,v5] st =
 m1 (AV.weak v3) fun x0 =>
 m1 (W x0) fun x1 =>
 some (Ex.normal,[v0,v1,AV.strip x1,v3,v4,v5],st) :=
  (exec_reg ..).trans (by kernel_rfl)
theorem a36s12_x : exec call n a36s12 [v0,v1,v2,v3,v4,v5] st =
 m1 (AV.weak v1) fun x0 =>
 m1 (AV.weak v0) fun x1 =>
 m1 (AV.weak v3) fun x2 =>
 obind (p1 (semIad 1 call [W x1,W x2] .undef st)) fun x3 =>
 obind (p1 (semLdRo false 1 call [W x3] .undef st)) fun x4 =>
 obind (p1 (semBin .eql call [W x0,W x4] .undef st)) fun x5 =>
 brE (W x5) call n a36s11 .skip [v0,v1,v2,v3,v4,v5] st :=
  (exec_testT ..).trans (by kernel_rfl)
theorem a36s16_x : exec call n a36s16 [v0,v1,v2,v3,v4,v5] st =
 obind (p1 (semBin .add call [(AV.weak v5),(.int .i64 1)] .undef st)) fun x0 =>
 m1 (W x0) fun x1 =>
 some (Ex.normal,[v0,v1,v2,v3,v4,AV.strip x1],st) :=
  (exec_reg ..).trans (by kernel_rfl)
theorem a36s23_x : exec call n a36s23 [v0,v1,v2,v3,v4,v5] st =
 m1 (.int .i64 (-1)) fun x0 =>
 some (Ex.normal,[v0,v1,AV.strip x0,v3,v4,v5],st) :=
  (exec_reg ..).trans (by kernel_rfl)
theorem a37s1_x : exec call n a37s1 [v0,v1,v2,v3,v4,v5,v6] st =
 m1 (.list true []) fun x0 =>
 some (Ex.normal,[v0,AV.strip x0,v2,v3,v4,v5,v6],st) :=
  (exec_reg ..).trans (by kernel_rfl)
theorem a37s3_x : exec call n a37s3 [v0,v1,v2,v3,v4,v5,v6] st =
 m1 (.list true []) fun x0 =>
 some (Ex.normal,[v0,v1,AV.strip x0,v3,v4,v5,v6],st) :=
  (exec_reg ..).trans (by kernel_rfl)
theorem a37s5_x : exec call n a37s5 [v0,v1,v2,v3,v4,v5,v6] st =
 m1 (AV.weak v0) fun x0 =>
 obind (p1 (semLenL call [(AV.weak (AV.strip x0))] .undef st)) fun x1 =>
 m1 (.int .i64 0) fun x2 =>
 some (Ex.normal,[v0,v1,v2,v3,AV.strip x0,AV.strip x1,AV.strip x2],st) :=
  (exec_reg ..).trans (by kernel_rfl)
theorem a37s7_x : exec call n a37s7 [v0,v1,v2,v3,v4,v5,v6] st =
 obind (p1 (semBin .lss call [(AV.weak v6),(AV.weak v5)] .undef st)) fun x0 =>
 brE (W x0) call n .skip (.exit 0) [v0,v1,v2,v3,v4,v5,v6] st :=
  (exec_testT ..).trans (by kernel_rfl)
theorem a37s9_x : exec call n a37s9 [v0,v1,v2,v3,v4,v5,v6] st =
 obind (p1 (semIad 11 call [(AV.weak v4),(AV.weak v6)] .undef st)) fun x0 =>
 obind (p1 (semLdRo true 11 call [W x0] .undef st)) fun x1 =>
 obind (semAlloc [.str [],.list true [],.str [],.list true [],.bool false,.bool false,.int .u8 0,.int .i64 0,.str [],.list true [],.list true []] call [] AV.undef st) fun x2 =>
 obind (semStLc 3 11 call [(locOf 3 x2.2.1),(AV.stripB x1)] x2.2.1 x2.2.2) fun x3 =>
 some (Ex.normal,[v0,v1,v2,x3.2.1,v4,v5,v6],x3.2.2) :=
  (exec_reg ..).trans (by kernel_rfl)
theorem a37s11_x : exec call n a37s11 [v0,v1,v2,v3,v4,v5,v6] st =
 obind (semMv call [v2] .undef st) fun x0 =>
 obind (p1 (semFad 0 call [(locOf 3 v3)] .undef x0.2.2)) fun x1 =>
 obind (p1 (semLdLc 3 false 1 call [W x1] v3 x0.2.2)) fun x2 =>
 obind (p1 (semBslice 1 [[.str []]] [0] call [W x2] .undef x0.2.2)) fun x3 =>
 obind (semApp 1 16 call [(AV.stripB x0.1),W x3] .undef x0.2.2) fun x4 =>
 obind (semMv call [(AV.stripB x4.1)] .undef x4.2.2) fun x5 =>
 some (Ex.normal,[v0,v1,(AV.strip x5.1),v3,v4,v5,v6],x5.2.2) :=
  (exec_reg ..).trans (by kernel_rfl)
theorem a37s15_x : exec call n a37s15 [v0,v1,v2,v3,v4,v5,v6] st =
 obind (p1 (semBin .add call [(AV.weak v6),(.int .i64 1)] .undef st)) fun x0 =>
 m1 (W x0) fun x1 =>
 some (Ex.normal,[v0,v1,v2,v3,v4,v5,AV.strip x1],st) :=
  (exec_reg ..).trans (by kernel_rfl)
theorem a37s22_x : exec call n a37s22 [v0,v1,v2,v3,v4,v5,v6] st =
 obind (semMv call [v2] .undef st) fun x0 =>
 obind (semMv call [(AV.stripB x0.1)] .undef x0.2.2) fun x1 =>
 some (Ex.normal,[v0,(AV.strip x1.1),(AV.weak v2),v3,v4,v5,v6],x1.2.2) :=
  (exec_reg ..).trans (by kernel_rfl)
theorem a38s1_x : exec call n a38s1 [v0,v1,v2,v3,v4,v5,v6,v7,v8,v9] st =
 m1 (.bool false) fun x0 =>
 some (Ex.normal,[v0,v1,v2,AV.strip x0,v4,v5,v6,v7,v8,v9],st) :=
  (exec_reg ..).trans (by kernel_rfl)
theorem a38s4_x : exec call n a38s4 [v0,v1,v2,v3,v4,v5,v6,v7,v8,v9] st =
 m1 (.bool false) fun x0 =>
 some (Ex.normal,[v0,v1,v2,AV.strip x0,v4,v5,v6,v7,v8,v9],st) :=
  (exec_reg ..).trans (by kernel_rfl)
theorem a38s6_x : exec call n a38s6 [v0,v1,v2,v3,v4,v5,v6,v7,v8,v9] st =
 m1 (AV.weak v0) fun x0 =>
 obind (p1 (semLenL call [W x0] .undef st)) fun x1 =>
 m1 (AV.weak v1) fun x2 =>
 obind (p1 (semLenL call [W x2] .undef st)) fun x3 =>
 obind (p1 (semBin .neq call [W x1,W x3] .undef st)) fun x4 =>
 brE (W x4) call n a38s5 .skip [v0,v1,v2,v3,v4,v5,v6,v7,v8,v9] st :=
  (exec_testT ..).trans (by kernel_rfl)
theorem a38s8_x : exec call n a38s8 [v0,v1,v2,v3,v4,v5,v6,v7,v8,v9] st =
 m1 (AV.weak v0) fun x0 =>
 obind (p1 (semLenL call [(AV.weak (AV.strip x0))] .undef st)) fun x1 =>
 m1 (.int .i64 0) fun x2 =>
 some (Ex.normal,[v0,v1,v2,v3,v4,v5,v6,AV.strip x0,AV.strip x1,AV.strip x2],st) :=
  (exec_reg ..).trans (by kernel_rfl)
theorem a38s10_x : exec call n a38s10 [v0,v1,v2,v3,v4,v5,v6,v7,v8,v9] st =
 obind (p1 (semBin .lss call [(AV.weak v9),(AV.weak v8)] .undef st)) fun x0 =>
 brE (W x0) call n .skip (.exit 0) [v0,v1,v2,v3,v4,v5,v6,v7,v8,v9] st :=
  (exec_testT ..).trans (by kernel_rfl)
theorem a38s12_x : exec call n a38s12 [v0,v1,v2,v3,v4,v5,v6,v7,v8,v9] st =
 m1 (AV.weak v9) fun x0 =>
 obind (p1 (semIad 3 call [(AV.weak v7),(AV.weak v9)] .undef st)) fun x1 =>
 obind (p1 (semLdRo true 3 call [W x1] .undef st)) fun x2 =>
 obind (semAlloc [.str [],.list true [],.bool false] call [] AV.undef st) fun x3 =>
 m1 (W x0) fun x4 =>
 obind (semStLc 5 3 call [(locOf 5 x3.2.1),(AV.stripB x2)] x3.2.1 x3.2.2) fun x5 =>
 some (Ex.normal,[v0,v1,v2,v3,AV.strip x4,x5.2.1,v6,v7,v8,v9],x5.2.2) :=
  (exec_reg ..).trans (by kernel_rfl)
theorem a38s14_x : exec call n a38s14 [v0,v1,v2,v3,v4,v5,v6,v7,v8,v9] st =
 m1 (AV.weak v1) fun x0 =>
 m1 (AV.weak v4) fun x1 =>
 obind (p1 (semIad 3 call [W x0,W x1] .undef st)) fun x2 =>
 obind (p1 (semLdRo true 3 call [W x2] .undef st)) fun x3 =>
 obind (semAlloc [.str [],.list true [],.bool false] call [] AV.undef st) fun x4 =>
 obind (semStLc 6 3 call [(locOf 6 x4.2.1),(AV.stripB x3)] x4.2.1 x4.2.2) fun x5 =>
 some (Ex.normal,[v0,v1,v2,v3,v4,v5,x5.2.1,v7,v8,v9],x5.2.2) :=
  (exec_reg ..).trans (by kernel_rfl)
theorem a38s17_x : exec call n a38s17 [v0,v1,v2,v3,v4,v5,v6,v7,v8,v9] st =
 m1 (.bool false) fun x0 =>
 some (Ex.normal,[v0,v1,v2,AV.strip x0,v4,v5,v6,v7,v8,v9],st) :=
  (exec_reg ..).trans (by kernel_rfl)
def a38s19_k0 (call : CallT) (n : Nat) (v0 v1 v2 v3 v4 v5 v6 v7 v8 v9 : AV) (x3 : AV × St) : Option Out :=
 obind (p1 (semUn .not call [W x3.1] .undef x3.2)) fun x4 =>
 brE (W x4) call n a38s18 .skip [v0,v1,v2,v3,v4,v5,v6,v7,v8,v9] x3.2
theorem a38s19_x : exec call n a38s19 [v0,v1,v2,v3,v4,v5,v6,v7,v8,v9] st =
 m1 (AV.weak v2) fun x0 =>
 obind (p1 (semLdLc 5 true 3 call [(locOf 5 v5)] v5 st)) fun x1 =>
 obind (p1 (semLdLc 6 true 3 call [(locOf 6 v6)] v6 st)) fun x2 =>
 obind (p2 (semCallV call [W x0,W x1,W x2] .undef st)) (a38s19_k0 call n v0 v1 v2 v3 v4 v5 v6 v7 v8 v9) :=
  (exec_testT ..).trans (by kernel_rfl)
theorem a38s24_x : exec call n a38s24 [v0,v1,v2,v3,v4,v5,v6,v7,v8,v9] st =
 obind (p1 (semBin .add call [(AV.weak v9),(.int .i64 1)] .undef st)) fun x0 =>
 m1 (W x0) fun x1 =>
 some (Ex.normal,[v0,v1,v2,v3,v4,v5,v6,v7,v8,AV.strip x1],st) :=
  (exec_reg ..).trans (by kernel_rfl)
theorem a38s31_x : exec call n a38s31 [v0,v1,v2,v3,v4,v5,v6,v7,v8,v9] st =
 m1 (.bool true) fun x0 =>
 some (Ex.normal,[v0,v1,v2,AV.strip x0,v4,v5,v6,v7,v8,v9],st) :=
  (exec_reg ..).trans (by kernel_rfl)
theorem a40s1_x : exec call n a40s1 [v0,v1,v2,v3,v4,v5,v6,v7] st =
 obind (semAlloc [.int .u8 0,.str [],.int .i64 0,.int .i64 0] call [] AV.undef st) fun x0 =>
 m1 (.int .i64 0) fun x1 =>
 m1 (.int .i64 0) fun x2 =>
 m1 (.int .i64 0) fun x3 =>
 some (Ex.normal,[v0,v1,x0.2.1,AV.strip x1,AV.strip x2,AV.strip x3,v6,v7],x0.2.2) :=
  (exec_reg ..).trans (by kernel_rfl)
theorem a40s3_x : exec call n a40s3 [v0,v1,v2,v3,v4,v5,v6,v7] st =
 m1 (AV.weak v0) fun x0 =>
 m1 (AV.weak v1) fun x1 =>
 obind (p1 (semIdxS call [W x0,W x1] .undef st)) fun x2 =>
 m1 (W x2) fun x3 =>
 some (Ex.normal,[v0,v1,v2,v3,v4,v5,AV.strip x3,v7],st) :=
  (exec_reg ..).trans (by kernel_rfl)
theorem a40s5_x : exec call n a40s5 [v0,v1,v2,v3,v4,v5,v6,v7] st =
 m1 (AV.weak v1) fun x0 =>
 m1 (W x0) fun x1 =>
 some (Ex.normal,[v0,v1,v2,v3,v4,v5,v6,AV.strip x1],st) :=
  (exec_reg ..).trans (by kernel_rfl)
def a40s8_k1 (call : CallT) (n : Nat) (v0 v1 v2 v3 v4 v5 v6 v7 x4 x9 : AV) (x13 : AV × St) : Option Out :=
 obind (gv (W x4) true (p1 (semPick call [W x9,(.bool true),W x13.1] .undef x13.2))) fun x14 =>
 obind (p1 (semPick call [W x4,W x14,(.bool false)] .undef x13.2)) fun x15 =>
 brE (W x15) call n .skip (.exit 1) [v0,v1,v2,v3,v4,v5,v6,v7] x13.2
def a40s8_k0 (call : CallT) (n : Nat) (v0 v1 v2 v3 v4 v5 v6 v7 x4 : AV) (x8 : AV × St) : Option Out :=
 gm (W x4) true (W x8.1) fun x9 =>
 gm (W x9) false (AV.weak v0) fun x10 =>
 gm (W x9) false (AV.weak v7) fun x11 =>
 obind (gv (W x9) false (p1 (semIdxS call [W x10,W x11] .undef x8.2))) fun x12 =>
 obind (gv2 (W x9) false x8.2 (p2 (semCall 57 call [W x12] .undef x8.2))) (a40s8_k1 call n v0 v1 v2 v3 v4 v5 v6 v7 x4 x9)
theorem a40s8_x : exec call n a40s8 [v0,v1,v2,v3,v4,v5,v6,v7] st =
 m1 (AV.weak v7) fun x0 =>
 m1 (AV.weak v0) fun x1 =>
 obind (p1 (semLenS call [W x1] .undef st)) fun x2 =>
 obind (p1 (semBin .lss call [W x0,W x2] .undef st)) fun x3 =>
 m1 (W x3) fun x4 =>
 gm (W x4) true (AV.weak v0) fun x5 =>
 gm (W x4) true (AV.weak v7) fun x6 =>
 obind (gv (W x4) true (p1 (semIdxS call [W x5,W x6] .undef st))) fun x7 =>
 obind (gv2 (W x4) true st (p2 (semCall 56 call [W x7] .undef st))) (a40s8_k0 call n v0 v1 v2 v3 v4 v5 v6 v7 x4) :=
  (exec_testT ..).trans (by kernel_rfl)
theorem a40s10_x : exec call n a40s10 [v0,v1,v2,v3,v4,v5,v6,v7] st =
 m1 (AV.weak v7) fun x0 =>
 obind (p1 (semBin .add call [W x0,(.int .i64 1)] .undef st)) fun x1 =>
 m1 (W x1) fun x2 =>
 some (Ex.normal,[v0,v1,v2,v3,v4,v5,v6,AV.strip x2],st) :=
  (exec_reg ..).trans (by kernel_rfl)
theorem a40s17_x : exec call n a40s17 [v0,v1,v2,v3,v4,v5,v6,v7] st =
 obind (p1 (semBuild [.int .u8 0,.str [],.int .i64 0,.int .i64 0] [] call [] .undef st)) fun x0 =>
 m1 (AV.weak v1) fun x1 =>
 obind (semStLc 2 4 call [(locOf 2 v2),W x0] v2 st) fun x2 =>
 m1 (.int .i64 0) fun x3 =>
 m1 (W x1) fun x4 =>
 m1 (.int .i64 2) fun x5 =>
 some (Ex.normal,[v0,v1,x2.2.1,AV.strip x3,AV.strip x4,AV.strip x5,v6,v7],x2.2.2) :=
  (exec_reg ..).trans (by kernel_rfl)
theorem a40s19_x : exec call n a40s19 [v0,v1,v2,v3,v4,v5,v6,v7] st =
 m1 (AV.weak v7) fun x0 =>
 m1 (AV.weak v1) fun x1 =>
 obind (p1 (semBin .sub call [W x0,W x1] .undef st)) fun x2 =>
 obind (p1 (semBin .gtr call [W x2,(.int .i64 32)] .undef st)) fun x3 =>
 brE (W x3) call n a40s18 .skip [v0,v1,v2,v3,v4,v5,v6,v7] st :=
  (exec_testT ..).trans (by kernel_rfl)
theorem a40s21_x : exec call n a40s21 [v0,v1,v2,v3,v4,v5,v6,v7] st =
 m1 (AV.weak v0) fun x0 =>
 m1 (AV.weak v1) fun x1 =>
 m1 (AV.weak v7) fun x2 =>
 obind (p1 (semSlS true true call [W x0,W x1,W x2] .undef st)) fun x3 =>
 obind (p1 (semBuild [.int .u8 0,.str [],.int .i64 0,.int .i64 0] [(0,1),(1,1)] call [(.int .u8 1),W x3] .undef st)) fun x4 =>
 m1 (AV.weak v7) fun x5 =>
 obind (semStLc 2 4 call [(locOf 2 v2),W x4] v2 st) fun x6 =>
 m1 (W x5) fun x7 =>
 m1 (.int .i64 0) fun x8 =>
 m1 (.int .i64 0) fun x9 =>
 some (Ex.normal,[v0,v1,x6.2.1,AV.strip x7,AV.strip x8,AV.strip x9,v6,v7],x6.2.2) :=
  (exec_reg ..).trans (by kernel_rfl)
def a40s27_k0 (call : CallT) (n : Nat) (v0 v1 v2 v6 v7 : AV) (x2 : AV × St) : Option Out :=
 obind (p1 (semExt 0 call [W x2.1] .undef x2.2)) fun x3 =>
 obind (p1 (semExt 1 call [W x2.1] .undef x2.2)) fun x4 =>
 obind (p1 (semExt 2 call [W x2.1] .undef x2.2)) fun x5 =>
 obind (p1 (semExt 3 call [W x2.1] .undef x2.2)) fun x6 =>
 obind (semStLc 2 4 call [(locOf 2 v2),W x3] v2 x2.2) fun x7 =>
 m1 (W x4) fun x8 =>
 m1 (W x5) fun x9 =>
 m1 (W x6) fun x10 =>
 some (Ex.normal,[v0,v1,x7.2.1,AV.strip x8,AV.strip x9,AV.strip x10,v6,v7],x7.2.2)
theorem a40s27_x : exec call n a40s27 [v0,v1,v2,v3,v4,v5,v6,v7] st =
 m1 (AV.weak v0) fun x0 =>
 m1 (AV.weak v1) fun x1 =>
 obind (p2 (semCall 58 call [W x0,W x1] .undef st)) (a40s27_k0 call n v0 v1 v2 v6 v7) :=
  (exec_reg ..).trans (by kernel_rfl)
def a40s31_k0 (call : CallT) (n : Nat) (v0 v1 v2 v6 v7 : AV) (x2 : AV × St) : Option Out :=
 obind (p1 (semExt 0 call [W x2.1] .undef x2.2)) fun x3 =>
 obind (p1 (semExt 1 call [W x2.1] .undef x2.2)) fun x4 =>
 obind (p1 (semExt 2 call [W x2.1] .undef x2.2)) fun x5 =>
 obind (p1 (semExt 3 call [W x2.1] .undef x2.2)) fun x6 =>
 obind (semStLc 2 4 call [(locOf 2 v2),W x3] v2 x2.2) fun x7 =>
 m1 (W x4) fun x8 =>
 m1 (W x5) fun x9 =>
 m1 (W x6) fun x10 =>
 some (Ex.normal,[v0,v1,x7.2.1,AV.strip x8,AV.strip x9,AV.strip x10,v6,v7],x7.2.2)
theorem a40s31_x : exec call n a40s31 [v0,v1,v2,v3,v4,v5,v6,v7] st =
 m1 (AV.weak v0) fun x0 =>
 m1 (AV.weak v1) fun x1 =>
 obind (p2 (semCall 59 call [W x0,W x1] .undef st)) (a40s31_k0 call n v0 v1 v2 v6 v7) :=
  (exec_reg ..).trans (by kernel_rfl)
theorem a40s36_x : exec call n a40s36 [v0,v1,v2,v3,v4,v5,v6,v7] st =
 obind (p1 (semBuild [.int .u8 0,.str [],.int .i64 0,.int .i64 0] [(0,1),(1,1)] call [(.int .u8 4),(.str [46,46,46])] .undef st)) fun x0 =>
 m1 (AV.weak v1) fun x1 =>
 obind (p1 (semBin .add call [W x1,(.int .i64 3)] .undef st)) fun x2 =>
 obind (semStLc 2 4 call [(locOf 2 v2),W x0] v2 st) fun x3 =>
 m1 (W x2) fun x4 =>
 m1 (.int .i64 0) fun x5 =>
 m1 (.int .i64 0) fun x6 =>
 some (Ex.normal,[v0,v1,x3.2.1,AV.strip x4,AV.strip x5,AV.strip x6,v6,v7],x3.2.2) :=
  (exec_reg ..).trans (by kernel_rfl)
theorem a40s38_x : exec call n a40s38 [v0,v1,v2,v3,v4,v5,v6,v7] st =
 m1 (AV.weak v0) fun x0 =>
 obind (p1 (semLenS call [W x0] .undef st)) fun x1 =>
 m1 (AV.weak v1) fun x2 =>
 obind (p1 (semBin .sub call [W x1,W x2] .undef st)) fun x3 =>
 obind (p1 (semBin .geq call [W x3,(.int .i64 3)] .undef st)) fun x4 =>
 m1 (W x4) fun x5 =>
 gm (W x5) true (AV.weak v0) fun x6 =>
 gm (W x5) true (AV.weak v1) fun x7 =>
 obind (gv (W x5) true (p1 (semBin .add call [W x7,(.int .i64 1)] .undef st))) fun x8 =>
 obind (gv (W x5) true (p1 (semIdxS call [W x6,W x8] .undef st))) fun x9 =>
 obind (gv (W x5) true (p1 (semBin .eql call [W x9,(.int .u8 46)] .undef st))) fun x10 =>
 obind (p1 (semPick call [W x5,W x10,(.bool false)] .undef st)) fun x11 =>
 m1 (W x11) fun x12 =>
 gm (W x12) true (AV.weak v0) fun x13 =>
 gm (W x12) true (AV.weak v1) fun x14 =>
 obind (gv (W x12) true (p1 (semBin .add call [W x14,(.int .i64 2)] .undef st))) fun x15 =>
 obind (gv (W x12) true (p1 (semIdxS call [W x13,W x15] .undef st))) fun x16 =>
 obind (gv (W x12) true (p1 (semBin .eql call [W x16,(.int .u8 46)] .undef st))) fun x17 =>
 obind (p1 (semPick call [W x12,W x17,(.bool false)] .undef st)) fun x18 =>
 brE (W x18) call n a40s37 .skip [v0,v1,v2,v3,v4,v5,v6,v7] st :=
  (exec_testT ..).trans (by kernel_rfl)
theorem a40s40_x : exec call n a40s40 [v0,v1,v2,v3,v4,v5,v6,v7] st =
 obind (p1 (semBuild [.int .u8 0,.str [],.int .i64 0,.int .i64 0] [] call [] .undef st)) fun x0 =>
 m1 (AV.weak v1) fun x1 =>
 obind (semStLc 2 4 call [(locOf 2 v2),W x0] v2 st) fun x2 =>
 m1 (.int .i64 0) fun x3 =>
 m1 (W x1) fun x4 =>
 m1 (.int .i64 4) fun x5 =>
 some (Ex.normal,[v0,v1,x2.2.1,AV.strip x3,AV.strip x4,AV.strip x5,v6,v7],x2.2.2) :=
  (exec_reg ..).trans (by kernel_rfl)
theorem a40s45_x : exec call n a40s45 [v0,v1,v2,v3,v4,v5,v6,v7] st =
 m1 (AV.weak v0) fun x0 =>
 m1 (AV.weak v1) fun x1 =>
 m1 (AV.weak v1) fun x2 =>
 obind (p1 (semBin .add call [W x2,(.int .i64 1)] .undef st)) fun x3 =>
 obind (p1 (semSlS true true call [W x0,W x1,W x3] .undef st)) fun x4 =>
 obind (p1 (semBuild [.int .u8 0,.str [],.int .i64 0,.int .i64 0] [(0,1),(1,1)] call [(.int .u8 4),W x4] .undef st)) fun x5 =>
 m1 (AV.weak v1) fun x6 =>
 obind (p1 (semBin .add call [W x6,(.int .i64 1)] .undef st)) fun x7 =>
 obind (semStLc 2 4 call [(locOf 2 v2),W x5] v2 st) fun x8 =>
 m1 (W x7) fun x9 =>
 m1 (.int .i64 0) fun x10 =>
 m1 (.int .i64 0) fun x11 =>
 some (Ex.normal,[v0,v1,x8.2.1,AV.strip x9,AV.strip x10,AV.strip x11,v6,v7],x8.2.2) :=
  (exec_reg ..).trans (by kernel_rfl)
theorem a40s47_x : exec call n a40s47 [v0,v1,v2,v3,v4,v5,v6,v7] st =
 m1 (AV.weak v6) fun x0 =>
 obind (p1 (semBin .eql call [W x0,(.int .u8 33)] .undef st)) fun x1 =>
 m1 (W x1) fun x2 =>
 gm (W x2) false (AV.weak v6) fun x3 =>
 obind (gv (W x2) false (p1 (semBin .eql call [W x3,(.int .u8 36)] .undef st))) fun x4 =>
 obind (p1 (semPick call [W x2,(.bool true),W x4] .undef st)) fun x5 =>
 m1 (W x5) fun x6 =>
 gm (W x6) false (AV.weak v6) fun x7 =>
 obind (gv (W x6) false (p1 (semBin .eql call [W x7,(.int .u8 40)] .undef st))) fun x8 =>
 obind (p1 (semPick call [W x6,(.bool true),W x8] .undef st)) fun x9 =>
 m1 (W x9) fun x10 =>
 gm (W x10) false (AV.weak v6) fun x11 =>
 obind (gv (W x10) false (p1 (semBin .eql call [W x11,(.int .u8 41)] .undef st))) fun x12 =>
 obind (p1 (semPick call [W x10,(.bool true),W x12] .undef st)) fun x13 =>
 m1 (W x13) fun x14 =>
 gm (W x14) false (AV.weak v6) fun x15 =>
 obind (gv (W x14) false (p1 (semBin .eql call [W x15,(.int .u8 58)] .undef st))) fun x16 =>
 obind (p1 (semPick call [W x14,(.bool true),W x16] .undef st)) fun x17 =>
 m1 (W x17) fun x18 =>
 gm (W x18) false (AV.weak v6) fun x19 =>
 obind (gv (W x18) false (p1 (semBin .eql call [W x19,(.int .u8 61)] .undef st))) fun x20 =>
 obind (p1 (semPick call [W x18,(.bool true),W x20] .undef st)) fun x21 =>
 m1 (W x21) fun x22 =>
 gm (W x22) false (AV.weak v6) fun x23 =>
 obind (gv (W x22) false (p1 (semBin .eql call [W x23,(.int .u8 64)] .undef st))) fun x24 =>
 obind (p1 (semPick call [W x22,(.bool true),W x24] .undef st)) fun x25 =>
 m1 (W x25) fun x26 =>
 gm (W x26) false (AV.weak v6) fun x27 =>
 obind (gv (W x26) false (p1 (semBin .eql call [W x27,(.int .u8 91)] .undef st))) fun x28 =>
 obind (p1 (semPick call [W x26,(.bool true),W x28] .undef st)) fun x29 =>
 m1 (W x29) fun x30 =>
 gm (W x30) false (AV.weak v6) fun x31 =>
 obind (gv (W x30) false (p1 (semBin .eql call [W x31,(.int .u8 93)] .undef st))) fun x32 =>
 obind (p1 (semPick call [W x30,(.bool true),W x32] .undef st)) fun x33 =>
 m1 (W x33) fun x34 =>
 gm (W x34) false (AV.weak v6) fun x35 =>
 obind (gv (W x34) false (p1 (semBin .eql call [W x35,(.int .u8 123)] .undef st))) fun x36 =>
 obind (p1 (semPick call [W x34,(.bool true),W x36] .undef st)) fun x37 =>
 m1 (W x37) fun x38 =>
 gm (W x38) false (AV.weak v6) fun x39 =>
 obind (gv (W x38) false (p1 (semBin .eql call [W x39,(.int .u8 124)] .undef st))) fun x40 =>
 obind (p1 (semPick call [W x38,(.bool true),W x40] .undef st)) fun x41 =>
 m1 (W x41) fun x42 =>
 gm (W x42) false (AV.weak v6) fun x43 =>
 obind (gv (W x42) false (p1 (semBin .eql call [W x43,(.int .u8 125)] .undef st))) fun x44 =>
 obind (p1 (semPick call [W x42,(.bool true),W x44] .undef st)) fun x45 =>
 m1 (W x45) fun x46 =>
 gm (W x46) false (AV.weak v6) fun x47 =>
 obind (gv (W x46) false (p1 (semBin .eql call [W x47,(.int .u8 38)] .undef st))) fun x48 =>
 obind (p1 (semPick call [W x46,(.bool true),W x48] .undef st)) fun x49 =>
 m1 (W x49) fun x50 =>
 brE (W x50) call n a40s46 .skip [v0,v1,v2,v3,v4,v5,v6,v7] st :=
  (exec_testT ..).trans (by kernel_rfl)
theorem a40s48_x : exec call n a40s48 [v0,v1,v2,v3,v4,v5,v6,v7] st =
 m1 (AV.weak v6) fun x0 =>
 obind (p1 (semBin .eql call [W x0,(.int .u8 46)] .undef st)) fun x1 =>
 m1 (W x1) fun x2 =>
 brE (W x2) call n a40s42 a40s47 [v0,v1,v2,v3,v4,v5,v6,v7] st :=
  (exec_testT ..).trans (by kernel_rfl)
theorem a40s49_x : exec call n a40s49 [v0,v1,v2,v3,v4,v5,v6,v7] st =
 m1 (AV.weak v6) fun x0 =>
 obind (p1 (semBin .eql call [W x0,(.int .u8 34)] .undef st)) fun x1 =>
 m1 (W x1) fun x2 =>
 brE (W x2) call n a40s32 a40s48 [v0,v1,v2,v3,v4,v5,v6,v7] st :=
  (exec_testT ..).trans (by kernel_rfl)
def a40s50_k0 (call : CallT) (n : Nat) (v0 v1 v2 v3 v4 v5 v6 v7 x2 : AV) (x4 : AV × St) : Option Out :=
 obind (p1 (semPick call [W x2,(.bool true),W x4.1] .undef x4.2)) fun x5 =>
 m1 (W x5) fun x6 =>
 brE (W x6) call n a40s28 a40s49 [v0,v1,v2,v3,v4,v5,v6,v7] x4.2
theorem a40s50_x : exec call n a40s50 [v0,v1,v2,v3,v4,v5,v6,v7] st =
 m1 (AV.weak v6) fun x0 =>
 obind (p1 (semBin .eql call [W x0,(.int .u8 45)] .undef st)) fun x1 =>
 m1 (W x1) fun x2 =>
 gm (W x2) false (AV.weak v6) fun x3 =>
 obind (gv2 (W x2) false st (p2 (semCall 57 call [W x3] .undef st))) (a40s50_k0 call n v0 v1 v2 v3 v4 v5 v6 v7 x2) :=
  (exec_testT ..).trans (by kernel_rfl)
def a40s51_k0 (call : CallT) (n : Nat) (v0 v1 v2 v3 v4 v5 v6 v7 : AV) (x1 : AV × St) : Option Out :=
 m1 (W x1.1) fun x2 =>
 brE (W x2) call n a40s24 a40s50 [v0,v1,v2,v3,v4,v5,v6,v7] x1.2
theorem a40s51_x : exec call n a40s51 [v0,v1,v2,v3,v4,v5,v6,v7] st =
 m1 (AV.weak v6) fun x0 =>
 obind (p2 (semCall 56 call [W x0] .undef st)) (a40s51_k0 call n v0 v1 v2 v3 v4 v5 v6 v7) :=
  (exec_testT ..).trans (by kernel_rfl)
theorem a40s54_x : exec call n a40s54 [v0,v1,v2,v3,v4,v5,v6,v7] st =
 obind (p1 (semBuild [.int .u8 0,.str [],.int .i64 0,.int .i64 0] [] call [] .undef st)) fun x0 =>
 m1 (AV.weak v1) fun x1 =>
 obind (semStLc 2 4 call [(locOf 2 v2),W x0] v2 st) fun x2 =>
 m1 (.int .i64 0) fun x3 =>
 m1 (W x1) fun x4 =>
 m1 (.int .i64 4) fun x5 =>
 some (Ex.normal,[v0,v1,x2.2.1,AV.strip x3,AV.strip x4,AV.strip x5,v6,v7],x2.2.2) :=
  (exec_reg ..).trans (by kernel_rfl)
theorem a41s1_x : exec call n a41s1 [v0,v1,v2] st =
 m1 (.bool false) fun x0 =>
 some (Ex.normal,[v0,v1,AV.strip x0],st) :=
  (exec_reg ..).trans (by kernel_rfl)
theorem a41s3_x : exec call n a41s3 [v0,v1,v2] st =
 m1 (AV.weak v0) fun x0 =>
 obind (p1 (semNilchk call [W x0] .undef st)) fun x1 =>
 obind (p1 (semFad 4 call [W x1] .undef st)) fun x2 =>
 obind (p1 (semLdSt false 1 call [W x2] .undef st)) fun x3 =>
 obind (p1 (semBin .eql call [W x3,(.int .i64 0)] .undef st)) fun x4 =>
 m1 (W x4) fun x5 =>
 gm (W x5) true (AV.weak v0) fun x6 =>
 obind (gv (W x5) true (p1 (semNilchk call [W x6] .undef st))) fun x7 =>
 obind (gv (W x5) true (p1 (semFad 0 call [W x7] .undef st))) fun x8 =>
 obind (gv (W x5) true (p1 (semLdSt false 1 call [W x8] .undef st))) fun x9 =>
 gm (W x5) true (AV.weak v0) fun x10 =>
 obind (gv (W x5) true (p1 (semNilchk call [W x10] .undef st))) fun x11 =>
 obind (gv (W x5) true (p1 (semFad 1 call [W x11] .undef st))) fun x12 =>
 obind (gv (W x5) true (p1 (semLdSt false 1 call [W x12] .undef st))) fun x13 =>
 obind (gv (W x5) true (p1 (semIad 4 call [W x9,W x13] .undef st))) fun x14 =>
 obind (gv (W x5) true (p1 (semFad 0 call [W x14] .undef st))) fun x15 =>
 obind (gv (W x5) true (p1 (semLdRo false 1 call [W x15] .undef st))) fun x16 =>
 obind (gv (W x5) true (p1 (semBin .eql call [W x16,(.int .u8 1)] .undef st))) fun x17 =>
 obind (p1 (semPick call [W x5,W x17,(.bool false)] .undef st)) fun x18 =>
 m1 (W x18) fun x19 =>
 gm (W x19) true (AV.weak v0) fun x20 =>
 obind (gv (W x19) true (p1 (semNilchk call [W x20] .undef st))) fun x21 =>
 obind (gv (W x19) true (p1 (semFad 0 call [W x21] .undef st))) fun x22 =>
 obind (gv (W x19) true (p1 (semLdSt false 1 call [W x22] .undef st))) fun x23 =>
 gm (W x19) true (AV.weak v0) fun x24 =>
 obind (gv (W x19) true (p1 (semNilchk call [W x24] .undef st))) fun x25 =>
 obind (gv (W x19) true (p1 (semFad 1 call [W x25] .undef st))) fun x26 =>
 obind (gv (W x19) true (p1 (semLdSt false 1 call [W x26] .undef st))) fun x27 =>
 obind (gv (W x19) true (p1 (semIad 4 call [W x23,W x27] .undef st))) fun x28 =>
 obind (gv (W x19) true (p1 (semFad 1 call [W x28] .undef st))) fun x29 =>
 obind (gv (W x19) true (p1 (semLdRo false 1 call [W x29] .undef st))) fun x30 =>
 gm (W x19) true (AV.weak v1) fun x31 =>
 obind (gv (W x19) true (p1 (semBin .eql call [W x30,W x31] .undef st))) fun x32 =>
 obind (p1 (semPick call [W x19,W x32,(.bool false)] .undef st)) fun x33 =>
 m1 (W x33) fun x34 =>
 some (Ex.normal,[v0,v1,AV.strip x34],st) :=
  (exec_reg ..).trans (by kernel_rfl)
theorem a42s2_x : exec call n a42s2 [v0,v1] st =
 m1 (AV.weak v0) fun x0 =>
 m1 (AV.weak v0) fun x1 =>
 obind (p1 (semNilchk call [W x1] .undef st)) fun x2 =>
 obind (p1 (semFad 0 call [W x2] .undef st)) fun x3 =>
 obind (p1 (semLdSt false 1 call [W x3] .undef st)) fun x4 =>
 m1 (AV.weak v0) fun x5 =>
 obind (p1 (semNilchk call [W x5] .undef st)) fun x6 =>
 obind (p1 (semFad 1 call [W x6] .undef st)) fun x7 =>
 obind (p1 (semLdSt false 1 call [W x7] .undef st)) fun x8 =>
 obind (p1 (semIad 4 call [W x4,W x8] .undef st)) fun x9 =>
 obind (p1 (semFad 3 call [W x9] .undef st)) fun x10 =>
 obind (p1 (semLdRo false 1 call [W x10] .undef st)) fun x11 =>
 obind (p1 (semNilchk call [W x0] .undef st)) fun x12 =>
 obind (p1 (semFad 3 call [W x12] .undef st)) fun x13 =>
 obind (p2 (semStSt 1 call [W x13,W x11] .undef st)) fun x14 =>
 some (Ex.normal,[v0,v1],x14.2) :=
  (exec_reg ..).trans (by kernel_rfl)
theorem a42s4_x : exec call n a42s4 [v0,v1] st =
 m1 (AV.weak v0) fun x0 =>
 m1 (AV.weak v1) fun x1 =>
 obind (p1 (semNilchk call [W x0] .undef st)) fun x2 =>
 obind (p1 (semFad 4 call [W x2] .undef st)) fun x3 =>
 obind (p2 (semStSt 1 call [W x3,W x1] .undef st)) fun x4 =>
 some (Ex.normal,[v0,v1],x4.2) :=
  (exec_reg ..).trans (by kernel_rfl)
theorem a42s6_x : exec call n a42s6 [v0,v1] st =
 m1 (AV.weak v0) fun x0 =>
 obind (p1 (semNilchk call [W x0] .undef st)) fun x1 =>
 obind (p1 (semFad 4 call [W x1] .undef st)) fun x2 =>
 obind (p1 (semLdSt false 1 call [W x2] .undef st)) fun x3 =>
 obind (p1 (semBin .eql call [W x3,(.int .i64 0)] .undef st)) fun x4 =>
 brE (W x4) call n a42s5 .skip [v0,v1] st :=
  (exec_testT ..).trans (by kernel_rfl)
theorem a43s1_x : exec call n a43s1 [v0,v1] st =
 m1 (.str []) fun x0 =>
 some (Ex.normal,[v0,AV.strip x0],st) :=
  (exec_reg ..).trans (by kernel_rfl)
def a43s4_k0 (call : CallT) (n : Nat) (v0 v1 : AV) (x1 : AV × St) : Option Out :=
 some (Ex.normal,[v0,v1],x1.2)
theorem a43s4_x : exec call n a43s4 [v0,v1] st =
 m1 (AV.weak v0) fun x0 =>
 obind (p2 (semCall 42 call [W x0,(.int .i64 4)] .undef st)) (a43s4_k0 call n v0 v1) :=
  (exec_reg ..).trans (by kernel_rfl)
theorem a43s6_x : exec call n a43s6 [v0,v1] st =
 m1 (.str []) fun x0 =>
 some (Ex.normal,[v0,AV.strip x0],st) :=
  (exec_reg ..).trans (by kernel_rfl)
def a43s9_k0 (call : CallT) (n : Nat) (v0 v1 : AV) (x1 : AV × St) : Option Out :=
 obind (p1 (semUn .not call [W x1.1] .undef x1.2)) fun x2 =>
 brE (W x2) call n a43s8 .skip [v0,v1] x1.2
theorem a43s9_x : exec call n a43s9 [v0,v1] st =
 m1 (AV.weak v0) fun x0 =>
 obind (p2 (semCall 26 call [W x0,(.int .u8 1)] .undef st)) (a43s9_k0 call n v0 v1) :=
  (exec_testT ..).trans (by kernel_rfl)
theorem a43s11_x : exec call n a43s11 [v0,v1] st =
 m1 (AV.weak v0) fun x0 =>
 obind (p1 (semNilchk call [W x0] .undef st)) fun x1 =>
 obind (p1 (semFad 1 call [W x1] .undef st)) fun x2 =>
 obind (p1 (semLdSt false 1 call [W x2] .undef st)) fun x3 =>
 obind (p1 (semBin .add call [W x3,(.int .i64 1)] .undef st)) fun x4 =>
 obind (p1 (semNilchk call [W x0] .undef st)) fun x5 =>
 obind (p1 (semFad 1 call [W x5] .undef st)) fun x6 =>
 obind (p2 (semStSt 1 call [W x6,W x4] .undef st)) fun x7 =>
 some (Ex.normal,[v0,v1],x7.2) :=
  (exec_reg ..).trans (by kernel_rfl)
theorem a43s13_x : exec call n a43s13 [v0,v1] st =
 m1 (AV.weak v0) fun x0 =>
 obind (p1 (semNilchk call [W x0] .undef st)) fun x1 =>
 obind (p1 (semFad 0 call [W x1] .undef st)) fun x2 =>
 obind (p1 (semLdSt false 1 call [W x2] .undef st)) fun x3 =>
 m1 (AV.weak v0) fun x4 =>
 obind (p1 (semNilchk call [W x4] .undef st)) fun x5 =>
 obind (p1 (semFad 1 call [W x5] .undef st)) fun x6 =>
 obind (p1 (semLdSt false 1 call [W x6] .undef st)) fun x7 =>
 obind (p1 (semBin .sub call [W x7,(.int .i64 1)] .undef st)) fun x8 =>
 obind (p1 (semIad 4 call [W x3,W x8] .undef st)) fun x9 =>
 obind (p1 (semFad 1 call [W x9] .undef st)) fun x10 =>
 obind (p1 (semLdRo false 1 call [W x10] .undef st)) fun x11 =>
 m1 (W x11) fun x12 =>
 some (Ex.normal,[v0,AV.strip x12],st) :=
  (exec_reg ..).trans (by kernel_rfl)
def a44s2_k0 (call : CallT) (n : Nat) (v0 v1 : AV) (x1 : AV × St) : Option Out :=
 some (Ex.normal,[v0,v1],x1.2)
theorem a44s2_x : exec call n a44s2 [v0,v1] st =
 m1 (AV.weak v0) fun x0 =>
 obind (p2 (semCall 42 call [W x0,(.int .i64 4)] .undef st)) (a44s2_k0 call n v0 v1) :=
  (exec_reg ..).trans (by kernel_rfl)
def a44s3_k0 (call : CallT) (n : Nat) (v0 v1 x5 : AV) (x8 : AV × St) : Option Out :=
 obind (gv (W x5) true (p1 (semUn .not call [W x8.1] .undef x8.2))) fun x9 =>
 obind (p1 (semPick call [W x5,W x9,(.bool false)] .undef x8.2)) fun x10 =>
 brE (W x10) call n a44s2 .skip [v0,v1] x8.2
theorem a44s3_x : exec call n a44s3 [v0,v1] st =
 m1 (AV.weak v0) fun x0 =>
 obind (p1 (semNilchk call [W x0] .undef st)) fun x1 =>
 obind (p1 (semFad 4 call [W x1] .undef st)) fun x2 =>
 obind (p1 (semLdSt false 1 call [W x2] .undef st)) fun x3 =>
 obind (p1 (semBin .eql call [W x3,(.int .i64 0)] .undef st)) fun x4 =>
 m1 (W x4) fun x5 =>
 gm (W x5) true (AV.weak v0) fun x6 =>
 gm (W x5) true (AV.weak v1) fun x7 =>
 obind (gv2 (W x5) true st (p2 (semCall 46 call [W x6,W x7] .undef st))) (a44s3_k0 call n v0 v1 x5) :=
  (exec_testT ..).trans (by kernel_rfl)
theorem a45s1_x : exec call n a45s1 [v0,v1,v2,v3] st =
 m1 (.list true []) fun x0 =>
 some (Ex.normal,[v0,v1,AV.strip x0,v3],st) :=
  (exec_reg ..).trans (by kernel_rfl)
def a45s3_k0 (call : CallT) (n : Nat) (v0 v1 v2 v3 : AV) (x2 : AV × St) : Option Out :=
 some (Ex.normal,[v0,v1,v2,v3],x2.2)
theorem a45s3_x : exec call n a45s3 [v0,v1,v2,v3] st =
 m1 (AV.weak v0) fun x0 =>
 m1 (AV.weak v1) fun x1 =>
 obind (p2 (semCall 46 call [W x0,W x1] .undef st)) (a45s3_k0 call n v0 v1 v2 v3) :=
  (exec_reg ..).trans (by kernel_rfl)
def a45s5_k0 (call : CallT) (n : Nat) (v0 v1 v2 : AV) (x1 : AV × St) : Option Out :=
 obind (p1 (semBslice 1 [[.str []]] [0] call [W x1.1] .undef x1.2)) fun x2 =>
 obind (semMv call [(AV.stripB x2)] .undef x1.2) fun x3 =>
 some (Ex.normal,[v0,v1,v2,(AV.strip x3.1)],x3.2.2)
theorem a45s5_x : exec call n a45s5 [v0,v1,v2,v3] st =
 m1 (AV.weak v0) fun x0 =>
 obind (p2 (semCall 43 call [W x0] .undef st)) (a45s5_k0 call n v0 v1 v2) :=
  (exec_reg ..).trans (by kernel_rfl)
def a45s7_k0 (call : CallT) (n : Nat) (v0 v1 v2 v3 : AV) (x2 : AV × St) : Option Out :=
 brE (W x2.1) call n .skip (.exit 0) [v0,v1,v2,v3] x2.2
theorem a45s7_x : exec call n a45s7 [v0,v1,v2,v3] st =
 m1 (AV.weak v0) fun x0 =>
 m1 (AV.weak v1) fun x1 =>
 obind (p2 (semCall 46 call [W x0,W x1] .undef st)) (a45s7_k0 call n v0 v1 v2 v3) :=
  (exec_testT ..).trans (by kernel_rfl)
def a45s9_k0 (call : CallT) (n : Nat) (v0 v1 v2 : AV) (x0 : AV × AV × St) (x2 : AV × St) : Option Out :=
 obind (p1 (semBslice 1 [[.str []]] [0] call [W x2.1] .undef x2.2)) fun x3 =>
 obind (semApp 1 16 call [(AV.stripB x0.1),W x3] .undef x2.2) fun x4 =>
 obind (semMv call [(AV.stripB x4.1)] .undef x4.2.2) fun x5 =>
 some (Ex.normal,[v0,v1,v2,(AV.strip x5.1)],x5.2.2)
theorem a45s9_x : exec call n a45s9 [v0,v1,v2,v3] st =
 obind (semMv call [v3] .undef st) fun x0 =>
 m1 (AV.weak v0) fun x1 =>
 obind (p2 (semCall 43 call [W x1] .undef x0.2.2)) (a45s9_k0 call n v0 v1 v2 x0) :=
  (exec_reg ..).trans (by kernel_rfl)
theorem a45s15_x : exec call n a45s15 [v0,v1,v2,v3] st =
 m1 (AV.weak v3) fun x0 =>
 obind (semMv call [(AV.stripB x0)] .undef st) fun x1 =>
 some (Ex.normal,[v0,v1,(AV.strip x1.1),v3],x1.2.2) :=
  (exec_reg ..).trans (by kernel_rfl)
theorem a46s1_x : exec call n a46s1 [v0,v1,v2] st =
 m1 (.bool false) fun x0 =>
 some (Ex.normal,[v0,v1,AV.strip x0],st) :=
  (exec_reg ..).trans (by kernel_rfl)
theorem a46s4_x : exec call n a46s4 [v0,v1,v2] st =
 m1 (AV.weak v0) fun x0 =>
 obind (p1 (semNilchk call [W x0] .undef st)) fun x1 =>
 obind (p1 (semFad 1 call [W x1] .undef st)) fun x2 =>
 obind (p1 (semLdSt false 1 call [W x2] .undef st)) fun x3 =>
 obind (p1 (semBin .add call [W x3,(.int .i64 1)] .undef st)) fun x4 =>
 obind (p1 (semNilchk call [W x0] .undef st)) fun x5 =>
 obind (p1 (semFad 1 call [W x5] .undef st)) fun x6 =>
 obind (p2 (semStSt 1 call [W x6,W x4] .undef st)) fun x7 =>
 some (Ex.normal,[v0,v1,v2],x7.2) :=
  (exec_reg ..).trans (by kernel_rfl)
theorem a46s6_x : exec call n a46s6 [v0,v1,v2] st =
 m1 (.bool true) fun x0 =>
 some (Ex.normal,[v0,v1,AV.strip x0],st) :=
  (exec_reg ..).trans (by kernel_rfl)
def a46s9_k1 (call : CallT) (n : Nat) (v0 v1 v2 x3 : AV) (x6 : AV × St) : Option Out :=
 obind (p1 (semPick call [W x3,(.bool true),W x6.1] .undef x6.2)) fun x7 =>
 brE (W x7) call n a46s8 .skip [v0,v1,v2] x6.2
def a46s9_k0 (call : CallT) (n : Nat) (v0 v1 v2 : AV) (x2 : AV × St) : Option Out :=
 m1 (W x2.1) fun x3 =>
 gm (W x3) false (AV.weak v0) fun x4 =>
 gm (W x3) false (AV.weak v1) fun x5 =>
 obind (gv2 (W x3) false x2.2 (p2 (semCall 41 call [W x4,W x5] .undef x2.2))) (a46s9_k1 call n v0 v1 v2 x3)
theorem a46s9_x : exec call n a46s9 [v0,v1,v2] st =
 m1 (AV.weak v0) fun x0 =>
 m1 (AV.weak v1) fun x1 =>
 obind (p2 (semCall 60 call [W x0,W x1] .undef st)) (a46s9_k0 call n v0 v1 v2) :=
  (exec_testT ..).trans (by kernel_rfl)
theorem a46s11_x : exec call n a46s11 [v0,v1,v2] st =
 m1 (.bool false) fun x0 =>
 some (Ex.normal,[v0,v1,AV.strip x0],st) :=
  (exec_reg ..).trans (by kernel_rfl)
theorem a47s1_x : exec call n a47s1 [v0,v1,v2,v3,v4,v5] st =
 m1 (.list true []) fun x0 =>
 some (Ex.normal,[v0,v1,AV.strip x0,v3,v4,v5],st) :=
  (exec_reg ..).trans (by kernel_rfl)
theorem a47s3_x : exec call n a47s3 [v0,v1,v2,v3,v4,v5] st =
 m1 (.list true []) fun x0 =>
 some (Ex.normal,[v0,v1,v2,AV.strip x0,v4,v5],st) :=
  (exec_reg ..).trans (by kernel_rfl)
theorem a47s5_x : exec call n a47s5 [v0,v1,v2,v3,v4,v5] st =
 m1 (.bool true) fun x0 =>
 some (Ex.normal,[v0,v1,v2,v3,AV.strip x0,v5],st) :=
  (exec_reg ..).trans (by kernel_rfl)
def a47s7_k0 (call : CallT) (n : Nat) (v0 v1 v2 v3 v4 v5 x5 x7 : AV) (x10 : AV × St) : Option Out :=
 obind (gv (W x7) false (p1 (semUn .not call [W x10.1] .undef x10.2))) fun x11 =>
 obind (gv (W x5) true (p1 (semPick call [W x7,(.bool true),W x11] .undef x10.2))) fun x12 =>
 obind (p1 (semPick call [W x5,W x12,(.bool false)] .undef x10.2)) fun x13 =>
 brE (W x13) call n .skip (.exit 0) [v0,v1,v2,v3,v4,v5] x10.2
theorem a47s7_x : exec call n a47s7 [v0,v1,v2,v3,v4,v5] st =
 m1 (AV.weak v0) fun x0 =>
 obind (p1 (semNilchk call [W x0] .undef st)) fun x1 =>
 obind (p1 (semFad 4 call [W x1] .undef st)) fun x2 =>
 obind (p1 (semLdSt false 1 call [W x2] .undef st)) fun x3 =>
 obind (p1 (semBin .eql call [W x3,(.int .i64 0)] .undef st)) fun x4 =>
 m1 (W x4) fun x5 =>
 gm (W x5) true (AV.weak v4) fun x6 =>
 gm (W x5) true (W x6) fun x7 =>
 gm (W x7) false (AV.weak v0) fun x8 =>
 gm (W x7) false (AV.weak v1) fun x9 =>
 obind (gv2 (W x7) false st (p2 (semCall 46 call [W x8,W x9] .undef st))) (a47s7_k0 call n v0 v1 v2 v3 v4 v5 x5 x7) :=
  (exec_testT ..).trans (by kernel_rfl)
def a47s9_k0 (call : CallT) (n : Nat) (v0 v1 v2 v3 v4 : AV) (x1 : AV × St) : Option Out :=
 obind (p1 (semBuild [.str [],.list true [],.str [],.list true [],.bool false,.bool false,.int .u8 0,.int .i64 0,.str [],.list true [],.list true []] [(0,1)] call [W x1.1] .undef x1.2)) fun x2 =>
 obind (semAlloc [.str [],.list true [],.str [],.list true [],.bool false,.bool false,.int .u8 0,.int .i64 0,.str [],.list true [],.list true []] call [] AV.undef x1.2) fun x3 =>
 obind (semStLc 5 11 call [(locOf 5 x3.2.1),(AV.stripB x2)] x3.2.1 x3.2.2) fun x4 =>
 some (Ex.normal,[v0,v1,v2,v3,v4,x4.2.1],x4.2.2)
theorem a47s9_x : exec call n a47s9 [v0,v1,v2,v3,v4,v5] st =
 m1 (AV.weak v0) fun x0 =>
 obind (p2 (semCall 43 call [W x0] .undef st)) (a47s9_k0 call n v0 v1 v2 v3 v4) :=
  (exec_reg ..).trans (by kernel_rfl)
def a47s11_k0 (call : CallT) (n : Nat) (v0 v1 v2 v3 v4 v5 : AV) (x1 : AV × St) : Option Out :=
 some (Ex.normal,[v0,v1,v2,v3,v4,v5],x1.2)
theorem a47s11_x : exec call n a47s11 [v0,v1,v2,v3,v4,v5] st =
 m1 (AV.weak v0) fun x0 =>
 obind (p2 (semCall 44 call [W x0,(.str [58])] .undef st)) (a47s11_k0 call n v0 v1 v2 v3 v4 v5) :=
  (exec_reg ..).trans (by kernel_rfl)
def a47s13_k0 (call : CallT) (n : Nat) (v0 v1 v2 v3 v4 v5 : AV) (x1 : AV × St) : Option Out :=
 obind (p1 (semFad 2 call [(locOf 5 v5)] .undef x1.2)) fun x2 =>
 obind (semStLc 5 3 call [W x2,(AV.stripB x1.1)] v5 x1.2) fun x3 =>
 some (Ex.normal,[v0,v1,v2,v3,v4,x3.2.1],x3.2.2)
theorem a47s13_x : exec call n a47s13 [v0,v1,v2,v3,v4,v5] st =
 m1 (AV.weak v0) fun x0 =>
 obind (p2 (semCall 48 call [W x0] .undef st)) (a47s13_k0 call n v0 v1 v2 v3 v4 v5) :=
  (exec_reg ..).trans (by kernel_rfl)
theorem a47s16_x : exec call n a47s16 [v0,v1,v2,v3,v4,v5] st =
 obind (p1 (semFad 5 call [(locOf 5 v5)] .undef st)) fun x0 =>
 obind (semStLc 5 1 call [W x0,(.bool true)] v5 st) fun x1 =>
 some (Ex.normal,[v0,v1,v2,v3,v4,x1.2.1],x1.2.2) :=
  (exec_reg ..).trans (by kernel_rfl)
def a47s18_k0 (call : CallT) (n : Nat) (v0 v1 v2 v3 v4 v5 : AV) (x1 : AV × St) : Option Out :=
 obind (p1 (semFad 6 call [(locOf 5 v5)] .undef x1.2)) fun x2 =>
 obind (semStLc 5 5 call [W x2,(AV.stripB x1.1)] v5 x1.2) fun x3 =>
 some (Ex.normal,[v0,v1,v2,v3,v4,x3.2.1],x3.2.2)
theorem a47s18_x : exec call n a47s18 [v0,v1,v2,v3,v4,v5] st =
 m1 (AV.weak v0) fun x0 =>
 obind (p2 (semCall 61 call [W x0,(.bool true)] .undef st)) (a47s18_k0 call n v0 v1 v2 v3 v4 v5) :=
  (exec_reg ..).trans (by kernel_rfl)
def a47s20_k0 (call : CallT) (n : Nat) (v0 v1 v2 v3 v4 v5 : AV) (x1 : AV × St) : Option Out :=
 brE (W x1.1) call n a47s19 .skip [v0,v1,v2,v3,v4,v5] x1.2
theorem a47s20_x : exec call n a47s20 [v0,v1,v2,v3,v4,v5] st =
 m1 (AV.weak v0) fun x0 =>
 obind (p2 (semCall 46 call [W x0,(.str [61])] .undef st)) (a47s20_k0 call n v0 v1 v2 v3 v4 v5) :=
  (exec_testT ..).trans (by kernel_rfl)
theorem a47s22_x : exec call n a47s22 [v0,v1,v2,v3,v4,v5] st =
 obind (semMv call [v3] .undef st) fun x0 =>
 obind (p1 (semLdLc 5 true 11 call [(locOf 5 v5)] v5 x0.2.2)) fun x1 =>
 obind (p1 (semBslice 11 [[.str [],.list true [],.str [],.list true [],.bool false,.bool false,.int .u8 0,.int .i64 0,.str [],.list true [],.list true []]] [0] call [W x1] .undef x0.2.2)) fun x2 =>
 obind (semApp 11 176 call [(AV.stripB x0.1),W x2] .undef x0.2.2) fun x3 =>
 obind (semMv call [(AV.stripB x3.1)] .undef x3.2.2) fun x4 =>
 some (Ex.normal,[v0,v1,v2,(AV.strip x4.1),v4,v5],x4.2.2) :=
  (exec_reg ..).trans (by kernel_rfl)
theorem a47s29_x : exec call n a47s29 [v0,v1,v2,v3,v4,v5] st =
 m1 (.bool false) fun x0 =>
 some (Ex.normal,[v0,v1,v2,v3,AV.strip x0,v5],st) :=
  (exec_reg ..).trans (by kernel_rfl)
theorem a47s36_x : exec call n a47s36 [v0,v1,v2,v3,v4,v5] st =
 m1 (AV.weak v3) fun x0 =>
 obind (semMv call [(AV.stripB x0)] .undef st) fun x1 =>
 some (Ex.normal,[v0,v1,(AV.strip x1.1),v3,v4,v5],x1.2.2) :=
  (exec_reg ..).trans (by kernel_rfl)
theorem a48s1_x : exec call n a48s1 [v0,v1,v2,v3] st =
 obind (semAlloc [.str [],.list true [],.bool false] call [] AV.undef st) fun x0 =>
 some (Ex.normal,[v0,x0.2.1,v2,v3],x0.2.2) :=
  (exec_reg ..).trans (by kernel_rfl)
theorem a48s3_x : exec call n a48s3 [v0,v1,v2,v3] st =
 obind (semAlloc [.str [],.list true [],.bool false] call [] AV.undef st) fun x0 =>
 some (Ex.normal,[v0,v1,x0.2.1,v3],x0.2.2) :=
  (exec_reg ..).trans (by kernel_rfl)
def a48s7_k0 (call : CallT) (n : Nat) (v0 v1 v2 : AV) (x1 : AV × St) : Option Out :=
 obind (semAlloc [.str [],.list true [],.bool false] call [] AV.undef x1.2) fun x2 =>
 obind (semStLc 3 3 call [(locOf 3 x2.2.1),(AV.stripB x1.1)] x2.2.1 x2.2.2) fun x3 =>
 some (Ex.normal,[v0,v1,v2,x3.2.1],x3.2.2)
theorem a48s7_x : exec call n a48s7 [v0,v1,v2,v3] st =
 m1 (AV.weak v0) fun x0 =>
 obind (p2 (semCall 48 call [W x0] .undef st)) (a48s7_k0 call n v0 v1 v2) :=
  (exec_reg ..).trans (by kernel_rfl)
theorem a48s9_x : exec call n a48s9 [v0,v1,v2,v3] st =
 obind (p1 (semLdLc 3 true 3 call [(locOf 3 v3)] v3 st)) fun x0 =>
 obind (p1 (semBslice 3 [[.str [],.list true [],.bool false]] [0] call [W x0] .undef st)) fun x1 =>
 obind (p1 (semFad 1 call [(locOf 2 v2)] .undef st)) fun x2 =>
 obind (semStLc 2 1 call [W x2,(AV.stripB x1)] v2 st) fun x3 =>
 some (Ex.normal,[v0,v1,x3.2.1,v3],x3.2.2) :=
  (exec_reg ..).trans (by kernel_rfl)
def a48s11_k0 (call : CallT) (n : Nat) (v0 v1 v2 v3 : AV) (x1 : AV × St) : Option Out :=
 some (Ex.normal,[v0,v1,v2,v3],x1.2)
theorem a48s11_x : exec call n a48s11 [v0,v1,v2,v3] st =
 m1 (AV.weak v0) fun x0 =>
 obind (p2 (semCall 44 call [W x0,(.str [93])] .undef st)) (a48s11_k0 call n v0 v1 v2 v3) :=
  (exec_reg ..).trans (by kernel_rfl)
def a48s15_k0 (call : CallT) (n : Nat) (v0 v1 v2 v3 : AV) (x1 : AV × St) : Option Out :=
 obind (p1 (semFad 0 call [(locOf 2 v2)] .undef x1.2)) fun x2 =>
 obind (semStLc 2 1 call [W x2,W x1.1] v2 x1.2) fun x3 =>
 some (Ex.normal,[v0,v1,x3.2.1,v3],x3.2.2)
theorem a48s15_x : exec call n a48s15 [v0,v1,v2,v3] st =
 m1 (AV.weak v0) fun x0 =>
 obind (p2 (semCall 43 call [W x0] .undef st)) (a48s15_k0 call n v0 v1 v2 v3) :=
  (exec_reg ..).trans (by kernel_rfl)
def a48s16_k0 (call : CallT) (n : Nat) (v0 v1 v2 v3 : AV) (x1 : AV × St) : Option Out :=
 brE (W x1.1) call n a48s13 a48s15 [v0,v1,v2,v3] x1.2
theorem a48s16_x : exec call n a48s16 [v0,v1,v2,v3] st =
 m1 (AV.weak v0) fun x0 =>
 obind (p2 (semCall 46 call [W x0,(.str [91])] .undef st)) (a48s16_k0 call n v0 v1 v2 v3) :=
  (exec_testT ..).trans (by kernel_rfl)
def a48s18_k0 (call : CallT) (n : Nat) (v0 v1 v2 v3 : AV) (x1 : AV × St) : Option Out :=
 obind (p1 (semFad 2 call [(locOf 2 v2)] .undef x1.2)) fun x2 =>
 obind (semStLc 2 1 call [W x2,W x1.1] v2 x1.2) fun x3 =>
 some (Ex.normal,[v0,v1,x3.2.1,v3],x3.2.2)
theorem a48s18_x : exec call n a48s18 [v0,v1,v2,v3] st =
 m1 (AV.weak v0) fun x0 =>
 obind (p2 (semCall 46 call [W x0,(.str [33])] .undef st)) (a48s18_k0 call n v0 v1 v2 v3) :=
  (exec_reg ..).trans (by kernel_rfl)
def a48s20_k0 (call : CallT) (n : Nat) (v0 v1 v2 v3 : AV) (x1 : AV × St) : Option Out :=
 brE (W x1.1) call n a48s19 .skip [v0,v1,v2,v3] x1.2
theorem a48s20_x : exec call n a48s20 [v0,v1,v2,v3] st =
 m1 (AV.weak v0) fun x0 =>
 obind (p2 (semCall 62 call [W x0] .undef st)) (a48s20_k0 call n v0 v1 v2 v3) :=
  (exec_testT ..).trans (by kernel_rfl)
theorem a48s22_x : exec call n a48s22 [v0,v1,v2,v3] st =
 m1 (AV.weak v0) fun x0 =>
 obind (p1 (semNilchk call [W x0] .undef st)) fun x1 =>
 obind (p1 (semFad 2 call [W x1] .undef st)) fun x2 =>
 obind (p1 (semLdSt false 1 call [W x2] .undef st)) fun x3 =>
 obind (p1 (semBin .sub call [W x3,(.int .i64 1)] .undef st)) fun x4 =>
 obind (p1 (semNilchk call [W x0] .undef st)) fun x5 =>
 obind (p1 (semFad 2 call [W x5] .undef st)) fun x6 =>
 obind (p2 (semStSt 1 call [W x6,W x4] .undef st)) fun x7 =>
 some (Ex.normal,[v0,v1,v2,v3],x7.2) :=
  (exec_reg ..).trans (by kernel_rfl)
theorem a48s24_x : exec call n a48s24 [v0,v1,v2,v3] st =
 obind (p1 (semLdLc 2 true 3 call [(locOf 2 v2)] v2 st)) fun x0 =>
 obind (semStLc 1 3 call [(locOf 1 v1),(AV.stripB x0)] v1 st) fun x1 =>
 some (Ex.normal,[v0,x1.2.1,v2,v3],x1.2.2) :=
  (exec_reg ..).trans (by kernel_rfl)
theorem a49s1_x : exec call n a49s1 [v0,v1,v2] st =
 m1 (.bool false) fun x0 =>
 some (Ex.normal,[v0,v1,AV.strip x0],st) :=
  (exec_reg ..).trans (by kernel_rfl)
theorem a49s3_x : exec call n a49s3 [v0,v1,v2] st =
 m1 (AV.weak v0) fun x0 =>
 obind (p1 (semLenS call [W x0] .undef st)) fun x1 =>
 m1 (AV.weak v1) fun x2 =>
 obind (p1 (semLenS call [W x2] .undef st)) fun x3 =>
 obind (p1 (semBin .geq call [W x1,W x3] .undef st)) fun x4 =>
 m1 (W x4) fun x5 =>
 gm (W x5) true (AV.weak v0) fun x6 =>
 gm (W x5) true (AV.weak v1) fun x7 =>
 obind (gv (W x5) true (p1 (semLenS call [W x7] .undef st))) fun x8 =>
 obind (gv (W x5) true (p1 (semSlS false true call [W x6,W x8] .undef st))) fun x9 =>
 gm (W x5) true (AV.weak v1) fun x10 =>
 obind (gv (W x5) true (p1 (semBin .eql call [W x9,W x10] .undef st))) fun x11 =>
 obind (p1 (semPick call [W x5,W x11,(.bool false)] .undef st)) fun x12 =>
 m1 (W x12) fun x13 =>
 some (Ex.normal,[v0,v1,AV.strip x13],st) :=
  (exec_reg ..).trans (by kernel_rfl)
theorem a50s1_x : exec call n a50s1 [v0,v1,v2,v3,v4,v5,v6] st =
 obind (semAlloc [.int .i64 0,.str []] call [] AV.undef st) fun x0 =>
 some (Ex.normal,[v0,x0.2.1,v2,v3,v4,v5,v6],x0.2.2) :=
  (exec_reg ..).trans (by kernel_rfl)
theorem a50s3_x : exec call n a50s3 [v0,v1,v2,v3,v4,v5,v6] st =
 m1 (AV.weak v0) fun x0 =>
 obind (p1 (semLenL call [(AV.weak (AV.strip x0))] .undef st)) fun x1 =>
 m1 (.int .i64 0) fun x2 =>
 some (Ex.normal,[v0,v1,v2,v3,AV.strip x0,AV.strip x1,AV.strip x2],st) :=
  (exec_reg ..).trans (by kernel_rfl)
theorem a50s5_x : exec call n a50s5 [v0,v1,v2,v3,v4,v5,v6] st =
 obind (p1 (semBin .lss call [(AV.weak v6),(AV.weak v5)] .undef st)) fun x0 =>
 brE (W x0) call n .skip (.exit 0) [v0,v1,v2,v3,v4,v5,v6] st :=
  (exec_testT ..).trans (by kernel_rfl)
theorem a50s7_x : exec call n a50s7 [v0,v1,v2,v3,v4,v5,v6] st =
 m1 (AV.weak v6) fun x0 =>
 obind (p1 (semIad 1 call [(AV.weak v4),(AV.weak v6)] .undef st)) fun x1 =>
 obind (p1 (semLdRo false 1 call [W x1] .undef st)) fun x2 =>
 m1 (W x0) fun x3 =>
 m1 (W x2) fun x4 =>
 some (Ex.normal,[v0,v1,AV.strip x3,AV.strip x4,v4,v5,v6],st) :=
  (exec_reg ..).trans (by kernel_rfl)
theorem a50s10_x : exec call n a50s10 [v0,v1,v2,v3,v4,v5,v6] st =
 m1 (AV.weak v3) fun x0 =>
 obind (p1 (semBuild [.int .i64 0,.str []] [(0,1),(1,1)] call [(.int .i64 7),W x0] .undef st)) fun x1 =>
 obind (semStLc 1 2 call [(locOf 1 v1),W x1] v1 st) fun x2 =>
 some (Ex.normal,[v0,x2.2.1,v2,v3,v4,v5,v6],x2.2.2) :=
  (exec_reg ..).trans (by kernel_rfl)
def a50s12_k0 (call : CallT) (n : Nat) (v0 v1 v2 v3 v4 v5 v6 : AV) (x4 : AV × St) : Option Out :=
 brE (W x4.1) call n a50s11 .skip [v0,v1,v2,v3,v4,v5,v6] x4.2
theorem a50s12_x : exec call n a50s12 [v0,v1,v2,v3,v4,v5,v6] st =
 m1 (AV.weak v0) fun x0 =>
 m1 (AV.weak v2) fun x1 =>
 obind (p1 (semSlL 1 false true call [W x0,W x1] .undef st)) fun x2 =>
 m1 (AV.weak v3) fun x3 =>
 obind (p2 (semCall 29 call [W x2,W x3] .undef st)) (a50s12_k0 call n v0 v1 v2 v3 v4 v5 v6) :=
  (exec_testT ..).trans (by kernel_rfl)
theorem a50s15_x : exec call n a50s15 [v0,v1,v2,v3,v4,v5,v6] st =
 m1 (AV.weak v3) fun x0 =>
 obind (p1 (semBuild [.int .i64 0,.str []] [(0,1),(1,1)] call [(.int .i64 1),W x0] .undef st)) fun x1 =>
 obind (semStLc 1 2 call [(locOf 1 v1),W x1] v1 st) fun x2 =>
 some (Ex.normal,[v0,x2.2.1,v2,v3,v4,v5,v6],x2.2.2) :=
  (exec_reg ..).trans (by kernel_rfl)
def a50s17_k0 (call : CallT) (n : Nat) (v0 v1 v2 v3 v4 v5 v6 : AV) (x1 : AV × St) : Option Out :=
 brE (W x1.1) call n a50s16 .skip [v0,v1,v2,v3,v4,v5,v6] x1.2
theorem a50s17_x : exec call n a50s17 [v0,v1,v2,v3,v4,v5,v6] st =
 m1 (AV.weak v3) fun x0 =>
 obind (p2 (semCall 30 call [W x0,(.str [95,95])] .undef st)) (a50s17_k0 call n v0 v1 v2 v3 v4 v5 v6) :=
  (exec_testT ..).trans (by kernel_rfl)
theorem a50s22_x : exec call n a50s22 [v0,v1,v2,v3,v4,v5,v6] st =
 obind (p1 (semBin .add call [(AV.weak v6),(.int .i64 1)] .undef st)) fun x0 =>
 m1 (W x0) fun x1 =>
 some (Ex.normal,[v0,v1,v2,v3,v4,v5,AV.strip x1],st) :=
  (exec_reg ..).trans (by kernel_rfl)
theorem a50s29_x : exec call n a50s29 [v0,v1,v2,v3,v4,v5,v6] st =
 obind (p1 (semBuild [.int .i64 0,.str []] [] call [] .undef st)) fun x0 =>
 obind (semStLc 1 2 call [(locOf 1 v1),W x0] v1 st) fun x1 =>
 some (Ex.normal,[v0,x1.2.1,v2,v3,v4,v5,v6],x1.2.2) :=
  (exec_reg ..).trans (by kernel_rfl)
theorem a51s1_x : exec call n a51s1 [v0,v1,v2,v3,v4,v5,v6,v7,v8,v9,v10,v11,v12,v13,v14,v15] st =
 obind (semBoxV call [(AV.weak v1)] AV.undef st) fun x0 =>
 obind (semAlloc [.int .i64 0,.str []] call [] AV.undef x0.2.2) fun x1 =>
 some (Ex.normal,[v0,v1,v2,x0.2.1,x1.2.1,v5,v6,v7,v8,v9,v10,v11,v12,v13,v14,v15],x1.2.2) :=
  (exec_reg ..).trans (by kernel_rfl)
def a51s3_k0 (call : CallT) (n : Nat) (v0 v1 v2 v3 v4 v6 v7 v8 v9 v10 v11 v12 v13 v14 v15 : AV) (x2 : AV × St) : Option Out :=
 m1 (W x2.1) fun x3 =>
 some (Ex.normal,[v0,v1,v2,v3,v4,AV.strip x3,v6,v7,v8,v9,v10,v11,v12,v13,v14,v15],x2.2)
theorem a51s3_x : exec call n a51s3 [v0,v1,v2,v3,v4,v5,v6,v7,v8,v9,v10,v11,v12,v13,v14,v15] st =
 obind (p1 (semFad 2 call [(locOf 3 v3)] .undef st)) fun x0 =>
 obind (p1 (semLdLc 3 true 3 call [W x0] v3 st)) fun x1 =>
 obind (p2 (semCall 63 call [W x1] .undef st)) (a51s3_k0 call n v0 v1 v2 v3 v4 v6 v7 v8 v9 v10 v11 v12 v13 v14 v15) :=
  (exec_reg ..).trans (by kernel_rfl)
def a51s5_k0 (call : CallT) (n : Nat) (v0 v1 v2 v3 v4 v5 v8 v9 v10 v11 v12 v13 v14 v15 : AV) (x2 : AV × St) : Option Out :=
 m1 (W x2.1) fun x3 =>
 obind (p1 (semExt 0 call [W x3] .undef x2.2)) fun x4 =>
 obind (p1 (semExt 1 call [W x3] .undef x2.2)) fun x5 =>
 obind (semAlloc [.int .u8 0,.str [],.list true [],.list true []] call [] AV.undef x2.2) fun x6 =>
 obind (semStLc 6 4 call [(locOf 6 x6.2.1),(AV.stripB x4)] x6.2.1 x6.2.2) fun x7 =>
 m1 (W x5) fun x8 =>
 some (Ex.normal,[v0,v1,v2,v3,v4,v5,x7.2.1,AV.strip x8,v8,v9,v10,v11,v12,v13,v14,v15],x7.2.2)
theorem a51s5_x : exec call n a51s5 [v0,v1,v2,v3,v4,v5,v6,v7,v8,v9,v10,v11,v12,v13,v14,v15] st =
 m1 (AV.weak v0) fun x0 =>
 m1 (AV.weak v5) fun x1 =>
 obind (p2 (semCall 15 call [W x0,W x1] .undef st)) (a51s5_k0 call n v0 v1 v2 v3 v4 v5 v8 v9 v10 v11 v12 v13 v14 v15) :=
  (exec_reg ..).trans (by kernel_rfl)
theorem a51s8_x : exec call n a51s8 [v0,v1,v2,v3,v4,v5,v6,v7,v8,v9,v10,v11,v12,v13,v14,v15] st =
 m1 (AV.weak v5) fun x0 =>
 obind (p1 (semBuild [.int .i64 0,.str []] [(0,1),(1,1)] call [(.int .i64 6),W x0] .undef st)) fun x1 =>
 obind (semStLc 4 2 call [(locOf 4 v4),W x1] v4 st) fun x2 =>
 some (Ex.normal,[v0,v1,v2,v3,x2.2.1,v5,v6,v7,v8,v9,v10,v11,v12,v13,v14,v15],x2.2.2) :=
  (exec_reg ..).trans (by kernel_rfl)
def a51s13_k0 (call : CallT) (n : Nat) (v0 v1 v2 v3 v4 v5 v6 v7 v8 v9 v10 v11 v13 v14 v15 : AV) (x1 : AV × St) : Option Out :=
 m1 (W x1.1) fun x2 =>
 some (Ex.normal,[v0,v1,v2,v3,v4,v5,v6,v7,v8,v9,v10,v11,AV.strip x2,v13,v14,v15],x1.2)
theorem a51s13_x : exec call n a51s13 [v0,v1,v2,v3,v4,v5,v6,v7,v8,v9,v10,v11,v12,v13,v14,v15] st =
 m1 (AV.weak v5) fun x0 =>
 obind (p2 (semCall 34 call [W x0] .undef st)) (a51s13_k0 call n v0 v1 v2 v3 v4 v5 v6 v7 v8 v9 v10 v11 v13 v14 v15) :=
  (exec_reg ..).trans (by kernel_rfl)
def a51s14_k0 (call : CallT) (n : Nat) (v0 v1 v2 v3 v4 v5 v6 v7 v8 v9 v10 v11 v13 v14 v15 x2 : AV) (x5 : AV × St) : Option Out :=
 obind (p1 (semPick call [W x2,W x5.1,(.bool false)] .undef x5.2)) fun x6 =>
 m1 (W x6) fun x7 =>
 brE (AV.weak (AV.strip x7)) call n .skip a51s13 [v0,v1,v2,v3,v4,v5,v6,v7,v8,v9,v10,v11,AV.strip x7,v13,v14,v15] x5.2
theorem a51s14_x : exec call n a51s14 [v0,v1,v2,v3,v4,v5,v6,v7,v8,v9,v10,v11,v12,v13,v14,v15] st =
 m1 (AV.weak v2) fun x0 =>
 obind (p1 (semUn .not call [W x0] .undef st)) fun x1 =>
 m1 (W x1) fun x2 =>
 gm (W x2) true (AV.weak v0) fun x3 =>
 gm (W x2) true (AV.weak v5) fun x4 =>
 obind (gv2 (W x2) true st (p2 (semCall 23 call [W x3,W x4] .undef st))) (a51s14_k0 call n v0 v1 v2 v3 v4 v5 v6 v7 v8 v9 v10 v11 v13 v14 v15 x2) :=
  (exec_testT ..).trans (by kernel_rfl)
def a51s15_k1 (call : CallT) (n : Nat) (v0 v1 v2 v3 v4 v5 v6 v7 v8 v9 v10 v11 v13 v14 v15 x7 : AV) (x10 : AV × St) : Option Out :=
 obind (gv (W x7) true (p1 (semUn .not call [W x10.1] .undef x10.2))) fun x11 =>
 obind (p1 (semPick call [W x7,W x11,(.bool false)] .undef x10.2)) fun x12 =>
 m1 (W x12) fun x13 =>
 brE (AV.weak (AV.strip x13)) call n .skip a51s14 [v0,v1,v2,v3,v4,v5,v6,v7,v8,v9,v10,v11,AV.strip x13,v13,v14,v15] x10.2
def a51s15_k0 (call : CallT) (n : Nat) (v0 v1 v2 v3 v4 v5 v6 v7 v8 v9 v10 v11 v13 v14 v15 x1 : AV) (x4 : AV × St) : Option Out :=
 obind (gv (W x1) true (p1 (semUn .not call [W x4.1] .undef x4.2))) fun x5 =>
 obind (p1 (semPick call [W x1,W x5,(.bool false)] .undef x4.2)) fun x6 =>
 m1 (W x6) fun x7 =>
 gm (W x7) true (AV.weak v0) fun x8 =>
 gm (W x7) true (AV.weak v5) fun x9 =>
 obind (gv2 (W x7) true x4.2 (p2 (semCall 22 call [W x8,W x9] .undef x4.2))) (a51s15_k1 call n v0 v1 v2 v3 v4 v5 v6 v7 v8 v9 v10 v11 v13 v14 v15 x7)
theorem a51s15_x : exec call n a51s15 [v0,v1,v2,v3,v4,v5,v6,v7,v8,v9,v10,v11,v12,v13,v14,v15] st =
 m1 (AV.weak v2) fun x0 =>
 m1 (W x0) fun x1 =>
 gm (W x1) true (AV.weak v0) fun x2 =>
 gm (W x1) true (AV.weak v5) fun x3 =>
 obind (gv2 (W x1) true st (p2 (semCall 21 call [W x2,W x3] .undef st))) (a51s15_k0 call n v0 v1 v2 v3 v4 v5 v6 v7 v8 v9 v10 v11 v13 v14 v15 x1) :=
  (exec_testT ..).trans (by kernel_rfl)
theorem a51s17_x : exec call n a51s17 [v0,v1,v2,v3,v4,v5,v6,v7,v8,v9,v10,v11,v12,v13,v14,v15] st =
 m1 (AV.weak v5) fun x0 =>
 obind (p1 (semBuild [.int .i64 0,.str []] [(0,1),(1,1)] call [(.int .i64 8),W x0] .undef st)) fun x1 =>
 obind (semStLc 4 2 call [(locOf 4 v4),W x1] v4 st) fun x2 =>
 some (Ex.normal,[v0,v1,v2,v3,x2.2.1,v5,v6,v7,v8,v9,v10,v11,v12,v13,v14,v15],x2.2.2) :=
  (exec_reg ..).trans (by kernel_rfl)
theorem a51s21_x : exec call n a51s21 [v0,v1,v2,v3,v4,v5,v6,v7,v8,v9,v10,v11,v12,v13,v14,v15] st =
 obind (p1 (semFad 0 call [(locOf 3 v3)] .undef st)) fun x0 =>
 obind (p1 (semLdLc 3 false 1 call [W x0] v3 st)) fun x1 =>
 obind (p1 (semBuild [.int .i64 0,.str []] [(0,1),(1,1)] call [(.int .i64 8),W x1] .undef st)) fun x2 =>
 obind (semStLc 4 2 call [(locOf 4 v4),W x2] v4 st) fun x3 =>
 some (Ex.normal,[v0,v1,v2,v3,x3.2.1,v5,v6,v7,v8,v9,v10,v11,v12,v13,v14,v15],x3.2.2) :=
  (exec_reg ..).trans (by kernel_rfl)
def a51s23_k0 (call : CallT) (n : Nat) (v0 v1 v2 v3 v4 v5 v6 v7 v8 v9 v10 v11 v12 v13 v14 v15 x2 : AV) (x8 : AV × St) : Option Out :=
 obind (gv (W x2) true (p1 (semUn .not call [W x8.1] .undef x8.2))) fun x9 =>
 obind (p1 (semPick call [W x2,W x9,(.bool false)] .undef x8.2)) fun x10 =>
 m1 (W x10) fun x11 =>
 brE (W x11) call n a51s22 .skip [v0,v1,v2,v3,v4,v5,v6,v7,v8,v9,v10,v11,v12,v13,v14,v15] x8.2
theorem a51s23_x : exec call n a51s23 [v0,v1,v2,v3,v4,v5,v6,v7,v8,v9,v10,v11,v12,v13,v14,v15] st =
 obind (p1 (semFad 5 call [(locOf 3 v3)] .undef st)) fun x0 =>
 obind (p1 (semLdLc 3 false 1 call [W x0] v3 st)) fun x1 =>
 m1 (W x1) fun x2 =>
 gm (W x2) true (AV.weak v0) fun x3 =>
 obind (gv (W x2) true (p1 (semFad 2 call [(locOf 3 v3)] .undef st))) fun x4 =>
 obind (gv (W x2) true (p1 (semLdLc 3 true 3 call [W x4] v3 st))) fun x5 =>
 obind (gv (W x2) true (p1 (semFad 6 call [(locOf 3 v3)] .undef st))) fun x6 =>
 obind (gv (W x2) true (p1 (semLdLc 3 true 5 call [W x6] v3 st))) fun x7 =>
 obind (gv2 (W x2) true st (p2 (semCall 64 call [W x3,W x5,W x7] .undef st))) (a51s23_k0 call n v0 v1 v2 v3 v4 v5 v6 v7 v8 v9 v10 v11 v12 v13 v14 v15 x2) :=
  (exec_testT ..).trans (by kernel_rfl)
theorem a51s24_x : exec call n a51s24 [v0,v1,v2,v3,v4,v5,v6,v7,v8,v9,v10,v11,v12,v13,v14,v15] st =
 brE (AV.weak v12) call n a51s18 a51s23 [v0,v1,v2,v3,v4,v5,v6,v7,v8,v9,v10,v11,v12,v13,v14,v15] st :=
  (exec_testT ..).trans (by kernel_rfl)
def a51s26_k0 (call : CallT) (n : Nat) (v0 v1 v2 v3 v4 v5 v6 v7 v8 v9 v10 v11 v12 v13 v14 v15 x2 : AV) (x5 : AV × St) : Option Out :=
 obind (gv (W x2) true (p1 (semUn .not call [W x5.1] .undef x5.2))) fun x6 =>
 obind (p1 (semPick call [W x2,W x6,(.bool false)] .undef x5.2)) fun x7 =>
 m1 (W x7) fun x8 =>
 brE (W x8) call n a51s9 a51s25 [v0,v1,v2,v3,v4,v5,v6,v7,v8,v9,v10,v11,v12,v13,v14,v15] x5.2
theorem a51s26_x : exec call n a51s26 [v0,v1,v2,v3,v4,v5,v6,v7,v8,v9,v10,v11,v12,v13,v14,v15] st =
 m1 (AV.weak v7) fun x0 =>
 obind (p1 (semUn .not call [W x0] .undef st)) fun x1 =>
 m1 (W x1) fun x2 =>
 gm (W x2) true (AV.weak v0) fun x3 =>
 gm (W x2) true (AV.weak v5) fun x4 =>
 obind (gv2 (W x2) true st (p2 (semCall 21 call [W x3,W x4] .undef st))) (a51s26_k0 call n v0 v1 v2 v3 v4 v5 v6 v7 v8 v9 v10 v11 v12 v13 v14 v15 x2) :=
  (exec_testT ..).trans (by kernel_rfl)
def a51s29_k1 (call : CallT) (n : Nat) (v0 v1 v2 v3 v4 v5 v6 v7 v9 v10 v11 v12 v13 v14 v15 : AV) (x3 : AV × St) : Option Out :=
 obind (semAlloc [.int .i64 0,.str []] call [] AV.undef x3.2) fun x4 =>
 obind (semStLc 8 2 call [(locOf 8 x4.2.1),W x3.1] x4.2.1 x4.2.2) fun x5 =>
 some (Ex.normal,[v0,v1,v2,v3,v4,v5,v6,v7,x5.2.1,v9,v10,v11,v12,v13,v14,v15],x5.2.2)
def a51s29_k0 (call : CallT) (n : Nat) (v0 v1 v2 v3 v4 v5 v6 v7 v9 v10 v11 v12 v13 v14 v15 : AV) (x2 : AV × St) : Option Out :=
 obind (p2 (semCall 50 call [W x2.1] .undef x2.2)) (a51s29_k1 call n v0 v1 v2 v3 v4 v5 v6 v7 v9 v10 v11 v12 v13 v14 v15)
theorem a51s29_x : exec call n a51s29 [v0,v1,v2,v3,v4,v5,v6,v7,v8,v9,v10,v11,v12,v13,v14,v15] st =
 obind (p1 (semFad 1 call [(locOf 3 v3)] .undef st)) fun x0 =>
 obind (p1 (semLdLc 3 false 1 call [W x0] v3 st)) fun x1 =>
 obind (p2 (semCall 37 call [W x1] .undef st)) (a51s29_k0 call n v0 v1 v2 v3 v4 v5 v6 v7 v9 v10 v11 v12 v13 v14 v15) :=
  (exec_reg ..).trans (by kernel_rfl)
end Go.Cb.CodeA
