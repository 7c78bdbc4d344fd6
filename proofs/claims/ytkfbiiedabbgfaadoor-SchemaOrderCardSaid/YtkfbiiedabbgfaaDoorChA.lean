/- What the pieces of that code come to, as chains. No conditions. -/
import Derived.Test.YtkfbiiedabbgfaaDoorChAp0
import Derived.Test.YtkfbiiedabbgfaaDoorXAms2
import Derived.KernelRfl
set_option maxRecDepth 100000
set_option linter.unusedVariables false
namespace Go.Cb.CodeA
open Go Go.Cb
variable (call : CallT) (n : Nat) (v0 v1 v2 v3 v4 v5 v6 v7 v8 v9 v10 v11 v12 v13 v14 v15 v16 v17 v18 v19 v20 v21 v22 : AV) (st : St)

theorem a51s32_x : exec call n a51s32 [v0,v1,v2,v3,v4,v5,v6,v7,v8,v9,v10,v11,v12,v13,v14,v15] st =
 obind (p1 (semLdLc 8 true 2 call [(locOf 8 v8)] v8 st)) fun x0 =>
 obind (semStLc 4 2 call [(locOf 4 v4),W x0] v4 st) fun x1 =>
 some (Ex.normal,[v0,v1,v2,v3,x1.2.1,v5,v6,v7,v8,v9,v10,v11,v12,v13,v14,v15],x1.2.2) :=
  (exec_reg ..).trans (by kernel_rfl)
theorem a51s34_x : exec call n a51s34 [v0,v1,v2,v3,v4,v5,v6,v7,v8,v9,v10,v11,v12,v13,v14,v15] st =
 obind (p1 (semFad 0 call [(locOf 8 v8)] .undef st)) fun x0 =>
 obind (p1 (semLdLc 8 false 1 call [W x0] v8 st)) fun x1 =>
 obind (p1 (semBin .neq call [W x1,(.int .i64 0)] .undef st)) fun x2 =>
 brE (W x2) call n a51s33 .skip [v0,v1,v2,v3,v4,v5,v6,v7,v8,v9,v10,v11,v12,v13,v14,v15] st :=
  (exec_testT ..).trans (by kernel_rfl)
theorem a51s37_x : exec call n a51s37 [v0,v1,v2,v3,v4,v5,v6,v7,v8,v9,v10,v11,v12,v13,v14,v15] st =
 obind (p1 (semFad 1 call [(locOf 3 v3)] .undef st)) fun x0 =>
 obind (p1 (semLdLc 3 false 1 call [W x0] v3 st)) fun x1 =>
 obind (p1 (semLenL call [(AV.weak (AV.strip x1))] .undef st)) fun x2 =>
 m1 (.int .i64 0) fun x3 =>
 some (Ex.normal,[v0,v1,v2,v3,v4,v5,v6,v7,v8,v9,v10,v11,v12,AV.strip x1,AV.strip x2,AV.strip x3],st) :=
  (exec_reg ..).trans (by kernel_rfl)
theorem a51s39_x : exec call n a51s39 [v0,v1,v2,v3,v4,v5,v6,v7,v8,v9,v10,v11,v12,v13,v14,v15] st =
 obind (p1 (semBin .lss call [(AV.weak v15),(AV.weak v14)] .undef st)) fun x0 =>
 brE (W x0) call n .skip (.exit 1) [v0,v1,v2,v3,v4,v5,v6,v7,v8,v9,v10,v11,v12,v13,v14,v15] st :=
  (exec_testT ..).trans (by kernel_rfl)
theorem a51s41_x : exec call n a51s41 [v0,v1,v2,v3,v4,v5,v6,v7,v8,v9,v10,v11,v12,v13,v14,v15] st =
 obind (p1 (semIad 11 call [(AV.weak v13),(AV.weak v15)] .undef st)) fun x0 =>
 obind (p1 (semLdRo true 11 call [W x0] .undef st)) fun x1 =>
 obind (semAlloc [.str [],.list true [],.str [],.list true [],.bool false,.bool false,.int .u8 0,.int .i64 0,.str [],.list true [],.list true []] call [] AV.undef st) fun x2 =>
 obind (semStLc 9 11 call [(locOf 9 x2.2.1),(AV.stripB x1)] x2.2.1 x2.2.2) fun x3 =>
 some (Ex.normal,[v0,v1,v2,v3,v4,v5,v6,v7,v8,x3.2.1,v10,v11,v12,v13,v14,v15],x3.2.2) :=
  (exec_reg ..).trans (by kernel_rfl)
def a51s43_k0 (call : CallT) (n : Nat) (v0 v1 v2 v3 v4 v5 v6 v7 v8 v9 v11 v12 v13 v14 v15 : AV) (x2 : AV × St) : Option Out :=
 m1 (W x2.1) fun x3 =>
 some (Ex.normal,[v0,v1,v2,v3,v4,v5,v6,v7,v8,v9,AV.strip x3,v11,v12,v13,v14,v15],x2.2)
theorem a51s43_x : exec call n a51s43 [v0,v1,v2,v3,v4,v5,v6,v7,v8,v9,v10,v11,v12,v13,v14,v15] st =
 obind (p1 (semFad 2 call [(locOf 9 v9)] .undef st)) fun x0 =>
 obind (p1 (semLdLc 9 true 3 call [W x0] v9 st)) fun x1 =>
 obind (p2 (semCall 63 call [W x1] .undef st)) (a51s43_k0 call n v0 v1 v2 v3 v4 v5 v6 v7 v8 v9 v11 v12 v13 v14 v15) :=
  (exec_reg ..).trans (by kernel_rfl)
theorem a51s47_x : exec call n a51s47 [v0,v1,v2,v3,v4,v5,v6,v7,v8,v9,v10,v11,v12,v13,v14,v15] st =
 obind (p1 (semFad 0 call [(locOf 9 v9)] .undef st)) fun x0 =>
 obind (p1 (semLdLc 9 false 1 call [W x0] v9 st)) fun x1 =>
 obind (p1 (semBuild [.int .i64 0,.str []] [(0,1),(1,1)] call [(.int .i64 8),W x1] .undef st)) fun x2 =>
 obind (semStLc 4 2 call [(locOf 4 v4),W x2] v4 st) fun x3 =>
 some (Ex.normal,[v0,v1,v2,v3,x3.2.1,v5,v6,v7,v8,v9,v10,v11,v12,v13,v14,v15],x3.2.2) :=
  (exec_reg ..).trans (by kernel_rfl)
theorem a51s49_x : exec call n a51s49 [v0,v1,v2,v3,v4,v5,v6,v7,v8,v9,v10,v11,v12,v13,v14,v15] st =
 obind (p1 (semFad 5 call [(locOf 9 v9)] .undef st)) fun x0 =>
 obind (p1 (semLdLc 9 false 1 call [W x0] v9 st)) fun x1 =>
 brE (W x1) call n a51s48 .skip [v0,v1,v2,v3,v4,v5,v6,v7,v8,v9,v10,v11,v12,v13,v14,v15] st :=
  (exec_testT ..).trans (by kernel_rfl)
def a51s51_k0 (call : CallT) (n : Nat) (v0 v1 v2 v3 v4 v5 v6 v7 v8 v9 v10 v12 v13 v14 v15 : AV) (x2 : AV × St) : Option Out :=
 obind (semAlloc [.int .i64 0,.str []] call [] AV.undef x2.2) fun x3 =>
 obind (semStLc 11 2 call [(locOf 11 x3.2.1),W x2.1] x3.2.1 x3.2.2) fun x4 =>
 some (Ex.normal,[v0,v1,v2,v3,v4,v5,v6,v7,v8,v9,v10,x4.2.1,v12,v13,v14,v15],x4.2.2)
theorem a51s51_x : exec call n a51s51 [v0,v1,v2,v3,v4,v5,v6,v7,v8,v9,v10,v11,v12,v13,v14,v15] st =
 m1 (AV.weak v0) fun x0 =>
 obind (p1 (semLdLc 9 true 11 call [(locOf 9 v9)] v9 st)) fun x1 =>
 obind (p2 (semCall 51 call [W x0,W x1,(.bool true)] .undef st)) (a51s51_k0 call n v0 v1 v2 v3 v4 v5 v6 v7 v8 v9 v10 v12 v13 v14 v15) :=
  (exec_reg ..).trans (by kernel_rfl)
theorem a51s54_x : exec call n a51s54 [v0,v1,v2,v3,v4,v5,v6,v7,v8,v9,v10,v11,v12,v13,v14,v15] st =
 obind (p1 (semLdLc 11 true 2 call [(locOf 11 v11)] v11 st)) fun x0 =>
 obind (semStLc 4 2 call [(locOf 4 v4),W x0] v4 st) fun x1 =>
 some (Ex.normal,[v0,v1,v2,v3,x1.2.1,v5,v6,v7,v8,v9,v10,v11,v12,v13,v14,v15],x1.2.2) :=
  (exec_reg ..).trans (by kernel_rfl)
theorem a51s56_x : exec call n a51s56 [v0,v1,v2,v3,v4,v5,v6,v7,v8,v9,v10,v11,v12,v13,v14,v15] st =
 obind (p1 (semFad 0 call [(locOf 11 v11)] .undef st)) fun x0 =>
 obind (p1 (semLdLc 11 false 1 call [W x0] v11 st)) fun x1 =>
 obind (p1 (semBin .neq call [W x1,(.int .i64 0)] .undef st)) fun x2 =>
 brE (W x2) call n a51s55 .skip [v0,v1,v2,v3,v4,v5,v6,v7,v8,v9,v10,v11,v12,v13,v14,v15] st :=
  (exec_testT ..).trans (by kernel_rfl)
def a51s58_k0 (call : CallT) (n : Nat) (v0 v1 v2 v3 v4 v5 v6 v7 v8 v9 v10 v11 v12 v13 v14 v15 : AV) (x2 : AV × St) : Option Out :=
 m1 (W x2.1) fun x3 =>
 brE (W x3) call n a51s49 a51s57 [v0,v1,v2,v3,v4,v5,v6,v7,v8,v9,v10,v11,v12,v13,v14,v15] x2.2
theorem a51s58_x : exec call n a51s58 [v0,v1,v2,v3,v4,v5,v6,v7,v8,v9,v10,v11,v12,v13,v14,v15] st =
 m1 (AV.weak v0) fun x0 =>
 m1 (AV.weak v10) fun x1 =>
 obind (p2 (semCall 23 call [W x0,W x1] .undef st)) (a51s58_k0 call n v0 v1 v2 v3 v4 v5 v6 v7 v8 v9 v10 v11 v12 v13 v14 v15) :=
  (exec_testT ..).trans (by kernel_rfl)
theorem a51s64_x : exec call n a51s64 [v0,v1,v2,v3,v4,v5,v6,v7,v8,v9,v10,v11,v12,v13,v14,v15] st =
 obind (p1 (semBin .add call [(AV.weak v15),(.int .i64 1)] .undef st)) fun x0 =>
 m1 (W x0) fun x1 =>
 some (Ex.normal,[v0,v1,v2,v3,v4,v5,v6,v7,v8,v9,v10,v11,v12,v13,v14,AV.strip x1],st) :=
  (exec_reg ..).trans (by kernel_rfl)
theorem a51s71_x : exec call n a51s71 [v0,v1,v2,v3,v4,v5,v6,v7,v8,v9,v10,v11,v12,v13,v14,v15] st =
 obind (p1 (semBuild [.int .i64 0,.str []] [] call [] .undef st)) fun x0 =>
 obind (semStLc 4 2 call [(locOf 4 v4),W x0] v4 st) fun x1 =>
 some (Ex.normal,[v0,v1,v2,v3,x1.2.1,v5,v6,v7,v8,v9,v10,v11,v12,v13,v14,v15],x1.2.2) :=
  (exec_reg ..).trans (by kernel_rfl)
theorem a52s1_x : exec call n a52s1 [v0,v1,v2,v3,v4,v5] st =
 obind (p2 (semBoxO call [(AV.weak v1)] .undef st)) fun x0 =>
 obind (semBoxV call [(AV.weak v2)] AV.undef x0.2) fun x1 =>
 m1 (.bool false) fun x2 =>
 some (Ex.normal,[v0,v1,v2,(AV.strip x0.1),x1.2.1,AV.strip x2],x1.2.2) :=
  (exec_reg ..).trans (by kernel_rfl)
def a52s3_k0 (call : CallT) (n : Nat) (v0 v1 v2 v3 v4 : AV) (x3 : AV × St) : Option Out :=
 obind (p1 (semUn .not call [W x3.1] .undef x3.2)) fun x4 =>
 m1 (W x4) fun x5 =>
 some (Ex.normal,[v0,v1,v2,v3,v4,AV.strip x5],x3.2)
theorem a52s3_x : exec call n a52s3 [v0,v1,v2,v3,v4,v5] st =
 obind (p1 (semFad 2 call [(locOf 4 v4)] .undef st)) fun x0 =>
 obind (p1 (semLdLc 4 false 1 call [W x0] v4 st)) fun x1 =>
 obind (p1 (semMkF 66 0 call [(AV.weak v3)] .undef st)) fun x2 =>
 obind (p2 (semCall 65 call [W x1,W x2] .undef st)) (a52s3_k0 call n v0 v1 v2 v3 v4) :=
  (exec_reg ..).trans (by kernel_rfl)
theorem a53s1_x : exec call n a53s1 [v0,v1,v2,v3] st =
 obind (semBoxV call [(AV.weak v1)] AV.undef st) fun x0 =>
 m1 (.bool false) fun x1 =>
 some (Ex.normal,[v0,v1,x0.2.1,AV.strip x1],x0.2.2) :=
  (exec_reg ..).trans (by kernel_rfl)
def a53s3_k1 (call : CallT) (n : Nat) (v0 v1 v2 x24 : AV) (x29 : AV × St) : Option Out :=
 obind (p1 (semPick call [W x24,W x29.1,(.bool false)] .undef x29.2)) fun x30 =>
 m1 (W x30) fun x31 =>
 some (Ex.normal,[v0,v1,v2,AV.strip x31],x29.2)
def a53s3_k0 (call : CallT) (n : Nat) (v0 v1 v2 x4 : AV) (x9 : AV × St) : Option Out :=
 obind (p1 (semPick call [W x4,W x9.1,(.bool false)] .undef x9.2)) fun x10 =>
 m1 (W x10) fun x11 =>
 obind (gv (W x11) true (p1 (semFad 2 call [(locOf 2 v2)] .undef x9.2))) fun x12 =>
 obind (gv (W x11) true (p1 (semFad 1 call [W x12] .undef x9.2))) fun x13 =>
 obind (gv (W x11) true (p1 (semLdLc 2 false 1 call [W x13] v2 x9.2))) fun x14 =>
 obind (gv (W x11) true (p1 (semLenL call [W x14] .undef x9.2))) fun x15 =>
 obind (gv (W x11) true (p1 (semBin .eql call [W x15,(.int .i64 0)] .undef x9.2))) fun x16 =>
 obind (p1 (semPick call [W x11,W x16,(.bool false)] .undef x9.2)) fun x17 =>
 m1 (W x17) fun x18 =>
 obind (gv (W x18) true (p1 (semFad 2 call [(locOf 2 v2)] .undef x9.2))) fun x19 =>
 obind (gv (W x18) true (p1 (semFad 2 call [W x19] .undef x9.2))) fun x20 =>
 obind (gv (W x18) true (p1 (semLdLc 2 false 1 call [W x20] v2 x9.2))) fun x21 =>
 obind (gv (W x18) true (p1 (semUn .not call [W x21] .undef x9.2))) fun x22 =>
 obind (p1 (semPick call [W x18,W x22,(.bool false)] .undef x9.2)) fun x23 =>
 m1 (W x23) fun x24 =>
 gm (W x24) true (AV.weak v0) fun x25 =>
 obind (gv (W x24) true (p1 (semFad 2 call [(locOf 2 v2)] .undef x9.2))) fun x26 =>
 obind (gv (W x24) true (p1 (semFad 0 call [W x26] .undef x9.2))) fun x27 =>
 obind (gv (W x24) true (p1 (semLdLc 2 false 1 call [W x27] v2 x9.2))) fun x28 =>
 obind (gv2 (W x24) true x9.2 (p2 (semCall 12 call [W x25,W x28] .undef x9.2))) (a53s3_k1 call n v0 v1 v2 x24)
theorem a53s3_x : exec call n a53s3 [v0,v1,v2,v3] st =
 obind (p1 (semFad 1 call [(locOf 2 v2)] .undef st)) fun x0 =>
 obind (p1 (semLdLc 2 false 1 call [W x0] v2 st)) fun x1 =>
 obind (p1 (semLenL call [W x1] .undef st)) fun x2 =>
 obind (p1 (semBin .eql call [W x2,(.int .i64 1)] .undef st)) fun x3 =>
 m1 (W x3) fun x4 =>
 obind (gv (W x4) true (p1 (semFad 1 call [(locOf 2 v2)] .undef st))) fun x5 =>
 obind (gv (W x4) true (p1 (semLdLc 2 false 1 call [W x5] v2 st))) fun x6 =>
 obind (gv (W x4) true (p1 (semIad 11 call [W x6,(.int .i64 0)] .undef st))) fun x7 =>
 obind (gv (W x4) true (p1 (semLdRo true 11 call [W x7] .undef st))) fun x8 =>
 obind (gv2 (W x4) true st (p2 (semCall 67 call [W x8] .undef st))) (a53s3_k0 call n v0 v1 v2 x4) :=
  (exec_reg ..).trans (by kernel_rfl)
theorem a54s1_x : exec call n a54s1 [v0,v1,v2,v3] st =
 obind (semBoxV call [(AV.weak v1)] AV.undef st) fun x0 =>
 m1 (.bool false) fun x1 =>
 some (Ex.normal,[v0,v1,x0.2.1,AV.strip x1],x0.2.2) :=
  (exec_reg ..).trans (by kernel_rfl)
def a54s3_k3 (call : CallT) (n : Nat) (v0 v1 v2 x11 : AV) (x20 : AV × St) : Option Out :=
 obind (p1 (semPick call [W x11,W x20.1,(.bool false)] .undef x20.2)) fun x21 =>
 m1 (W x21) fun x22 =>
 some (Ex.normal,[v0,v1,v2,AV.strip x22],x20.2)
def a54s3_k2 (call : CallT) (n : Nat) (v0 v1 v2 x11 x13 : AV) (x16 : AV × St) : Option Out :=
 obind (gv (W x11) true (p1 (semBuild [.str [],.list true [],.bool false] [(0,1),(2,1)] call [W x16.1,(.bool true)] .undef x16.2))) fun x17 =>
 obind (gv (W x11) true (p1 (semBslice 3 [[.str [],.list true [],.bool false]] [0] call [W x17] .undef x16.2))) fun x18 =>
 obind (gv (W x11) true (p1 (semBuild [.str [],.list true [],.bool false] [(1,1),(2,1)] call [W x18,(.bool true)] .undef x16.2))) fun x19 =>
 obind (gv2 (W x11) true x16.2 (p2 (semCall 18 call [W x13,W x19] .undef x16.2))) (a54s3_k3 call n v0 v1 v2 x11)
def a54s3_k1 (call : CallT) (n : Nat) (v0 v1 v2 x4 : AV) (x9 : AV × St) : Option Out :=
 obind (p1 (semPick call [W x4,W x9.1,(.bool false)] .undef x9.2)) fun x10 =>
 m1 (W x10) fun x11 =>
 obind (gv (W x11) true (p1 (semFad 2 call [(locOf 2 v2)] .undef x9.2))) fun x12 =>
 obind (gv (W x11) true (p1 (semLdLc 2 true 3 call [W x12] v2 x9.2))) fun x13 =>
 obind (gv (W x11) true (p1 (semFad 2 call [(locOf 2 v2)] .undef x9.2))) fun x14 =>
 obind (gv (W x11) true (p1 (semLdLc 2 true 3 call [W x14] v2 x9.2))) fun x15 =>
 obind (gv2 (W x11) true x9.2 (p2 (semCall 63 call [W x15] .undef x9.2))) (a54s3_k2 call n v0 v1 v2 x11 x13)
def a54s3_k0 (call : CallT) (n : Nat) (v0 v1 v2 x4 x5 : AV) (x8 : AV × St) : Option Out :=
 obind (gv2 (W x4) true x8.2 (p2 (semCall 12 call [W x5,W x8.1] .undef x8.2))) (a54s3_k1 call n v0 v1 v2 x4)
theorem a54s3_x : exec call n a54s3 [v0,v1,v2,v3] st =
 obind (p1 (semFad 1 call [(locOf 2 v2)] .undef st)) fun x0 =>
 obind (p1 (semLdLc 2 false 1 call [W x0] v2 st)) fun x1 =>
 obind (p1 (semLenL call [W x1] .undef st)) fun x2 =>
 obind (p1 (semBin .eql call [W x2,(.int .i64 0)] .undef st)) fun x3 =>
 m1 (W x3) fun x4 =>
 gm (W x4) true (AV.weak v0) fun x5 =>
 obind (gv (W x4) true (p1 (semFad 2 call [(locOf 2 v2)] .undef st))) fun x6 =>
 obind (gv (W x4) true (p1 (semLdLc 2 true 3 call [W x6] v2 st))) fun x7 =>
 obind (gv2 (W x4) true st (p2 (semCall 63 call [W x7] .undef st))) (a54s3_k0 call n v0 v1 v2 x4 x5) :=
  (exec_reg ..).trans (by kernel_rfl)
theorem a55s1_x : exec call n a55s1 [v0,v1,v2,v3,v4,v5,v6,v7,v8,v9] st =
 obind (p2 (semBoxO call [(AV.weak v0)] .undef st)) fun x0 =>
 obind (semBoxV call [(AV.weak v1)] AV.undef x0.2) fun x1 =>
 m1 (.bool false) fun x2 =>
 some (Ex.normal,[v0,v1,(AV.strip x0.1),x1.2.1,AV.strip x2,v5,v6,v7,v8,v9],x1.2.2) :=
  (exec_reg ..).trans (by kernel_rfl)
def a55s3_k0 (call : CallT) (n : Nat) (v0 v1 v2 v3 v4 v7 v8 v9 : AV) (x2 : AV × St) : Option Out :=
 m1 (W x2.1) fun x3 =>
 obind (p1 (semExt 0 call [W x3] .undef x2.2)) fun x4 =>
 obind (p1 (semExt 1 call [W x3] .undef x2.2)) fun x5 =>
 m1 (W x4) fun x6 =>
 m1 (W x5) fun x7 =>
 some (Ex.normal,[v0,v1,v2,v3,v4,AV.strip x6,AV.strip x7,v7,v8,v9],x2.2)
theorem a55s3_x : exec call n a55s3 [v0,v1,v2,v3,v4,v5,v6,v7,v8,v9] st =
 obind (p1 (semFad 0 call [(locOf 3 v3)] .undef st)) fun x0 =>
 obind (p1 (semLdLc 3 false 1 call [W x0] v3 st)) fun x1 =>
 obind (p2 (semCall 68 call [W x1] .undef st)) (a55s3_k0 call n v0 v1 v2 v3 v4 v7 v8 v9) :=
  (exec_reg ..).trans (by kernel_rfl)
def a55s5_k0 (call : CallT) (n : Nat) (v0 v1 v2 v3 v4 v5 v6 v9 : AV) (x2 : AV × St) : Option Out :=
 m1 (W x2.1) fun x3 =>
 obind (p1 (semExt 0 call [W x3] .undef x2.2)) fun x4 =>
 obind (p1 (semExt 1 call [W x3] .undef x2.2)) fun x5 =>
 obind (p2 (semAllocO [.int .u8 0,.str [],.list true [],.list true []] call [] .undef x2.2)) fun x6 =>
 obind (semStSt 4 call [(AV.weak (AV.strip x6.1)),(AV.stripB x4)] .undef x6.2) fun x7 =>
 m1 (W x5) fun x8 =>
 some (Ex.normal,[v0,v1,v2,v3,v4,v5,v6,(AV.strip x6.1),AV.strip x8,v9],x7.2.2)
theorem a55s5_x : exec call n a55s5 [v0,v1,v2,v3,v4,v5,v6,v7,v8,v9] st =
 obind (p1 (semLdSt false 1 call [(AV.weak v2)] .undef st)) fun x0 =>
 m1 (AV.weak v6) fun x1 =>
 obind (p2 (semCall 15 call [W x0,W x1] .undef st)) (a55s5_k0 call n v0 v1 v2 v3 v4 v5 v6 v9) :=
  (exec_reg ..).trans (by kernel_rfl)
theorem a55s8_x : exec call n a55s8 [v0,v1,v2,v3,v4,v5,v6,v7,v8,v9] st =
 m1 (.bool false) fun x0 =>
 some (Ex.normal,[v0,v1,v2,v3,AV.strip x0,v5,v6,v7,v8,v9],st) :=
  (exec_reg ..).trans (by kernel_rfl)
def a55s10_k1 (call : CallT) (n : Nat) (v0 v1 v2 v3 v4 v5 v6 v7 v8 v9 x11 : AV) (x16 : AV × St) : Option Out :=
 obind (gv (W x11) false (p1 (semUn .not call [W x16.1] .undef x16.2))) fun x17 =>
 obind (p1 (semPick call [W x11,(.bool true),W x17] .undef x16.2)) fun x18 =>
 brE (W x18) call n a55s9 .skip [v0,v1,v2,v3,v4,v5,v6,v7,v8,v9] x16.2
def a55s10_k0 (call : CallT) (n : Nat) (v0 v1 v2 v3 v4 v5 v6 v7 v8 v9 x7 : AV) (x9 : AV × St) : Option Out :=
 obind (p1 (semPick call [W x7,(.bool true),W x9.1] .undef x9.2)) fun x10 =>
 m1 (W x10) fun x11 =>
 obind (gv (W x11) false (p1 (semFad 2 call [(locOf 3 v3)] .undef x9.2))) fun x12 =>
 obind (gv (W x11) false (p1 (semLdLc 3 true 3 call [W x12] v3 x9.2))) fun x13 =>
 gm (W x11) false (AV.weak v6) fun x14 =>
 obind (gv (W x11) false (p1 (semBuild [.str [],.list true [],.bool false] [(0,1)] call [W x14] .undef x9.2))) fun x15 =>
 obind (gv2 (W x11) false x9.2 (p2 (semCall 18 call [W x13,W x15] .undef x9.2))) (a55s10_k1 call n v0 v1 v2 v3 v4 v5 v6 v7 v8 v9 x11)
theorem a55s10_x : exec call n a55s10 [v0,v1,v2,v3,v4,v5,v6,v7,v8,v9] st =
 m1 (AV.weak v8) fun x0 =>
 obind (p1 (semUn .not call [W x0] .undef st)) fun x1 =>
 m1 (W x1) fun x2 =>
 obind (gv (W x2) false (p1 (semFad 0 call [(AV.weak v7)] .undef st))) fun x3 =>
 obind (gv (W x2) false (p1 (semLdSt false 1 call [W x3] .undef st))) fun x4 =>
 obind (gv (W x2) false (p1 (semBin .neq call [W x4,(.int .u8 1)] .undef st))) fun x5 =>
 obind (p1 (semPick call [W x2,(.bool true),W x5] .undef st)) fun x6 =>
 m1 (W x6) fun x7 =>
 gm (W x7) false (AV.weak v6) fun x8 =>
 obind (gv2 (W x7) false st (p2 (semCall 34 call [W x8] .undef st))) (a55s10_k0 call n v0 v1 v2 v3 v4 v5 v6 v7 v8 v9 x7) :=
  (exec_testT ..).trans (by kernel_rfl)
def a55s13_k0 (call : CallT) (n : Nat) (v0 v1 v2 v3 v5 v6 v7 v8 v9 x4 : AV) (x9 : AV × St) : Option Out :=
 obind (p1 (semPick call [W x4,W x9.1,(.bool false)] .undef x9.2)) fun x10 =>
 m1 (W x10) fun x11 =>
 some (Ex.normal,[v0,v1,v2,v3,AV.strip x11,v5,v6,v7,v8,v9],x9.2)
theorem a55s13_x : exec call n a55s13 [v0,v1,v2,v3,v4,v5,v6,v7,v8,v9] st =
 obind (p1 (semFad 1 call [(locOf 3 v3)] .undef st)) fun x0 =>
 obind (p1 (semLdLc 3 false 1 call [W x0] v3 st)) fun x1 =>
 obind (p1 (semLenL call [W x1] .undef st)) fun x2 =>
 obind (p1 (semBin .eql call [W x2,(.int .i64 1)] .undef st)) fun x3 =>
 m1 (W x3) fun x4 =>
 obind (gv (W x4) true (p1 (semFad 1 call [(locOf 3 v3)] .undef st))) fun x5 =>
 obind (gv (W x4) true (p1 (semLdLc 3 false 1 call [W x5] v3 st))) fun x6 =>
 obind (gv (W x4) true (p1 (semIad 11 call [W x6,(.int .i64 0)] .undef st))) fun x7 =>
 obind (gv (W x4) true (p1 (semLdRo true 11 call [W x7] .undef st))) fun x8 =>
 obind (gv2 (W x4) true st (p2 (semCall 67 call [W x8] .undef st))) (a55s13_k0 call n v0 v1 v2 v3 v5 v6 v7 v8 v9 x4) :=
  (exec_reg ..).trans (by kernel_rfl)
theorem a55s15_x : exec call n a55s15 [v0,v1,v2,v3,v4,v5,v6,v7,v8,v9] st =
 m1 (AV.weak v5) fun x0 =>
 obind (p1 (semBin .eql call [W x0,(.str [100,101,108,101,116,101])] .undef st)) fun x1 =>
 brE (W x1) call n a55s14 .skip [v0,v1,v2,v3,v4,v5,v6,v7,v8,v9] st :=
  (exec_testT ..).trans (by kernel_rfl)
theorem a55s18_x : exec call n a55s18 [v0,v1,v2,v3,v4,v5,v6,v7,v8,v9] st =
 m1 (.bool false) fun x0 =>
 some (Ex.normal,[v0,v1,v2,v3,AV.strip x0,v5,v6,v7,v8,v9],st) :=
  (exec_reg ..).trans (by kernel_rfl)
def a55s20_k0 (call : CallT) (n : Nat) (v0 v1 v2 v3 v4 v5 v6 v7 v8 v9 x4 : AV) (x9 : AV × St) : Option Out :=
 obind (gv (W x4) false (p1 (semUn .not call [W x9.1] .undef x9.2))) fun x10 =>
 obind (p1 (semPick call [W x4,(.bool true),W x10] .undef x9.2)) fun x11 =>
 m1 (W x11) fun x12 =>
 obind (gv (W x12) false (p1 (semFad 1 call [(locOf 3 v3)] .undef x9.2))) fun x13 =>
 obind (gv (W x12) false (p1 (semLdLc 3 false 1 call [W x13] v3 x9.2))) fun x14 =>
 obind (gv (W x12) false (p1 (semIad 11 call [W x14,(.int .i64 1)] .undef x9.2))) fun x15 =>
 obind (gv (W x12) false (p1 (semFad 0 call [W x15] .undef x9.2))) fun x16 =>
 obind (gv (W x12) false (p1 (semLdRo false 1 call [W x16] .undef x9.2))) fun x17 =>
 obind (gv (W x12) false (p1 (semBin .neq call [W x17,(.str [105,110,112,117,116])] .undef x9.2))) fun x18 =>
 obind (p1 (semPick call [W x12,(.bool true),W x18] .undef x9.2)) fun x19 =>
 m1 (W x19) fun x20 =>
 obind (gv (W x20) false (p1 (semFad 1 call [(locOf 3 v3)] .undef x9.2))) fun x21 =>
 obind (gv (W x20) false (p1 (semLdLc 3 false 1 call [W x21] v3 x9.2))) fun x22 =>
 obind (gv (W x20) false (p1 (semIad 11 call [W x22,(.int .i64 1)] .undef x9.2))) fun x23 =>
 obind (gv (W x20) false (p1 (semFad 2 call [W x23] .undef x9.2))) fun x24 =>
 obind (gv (W x20) false (p1 (semFad 2 call [W x24] .undef x9.2))) fun x25 =>
 obind (gv (W x20) false (p1 (semLdRo false 1 call [W x25] .undef x9.2))) fun x26 =>
 obind (gv (W x20) false (p1 (semUn .not call [W x26] .undef x9.2))) fun x27 =>
 obind (p1 (semPick call [W x20,(.bool true),W x27] .undef x9.2)) fun x28 =>
 m1 (W x28) fun x29 =>
 obind (gv (W x29) false (p1 (semFad 1 call [(locOf 3 v3)] .undef x9.2))) fun x30 =>
 obind (gv (W x29) false (p1 (semLdLc 3 false 1 call [W x30] v3 x9.2))) fun x31 =>
 obind (gv (W x29) false (p1 (semIad 11 call [W x31,(.int .i64 1)] .undef x9.2))) fun x32 =>
 obind (gv (W x29) false (p1 (semFad 2 call [W x32] .undef x9.2))) fun x33 =>
 obind (gv (W x29) false (p1 (semFad 1 call [W x33] .undef x9.2))) fun x34 =>
 obind (gv (W x29) false (p1 (semLdRo false 1 call [W x34] .undef x9.2))) fun x35 =>
 obind (gv (W x29) false (p1 (semLenL call [W x35] .undef x9.2))) fun x36 =>
 obind (gv (W x29) false (p1 (semBin .gtr call [W x36,(.int .i64 0)] .undef x9.2))) fun x37 =>
 obind (p1 (semPick call [W x29,(.bool true),W x37] .undef x9.2)) fun x38 =>
 brE (W x38) call n a55s19 .skip [v0,v1,v2,v3,v4,v5,v6,v7,v8,v9] x9.2
theorem a55s20_x : exec call n a55s20 [v0,v1,v2,v3,v4,v5,v6,v7,v8,v9] st =
 obind (p1 (semFad 1 call [(locOf 3 v3)] .undef st)) fun x0 =>
 obind (p1 (semLdLc 3 false 1 call [W x0] v3 st)) fun x1 =>
 obind (p1 (semLenL call [W x1] .undef st)) fun x2 =>
 obind (p1 (semBin .neq call [W x2,(.int .i64 2)] .undef st)) fun x3 =>
 m1 (W x3) fun x4 =>
 obind (gv (W x4) false (p1 (semFad 1 call [(locOf 3 v3)] .undef st))) fun x5 =>
 obind (gv (W x4) false (p1 (semLdLc 3 false 1 call [W x5] v3 st))) fun x6 =>
 obind (gv (W x4) false (p1 (semIad 11 call [W x6,(.int .i64 0)] .undef st))) fun x7 =>
 obind (gv (W x4) false (p1 (semLdRo true 11 call [W x7] .undef st))) fun x8 =>
 obind (gv2 (W x4) false st (p2 (semCall 67 call [W x8] .undef st))) (a55s20_k0 call n v0 v1 v2 v3 v4 v5 v6 v7 v8 v9 x4) :=
  (exec_testT ..).trans (by kernel_rfl)
def a55s22_k0 (call : CallT) (n : Nat) (v0 v1 v2 v3 v4 v5 v6 v7 : AV) (x7 : AV × St) : Option Out :=
 m1 (W x7.1) fun x8 =>
 obind (p1 (semExt 0 call [W x8] .undef x7.2)) fun x9 =>
 obind (p1 (semExt 1 call [W x8] .undef x7.2)) fun x10 =>
 obind (semAlloc [.int .u8 0,.str [],.list true [],.list true []] call [] AV.undef x7.2) fun x11 =>
 obind (semStLc 9 4 call [(locOf 9 x11.2.1),(AV.stripB x9)] x11.2.1 x11.2.2) fun x12 =>
 m1 (W x10) fun x13 =>
 some (Ex.normal,[v0,v1,v2,v3,v4,v5,v6,v7,AV.strip x13,x12.2.1],x12.2.2)
theorem a55s22_x : exec call n a55s22 [v0,v1,v2,v3,v4,v5,v6,v7,v8,v9] st =
 obind (p1 (semLdSt false 1 call [(AV.weak v2)] .undef st)) fun x0 =>
 obind (p1 (semFad 1 call [(locOf 3 v3)] .undef st)) fun x1 =>
 obind (p1 (semLdLc 3 false 1 call [W x1] v3 st)) fun x2 =>
 obind (p1 (semIad 11 call [W x2,(.int .i64 1)] .undef st)) fun x3 =>
 obind (p1 (semFad 2 call [W x3] .undef st)) fun x4 =>
 obind (p1 (semFad 0 call [W x4] .undef st)) fun x5 =>
 obind (p1 (semLdRo false 1 call [W x5] .undef st)) fun x6 =>
 obind (p2 (semCall 15 call [W x0,W x6] .undef st)) (a55s22_k0 call n v0 v1 v2 v3 v4 v5 v6 v7) :=
  (exec_reg ..).trans (by kernel_rfl)
theorem a55s25_x : exec call n a55s25 [v0,v1,v2,v3,v4,v5,v6,v7,v8,v9] st =
 m1 (.bool false) fun x0 =>
 some (Ex.normal,[v0,v1,v2,v3,AV.strip x0,v5,v6,v7,v8,v9],st) :=
  (exec_reg ..).trans (by kernel_rfl)
theorem a55s27_x : exec call n a55s27 [v0,v1,v2,v3,v4,v5,v6,v7,v8,v9] st =
 m1 (AV.weak v8) fun x0 =>
 obind (p1 (semUn .not call [W x0] .undef st)) fun x1 =>
 m1 (W x1) fun x2 =>
 obind (gv (W x2) false (p1 (semFad 0 call [(locOf 9 v9)] .undef st))) fun x3 =>
 obind (gv (W x2) false (p1 (semLdLc 9 false 1 call [W x3] v9 st))) fun x4 =>
 obind (gv (W x2) false (p1 (semBin .neq call [W x4,(.int .u8 5)] .undef st))) fun x5 =>
 obind (p1 (semPick call [W x2,(.bool true),W x5] .undef st)) fun x6 =>
 brE (W x6) call n a55s26 .skip [v0,v1,v2,v3,v4,v5,v6,v7,v8,v9] st :=
  (exec_testT ..).trans (by kernel_rfl)
def a55s29_k0 (call : CallT) (n : Nat) (v0 v1 v2 v3 v5 v6 v7 v8 v9 : AV) (x3 : AV × St) : Option Out :=
 obind (p1 (semUn .not call [W x3.1] .undef x3.2)) fun x4 =>
 m1 (W x4) fun x5 =>
 some (Ex.normal,[v0,v1,v2,v3,AV.strip x5,v5,v6,v7,v8,v9],x3.2)
theorem a55s29_x : exec call n a55s29 [v0,v1,v2,v3,v4,v5,v6,v7,v8,v9] st =
 obind (p1 (semFad 2 call [(locOf 9 v9)] .undef st)) fun x0 =>
 obind (p1 (semLdLc 9 false 1 call [W x0] v9 st)) fun x1 =>
 obind (p1 (semMkF 69 0 call [(AV.weak v7),(AV.weak v2)] .undef st)) fun x2 =>
 obind (p2 (semCall 65 call [W x1,W x2] .undef st)) (a55s29_k0 call n v0 v1 v2 v3 v5 v6 v7 v8 v9) :=
  (exec_reg ..).trans (by kernel_rfl)
theorem a56s1_x : exec call n a56s1 [v0,v1] st =
 m1 (.bool false) fun x0 =>
 some (Ex.normal,[v0,AV.strip x0],st) :=
  (exec_reg ..).trans (by kernel_rfl)
theorem a56s3_x : exec call n a56s3 [v0,v1] st =
 m1 (AV.weak v0) fun x0 =>
 obind (p1 (semBin .geq call [W x0,(.int .u8 97)] .undef st)) fun x1 =>
 m1 (W x1) fun x2 =>
 gm (W x2) true (AV.weak v0) fun x3 =>
 obind (gv (W x2) true (p1 (semBin .leq call [W x3,(.int .u8 122)] .undef st))) fun x4 =>
 obind (p1 (semPick call [W x2,W x4,(.bool false)] .undef st)) fun x5 =>
 m1 (W x5) fun x6 =>
 gm (W x6) false (AV.weak v0) fun x7 =>
 obind (gv (W x6) false (p1 (semBin .geq call [W x7,(.int .u8 65)] .undef st))) fun x8 =>
 gm (W x6) false (W x8) fun x9 =>
 gm (W x9) true (AV.weak v0) fun x10 =>
 obind (gv (W x9) true (p1 (semBin .leq call [W x10,(.int .u8 90)] .undef st))) fun x11 =>
 obind (gv (W x6) false (p1 (semPick call [W x9,W x11,(.bool false)] .undef st))) fun x12 =>
 obind (p1 (semPick call [W x6,(.bool true),W x12] .undef st)) fun x13 =>
 m1 (W x13) fun x14 =>
 gm (W x14) false (AV.weak v0) fun x15 =>
 obind (gv (W x14) false (p1 (semBin .eql call [W x15,(.int .u8 95)] .undef st))) fun x16 =>
 obind (p1 (semPick call [W x14,(.bool true),W x16] .undef st)) fun x17 =>
 m1 (W x17) fun x18 =>
 some (Ex.normal,[v0,AV.strip x18],st) :=
  (exec_reg ..).trans (by kernel_rfl)
theorem a57s1_x : exec call n a57s1 [v0,v1] st =
 m1 (.bool false) fun x0 =>
 some (Ex.normal,[v0,AV.strip x0],st) :=
  (exec_reg ..).trans (by kernel_rfl)
theorem a57s3_x : exec call n a57s3 [v0,v1] st =
 m1 (AV.weak v0) fun x0 =>
 obind (p1 (semBin .geq call [W x0,(.int .u8 48)] .undef st)) fun x1 =>
 m1 (W x1) fun x2 =>
 gm (W x2) true (AV.weak v0) fun x3 =>
 obind (gv (W x2) true (p1 (semBin .leq call [W x3,(.int .u8 57)] .undef st))) fun x4 =>
 obind (p1 (semPick call [W x2,W x4,(.bool false)] .undef st)) fun x5 =>
 m1 (W x5) fun x6 =>
 some (Ex.normal,[v0,AV.strip x6],st) :=
  (exec_reg ..).trans (by kernel_rfl)
theorem a58s1_x : exec call n a58s1 [v0,v1,v2,v3,v4,v5,v6,v7,v8,v9] st =
 obind (semAlloc [.int .u8 0,.str [],.int .i64 0,.int .i64 0] call [] AV.undef st) fun x0 =>
 m1 (.int .i64 0) fun x1 =>
 m1 (.int .i64 0) fun x2 =>
 m1 (.int .i64 0) fun x3 =>
 some (Ex.normal,[v0,v1,x0.2.1,AV.strip x1,AV.strip x2,AV.strip x3,v6,v7,v8,v9],x0.2.2) :=
  (exec_reg ..).trans (by kernel_rfl)
theorem a58s3_x : exec call n a58s3 [v0,v1,v2,v3,v4,v5,v6,v7,v8,v9] st =
 m1 (AV.weak v1) fun x0 =>
 m1 (W x0) fun x1 =>
 some (Ex.normal,[v0,v1,v2,v3,v4,v5,AV.strip x1,v7,v8,v9],st) :=
  (exec_reg ..).trans (by kernel_rfl)
theorem a58s5_x : exec call n a58s5 [v0,v1,v2,v3,v4,v5,v6,v7,v8,v9] st =
 m1 (AV.weak v0) fun x0 =>
 m1 (AV.weak v6) fun x1 =>
 obind (p1 (semIdxS call [W x0,W x1] .undef st)) fun x2 =>
 obind (p1 (semBin .eql call [W x2,(.int .u8 45)] .undef st)) fun x3 =>
 m1 (W x3) fun x4 =>
 some (Ex.normal,[v0,v1,v2,v3,v4,v5,v6,AV.strip x4,v8,v9],st) :=
  (exec_reg ..).trans (by kernel_rfl)
theorem a58s8_x : exec call n a58s8 [v0,v1,v2,v3,v4,v5,v6,v7,v8,v9] st =
 m1 (AV.weak v6) fun x0 =>
 obind (p1 (semBin .add call [W x0,(.int .i64 1)] .undef st)) fun x1 =>
 m1 (W x1) fun x2 =>
 some (Ex.normal,[v0,v1,v2,v3,v4,v5,AV.strip x2,v7,v8,v9],st) :=
  (exec_reg ..).trans (by kernel_rfl)
theorem a58s9_x : exec call n a58s9 [v0,v1,v2,v3,v4,v5,v6,v7,v8,v9] st =
 m1 (AV.weak v7) fun x0 =>
 brE (W x0) call n a58s8 .skip [v0,v1,v2,v3,v4,v5,v6,v7,v8,v9] st :=
  (exec_testT ..).trans (by kernel_rfl)
theorem a58s11_x : exec call n a58s11 [v0,v1,v2,v3,v4,v5,v6,v7,v8,v9] st =
 m1 (AV.weak v6) fun x0 =>
 m1 (W x0) fun x1 =>
 some (Ex.normal,[v0,v1,v2,v3,v4,v5,v6,v7,AV.strip x1,v9],st) :=
  (exec_reg ..).trans (by kernel_rfl)
theorem a58s13_x : exec call n a58s13 [v0,v1,v2,v3,v4,v5,v6,v7,v8,v9] st =
 m1 (.int .i64 0) fun x0 =>
 some (Ex.normal,[v0,v1,v2,v3,v4,v5,v6,v7,v8,AV.strip x0],st) :=
  (exec_reg ..).trans (by kernel_rfl)
def a58s15_k0 (call : CallT) (n : Nat) (v0 v1 v2 v3 v4 v5 v6 v7 v8 v9 x4 : AV) (x8 : AV × St) : Option Out :=
 obind (p1 (semPick call [W x4,W x8.1,(.bool false)] .undef x8.2)) fun x9 =>
 brE (W x9) call n .skip (.exit 0) [v0,v1,v2,v3,v4,v5,v6,v7,v8,v9] x8.2
theorem a58s15_x : exec call n a58s15 [v0,v1,v2,v3,v4,v5,v6,v7,v8,v9] st =
 m1 (AV.weak v6) fun x0 =>
 m1 (AV.weak v0) fun x1 =>
 obind (p1 (semLenS call [W x1] .undef st)) fun x2 =>
 obind (p1 (semBin .lss call [W x0,W x2] .undef st)) fun x3 =>
 m1 (W x3) fun x4 =>
 gm (W x4) true (AV.weak v0) fun x5 =>
 gm (W x4) true (AV.weak v6) fun x6 =>
 obind (gv (W x4) true (p1 (semIdxS call [W x5,W x6] .undef st))) fun x7 =>
 obind (gv2 (W x4) true st (p2 (semCall 57 call [W x7] .undef st))) (a58s15_k0 call n v0 v1 v2 v3 v4 v5 v6 v7 v8 v9 x4) :=
  (exec_testT ..).trans (by kernel_rfl)
theorem a58s18_x : exec call n a58s18 [v0,v1,v2,v3,v4,v5,v6,v7,v8,v9] st =
 m1 (AV.weak v9) fun x0 =>
 obind (p1 (semBin .mul call [W x0,(.int .i64 10)] .undef st)) fun x1 =>
 m1 (AV.weak v0) fun x2 =>
 m1 (AV.weak v6) fun x3 =>
 obind (p1 (semIdxS call [W x2,W x3] .undef st)) fun x4 =>
 obind (p1 (semBin .sub call [W x4,(.int .u8 48)] .undef st)) fun x5 =>
 obind (p1 (semConv .i64 call [W x5] .undef st)) fun x6 =>
 obind (p1 (semBin .add call [W x1,W x6] .undef st)) fun x7 =>
 m1 (W x7) fun x8 =>
 some (Ex.normal,[v0,v1,v2,v3,v4,v5,v6,v7,v8,AV.strip x8],st) :=
  (exec_reg ..).trans (by kernel_rfl)
theorem a58s19_x : exec call n a58s19 [v0,v1,v2,v3,v4,v5,v6,v7,v8,v9] st =
 m1 (AV.weak v6) fun x0 =>
 m1 (AV.weak v8) fun x1 =>
 obind (p1 (semBin .sub call [W x0,W x1] .undef st)) fun x2 =>
 obind (p1 (semBin .lss call [W x2,(.int .i64 18)] .undef st)) fun x3 =>
 brE (W x3) call n a58s18 .skip [v0,v1,v2,v3,v4,v5,v6,v7,v8,v9] st :=
  (exec_testT ..).trans (by kernel_rfl)
theorem a58s21_x : exec call n a58s21 [v0,v1,v2,v3,v4,v5,v6,v7,v8,v9] st =
 m1 (AV.weak v6) fun x0 =>
 obind (p1 (semBin .add call [W x0,(.int .i64 1)] .undef st)) fun x1 =>
 m1 (W x1) fun x2 =>
 some (Ex.normal,[v0,v1,v2,v3,v4,v5,AV.strip x2,v7,v8,v9],st) :=
  (exec_reg ..).trans (by kernel_rfl)
theorem a58s29_x : exec call n a58s29 [v0,v1,v2,v3,v4,v5,v6,v7,v8,v9] st =
 obind (p1 (semBuild [.int .u8 0,.str [],.int .i64 0,.int .i64 0] [] call [] .undef st)) fun x0 =>
 m1 (AV.weak v6) fun x1 =>
 obind (semStLc 2 4 call [(locOf 2 v2),W x0] v2 st) fun x2 =>
 m1 (.int .i64 0) fun x3 =>
 m1 (W x1) fun x4 =>
 m1 (.int .i64 4) fun x5 =>
 some (Ex.normal,[v0,v1,x2.2.1,AV.strip x3,AV.strip x4,AV.strip x5,v6,v7,v8,v9],x2.2.2) :=
  (exec_reg ..).trans (by kernel_rfl)
theorem a58s33_x : exec call n a58s33 [v0,v1,v2,v3,v4,v5,v6,v7,v8,v9] st =
 obind (p1 (semBuild [.int .u8 0,.str [],.int .i64 0,.int .i64 0] [] call [] .undef st)) fun x0 =>
 m1 (AV.weak v8) fun x1 =>
 obind (p1 (semBin .add call [W x1,(.int .i64 1)] .undef st)) fun x2 =>
 obind (semStLc 2 4 call [(locOf 2 v2),W x0] v2 st) fun x3 =>
 m1 (.int .i64 0) fun x4 =>
 m1 (W x2) fun x5 =>
 m1 (.int .i64 4) fun x6 =>
 some (Ex.normal,[v0,v1,x3.2.1,AV.strip x4,AV.strip x5,AV.strip x6,v6,v7,v8,v9],x3.2.2) :=
  (exec_reg ..).trans (by kernel_rfl)
theorem a58s37_x : exec call n a58s37 [v0,v1,v2,v3,v4,v5,v6,v7,v8,v9] st =
 obind (p1 (semBuild [.int .u8 0,.str [],.int .i64 0,.int .i64 0] [] call [] .undef st)) fun x0 =>
 m1 (AV.weak v6) fun x1 =>
 obind (semStLc 2 4 call [(locOf 2 v2),W x0] v2 st) fun x2 =>
 m1 (.int .i64 0) fun x3 =>
 m1 (W x1) fun x4 =>
 m1 (.int .i64 4) fun x5 =>
 some (Ex.normal,[v0,v1,x2.2.1,AV.strip x3,AV.strip x4,AV.strip x5,v6,v7,v8,v9],x2.2.2) :=
  (exec_reg ..).trans (by kernel_rfl)
theorem a58s41_x : exec call n a58s41 [v0,v1,v2,v3,v4,v5,v6,v7,v8,v9] st =
 obind (p1 (semBuild [.int .u8 0,.str [],.int .i64 0,.int .i64 0] [] call [] .undef st)) fun x0 =>
 m1 (AV.weak v1) fun x1 =>
 obind (semStLc 2 4 call [(locOf 2 v2),W x0] v2 st) fun x2 =>
 m1 (.int .i64 0) fun x3 =>
 m1 (W x1) fun x4 =>
 m1 (.int .i64 1) fun x5 =>
 some (Ex.normal,[v0,v1,x2.2.1,AV.strip x3,AV.strip x4,AV.strip x5,v6,v7,v8,v9],x2.2.2) :=
  (exec_reg ..).trans (by kernel_rfl)
theorem a58s43_x : exec call n a58s43 [v0,v1,v2,v3,v4,v5,v6,v7,v8,v9] st =
 m1 (AV.weak v6) fun x0 =>
 m1 (AV.weak v8) fun x1 =>
 obind (p1 (semBin .sub call [W x0,W x1] .undef st)) fun x2 =>
 obind (p1 (semBin .gtr call [W x2,(.int .i64 18)] .undef st)) fun x3 =>
 m1 (W x3) fun x4 =>
 brE (W x4) call n a58s42 .skip [v0,v1,v2,v3,v4,v5,v6,v7,v8,v9] st :=
  (exec_testT ..).trans (by kernel_rfl)
def a58s44_k0 (call : CallT) (n : Nat) (v0 v1 v2 v3 v4 v5 v6 v7 v8 v9 x4 : AV) (x8 : AV × St) : Option Out :=
 gm (W x4) true (W x8.1) fun x9 =>
 gm (W x9) false (AV.weak v0) fun x10 =>
 gm (W x9) false (AV.weak v6) fun x11 =>
 obind (gv (W x9) false (p1 (semIdxS call [W x10,W x11] .undef x8.2))) fun x12 =>
 obind (gv (W x9) false (p1 (semBin .eql call [W x12,(.int .u8 46)] .undef x8.2))) fun x13 =>
 obind (gv (W x4) true (p1 (semPick call [W x9,(.bool true),W x13] .undef x8.2))) fun x14 =>
 obind (p1 (semPick call [W x4,W x14,(.bool false)] .undef x8.2)) fun x15 =>
 m1 (W x15) fun x16 =>
 brE (W x16) call n a58s38 a58s43 [v0,v1,v2,v3,v4,v5,v6,v7,v8,v9] x8.2
theorem a58s44_x : exec call n a58s44 [v0,v1,v2,v3,v4,v5,v6,v7,v8,v9] st =
 m1 (AV.weak v6) fun x0 =>
 m1 (AV.weak v0) fun x1 =>
 obind (p1 (semLenS call [W x1] .undef st)) fun x2 =>
 obind (p1 (semBin .lss call [W x0,W x2] .undef st)) fun x3 =>
 m1 (W x3) fun x4 =>
 gm (W x4) true (AV.weak v0) fun x5 =>
 gm (W x4) true (AV.weak v6) fun x6 =>
 obind (gv (W x4) true (p1 (semIdxS call [W x5,W x6] .undef st))) fun x7 =>
 obind (gv2 (W x4) true st (p2 (semCall 56 call [W x7] .undef st))) (a58s44_k0 call n v0 v1 v2 v3 v4 v5 v6 v7 v8 v9 x4) :=
  (exec_testT ..).trans (by kernel_rfl)
theorem a58s45_x : exec call n a58s45 [v0,v1,v2,v3,v4,v5,v6,v7,v8,v9] st =
 m1 (AV.weak v0) fun x0 =>
 m1 (AV.weak v8) fun x1 =>
 obind (p1 (semIdxS call [W x0,W x1] .undef st)) fun x2 =>
 obind (p1 (semBin .eql call [W x2,(.int .u8 48)] .undef st)) fun x3 =>
 m1 (W x3) fun x4 =>
 gm (W x4) true (AV.weak v6) fun x5 =>
 gm (W x4) true (AV.weak v8) fun x6 =>
 obind (gv (W x4) true (p1 (semBin .add call [W x6,(.int .i64 1)] .undef st))) fun x7 =>
 obind (gv (W x4) true (p1 (semBin .gtr call [W x5,W x7] .undef st))) fun x8 =>
 obind (p1 (semPick call [W x4,W x8,(.bool false)] .undef st)) fun x9 =>
 m1 (W x9) fun x10 =>
 brE (W x10) call n a58s34 a58s44 [v0,v1,v2,v3,v4,v5,v6,v7,v8,v9] st :=
  (exec_testT ..).trans (by kernel_rfl)
theorem a58s46_x : exec call n a58s46 [v0,v1,v2,v3,v4,v5,v6,v7,v8,v9] st =
 m1 (AV.weak v6) fun x0 =>
 m1 (AV.weak v8) fun x1 =>
 obind (p1 (semBin .eql call [W x0,W x1] .undef st)) fun x2 =>
 m1 (W x2) fun x3 =>
 brE (W x3) call n a58s30 a58s45 [v0,v1,v2,v3,v4,v5,v6,v7,v8,v9] st :=
  (exec_testT ..).trans (by kernel_rfl)
theorem a58s50_x : exec call n a58s50 [v0,v1,v2,v3,v4,v5,v6,v7,v8,v9] st =
 m1 (AV.weak v9) fun x0 =>
 obind (p1 (semUn .neg call [W x0] .undef st)) fun x1 =>
 m1 (W x1) fun x2 =>
 some (Ex.normal,[v0,v1,v2,v3,v4,v5,v6,v7,v8,AV.strip x2],st) :=
  (exec_reg ..).trans (by kernel_rfl)
theorem a58s51_x : exec call n a58s51 [v0,v1,v2,v3,v4,v5,v6,v7,v8,v9] st =
 m1 (AV.weak v7) fun x0 =>
 brE (W x0) call n a58s50 .skip [v0,v1,v2,v3,v4,v5,v6,v7,v8,v9] st :=
  (exec_testT ..).trans (by kernel_rfl)
theorem a58s53_x : exec call n a58s53 [v0,v1,v2,v3,v4,v5,v6,v7,v8,v9] st =
 m1 (AV.weak v0) fun x0 =>
 m1 (AV.weak v1) fun x1 =>
 m1 (AV.weak v6) fun x2 =>
 obind (p1 (semSlS true true call [W x0,W x1,W x2] .undef st)) fun x3 =>
 m1 (AV.weak v9) fun x4 =>
 obind (p1 (semBuild [.int .u8 0,.str [],.int .i64 0,.int .i64 0] [(0,1),(1,1),(2,1)] call [(.int .u8 2),W x3,W x4] .undef st)) fun x5 =>
 m1 (AV.weak v6) fun x6 =>
 obind (semStLc 2 4 call [(locOf 2 v2),W x5] v2 st) fun x7 =>
 m1 (W x6) fun x8 =>
 m1 (.int .i64 0) fun x9 =>
 m1 (.int .i64 0) fun x10 =>
 some (Ex.normal,[v0,v1,x7.2.1,AV.strip x8,AV.strip x9,AV.strip x10,v6,v7,v8,v9],x7.2.2) :=
  (exec_reg ..).trans (by kernel_rfl)
theorem a59s1_x : exec call n a59s1 [v0,v1,v2,v3,v4,v5,v6,v7,v8,v9,v10] st =
 obind (semAlloc [.int .u8 0,.str [],.int .i64 0,.int .i64 0] call [] AV.undef st) fun x0 =>
 m1 (.int .i64 0) fun x1 =>
 m1 (.int .i64 0) fun x2 =>
 m1 (.int .i64 0) fun x3 =>
 some (Ex.normal,[v0,v1,x0.2.1,AV.strip x1,AV.strip x2,AV.strip x3,v6,v7,v8,v9,v10],x0.2.2) :=
  (exec_reg ..).trans (by kernel_rfl)
theorem a59s3_x : exec call n a59s3 [v0,v1,v2,v3,v4,v5,v6,v7,v8,v9,v10] st =
 m1 (.str []) fun x0 =>
 some (Ex.normal,[v0,v1,v2,v3,v4,v5,AV.strip x0,v7,v8,v9,v10],st) :=
  (exec_reg ..).trans (by kernel_rfl)
theorem a59s5_x : exec call n a59s5 [v0,v1,v2,v3,v4,v5,v6,v7,v8,v9,v10] st =
 m1 (AV.weak v1) fun x0 =>
 obind (p1 (semBin .add call [W x0,(.int .i64 1)] .undef st)) fun x1 =>
 m1 (W x1) fun x2 =>
 some (Ex.normal,[v0,v1,v2,v3,v4,v5,v6,AV.strip x2,v8,v9,v10],st) :=
  (exec_reg ..).trans (by kernel_rfl)
theorem a59s7_x : exec call n a59s7 [v0,v1,v2,v3,v4,v5,v6,v7,v8,v9,v10] st =
 m1 (AV.weak v7) fun x0 =>
 m1 (AV.weak v0) fun x1 =>
 obind (p1 (semLenS call [W x1] .undef st)) fun x2 =>
 obind (p1 (semBin .lss call [W x0,W x2] .undef st)) fun x3 =>
 brE (W x3) call n .skip (.exit 0) [v0,v1,v2,v3,v4,v5,v6,v7,v8,v9,v10] st :=
  (exec_testT ..).trans (by kernel_rfl)
theorem a59s9_x : exec call n a59s9 [v0,v1,v2,v3,v4,v5,v6,v7,v8,v9,v10] st =
 m1 (AV.weak v0) fun x0 =>
 m1 (AV.weak v7) fun x1 =>
 obind (p1 (semIdxS call [W x0,W x1] .undef st)) fun x2 =>
 some (Ex.normal,[v0,v1,v2,v3,v4,v5,v6,v7,AV.strip x2,v9,v10],st) :=
  (exec_reg ..).trans (by kernel_rfl)
theorem a59s13_x : exec call n a59s13 [v0,v1,v2,v3,v4,v5,v6,v7,v8,v9,v10] st =
 obind (p1 (semBuild [.int .u8 0,.str [],.int .i64 0,.int .i64 0] [] call [] .undef st)) fun x0 =>
 m1 (AV.weak v1) fun x1 =>
 obind (semStLc 2 4 call [(locOf 2 v2),W x0] v2 st) fun x2 =>
 m1 (.int .i64 0) fun x3 =>
 m1 (W x1) fun x4 =>
 m1 (.int .i64 2) fun x5 =>
 some (Ex.normal,[v0,v1,x2.2.1,AV.strip x3,AV.strip x4,AV.strip x5,v6,v7,v8,v9,v10],x2.2.2) :=
  (exec_reg ..).trans (by kernel_rfl)
theorem a59s15_x : exec call n a59s15 [v0,v1,v2,v3,v4,v5,v6,v7,v8,v9,v10] st =
 m1 (AV.weak v6) fun x0 =>
 obind (p1 (semLenS call [W x0] .undef st)) fun x1 =>
 obind (p1 (semBin .gtr call [W x1,(.int .i64 200)] .undef st)) fun x2 =>
 brE (W x2) call n a59s14 .skip [v0,v1,v2,v3,v4,v5,v6,v7,v8,v9,v10] st :=
  (exec_testT ..).trans (by kernel_rfl)
theorem a59s17_x : exec call n a59s17 [v0,v1,v2,v3,v4,v5,v6,v7,v8,v9,v10] st =
 m1 (AV.weak v6) fun x0 =>
 obind (p1 (semBuild [.int .u8 0,.str [],.int .i64 0,.int .i64 0] [(0,1),(1,1)] call [(.int .u8 3),W x0] .undef st)) fun x1 =>
 m1 (AV.weak v7) fun x2 =>
 obind (p1 (semBin .add call [W x2,(.int .i64 1)] .undef st)) fun x3 =>
 obind (semStLc 2 4 call [(locOf 2 v2),W x1] v2 st) fun x4 =>
 m1 (W x3) fun x5 =>
 m1 (.int .i64 0) fun x6 =>
 m1 (.int .i64 0) fun x7 =>
 some (Ex.normal,[v0,v1,x4.2.1,AV.strip x5,AV.strip x6,AV.strip x7,v6,v7,v8,v9,v10],x4.2.2) :=
  (exec_reg ..).trans (by kernel_rfl)
theorem a59s22_x : exec call n a59s22 [v0,v1,v2,v3,v4,v5,v6,v7,v8,v9,v10] st =
 obind (p1 (semBuild [.int .u8 0,.str [],.int .i64 0,.int .i64 0] [] call [] .undef st)) fun x0 =>
 m1 (AV.weak v7) fun x1 =>
 obind (semStLc 2 4 call [(locOf 2 v2),W x0] v2 st) fun x2 =>
 m1 (.int .i64 0) fun x3 =>
 m1 (W x1) fun x4 =>
 m1 (.int .i64 4) fun x5 =>
 some (Ex.normal,[v0,v1,x2.2.1,AV.strip x3,AV.strip x4,AV.strip x5,v6,v7,v8,v9,v10],x2.2.2) :=
  (exec_reg ..).trans (by kernel_rfl)
theorem a59s26_x : exec call n a59s26 [v0,v1,v2,v3,v4,v5,v6,v7,v8,v9,v10] st =
 m1 (AV.weak v7) fun x0 =>
 obind (p1 (semBin .add call [W x0,(.int .i64 1)] .undef st)) fun x1 =>
 m1 (W x1) fun x2 =>
 some (Ex.normal,[v0,v1,v2,v3,v4,v5,v6,AV.strip x2,v8,v9,v10],st) :=
  (exec_reg ..).trans (by kernel_rfl)
theorem a59s29_x : exec call n a59s29 [v0,v1,v2,v3,v4,v5,v6,v7,v8,v9,v10] st =
 obind (p1 (semBuild [.int .u8 0,.str [],.int .i64 0,.int .i64 0] [] call [] .undef st)) fun x0 =>
 m1 (AV.weak v7) fun x1 =>
 obind (semStLc 2 4 call [(locOf 2 v2),W x0] v2 st) fun x2 =>
 m1 (.int .i64 0) fun x3 =>
 m1 (W x1) fun x4 =>
 m1 (.int .i64 4) fun x5 =>
 some (Ex.normal,[v0,v1,x2.2.1,AV.strip x3,AV.strip x4,AV.strip x5,v6,v7,v8,v9,v10],x2.2.2) :=
  (exec_reg ..).trans (by kernel_rfl)
theorem a59s31_x : exec call n a59s31 [v0,v1,v2,v3,v4,v5,v6,v7,v8,v9,v10] st =
 m1 (AV.weak v7) fun x0 =>
 m1 (AV.weak v0) fun x1 =>
 obind (p1 (semLenS call [W x1] .undef st)) fun x2 =>
 obind (p1 (semBin .eql call [W x0,W x2] .undef st)) fun x3 =>
 brE (W x3) call n a59s30 .skip [v0,v1,v2,v3,v4,v5,v6,v7,v8,v9,v10] st :=
  (exec_testT ..).trans (by kernel_rfl)
theorem a59s33_x : exec call n a59s33 [v0,v1,v2,v3,v4,v5,v6,v7,v8,v9,v10] st =
 m1 (AV.weak v0) fun x0 =>
 m1 (AV.weak v7) fun x1 =>
 obind (p1 (semIdxS call [W x0,W x1] .undef st)) fun x2 =>
 some (Ex.normal,[v0,v1,v2,v3,v4,v5,v6,v7,v8,AV.strip x2,v10],st) :=
  (exec_reg ..).trans (by kernel_rfl)
theorem a59s36_x : exec call n a59s36 [v0,v1,v2,v3,v4,v5,v6,v7,v8,v9,v10] st =
 m1 (AV.weak v6) fun x0 =>
 obind (p1 (semBin .add call [W x0,(.str [10])] .undef st)) fun x1 =>
 m1 (W x1) fun x2 =>
 some (Ex.normal,[v0,v1,v2,v3,v4,v5,AV.strip x2,v7,v8,v9,v10],st) :=
  (exec_reg ..).trans (by kernel_rfl)
theorem a59s39_x : exec call n a59s39 [v0,v1,v2,v3,v4,v5,v6,v7,v8,v9,v10] st =
 m1 (AV.weak v6) fun x0 =>
 obind (p1 (semBin .add call [W x0,(.str [9])] .undef st)) fun x1 =>
 m1 (W x1) fun x2 =>
 some (Ex.normal,[v0,v1,v2,v3,v4,v5,AV.strip x2,v7,v8,v9,v10],st) :=
  (exec_reg ..).trans (by kernel_rfl)
theorem a59s43_x : exec call n a59s43 [v0,v1,v2,v3,v4,v5,v6,v7,v8,v9,v10] st =
 obind (p1 (semBin .eql call [(AV.weak v9),(.int .u8 92)] .undef st)) fun x0 =>
 m1 (W x0) fun x1 =>
 some (Ex.normal,[v0,v1,v2,v3,v4,v5,v6,v7,v8,v9,AV.strip x1],st) :=
  (exec_reg ..).trans (by kernel_rfl)
theorem a59s44_x : exec call n a59s44 [v0,v1,v2,v3,v4,v5,v6,v7,v8,v9,v10] st =
 obind (p1 (semBin .eql call [(AV.weak v9),(.int .u8 47)] .undef st)) fun x0 =>
 m1 (W x0) fun x1 =>
 brE (AV.weak (AV.strip x1)) call n .skip a59s43 [v0,v1,v2,v3,v4,v5,v6,v7,v8,v9,AV.strip x1] st :=
  (exec_testT ..).trans (by kernel_rfl)
theorem a59s45_x : exec call n a59s45 [v0,v1,v2,v3,v4,v5,v6,v7,v8,v9,v10] st =
 obind (p1 (semBin .eql call [(AV.weak v9),(.int .u8 34)] .undef st)) fun x0 =>
 m1 (W x0) fun x1 =>
 brE (AV.weak (AV.strip x1)) call n .skip a59s44 [v0,v1,v2,v3,v4,v5,v6,v7,v8,v9,AV.strip x1] st :=
  (exec_testT ..).trans (by kernel_rfl)
theorem a59s47_x : exec call n a59s47 [v0,v1,v2,v3,v4,v5,v6,v7,v8,v9,v10] st =
 m1 (AV.weak v6) fun x0 =>
 m1 (AV.weak v0) fun x1 =>
 m1 (AV.weak v7) fun x2 =>
 m1 (AV.weak v7) fun x3 =>
 obind (p1 (semBin .add call [W x3,(.int .i64 1)] .undef st)) fun x4 =>
 obind (p1 (semSlS true true call [W x1,W x2,W x4] .undef st)) fun x5 =>
 obind (p1 (semBin .add call [W x0,W x5] .undef st)) fun x6 =>
 m1 (W x6) fun x7 =>
 some (Ex.normal,[v0,v1,v2,v3,v4,v5,AV.strip x7,v7,v8,v9,v10],st) :=
  (exec_reg ..).trans (by kernel_rfl)
theorem a59s49_x : exec call n a59s49 [v0,v1,v2,v3,v4,v5,v6,v7,v8,v9,v10] st =
 obind (p1 (semBuild [.int .u8 0,.str [],.int .i64 0,.int .i64 0] [] call [] .undef st)) fun x0 =>
 m1 (AV.weak v7) fun x1 =>
 obind (semStLc 2 4 call [(locOf 2 v2),W x0] v2 st) fun x2 =>
 m1 (.int .i64 0) fun x3 =>
 m1 (W x1) fun x4 =>
 m1 (.int .i64 4) fun x5 =>
 some (Ex.normal,[v0,v1,x2.2.1,AV.strip x3,AV.strip x4,AV.strip x5,v6,v7,v8,v9,v10],x2.2.2) :=
  (exec_reg ..).trans (by kernel_rfl)
theorem a59s51_x : exec call n a59s51 [v0,v1,v2,v3,v4,v5,v6,v7,v8,v9,v10] st =
 brE (AV.weak v10) call n a59s47 a59s50 [v0,v1,v2,v3,v4,v5,v6,v7,v8,v9,v10] st :=
  (exec_testT ..).trans (by kernel_rfl)
theorem a59s53_x : exec call n a59s53 [v0,v1,v2,v3,v4,v5,v6,v7,v8,v9,v10] st =
 obind (p1 (semBin .eql call [(AV.weak v9),(.int .u8 116)] .undef st)) fun x0 =>
 m1 (W x0) fun x1 =>
 brE (W x1) call n a59s39 a59s52 [v0,v1,v2,v3,v4,v5,v6,v7,v8,v9,v10] st :=
  (exec_testT ..).trans (by kernel_rfl)
theorem a59s54_x : exec call n a59s54 [v0,v1,v2,v3,v4,v5,v6,v7,v8,v9,v10] st =
 obind (p1 (semBin .eql call [(AV.weak v9),(.int .u8 110)] .undef st)) fun x0 =>
 m1 (W x0) fun x1 =>
 brE (W x1) call n a59s36 a59s53 [v0,v1,v2,v3,v4,v5,v6,v7,v8,v9,v10] st :=
  (exec_testT ..).trans (by kernel_rfl)
theorem a59s60_x : exec call n a59s60 [v0,v1,v2,v3,v4,v5,v6,v7,v8,v9,v10] st =
 m1 (AV.weak v6) fun x0 =>
 m1 (AV.weak v0) fun x1 =>
 m1 (AV.weak v7) fun x2 =>
 m1 (AV.weak v7) fun x3 =>
 obind (p1 (semBin .add call [W x3,(.int .i64 1)] .undef st)) fun x4 =>
 obind (p1 (semSlS true true call [W x1,W x2,W x4] .undef st)) fun x5 =>
 obind (p1 (semBin .add call [W x0,W x5] .undef st)) fun x6 =>
 m1 (W x6) fun x7 =>
 some (Ex.normal,[v0,v1,v2,v3,v4,v5,AV.strip x7,v7,v8,v9,v10],st) :=
  (exec_reg ..).trans (by kernel_rfl)
theorem a59s61_x : exec call n a59s61 [v0,v1,v2,v3,v4,v5,v6,v7,v8,v9,v10] st =
 obind (p1 (semBin .eql call [(AV.weak v8),(.int .u8 92)] .undef st)) fun x0 =>
 m1 (W x0) fun x1 =>
 brE (W x1) call n a59s58 a59s60 [v0,v1,v2,v3,v4,v5,v6,v7,v8,v9,v10] st :=
  (exec_testT ..).trans (by kernel_rfl)
theorem a59s62_x : exec call n a59s62 [v0,v1,v2,v3,v4,v5,v6,v7,v8,v9,v10] st =
 obind (p1 (semBin .eql call [(AV.weak v8),(.int .u8 10)] .undef st)) fun x0 =>
 m1 (W x0) fun x1 =>
 brE (W x1) call n a59s23 a59s61 [v0,v1,v2,v3,v4,v5,v6,v7,v8,v9,v10] st :=
  (exec_testT ..).trans (by kernel_rfl)
theorem a59s63_x : exec call n a59s63 [v0,v1,v2,v3,v4,v5,v6,v7,v8,v9,v10] st =
 obind (p1 (semBin .eql call [(AV.weak v8),(.int .u8 34)] .undef st)) fun x0 =>
 m1 (W x0) fun x1 =>
 brE (W x1) call n a59s19 a59s62 [v0,v1,v2,v3,v4,v5,v6,v7,v8,v9,v10] st :=
  (exec_testT ..).trans (by kernel_rfl)
theorem a59s67_x : exec call n a59s67 [v0,v1,v2,v3,v4,v5,v6,v7,v8,v9,v10] st =
 m1 (AV.weak v7) fun x0 =>
 obind (p1 (semBin .add call [W x0,(.int .i64 1)] .undef st)) fun x1 =>
 m1 (W x1) fun x2 =>
 some (Ex.normal,[v0,v1,v2,v3,v4,v5,v6,AV.strip x2,v8,v9,v10],st) :=
  (exec_reg ..).trans (by kernel_rfl)
theorem a59s74_x : exec call n a59s74 [v0,v1,v2,v3,v4,v5,v6,v7,v8,v9,v10] st =
 obind (p1 (semBuild [.int .u8 0,.str [],.int .i64 0,.int .i64 0] [] call [] .undef st)) fun x0 =>
 m1 (AV.weak v7) fun x1 =>
 obind (semStLc 2 4 call [(locOf 2 v2),W x0] v2 st) fun x2 =>
 m1 (.int .i64 0) fun x3 =>
 m1 (W x1) fun x4 =>
 m1 (.int .i64 4) fun x5 =>
 some (Ex.normal,[v0,v1,x2.2.1,AV.strip x3,AV.strip x4,AV.strip x5,v6,v7,v8,v9,v10],x2.2.2) :=
  (exec_reg ..).trans (by kernel_rfl)
theorem a60s1_x : exec call n a60s1 [v0,v1,v2] st =
 m1 (.bool false) fun x0 =>
 some (Ex.normal,[v0,v1,AV.strip x0],st) :=
  (exec_reg ..).trans (by kernel_rfl)
theorem a60s3_x : exec call n a60s3 [v0,v1,v2] st =
 m1 (AV.weak v0) fun x0 =>
 obind (p1 (semNilchk call [W x0] .undef st)) fun x1 =>
 obind (p1 (semFad 4 call [W x1] .undef st)) fun x2 =>
 obind (p1 (semLdSt false 1 call [W x2] .undef st)) fun x3 =>
 obind (p1 (semBin .eql call [W x3,(.int .i64 0)] .undef st)) fun x4 =>
 m1 (W x4) fun x5 =>
 gm (W x5) true (AV.weak v0) fun x6 =>
 obind (gv (W x5) true (p1 (semNilchk call [W x6] .undef st))) fun x7 =>
 obind (gv (W x5) true (p1 (semFad 0 call [W x7] .undef st))) fun x8 =>
 obind (gv (W x5) true (p1 (semLdSt false 1 call [W x8] .undef st))) fun x9 =>
 gm (W x5) true (AV.weak v0) fun x10 =>
 obind (gv (W x5) true (p1 (semNilchk call [W x10] .undef st))) fun x11 =>
 obind (gv (W x5) true (p1 (semFad 1 call [W x11] .undef st))) fun x12 =>
 obind (gv (W x5) true (p1 (semLdSt false 1 call [W x12] .undef st))) fun x13 =>
 obind (gv (W x5) true (p1 (semIad 4 call [W x9,W x13] .undef st))) fun x14 =>
 obind (gv (W x5) true (p1 (semFad 0 call [W x14] .undef st))) fun x15 =>
 obind (gv (W x5) true (p1 (semLdRo false 1 call [W x15] .undef st))) fun x16 =>
 obind (gv (W x5) true (p1 (semBin .eql call [W x16,(.int .u8 4)] .undef st))) fun x17 =>
 obind (p1 (semPick call [W x5,W x17,(.bool false)] .undef st)) fun x18 =>
 m1 (W x18) fun x19 =>
 gm (W x19) true (AV.weak v0) fun x20 =>
 obind (gv (W x19) true (p1 (semNilchk call [W x20] .undef st))) fun x21 =>
 obind (gv (W x19) true (p1 (semFad 0 call [W x21] .undef st))) fun x22 =>
 obind (gv (W x19) true (p1 (semLdSt false 1 call [W x22] .undef st))) fun x23 =>
 gm (W x19) true (AV.weak v0) fun x24 =>
 obind (gv (W x19) true (p1 (semNilchk call [W x24] .undef st))) fun x25 =>
 obind (gv (W x19) true (p1 (semFad 1 call [W x25] .undef st))) fun x26 =>
 obind (gv (W x19) true (p1 (semLdSt false 1 call [W x26] .undef st))) fun x27 =>
 obind (gv (W x19) true (p1 (semIad 4 call [W x23,W x27] .undef st))) fun x28 =>
 obind (gv (W x19) true (p1 (semFad 1 call [W x28] .undef st))) fun x29 =>
 obind (gv (W x19) true (p1 (semLdRo false 1 call [W x29] .undef st))) fun x30 =>
 gm (W x19) true (AV.weak v1) fun x31 =>
 obind (gv (W x19) true (p1 (semBin .eql call [W x30,W x31] .undef st))) fun x32 =>
 obind (p1 (semPick call [W x19,W x32,(.bool false)] .undef st)) fun x33 =>
 m1 (W x33) fun x34 =>
 some (Ex.normal,[v0,v1,AV.strip x34],st) :=
  (exec_reg ..).trans (by kernel_rfl)
theorem a61s1_x : exec call n a61s1 [v0,v1,v2,v3] st =
 obind (semAlloc [.int .u8 0,.int .i64 0,.str [],.list true [],.list true []] call [] AV.undef st) fun x0 =>
 some (Ex.normal,[v0,v1,x0.2.1,v3],x0.2.2) :=
  (exec_reg ..).trans (by kernel_rfl)
theorem a61s3_x : exec call n a61s3 [v0,v1,v2,v3] st =
 obind (semAlloc [.int .u8 0,.int .i64 0,.str [],.list true [],.list true []] call [] AV.undef st) fun x0 =>
 some (Ex.normal,[v0,v1,v2,x0.2.1],x0.2.2) :=
  (exec_reg ..).trans (by kernel_rfl)
def a61s6_k0 (call : CallT) (n : Nat) (v0 v1 v2 v3 : AV) (x2 : AV × St) : Option Out :=
 obind (semStLc 3 5 call [(locOf 3 v3),(AV.stripB x2.1)] v3 x2.2) fun x3 =>
 some (Ex.normal,[v0,v1,v2,x3.2.1],x3.2.2)
theorem a61s6_x : exec call n a61s6 [v0,v1,v2,v3] st =
 m1 (AV.weak v0) fun x0 =>
 m1 (AV.weak v1) fun x1 =>
 obind (p2 (semCall 71 call [W x0,W x1] .undef st)) (a61s6_k0 call n v0 v1 v2 v3) :=
  (exec_reg ..).trans (by kernel_rfl)
def a61s7_k0 (call : CallT) (n : Nat) (v0 v1 v2 v3 : AV) (x1 : AV × St) : Option Out :=
 brE (W x1.1) call n a61s6 .skip [v0,v1,v2,v3] x1.2
theorem a61s7_x : exec call n a61s7 [v0,v1,v2,v3] st =
 m1 (AV.weak v0) fun x0 =>
 obind (p2 (semCall 62 call [W x0] .undef st)) (a61s7_k0 call n v0 v1 v2 v3) :=
  (exec_testT ..).trans (by kernel_rfl)
theorem a61s9_x : exec call n a61s9 [v0,v1,v2,v3] st =
 m1 (AV.weak v0) fun x0 =>
 obind (p1 (semNilchk call [W x0] .undef st)) fun x1 =>
 obind (p1 (semFad 2 call [W x1] .undef st)) fun x2 =>
 obind (p1 (semLdSt false 1 call [W x2] .undef st)) fun x3 =>
 obind (p1 (semBin .sub call [W x3,(.int .i64 1)] .undef st)) fun x4 =>
 obind (p1 (semNilchk call [W x0] .undef st)) fun x5 =>
 obind (p1 (semFad 2 call [W x5] .undef st)) fun x6 =>
 obind (p2 (semStSt 1 call [W x6,W x4] .undef st)) fun x7 =>
 some (Ex.normal,[v0,v1,v2,v3],x7.2) :=
  (exec_reg ..).trans (by kernel_rfl)
theorem a61s11_x : exec call n a61s11 [v0,v1,v2,v3] st =
 obind (p1 (semLdLc 3 true 5 call [(locOf 3 v3)] v3 st)) fun x0 =>
 obind (semStLc 2 5 call [(locOf 2 v2),(AV.stripB x0)] v2 st) fun x1 =>
 some (Ex.normal,[v0,v1,x1.2.1,v3],x1.2.2) :=
  (exec_reg ..).trans (by kernel_rfl)
theorem a62s1_x : exec call n a62s1 [v0,v1] st =
 m1 (.bool false) fun x0 =>
 some (Ex.normal,[v0,AV.strip x0],st) :=
  (exec_reg ..).trans (by kernel_rfl)
theorem a62s3_x : exec call n a62s3 [v0,v1] st =
 m1 (AV.weak v0) fun x0 =>
 obind (p1 (semNilchk call [W x0] .undef st)) fun x1 =>
 obind (p1 (semFad 2 call [W x1] .undef st)) fun x2 =>
 obind (p1 (semLdSt false 1 call [W x2] .undef st)) fun x3 =>
 obind (p1 (semBin .add call [W x3,(.int .i64 1)] .undef st)) fun x4 =>
 obind (p1 (semNilchk call [W x0] .undef st)) fun x5 =>
 obind (p1 (semFad 2 call [W x5] .undef st)) fun x6 =>
 obind (p2 (semStSt 1 call [W x6,W x4] .undef st)) fun x7 =>
 some (Ex.normal,[v0,v1],x7.2) :=
  (exec_reg ..).trans (by kernel_rfl)
def a62s6_k0 (call : CallT) (n : Nat) (v0 v1 : AV) (x1 : AV × St) : Option Out :=
 some (Ex.normal,[v0,v1],x1.2)
theorem a62s6_x : exec call n a62s6 [v0,v1] st =
 m1 (AV.weak v0) fun x0 =>
 obind (p2 (semCall 42 call [W x0,(.int .i64 5)] .undef st)) (a62s6_k0 call n v0 v1) :=
  (exec_reg ..).trans (by kernel_rfl)
theorem a62s7_x : exec call n a62s7 [v0,v1] st =
 m1 (AV.weak v0) fun x0 =>
 obind (p1 (semNilchk call [W x0] .undef st)) fun x1 =>
 obind (p1 (semFad 2 call [W x1] .undef st)) fun x2 =>
 obind (p1 (semLdSt false 1 call [W x2] .undef st)) fun x3 =>
 obind (p1 (semBin .gtr call [W x3,(.int .i64 24)] .undef st)) fun x4 =>
 brE (W x4) call n a62s6 .skip [v0,v1] st :=
  (exec_testT ..).trans (by kernel_rfl)
theorem a62s9_x : exec call n a62s9 [v0,v1] st =
 m1 (AV.weak v0) fun x0 =>
 obind (p1 (semNilchk call [W x0] .undef st)) fun x1 =>
 obind (p1 (semFad 4 call [W x1] .undef st)) fun x2 =>
 obind (p1 (semLdSt false 1 call [W x2] .undef st)) fun x3 =>
 obind (p1 (semBin .eql call [W x3,(.int .i64 0)] .undef st)) fun x4 =>
 m1 (W x4) fun x5 =>
 some (Ex.normal,[v0,AV.strip x5],st) :=
  (exec_reg ..).trans (by kernel_rfl)
theorem a63s1_x : exec call n a63s1 [v0,v1,v2] st =
 obind (semBoxV call [(AV.weak v0)] AV.undef st) fun x0 =>
 m1 (.str []) fun x1 =>
 some (Ex.normal,[v0,x0.2.1,AV.strip x1],x0.2.2) :=
  (exec_reg ..).trans (by kernel_rfl)
theorem a63s3_x : exec call n a63s3 [v0,v1,v2] st =
 obind (p1 (semFad 1 call [(locOf 1 v1)] .undef st)) fun x0 =>
 obind (p1 (semLdLc 1 false 1 call [W x0] v1 st)) fun x1 =>
 obind (p1 (semLenL call [W x1] .undef st)) fun x2 =>
 obind (p1 (semBin .gtr call [W x2,(.int .i64 0)] .undef st)) fun x3 =>
 brE (W x3) call n .skip (.exit 0) [v0,v1,v2] st :=
  (exec_testT ..).trans (by kernel_rfl)
theorem a63s5_x : exec call n a63s5 [v0,v1,v2] st =
 obind (p1 (semFad 1 call [(locOf 1 v1)] .undef st)) fun x0 =>
 obind (p1 (semLdLc 1 false 1 call [W x0] v1 st)) fun x1 =>
 obind (p1 (semIad 3 call [W x1,(.int .i64 0)] .undef st)) fun x2 =>
 obind (p1 (semLdRo true 3 call [W x2] .undef st)) fun x3 =>
 obind (semStLc 1 3 call [(locOf 1 v1),(AV.stripB x3)] v1 st) fun x4 =>
 some (Ex.normal,[v0,x4.2.1,v2],x4.2.2) :=
  (exec_reg ..).trans (by kernel_rfl)
theorem a63s11_x : exec call n a63s11 [v0,v1,v2] st =
 obind (p1 (semFad 0 call [(locOf 1 v1)] .undef st)) fun x0 =>
 obind (p1 (semLdLc 1 false 1 call [W x0] v1 st)) fun x1 =>
 m1 (W x1) fun x2 =>
 some (Ex.normal,[v0,v1,AV.strip x2],st) :=
  (exec_reg ..).trans (by kernel_rfl)
theorem a64s1_x : exec call n a64s1 [v0,v1,v2,v3,v4,v5,v6,v7,v8,v9] st =
 obind (p2 (semBoxO call [(AV.weak v0)] .undef st)) fun x0 =>
 obind (p2 (semBoxO call [(AV.weak v1)] .undef x0.2)) fun x1 =>
 obind (semBoxV call [(AV.weak v2)] AV.undef x1.2) fun x2 =>
 m1 (.bool false) fun x3 =>
 some (Ex.normal,[v0,v1,v2,(AV.strip x0.1),(AV.strip x1.1),x2.2.1,AV.strip x3,v7,v8,v9],x2.2.2) :=
  (exec_reg ..).trans (by kernel_rfl)
theorem a64s4_x : exec call n a64s4 [v0,v1,v2,v3,v4,v5,v6,v7,v8,v9] st =
 obind (p1 (semFad 2 call [(AV.weak v4)] .undef st)) fun x0 =>
 obind (p1 (semLdSt false 1 call [W x0] .undef st)) fun x1 =>
 obind (p1 (semUn .not call [W x1] .undef st)) fun x2 =>
 m1 (W x2) fun x3 =>
 some (Ex.normal,[v0,v1,v2,v3,v4,v5,AV.strip x3,v7,v8,v9],st) :=
  (exec_reg ..).trans (by kernel_rfl)
theorem a64s6_x : exec call n a64s6 [v0,v1,v2,v3,v4,v5,v6,v7,v8,v9] st =
 obind (p1 (semFad 0 call [(locOf 5 v5)] .undef st)) fun x0 =>
 obind (p1 (semLdLc 5 false 1 call [W x0] v5 st)) fun x1 =>
 obind (p1 (semBin .eql call [W x1,(.int .u8 0)] .undef st)) fun x2 =>
 brE (W x2) call n a64s5 .skip [v0,v1,v2,v3,v4,v5,v6,v7,v8,v9] st :=
  (exec_testT ..).trans (by kernel_rfl)
def a64s10_k0 (call : CallT) (n : Nat) (v0 v1 v2 v3 v4 v5 v7 v8 v9 : AV) (x6 : AV × St) : Option Out :=
 m1 (W x6.1) fun x7 =>
 some (Ex.normal,[v0,v1,v2,v3,v4,v5,AV.strip x7,v7,v8,v9],x6.2)
theorem a64s10_x : exec call n a64s10 [v0,v1,v2,v3,v4,v5,v6,v7,v8,v9] st =
 obind (p1 (semLdSt false 1 call [(AV.weak v3)] .undef st)) fun x0 =>
 obind (p1 (semFad 1 call [(AV.weak v4)] .undef st)) fun x1 =>
 obind (p1 (semLdSt false 1 call [W x1] .undef st)) fun x2 =>
 obind (p1 (semIad 3 call [W x2,(.int .i64 0)] .undef st)) fun x3 =>
 obind (p1 (semLdRo true 3 call [W x3] .undef st)) fun x4 =>
 obind (p1 (semLdLc 5 true 5 call [(locOf 5 v5)] v5 st)) fun x5 =>
 obind (p2 (semCall 64 call [W x0,W x4,W x5] .undef st)) (a64s10_k0 call n v0 v1 v2 v3 v4 v5 v7 v8 v9) :=
  (exec_reg ..).trans (by kernel_rfl)
theorem a64s12_x : exec call n a64s12 [v0,v1,v2,v3,v4,v5,v6,v7,v8,v9] st =
 obind (p1 (semFad 0 call [(locOf 5 v5)] .undef st)) fun x0 =>
 obind (p1 (semLdLc 5 false 1 call [W x0] v5 st)) fun x1 =>
 obind (p1 (semBin .neq call [W x1,(.int .u8 5)] .undef st)) fun x2 =>
 brE (W x2) call n a64s11 .skip [v0,v1,v2,v3,v4,v5,v6,v7,v8,v9] st :=
  (exec_testT ..).trans (by kernel_rfl)
def a64s14_k0 (call : CallT) (n : Nat) (v0 v1 v2 v3 v4 v5 v7 v8 v9 : AV) (x3 : AV × St) : Option Out :=
 obind (p1 (semUn .not call [W x3.1] .undef x3.2)) fun x4 =>
 m1 (W x4) fun x5 =>
 some (Ex.normal,[v0,v1,v2,v3,v4,v5,AV.strip x5,v7,v8,v9],x3.2)
theorem a64s14_x : exec call n a64s14 [v0,v1,v2,v3,v4,v5,v6,v7,v8,v9] st =
 obind (p1 (semFad 4 call [(locOf 5 v5)] .undef st)) fun x0 =>
 obind (p1 (semLdLc 5 false 1 call [W x0] v5 st)) fun x1 =>
 obind (p1 (semMkF 73 0 call [(AV.weak v3),(AV.weak v4)] .undef st)) fun x2 =>
 obind (p2 (semCall 72 call [W x1,W x2] .undef st)) (a64s14_k0 call n v0 v1 v2 v3 v4 v5 v7 v8 v9) :=
  (exec_reg ..).trans (by kernel_rfl)
theorem a64s17_x : exec call n a64s17 [v0,v1,v2,v3,v4,v5,v6,v7,v8,v9] st =
 obind (p1 (semFad 1 call [(AV.weak v4)] .undef st)) fun x0 =>
 obind (p1 (semLdSt false 1 call [W x0] .undef st)) fun x1 =>
 obind (p1 (semLenL call [W x1] .undef st)) fun x2 =>
 obind (p1 (semBin .gtr call [W x2,(.int .i64 0)] .undef st)) fun x3 =>
 brE (W x3) call n a64s16 .skip [v0,v1,v2,v3,v4,v5,v6,v7,v8,v9] st :=
  (exec_testT ..).trans (by kernel_rfl)
theorem a64s19_x : exec call n a64s19 [v0,v1,v2,v3,v4,v5,v6,v7,v8,v9] st =
 obind (p1 (semFad 0 call [(AV.weak v4)] .undef st)) fun x0 =>
 obind (p1 (semLdSt false 1 call [W x0] .undef st)) fun x1 =>
 some (Ex.normal,[v0,v1,v2,v3,v4,v5,v6,v7,AV.strip x1,v9],st) :=
  (exec_reg ..).trans (by kernel_rfl)
theorem a64s22_x : exec call n a64s22 [v0,v1,v2,v3,v4,v5,v6,v7,v8,v9] st =
 obind (p1 (semFad 0 call [(locOf 5 v5)] .undef st)) fun x0 =>
 obind (p1 (semLdLc 5 false 1 call [W x0] v5 st)) fun x1 =>
 obind (p1 (semBin .eql call [W x1,(.int .u8 1)] .undef st)) fun x2 =>
 m1 (W x2) fun x3 =>
 obind (gv (W x3) true (p1 (semFad 1 call [(locOf 5 v5)] .undef st))) fun x4 =>
 obind (gv (W x3) true (p1 (semLdLc 5 false 1 call [W x4] v5 st))) fun x5 =>
 obind (gv (W x3) true (p1 (semFad 1 call [(locOf 5 v5)] .undef st))) fun x6 =>
 obind (gv (W x3) true (p1 (semLdLc 5 false 1 call [W x6] v5 st))) fun x7 =>
 obind (gv (W x3) true (p1 (semConv .i32 call [W x7] .undef st))) fun x8 =>
 obind (gv (W x3) true (p1 (semConv .i64 call [W x8] .undef st))) fun x9 =>
 obind (gv (W x3) true (p1 (semBin .eql call [W x5,W x9] .undef st))) fun x10 =>
 obind (p1 (semPick call [W x3,W x10,(.bool false)] .undef st)) fun x11 =>
 m1 (W x11) fun x12 =>
 some (Ex.normal,[v0,v1,v2,v3,v4,v5,AV.strip x12,v7,v8,v9],st) :=
  (exec_reg ..).trans (by kernel_rfl)
theorem a64s26_x : exec call n a64s26 [v0,v1,v2,v3,v4,v5,v6,v7,v8,v9] st =
 obind (p1 (semFad 0 call [(locOf 5 v5)] .undef st)) fun x0 =>
 obind (p1 (semLdLc 5 false 1 call [W x0] v5 st)) fun x1 =>
 obind (p1 (semBin .eql call [W x1,(.int .u8 2)] .undef st)) fun x2 =>
 m1 (W x2) fun x3 =>
 some (Ex.normal,[v0,v1,v2,v3,v4,v5,AV.strip x3,v7,v8,v9],st) :=
  (exec_reg ..).trans (by kernel_rfl)
theorem a64s30_x : exec call n a64s30 [v0,v1,v2,v3,v4,v5,v6,v7,v8,v9] st =
 obind (p1 (semFad 0 call [(locOf 5 v5)] .undef st)) fun x0 =>
 obind (p1 (semLdLc 5 false 1 call [W x0] v5 st)) fun x1 =>
 obind (p1 (semBin .eql call [W x1,(.int .u8 3)] .undef st)) fun x2 =>
 m1 (W x2) fun x3 =>
 some (Ex.normal,[v0,v1,v2,v3,v4,v5,AV.strip x3,v7,v8,v9],st) :=
  (exec_reg ..).trans (by kernel_rfl)
theorem a64s34_x : exec call n a64s34 [v0,v1,v2,v3,v4,v5,v6,v7,v8,v9] st =
 obind (p1 (semFad 0 call [(locOf 5 v5)] .undef st)) fun x0 =>
 obind (p1 (semLdLc 5 false 1 call [W x0] v5 st)) fun x1 =>
 obind (p1 (semBin .eql call [W x1,(.int .u8 2)] .undef st)) fun x2 =>
 m1 (W x2) fun x3 =>
 obind (gv (W x3) false (p1 (semFad 0 call [(locOf 5 v5)] .undef st))) fun x4 =>
 obind (gv (W x3) false (p1 (semLdLc 5 false 1 call [W x4] v5 st))) fun x5 =>
 obind (gv (W x3) false (p1 (semBin .eql call [W x5,(.int .u8 1)] .undef st))) fun x6 =>
 obind (p1 (semPick call [W x3,(.bool true),W x6] .undef st)) fun x7 =>
 m1 (W x7) fun x8 =>
 some (Ex.normal,[v0,v1,v2,v3,v4,v5,AV.strip x8,v7,v8,v9],st) :=
  (exec_reg ..).trans (by kernel_rfl)
theorem a64s36_x : exec call n a64s36 [v0,v1,v2,v3,v4,v5,v6,v7,v8,v9] st =
 obind (p1 (semBin .eql call [(AV.weak v8),(.str [73,68])] .undef st)) fun x0 =>
 m1 (W x0) fun x1 =>
 brE (W x1) call n a64s35 .skip [v0,v1,v2,v3,v4,v5,v6,v7,v8,v9] st :=
  (exec_testT ..).trans (by kernel_rfl)
theorem a64s37_x : exec call n a64s37 [v0,v1,v2,v3,v4,v5,v6,v7,v8,v9] st =
 obind (p1 (semBin .eql call [(AV.weak v8),(.str [66,111,111,108,101,97,110])] .undef st)) fun x0 =>
 m1 (W x0) fun x1 =>
 brE (W x1) call n a64s31 a64s36 [v0,v1,v2,v3,v4,v5,v6,v7,v8,v9] st :=
  (exec_testT ..).trans (by kernel_rfl)
theorem a64s38_x : exec call n a64s38 [v0,v1,v2,v3,v4,v5,v6,v7,v8,v9] st =
 obind (p1 (semBin .eql call [(AV.weak v8),(.str [83,116,114,105,110,103])] .undef st)) fun x0 =>
 m1 (W x0) fun x1 =>
 brE (W x1) call n a64s27 a64s37 [v0,v1,v2,v3,v4,v5,v6,v7,v8,v9] st :=
  (exec_testT ..).trans (by kernel_rfl)
theorem a64s39_x : exec call n a64s39 [v0,v1,v2,v3,v4,v5,v6,v7,v8,v9] st =
 obind (p1 (semBin .eql call [(AV.weak v8),(.str [73,110,116])] .undef st)) fun x0 =>
 m1 (W x0) fun x1 =>
 brE (W x1) call n a64s23 a64s38 [v0,v1,v2,v3,v4,v5,v6,v7,v8,v9] st :=
  (exec_testT ..).trans (by kernel_rfl)
def a64s43_k0 (call : CallT) (n : Nat) (v0 v1 v2 v3 v4 v5 v6 v8 v9 : AV) (x3 : AV × St) : Option Out :=
 m1 (W x3.1) fun x4 =>
 obind (p1 (semExt 0 call [W x4] .undef x3.2)) fun x5 =>
 obind (p1 (semExt 1 call [W x4] .undef x3.2)) fun x6 =>
 obind (semAlloc [.int .u8 0,.str [],.list true [],.list true []] call [] AV.undef x3.2) fun x7 =>
 obind (semStLc 7 4 call [(locOf 7 x7.2.1),(AV.stripB x5)] x7.2.1 x7.2.2) fun x8 =>
 m1 (W x6) fun x9 =>
 some (Ex.normal,[v0,v1,v2,v3,v4,v5,v6,x8.2.1,v8,v9],x8.2.2)
theorem a64s43_x : exec call n a64s43 [v0,v1,v2,v3,v4,v5,v6,v7,v8,v9] st =
 obind (p1 (semLdSt false 1 call [(AV.weak v3)] .undef st)) fun x0 =>
 obind (p1 (semFad 0 call [(AV.weak v4)] .undef st)) fun x1 =>
 obind (p1 (semLdSt false 1 call [W x1] .undef st)) fun x2 =>
 obind (p2 (semCall 15 call [W x0,W x2] .undef st)) (a64s43_k0 call n v0 v1 v2 v3 v4 v5 v6 v8 v9) :=
  (exec_reg ..).trans (by kernel_rfl)
theorem a64s45_x : exec call n a64s45 [v0,v1,v2,v3,v4,v5,v6,v7,v8,v9] st =
 obind (p1 (semFad 0 call [(locOf 7 v7)] .undef st)) fun x0 =>
 obind (p1 (semLdLc 7 false 1 call [W x0] v7 st)) fun x1 =>
 some (Ex.normal,[v0,v1,v2,v3,v4,v5,v6,v7,v8,AV.strip x1],st) :=
  (exec_reg ..).trans (by kernel_rfl)
def a64s48_k0 (call : CallT) (n : Nat) (v0 v1 v2 v3 v4 v5 v7 v8 v9 x3 : AV) (x8 : AV × St) : Option Out :=
 obind (p1 (semPick call [W x3,W x8.1,(.bool false)] .undef x8.2)) fun x9 =>
 m1 (W x9) fun x10 =>
 some (Ex.normal,[v0,v1,v2,v3,v4,v5,AV.strip x10,v7,v8,v9],x8.2)
theorem a64s48_x : exec call n a64s48 [v0,v1,v2,v3,v4,v5,v6,v7,v8,v9] st =
 obind (p1 (semFad 0 call [(locOf 5 v5)] .undef st)) fun x0 =>
 obind (p1 (semLdLc 5 false 1 call [W x0] v5 st)) fun x1 =>
 obind (p1 (semBin .eql call [W x1,(.int .u8 4)] .undef st)) fun x2 =>
 m1 (W x2) fun x3 =>
 obind (gv (W x3) true (p1 (semFad 3 call [(locOf 7 v7)] .undef st))) fun x4 =>
 obind (gv (W x3) true (p1 (semLdLc 7 false 1 call [W x4] v7 st))) fun x5 =>
 obind (gv (W x3) true (p1 (semFad 2 call [(locOf 5 v5)] .undef st))) fun x6 =>
 obind (gv (W x3) true (p1 (semLdLc 5 false 1 call [W x6] v5 st))) fun x7 =>
 obind (gv2 (W x3) true st (p2 (semCall 29 call [W x5,W x7] .undef st))) (a64s48_k0 call n v0 v1 v2 v3 v4 v5 v7 v8 v9 x3) :=
  (exec_reg ..).trans (by kernel_rfl)
def a64s52_k0 (call : CallT) (n : Nat) (v0 v1 v2 v3 v4 v5 v7 v8 v9 x3 : AV) (x7 : AV × St) : Option Out :=
 obind (p1 (semPick call [W x3,W x7.1,(.bool false)] .undef x7.2)) fun x8 =>
 m1 (W x8) fun x9 =>
 some (Ex.normal,[v0,v1,v2,v3,v4,v5,AV.strip x9,v7,v8,v9],x7.2)
theorem a64s52_x : exec call n a64s52 [v0,v1,v2,v3,v4,v5,v6,v7,v8,v9] st =
 obind (p1 (semFad 0 call [(locOf 5 v5)] .undef st)) fun x0 =>
 obind (p1 (semLdLc 5 false 1 call [W x0] v5 st)) fun x1 =>
 obind (p1 (semBin .eql call [W x1,(.int .u8 6)] .undef st)) fun x2 =>
 m1 (W x2) fun x3 =>
 obind (gv (W x3) true (p1 (semLdSt false 1 call [(AV.weak v3)] .undef st))) fun x4 =>
 obind (gv (W x3) true (p1 (semLdLc 7 true 4 call [(locOf 7 v7)] v7 st))) fun x5 =>
 obind (gv (W x3) true (p1 (semLdLc 5 true 5 call [(locOf 5 v5)] v5 st))) fun x6 =>
 obind (gv2 (W x3) true st (p2 (semCall 74 call [W x4,W x5,W x6] .undef st))) (a64s52_k0 call n v0 v1 v2 v3 v4 v5 v7 v8 v9 x3) :=
  (exec_reg ..).trans (by kernel_rfl)
theorem a64s54_x : exec call n a64s54 [v0,v1,v2,v3,v4,v5,v6,v7,v8,v9] st =
 obind (p1 (semBin .eql call [(AV.weak v9),(.int .u8 5)] .undef st)) fun x0 =>
 m1 (W x0) fun x1 =>
 brE (W x1) call n a64s53 .skip [v0,v1,v2,v3,v4,v5,v6,v7,v8,v9] st :=
  (exec_testT ..).trans (by kernel_rfl)
theorem a64s55_x : exec call n a64s55 [v0,v1,v2,v3,v4,v5,v6,v7,v8,v9] st =
 obind (p1 (semBin .eql call [(AV.weak v9),(.int .u8 4)] .undef st)) fun x0 =>
 m1 (W x0) fun x1 =>
 brE (W x1) call n a64s49 a64s54 [v0,v1,v2,v3,v4,v5,v6,v7,v8,v9] st :=
  (exec_testT ..).trans (by kernel_rfl)
theorem a64s59_x : exec call n a64s59 [v0,v1,v2,v3,v4,v5,v6,v7,v8,v9] st =
 m1 (.bool false) fun x0 =>
 some (Ex.normal,[v0,v1,v2,v3,v4,v5,AV.strip x0,v7,v8,v9],st) :=
  (exec_reg ..).trans (by kernel_rfl)
theorem a65s1_x : exec call n a65s1 [v0,v1,v2] st =
 m1 (.bool false) fun x0 =>
 some (Ex.normal,[v0,v1,AV.strip x0],st) :=
  (exec_reg ..).trans (by kernel_rfl)
def a65s3_k0 (call : CallT) (n : Nat) (v0 v1 : AV) (x2 : AV × St) : Option Out :=
 obind (p1 (semBin .geq call [W x2.1,(.int .i64 0)] .undef x2.2)) fun x3 =>
 m1 (W x3) fun x4 =>
 some (Ex.normal,[v0,v1,AV.strip x4],x2.2)
theorem a65s3_x : exec call n a65s3 [v0,v1,v2] st =
 m1 (AV.weak v0) fun x0 =>
 m1 (AV.weak v1) fun x1 =>
 obind (p2 (semCall 75 call [W x0,W x1] .undef st)) (a65s3_k0 call n v0 v1) :=
  (exec_reg ..).trans (by kernel_rfl)
theorem a66s1_x : exec call n a66s1 [v0,v1,v2,v3,v4] st =
 obind (semBoxV call [(AV.weak v0)] AV.undef st) fun x0 =>
 m1 (.bool false) fun x1 =>
 some (Ex.normal,[v0,v1,x0.2.1,AV.strip x1,v4],x0.2.2) :=
  (exec_reg ..).trans (by kernel_rfl)
def a66s3_k1 (call : CallT) (n : Nat) (v0 v1 v2 v3 : AV) (x5 : AV × St) : Option Out :=
 m1 (W x5.1) fun x6 =>
 some (Ex.normal,[v0,v1,v2,v3,AV.strip x6],x5.2)
def a66s3_k0 (call : CallT) (n : Nat) (v0 v1 v2 v3 : AV) (x2 : AV × St) : Option Out :=
 obind (p1 (semFad 0 call [(locOf 2 v2)] .undef x2.2)) fun x3 =>
 obind (p1 (semLdLc 2 false 1 call [W x3] v2 x2.2)) fun x4 =>
 obind (p2 (semCall 36 call [W x2.1,W x4] .undef x2.2)) (a66s3_k1 call n v0 v1 v2 v3)
theorem a66s3_x : exec call n a66s3 [v0,v1,v2,v3,v4] st =
 obind (p1 (semFad 2 call [(AV.weak v1)] .undef st)) fun x0 =>
 obind (p1 (semLdSt false 1 call [W x0] .undef st)) fun x1 =>
 obind (p2 (semCall 37 call [W x1] .undef st)) (a66s3_k0 call n v0 v1 v2 v3) :=
  (exec_reg ..).trans (by kernel_rfl)
def a66s5_k0 (call : CallT) (n : Nat) (v0 v1 v2 v4 x2 : AV) (x11 : AV × St) : Option Out :=
 obind (gv (W x2) false (p1 (semUn .not call [W x11.1] .undef x11.2))) fun x12 =>
 obind (p1 (semPick call [W x2,(.bool true),W x12] .undef x11.2)) fun x13 =>
 m1 (W x13) fun x14 =>
 some (Ex.normal,[v0,v1,v2,AV.strip x14,v4],x11.2)
theorem a66s5_x : exec call n a66s5 [v0,v1,v2,v3,v4] st =
 m1 (AV.weak v4) fun x0 =>
 obind (p1 (semBin .lss call [W x0,(.int .i64 0)] .undef st)) fun x1 =>
 m1 (W x1) fun x2 =>
 obind (gv (W x2) false (p1 (semFad 2 call [(AV.weak v1)] .undef st))) fun x3 =>
 obind (gv (W x2) false (p1 (semLdSt false 1 call [W x3] .undef st))) fun x4 =>
 gm (W x2) false (AV.weak v4) fun x5 =>
 obind (gv (W x2) false (p1 (semIad 11 call [W x4,W x5] .undef st))) fun x6 =>
 obind (gv (W x2) false (p1 (semFad 2 call [W x6] .undef st))) fun x7 =>
 obind (gv (W x2) false (p1 (semLdRo true 3 call [W x7] .undef st))) fun x8 =>
 obind (gv (W x2) false (p1 (semFad 2 call [(locOf 2 v2)] .undef st))) fun x9 =>
 obind (gv (W x2) false (p1 (semLdLc 2 true 3 call [W x9] v2 st))) fun x10 =>
 obind (gv2 (W x2) false st (p2 (semCall 18 call [W x8,W x10] .undef st))) (a66s5_k0 call n v0 v1 v2 v4 x2) :=
  (exec_reg ..).trans (by kernel_rfl)
theorem a67s1_x : exec call n a67s1 [v0,v1,v2] st =
 obind (semBoxV call [(AV.weak v0)] AV.undef st) fun x0 =>
 m1 (.bool false) fun x1 =>
 some (Ex.normal,[v0,x0.2.1,AV.strip x1],x0.2.2) :=
  (exec_reg ..).trans (by kernel_rfl)
def a67s3_k0 (call : CallT) (n : Nat) (v0 v1 x8 : AV) (x12 : AV × St) : Option Out :=
 obind (p1 (semPick call [W x8,W x12.1,(.bool false)] .undef x12.2)) fun x13 =>
 m1 (W x13) fun x14 =>
 some (Ex.normal,[v0,v1,AV.strip x14],x12.2)
theorem a67s3_x : exec call n a67s3 [v0,v1,v2] st =
 obind (p1 (semFad 0 call [(locOf 1 v1)] .undef st)) fun x0 =>
 obind (p1 (semLdLc 1 false 1 call [W x0] v1 st)) fun x1 =>
 obind (p1 (semBin .eql call [W x1,(.str [105,100])] .undef st)) fun x2 =>
 m1 (W x2) fun x3 =>
 obind (gv (W x3) true (p1 (semFad 5 call [(locOf 1 v1)] .undef st))) fun x4 =>
 obind (gv (W x3) true (p1 (semLdLc 1 false 1 call [W x4] v1 st))) fun x5 =>
 obind (gv (W x3) true (p1 (semUn .not call [W x5] .undef st))) fun x6 =>
 obind (p1 (semPick call [W x3,W x6,(.bool false)] .undef st)) fun x7 =>
 m1 (W x7) fun x8 =>
 obind (gv (W x8) true (p1 (semFad 2 call [(locOf 1 v1)] .undef st))) fun x9 =>
 obind (gv (W x8) true (p1 (semLdLc 1 true 3 call [W x9] v1 st))) fun x10 =>
 obind (gv (W x8) true (p1 (semBuild [.str [],.list true [],.bool false] [(0,1),(2,1)] call [(.str [73,68]),(.bool true)] .undef st))) fun x11 =>
 obind (gv2 (W x8) true st (p2 (semCall 18 call [W x10,W x11] .undef st))) (a67s3_k0 call n v0 v1 x8) :=
  (exec_reg ..).trans (by kernel_rfl)
theorem a68s1_x : exec call n a68s1 [v0,v1,v2,v3,v4,v5,v6,v7,v8] st =
 m1 (.str []) fun x0 =>
 m1 (.str []) fun x1 =>
 some (Ex.normal,[v0,AV.strip x0,AV.strip x1,v3,v4,v5,v6,v7,v8],st) :=
  (exec_reg ..).trans (by kernel_rfl)
theorem a68s3_x : exec call n a68s3 [v0,v1,v2,v3,v4,v5,v6,v7,v8] st =
 obind (p1 (semBslice 1 [[.str []],[.str []],[.str []]] [0,1,2] call [(.str [99,114,101,97,116,101]),(.str [117,112,100,97,116,101]),(.str [100,101,108,101,116,101])] .undef st)) fun x0 =>
 obind (p1 (semLenL call [(AV.weak (AV.strip x0))] .undef st)) fun x1 =>
 m1 (.int .i64 0) fun x2 =>
 some (Ex.normal,[v0,v1,v2,v3,v4,v5,AV.strip x0,AV.strip x1,AV.strip x2],st) :=
  (exec_reg ..).trans (by kernel_rfl)
theorem a68s5_x : exec call n a68s5 [v0,v1,v2,v3,v4,v5,v6,v7,v8] st =
 obind (p1 (semBin .lss call [(AV.weak v8),(AV.weak v7)] .undef st)) fun x0 =>
 brE (W x0) call n .skip (.exit 0) [v0,v1,v2,v3,v4,v5,v6,v7,v8] st :=
  (exec_testT ..).trans (by kernel_rfl)
theorem a68s7_x : exec call n a68s7 [v0,v1,v2,v3,v4,v5,v6,v7,v8] st =
 obind (p1 (semIad 1 call [(AV.weak v6),(AV.weak v8)] .undef st)) fun x0 =>
 obind (p1 (semLdRo false 1 call [W x0] .undef st)) fun x1 =>
 m1 (W x1) fun x2 =>
 some (Ex.normal,[v0,v1,v2,AV.strip x2,v4,v5,v6,v7,v8],st) :=
  (exec_reg ..).trans (by kernel_rfl)
def a68s9_k0 (call : CallT) (n : Nat) (v0 v1 v2 v3 v6 v7 v8 : AV) (x2 : AV × St) : Option Out :=
 m1 (W x2.1) fun x3 =>
 obind (p1 (semExt 0 call [W x3] .undef x2.2)) fun x4 =>
 obind (p1 (semExt 1 call [W x3] .undef x2.2)) fun x5 =>
 m1 (W x4) fun x6 =>
 m1 (W x5) fun x7 =>
 some (Ex.normal,[v0,v1,v2,v3,AV.strip x6,AV.strip x7,v6,v7,v8],x2.2)
theorem a68s9_x : exec call n a68s9 [v0,v1,v2,v3,v4,v5,v6,v7,v8] st =
 m1 (AV.weak v0) fun x0 =>
 m1 (AV.weak v3) fun x1 =>
 obind (p2 (semCall 76 call [W x0,W x1] .undef st)) (a68s9_k0 call n v0 v1 v2 v3 v6 v7 v8) :=
  (exec_reg ..).trans (by kernel_rfl)
theorem a68s12_x : exec call n a68s12 [v0,v1,v2,v3,v4,v5,v6,v7,v8] st =
 m1 (AV.weak v3) fun x0 =>
 m1 (AV.weak v4) fun x1 =>
 m1 (W x0) fun x2 =>
 m1 (W x1) fun x3 =>
 some (Ex.normal,[v0,AV.strip x2,AV.strip x3,v3,v4,v5,v6,v7,v8],st) :=
  (exec_reg ..).trans (by kernel_rfl)
theorem a68s14_x : exec call n a68s14 [v0,v1,v2,v3,v4,v5,v6,v7,v8] st =
 m1 (AV.weak v5) fun x0 =>
 brE (W x0) call n a68s13 .skip [v0,v1,v2,v3,v4,v5,v6,v7,v8] st :=
  (exec_testT ..).trans (by kernel_rfl)
theorem a68s19_x : exec call n a68s19 [v0,v1,v2,v3,v4,v5,v6,v7,v8] st =
 obind (p1 (semBin .add call [(AV.weak v8),(.int .i64 1)] .undef st)) fun x0 =>
 m1 (W x0) fun x1 =>
 some (Ex.normal,[v0,v1,v2,v3,v4,v5,v6,v7,AV.strip x1],st) :=
  (exec_reg ..).trans (by kernel_rfl)
theorem a68s26_x : exec call n a68s26 [v0,v1,v2,v3,v4,v5,v6,v7,v8] st =
 m1 (.str []) fun x0 =>
 m1 (.str []) fun x1 =>
 some (Ex.normal,[v0,AV.strip x0,AV.strip x1,v3,v4,v5,v6,v7,v8],st) :=
  (exec_reg ..).trans (by kernel_rfl)
theorem a69s1_x : exec call n a69s1 [v0,v1,v2,v3,v4,v5] st =
 obind (semBoxV call [(AV.weak v0)] AV.undef st) fun x0 =>
 m1 (.bool false) fun x1 =>
 some (Ex.normal,[v0,v1,v2,x0.2.1,AV.strip x1,v5],x0.2.2) :=
  (exec_reg ..).trans (by kernel_rfl)
def a69s3_k1 (call : CallT) (n : Nat) (v0 v1 v2 v3 v4 : AV) (x5 : AV × St) : Option Out :=
 m1 (W x5.1) fun x6 =>
 some (Ex.normal,[v0,v1,v2,v3,v4,AV.strip x6],x5.2)
def a69s3_k0 (call : CallT) (n : Nat) (v0 v1 v2 v3 v4 : AV) (x2 : AV × St) : Option Out :=
 obind (p1 (semFad 0 call [(locOf 3 v3)] .undef x2.2)) fun x3 =>
 obind (p1 (semLdLc 3 false 1 call [W x3] v3 x2.2)) fun x4 =>
 obind (p2 (semCall 36 call [W x2.1,W x4] .undef x2.2)) (a69s3_k1 call n v0 v1 v2 v3 v4)
theorem a69s3_x : exec call n a69s3 [v0,v1,v2,v3,v4,v5] st =
 obind (p1 (semFad 2 call [(AV.weak v1)] .undef st)) fun x0 =>
 obind (p1 (semLdSt false 1 call [W x0] .undef st)) fun x1 =>
 obind (p2 (semCall 37 call [W x1] .undef st)) (a69s3_k0 call n v0 v1 v2 v3 v4) :=
  (exec_reg ..).trans (by kernel_rfl)
def a69s5_k0 (call : CallT) (n : Nat) (v0 v1 v2 v3 v5 x2 : AV) (x12 : AV × St) : Option Out :=
 obind (gv (W x2) false (p1 (semUn .not call [W x12.1] .undef x12.2))) fun x13 =>
 obind (p1 (semPick call [W x2,(.bool true),W x13] .undef x12.2)) fun x14 =>
 m1 (W x14) fun x15 =>
 some (Ex.normal,[v0,v1,v2,v3,AV.strip x15,v5],x12.2)
theorem a69s5_x : exec call n a69s5 [v0,v1,v2,v3,v4,v5] st =
 m1 (AV.weak v5) fun x0 =>
 obind (p1 (semBin .lss call [W x0,(.int .i64 0)] .undef st)) fun x1 =>
 m1 (W x1) fun x2 =>
 obind (gv (W x2) false (p1 (semLdSt false 1 call [(AV.weak v2)] .undef st))) fun x3 =>
 obind (gv (W x2) false (p1 (semFad 2 call [(AV.weak v1)] .undef st))) fun x4 =>
 obind (gv (W x2) false (p1 (semLdSt false 1 call [W x4] .undef st))) fun x5 =>
 gm (W x2) false (AV.weak v5) fun x6 =>
 obind (gv (W x2) false (p1 (semIad 11 call [W x5,W x6] .undef st))) fun x7 =>
 obind (gv (W x2) false (p1 (semFad 2 call [W x7] .undef st))) fun x8 =>
 obind (gv (W x2) false (p1 (semLdRo true 3 call [W x8] .undef st))) fun x9 =>
 obind (gv (W x2) false (p1 (semFad 2 call [(locOf 3 v3)] .undef st))) fun x10 =>
 obind (gv (W x2) false (p1 (semLdLc 3 true 3 call [W x10] v3 st))) fun x11 =>
 obind (gv2 (W x2) false st (p2 (semCall 70 call [W x3,W x9,W x11] .undef st))) (a69s5_k0 call n v0 v1 v2 v3 v5 x2) :=
  (exec_reg ..).trans (by kernel_rfl)
theorem a70s1_x : exec call n a70s1 [v0,v1,v2,v3,v4,v5] st =
 obind (semBoxV call [(AV.weak v1)] AV.undef st) fun x0 =>
 obind (semBoxV call [(AV.weak v2)] AV.undef x0.2.2) fun x1 =>
 m1 (.bool false) fun x2 =>
 some (Ex.normal,[v0,v1,v2,x0.2.1,x1.2.1,AV.strip x2],x1.2.2) :=
  (exec_reg ..).trans (by kernel_rfl)
theorem a70s4_x : exec call n a70s4 [v0,v1,v2,v3,v4,v5] st =
 m1 (.bool false) fun x0 =>
 some (Ex.normal,[v0,v1,v2,v3,v4,AV.strip x0],st) :=
  (exec_reg ..).trans (by kernel_rfl)
theorem a70s6_x : exec call n a70s6 [v0,v1,v2,v3,v4,v5] st =
 obind (p1 (semFad 1 call [(locOf 3 v3)] .undef st)) fun x0 =>
 obind (p1 (semLdLc 3 false 1 call [W x0] v3 st)) fun x1 =>
 obind (p1 (semLenL call [W x1] .undef st)) fun x2 =>
 obind (p1 (semFad 1 call [(locOf 4 v4)] .undef st)) fun x3 =>
 obind (p1 (semLdLc 4 false 1 call [W x3] v4 st)) fun x4 =>
 obind (p1 (semLenL call [W x4] .undef st)) fun x5 =>
 obind (p1 (semBin .neq call [W x2,W x5] .undef st)) fun x6 =>
 brE (W x6) call n a70s5 .skip [v0,v1,v2,v3,v4,v5] st :=
  (exec_testT ..).trans (by kernel_rfl)
def a70s9_k0 (call : CallT) (n : Nat) (v0 v1 v2 v3 v4 : AV) (x9 : AV × St) : Option Out :=
 m1 (W x9.1) fun x10 =>
 some (Ex.normal,[v0,v1,v2,v3,v4,AV.strip x10],x9.2)
theorem a70s9_x : exec call n a70s9 [v0,v1,v2,v3,v4,v5] st =
 m1 (AV.weak v0) fun x0 =>
 obind (p1 (semFad 1 call [(locOf 3 v3)] .undef st)) fun x1 =>
 obind (p1 (semLdLc 3 false 1 call [W x1] v3 st)) fun x2 =>
 obind (p1 (semIad 3 call [W x2,(.int .i64 0)] .undef st)) fun x3 =>
 obind (p1 (semLdRo true 3 call [W x3] .undef st)) fun x4 =>
 obind (p1 (semFad 1 call [(locOf 4 v4)] .undef st)) fun x5 =>
 obind (p1 (semLdLc 4 false 1 call [W x5] v4 st)) fun x6 =>
 obind (p1 (semIad 3 call [W x6,(.int .i64 0)] .undef st)) fun x7 =>
 obind (p1 (semLdRo true 3 call [W x7] .undef st)) fun x8 =>
 obind (p2 (semCall 70 call [W x0,W x4,W x8] .undef st)) (a70s9_k0 call n v0 v1 v2 v3 v4) :=
  (exec_reg ..).trans (by kernel_rfl)
theorem a70s11_x : exec call n a70s11 [v0,v1,v2,v3,v4,v5] st =
 obind (p1 (semFad 1 call [(locOf 3 v3)] .undef st)) fun x0 =>
 obind (p1 (semLdLc 3 false 1 call [W x0] v3 st)) fun x1 =>
 obind (p1 (semLenL call [W x1] .undef st)) fun x2 =>
 obind (p1 (semBin .gtr call [W x2,(.int .i64 0)] .undef st)) fun x3 =>
 brE (W x3) call n a70s10 .skip [v0,v1,v2,v3,v4,v5] st :=
  (exec_testT ..).trans (by kernel_rfl)
def a70s13_k0 (call : CallT) (n : Nat) (v0 v1 v2 v3 v4 x5 : AV) (x9 : AV × St) : Option Out :=
 gm (W x5) false (W x9.1) fun x10 =>
 obind (gv (W x10) true (p1 (semFad 0 call [(locOf 4 v4)] .undef x9.2))) fun x11 =>
 obind (gv (W x10) true (p1 (semLdLc 4 false 1 call [W x11] v4 x9.2))) fun x12 =>
 obind (gv (W x10) true (p1 (semBin .eql call [W x12,(.str [73,68])] .undef x9.2))) fun x13 =>
 obind (gv (W x5) false (p1 (semPick call [W x10,W x13,(.bool false)] .undef x9.2))) fun x14 =>
 obind (p1 (semPick call [W x5,(.bool true),W x14] .undef x9.2)) fun x15 =>
 m1 (W x15) fun x16 =>
 some (Ex.normal,[v0,v1,v2,v3,v4,AV.strip x16],x9.2)
theorem a70s13_x : exec call n a70s13 [v0,v1,v2,v3,v4,v5] st =
 obind (p1 (semFad 0 call [(locOf 3 v3)] .undef st)) fun x0 =>
 obind (p1 (semLdLc 3 false 1 call [W x0] v3 st)) fun x1 =>
 obind (p1 (semFad 0 call [(locOf 4 v4)] .undef st)) fun x2 =>
 obind (p1 (semLdLc 4 false 1 call [W x2] v4 st)) fun x3 =>
 obind (p1 (semBin .eql call [W x1,W x3] .undef st)) fun x4 =>
 m1 (W x4) fun x5 =>
 gm (W x5) false (AV.weak v0) fun x6 =>
 obind (gv (W x5) false (p1 (semFad 0 call [(locOf 3 v3)] .undef st))) fun x7 =>
 obind (gv (W x5) false (p1 (semLdLc 3 false 1 call [W x7] v3 st))) fun x8 =>
 obind (gv2 (W x5) false st (p2 (semCall 12 call [W x6,W x8] .undef st))) (a70s13_k0 call n v0 v1 v2 v3 v4 x5) :=
  (exec_reg ..).trans (by kernel_rfl)
theorem a71s1_x : exec call n a71s1 [v0,v1,v2,v3,v4,v5,v6,v7] st =
 obind (semAlloc [.int .u8 0,.int .i64 0,.str [],.list true [],.list true []] call [] AV.undef st) fun x0 =>
 some (Ex.normal,[v0,v1,x0.2.1,v3,v4,v5,v6,v7],x0.2.2) :=
  (exec_reg ..).trans (by kernel_rfl)
theorem a71s3_x : exec call n a71s3 [v0,v1,v2,v3,v4,v5,v6,v7] st =
 m1 (AV.weak v0) fun x0 =>
 obind (p1 (semNilchk call [W x0] .undef st)) fun x1 =>
 obind (p1 (semFad 0 call [W x1] .undef st)) fun x2 =>
 obind (p1 (semLdSt false 1 call [W x2] .undef st)) fun x3 =>
 m1 (AV.weak v0) fun x4 =>
 obind (p1 (semNilchk call [W x4] .undef st)) fun x5 =>
 obind (p1 (semFad 1 call [W x5] .undef st)) fun x6 =>
 obind (p1 (semLdSt false 1 call [W x6] .undef st)) fun x7 =>
 obind (p1 (semIad 4 call [W x3,W x7] .undef st)) fun x8 =>
 obind (p1 (semLdRo true 4 call [W x8] .undef st)) fun x9 =>
 obind (semAlloc [.int .u8 0,.str [],.int .i64 0,.int .i64 0] call [] AV.undef st) fun x10 =>
 obind (semStLc 3 4 call [(locOf 3 x10.2.1),W x9] x10.2.1 x10.2.2) fun x11 =>
 some (Ex.normal,[v0,v1,v2,x11.2.1,v4,v5,v6,v7],x11.2.2) :=
  (exec_reg ..).trans (by kernel_rfl)
theorem a71s6_x : exec call n a71s6 [v0,v1,v2,v3,v4,v5,v6,v7] st =
 m1 (AV.weak v0) fun x0 =>
 obind (p1 (semNilchk call [W x0] .undef st)) fun x1 =>
 obind (p1 (semFad 1 call [W x1] .undef st)) fun x2 =>
 obind (p1 (semLdSt false 1 call [W x2] .undef st)) fun x3 =>
 obind (p1 (semBin .add call [W x3,(.int .i64 1)] .undef st)) fun x4 =>
 obind (p1 (semNilchk call [W x0] .undef st)) fun x5 =>
 obind (p1 (semFad 1 call [W x5] .undef st)) fun x6 =>
 obind (p2 (semStSt 1 call [W x6,W x4] .undef st)) fun x7 =>
 some (Ex.normal,[v0,v1,v2,v3,v4,v5,v6,v7],x7.2) :=
  (exec_reg ..).trans (by kernel_rfl)
theorem a71s8_x : exec call n a71s8 [v0,v1,v2,v3,v4,v5,v6,v7] st =
 obind (p1 (semFad 2 call [(locOf 3 v3)] .undef st)) fun x0 =>
 obind (p1 (semLdLc 3 false 1 call [W x0] v3 st)) fun x1 =>
 obind (p1 (semBuild [.int .u8 0,.int .i64 0,.str [],.list true [],.list true []] [(0,1),(1,1)] call [(.int .u8 1),W x1] .undef st)) fun x2 =>
 obind (semStLc 2 5 call [(locOf 2 v2),(AV.stripB x2)] v2 st) fun x3 =>
 some (Ex.normal,[v0,v1,x3.2.1,v3,v4,v5,v6,v7],x3.2.2) :=
  (exec_reg ..).trans (by kernel_rfl)
theorem a71s13_x : exec call n a71s13 [v0,v1,v2,v3,v4,v5,v6,v7] st =
 m1 (AV.weak v0) fun x0 =>
 obind (p1 (semNilchk call [W x0] .undef st)) fun x1 =>
 obind (p1 (semFad 1 call [W x1] .undef st)) fun x2 =>
 obind (p1 (semLdSt false 1 call [W x2] .undef st)) fun x3 =>
 obind (p1 (semBin .add call [W x3,(.int .i64 1)] .undef st)) fun x4 =>
 obind (p1 (semNilchk call [W x0] .undef st)) fun x5 =>
 obind (p1 (semFad 1 call [W x5] .undef st)) fun x6 =>
 obind (p2 (semStSt 1 call [W x6,W x4] .undef st)) fun x7 =>
 some (Ex.normal,[v0,v1,v2,v3,v4,v5,v6,v7],x7.2) :=
  (exec_reg ..).trans (by kernel_rfl)
theorem a71s15_x : exec call n a71s15 [v0,v1,v2,v3,v4,v5,v6,v7] st =
 obind (p1 (semFad 1 call [(locOf 3 v3)] .undef st)) fun x0 =>
 obind (p1 (semLdLc 3 false 1 call [W x0] v3 st)) fun x1 =>
 obind (p1 (semBuild [.int .u8 0,.int .i64 0,.str [],.list true [],.list true []] [(0,1),(2,1)] call [(.int .u8 2),W x1] .undef st)) fun x2 =>
 obind (semStLc 2 5 call [(locOf 2 v2),(AV.stripB x2)] v2 st) fun x3 =>
 some (Ex.normal,[v0,v1,x3.2.1,v3,v4,v5,v6,v7],x3.2.2) :=
  (exec_reg ..).trans (by kernel_rfl)
theorem a71s20_x : exec call n a71s20 [v0,v1,v2,v3,v4,v5,v6,v7] st =
 obind (p1 (semBuild [.int .u8 0,.int .i64 0,.str [],.list true [],.list true []] [(0,1),(1,1)] call [(.int .u8 3),(.int .i64 1)] .undef st)) fun x0 =>
 obind (semStLc 2 5 call [(locOf 2 v2),(AV.stripB x0)] v2 st) fun x1 =>
 some (Ex.normal,[v0,v1,x1.2.1,v3,v4,v5,v6,v7],x1.2.2) :=
  (exec_reg ..).trans (by kernel_rfl)
theorem a71s24_x : exec call n a71s24 [v0,v1,v2,v3,v4,v5,v6,v7] st =
 obind (p1 (semBuild [.int .u8 0,.int .i64 0,.str [],.list true [],.list true []] [(0,1)] call [(.int .u8 3)] .undef st)) fun x0 =>
 obind (semStLc 2 5 call [(locOf 2 v2),(AV.stripB x0)] v2 st) fun x1 =>
 some (Ex.normal,[v0,v1,x1.2.1,v3,v4,v5,v6,v7],x1.2.2) :=
  (exec_reg ..).trans (by kernel_rfl)
theorem a71s28_x : exec call n a71s28 [v0,v1,v2,v3,v4,v5,v6,v7] st =
 obind (p1 (semBuild [.int .u8 0,.int .i64 0,.str [],.list true [],.list true []] [] call [] .undef st)) fun x0 =>
 obind (semStLc 2 5 call [(locOf 2 v2),(AV.stripB x0)] v2 st) fun x1 =>
 some (Ex.normal,[v0,v1,x1.2.1,v3,v4,v5,v6,v7],x1.2.2) :=
  (exec_reg ..).trans (by kernel_rfl)
theorem a71s32_x : exec call n a71s32 [v0,v1,v2,v3,v4,v5,v6,v7] st =
 m1 (AV.weak v0) fun x0 =>
 obind (p1 (semNilchk call [W x0] .undef st)) fun x1 =>
 obind (p1 (semFad 1 call [W x1] .undef st)) fun x2 =>
 obind (p1 (semLdSt false 1 call [W x2] .undef st)) fun x3 =>
 obind (p1 (semBin .add call [W x3,(.int .i64 1)] .undef st)) fun x4 =>
 obind (p1 (semNilchk call [W x0] .undef st)) fun x5 =>
 obind (p1 (semFad 1 call [W x5] .undef st)) fun x6 =>
 obind (p2 (semStSt 1 call [W x6,W x4] .undef st)) fun x7 =>
 some (Ex.normal,[v0,v1,v2,v3,v4,v5,v6,v7],x7.2) :=
  (exec_reg ..).trans (by kernel_rfl)
theorem a71s34_x : exec call n a71s34 [v0,v1,v2,v3,v4,v5,v6,v7] st =
 obind (p1 (semFad 1 call [(locOf 3 v3)] .undef st)) fun x0 =>
 obind (p1 (semLdLc 3 false 1 call [W x0] v3 st)) fun x1 =>
 obind (p1 (semBuild [.int .u8 0,.int .i64 0,.str [],.list true [],.list true []] [(0,1),(2,1)] call [(.int .u8 4),W x1] .undef st)) fun x2 =>
 obind (semStLc 2 5 call [(locOf 2 v2),(AV.stripB x2)] v2 st) fun x3 =>
 some (Ex.normal,[v0,v1,x3.2.1,v3,v4,v5,v6,v7],x3.2.2) :=
  (exec_reg ..).trans (by kernel_rfl)
theorem a71s39_x : exec call n a71s39 [v0,v1,v2,v3,v4,v5,v6,v7] st =
 m1 (AV.weak v0) fun x0 =>
 obind (p1 (semNilchk call [W x0] .undef st)) fun x1 =>
 obind (p1 (semFad 1 call [W x1] .undef st)) fun x2 =>
 obind (p1 (semLdSt false 1 call [W x2] .undef st)) fun x3 =>
 obind (p1 (semBin .add call [W x3,(.int .i64 1)] .undef st)) fun x4 =>
 obind (p1 (semNilchk call [W x0] .undef st)) fun x5 =>
 obind (p1 (semFad 1 call [W x5] .undef st)) fun x6 =>
 obind (p2 (semStSt 1 call [W x6,W x4] .undef st)) fun x7 =>
 some (Ex.normal,[v0,v1,v2,v3,v4,v5,v6,v7],x7.2) :=
  (exec_reg ..).trans (by kernel_rfl)
def a71s41_k0 (call : CallT) (n : Nat) (v0 v1 v2 v3 v4 v5 v6 v7 : AV) (x1 : AV × St) : Option Out :=
 obind (p1 (semBuild [.int .u8 0,.int .i64 0,.str [],.list true [],.list true []] [(0,1),(2,1)] call [(.int .u8 7),W x1.1] .undef x1.2)) fun x2 =>
 obind (semStLc 2 5 call [(locOf 2 v2),(AV.stripB x2)] v2 x1.2) fun x3 =>
 some (Ex.normal,[v0,v1,x3.2.1,v3,v4,v5,v6,v7],x3.2.2)
theorem a71s41_x : exec call n a71s41 [v0,v1,v2,v3,v4,v5,v6,v7] st =
 m1 (AV.weak v0) fun x0 =>
 obind (p2 (semCall 43 call [W x0] .undef st)) (a71s41_k0 call n v0 v1 v2 v3 v4 v5 v6 v7) :=
  (exec_reg ..).trans (by kernel_rfl)
theorem a71s46_x : exec call n a71s46 [v0,v1,v2,v3,v4,v5,v6,v7] st =
 obind (p1 (semBuild [.int .u8 0,.int .i64 0,.str [],.list true [],.list true []] [(0,1)] call [(.int .u8 5)] .undef st)) fun x0 =>
 obind (semAlloc [.int .u8 0,.int .i64 0,.str [],.list true [],.list true []] call [] AV.undef st) fun x1 =>
 obind (semStLc 4 5 call [(locOf 4 x1.2.1),(AV.stripB x0)] x1.2.1 x1.2.2) fun x2 =>
 some (Ex.normal,[v0,v1,v2,v3,x2.2.1,v5,v6,v7],x2.2.2) :=
  (exec_reg ..).trans (by kernel_rfl)
def a71s48_k0 (call : CallT) (n : Nat) (v0 v1 v2 v3 v4 v5 v6 v7 x5 : AV) (x7 : AV × St) : Option Out :=
 obind (gv (W x5) true (p1 (semUn .not call [W x7.1] .undef x7.2))) fun x8 =>
 obind (p1 (semPick call [W x5,W x8,(.bool false)] .undef x7.2)) fun x9 =>
 brE (W x9) call n .skip (.exit 1) [v0,v1,v2,v3,v4,v5,v6,v7] x7.2
theorem a71s48_x : exec call n a71s48 [v0,v1,v2,v3,v4,v5,v6,v7] st =
 m1 (AV.weak v0) fun x0 =>
 obind (p1 (semNilchk call [W x0] .undef st)) fun x1 =>
 obind (p1 (semFad 4 call [W x1] .undef st)) fun x2 =>
 obind (p1 (semLdSt false 1 call [W x2] .undef st)) fun x3 =>
 obind (p1 (semBin .eql call [W x3,(.int .i64 0)] .undef st)) fun x4 =>
 m1 (W x4) fun x5 =>
 gm (W x5) true (AV.weak v0) fun x6 =>
 obind (gv2 (W x5) true st (p2 (semCall 46 call [W x6,(.str [93])] .undef st))) (a71s48_k0 call n v0 v1 v2 v3 v4 v5 v6 v7 x5) :=
  (exec_testT ..).trans (by kernel_rfl)
def a71s50_k0 (call : CallT) (n : Nat) (v0 v1 v2 v3 v4 v6 v7 : AV) (x2 : AV × St) : Option Out :=
 obind (semAlloc [.int .u8 0,.int .i64 0,.str [],.list true [],.list true []] call [] AV.undef x2.2) fun x3 =>
 obind (semStLc 5 5 call [(locOf 5 x3.2.1),(AV.stripB x2.1)] x3.2.1 x3.2.2) fun x4 =>
 some (Ex.normal,[v0,v1,v2,v3,v4,x4.2.1,v6,v7],x4.2.2)
theorem a71s50_x : exec call n a71s50 [v0,v1,v2,v3,v4,v5,v6,v7] st =
 m1 (AV.weak v0) fun x0 =>
 m1 (AV.weak v1) fun x1 =>
 obind (p2 (semCall 61 call [W x0,W x1] .undef st)) (a71s50_k0 call n v0 v1 v2 v3 v4 v6 v7) :=
  (exec_reg ..).trans (by kernel_rfl)
theorem a71s52_x : exec call n a71s52 [v0,v1,v2,v3,v4,v5,v6,v7] st =
 obind (p1 (semFad 4 call [(locOf 4 v4)] .undef st)) fun x0 =>
 obind (semLdLcS 4 call [W x0] v4 st) fun x1 =>
 obind (p1 (semLdLc 5 true 5 call [(locOf 5 v5)] v5 x1.2.2)) fun x2 =>
 obind (p1 (semBslice 5 [[.int .u8 0,.int .i64 0,.str [],.list true [],.list true []]] [0] call [W x2] .undef x1.2.2)) fun x3 =>
 obind (semApp 5 80 call [(AV.stripB x1.1),W x3] .undef x1.2.2) fun x4 =>
 obind (p1 (semFad 4 call [(locOf 4 x1.2.1)] .undef x4.2.2)) fun x5 =>
 obind (semStLc 4 1 call [W x5,(AV.stripB x4.1)] x1.2.1 x4.2.2) fun x6 =>
 some (Ex.normal,[v0,v1,v2,v3,x6.2.1,v5,v6,v7],x6.2.2) :=
  (exec_reg ..).trans (by kernel_rfl)
theorem a71s59_x : exec call n a71s59 [v0,v1,v2,v3,v4,v5,v6,v7] st =
 obind (p1 (semLdLc 4 true 5 call [(locOf 4 v4)] v4 st)) fun x0 =>
 obind (semStLc 2 5 call [(locOf 2 v2),(AV.stripB x0)] v2 st) fun x1 =>
 some (Ex.normal,[v0,v1,x1.2.1,v3,v4,v5,v6,v7],x1.2.2) :=
  (exec_reg ..).trans (by kernel_rfl)
theorem a71s65_x : exec call n a71s65 [v0,v1,v2,v3,v4,v5,v6,v7] st =
 obind (p1 (semBuild [.int .u8 0,.int .i64 0,.str [],.list true [],.list true []] [(0,1)] call [(.int .u8 6)] .undef st)) fun x0 =>
 obind (semAlloc [.int .u8 0,.int .i64 0,.str [],.list true [],.list true []] call [] AV.undef st) fun x1 =>
 obind (semStLc 6 5 call [(locOf 6 x1.2.1),(AV.stripB x0)] x1.2.1 x1.2.2) fun x2 =>
 some (Ex.normal,[v0,v1,v2,v3,v4,v5,x2.2.1,v7],x2.2.2) :=
  (exec_reg ..).trans (by kernel_rfl)
def a71s67_k0 (call : CallT) (n : Nat) (v0 v1 v2 v3 v4 v5 v6 v7 x5 : AV) (x7 : AV × St) : Option Out :=
 obind (gv (W x5) true (p1 (semUn .not call [W x7.1] .undef x7.2))) fun x8 =>
 obind (p1 (semPick call [W x5,W x8,(.bool false)] .undef x7.2)) fun x9 =>
 brE (W x9) call n .skip (.exit 3) [v0,v1,v2,v3,v4,v5,v6,v7] x7.2
theorem a71s67_x : exec call n a71s67 [v0,v1,v2,v3,v4,v5,v6,v7] st =
 m1 (AV.weak v0) fun x0 =>
 obind (p1 (semNilchk call [W x0] .undef st)) fun x1 =>
 obind (p1 (semFad 4 call [W x1] .undef st)) fun x2 =>
 obind (p1 (semLdSt false 1 call [W x2] .undef st)) fun x3 =>
 obind (p1 (semBin .eql call [W x3,(.int .i64 0)] .undef st)) fun x4 =>
 m1 (W x4) fun x5 =>
 gm (W x5) true (AV.weak v0) fun x6 =>
 obind (gv2 (W x5) true st (p2 (semCall 46 call [W x6,(.str [125])] .undef st))) (a71s67_k0 call n v0 v1 v2 v3 v4 v5 v6 v7 x5) :=
  (exec_testT ..).trans (by kernel_rfl)
def a71s69_k0 (call : CallT) (n : Nat) (v0 v1 v2 v3 v4 v5 v7 : AV) (x1 : AV × AV × St) (x3 : AV × St) : Option Out :=
 obind (p1 (semBslice 1 [[.str []]] [0] call [W x3.1] .undef x3.2)) fun x4 =>
 obind (semApp 1 16 call [(AV.stripB x1.1),W x4] .undef x3.2) fun x5 =>
 obind (p1 (semFad 3 call [(locOf 6 x1.2.1)] .undef x5.2.2)) fun x6 =>
 obind (semStLc 6 1 call [W x6,(AV.stripB x5.1)] x1.2.1 x5.2.2) fun x7 =>
 some (Ex.normal,[v0,v1,v2,v3,v4,v5,x7.2.1,v7],x7.2.2)
theorem a71s69_x : exec call n a71s69 [v0,v1,v2,v3,v4,v5,v6,v7] st =
 obind (p1 (semFad 3 call [(locOf 6 v6)] .undef st)) fun x0 =>
 obind (semLdLcS 6 call [W x0] v6 st) fun x1 =>
 m1 (AV.weak v0) fun x2 =>
 obind (p2 (semCall 43 call [W x2] .undef x1.2.2)) (a71s69_k0 call n v0 v1 v2 v3 v4 v5 v7 x1) :=
  (exec_reg ..).trans (by kernel_rfl)
def a71s71_k0 (call : CallT) (n : Nat) (v0 v1 v2 v3 v4 v5 v6 v7 : AV) (x1 : AV × St) : Option Out :=
 some (Ex.normal,[v0,v1,v2,v3,v4,v5,v6,v7],x1.2)
theorem a71s71_x : exec call n a71s71 [v0,v1,v2,v3,v4,v5,v6,v7] st =
 m1 (AV.weak v0) fun x0 =>
 obind (p2 (semCall 44 call [W x0,(.str [58])] .undef st)) (a71s71_k0 call n v0 v1 v2 v3 v4 v5 v6 v7) :=
  (exec_reg ..).trans (by kernel_rfl)
def a71s73_k0 (call : CallT) (n : Nat) (v0 v1 v2 v3 v4 v5 v6 : AV) (x2 : AV × St) : Option Out :=
 obind (semAlloc [.int .u8 0,.int .i64 0,.str [],.list true [],.list true []] call [] AV.undef x2.2) fun x3 =>
 obind (semStLc 7 5 call [(locOf 7 x3.2.1),(AV.stripB x2.1)] x3.2.1 x3.2.2) fun x4 =>
 some (Ex.normal,[v0,v1,v2,v3,v4,v5,v6,x4.2.1],x4.2.2)
theorem a71s73_x : exec call n a71s73 [v0,v1,v2,v3,v4,v5,v6,v7] st =
 m1 (AV.weak v0) fun x0 =>
 m1 (AV.weak v1) fun x1 =>
 obind (p2 (semCall 61 call [W x0,W x1] .undef st)) (a71s73_k0 call n v0 v1 v2 v3 v4 v5 v6) :=
  (exec_reg ..).trans (by kernel_rfl)
theorem a71s75_x : exec call n a71s75 [v0,v1,v2,v3,v4,v5,v6,v7] st =
 obind (p1 (semFad 4 call [(locOf 6 v6)] .undef st)) fun x0 =>
 obind (semLdLcS 6 call [W x0] v6 st) fun x1 =>
 obind (p1 (semLdLc 7 true 5 call [(locOf 7 v7)] v7 x1.2.2)) fun x2 =>
 obind (p1 (semBslice 5 [[.int .u8 0,.int .i64 0,.str [],.list true [],.list true []]] [0] call [W x2] .undef x1.2.2)) fun x3 =>
 obind (semApp 5 80 call [(AV.stripB x1.1),W x3] .undef x1.2.2) fun x4 =>
 obind (p1 (semFad 4 call [(locOf 6 x1.2.1)] .undef x4.2.2)) fun x5 =>
 obind (semStLc 6 1 call [W x5,(AV.stripB x4.1)] x1.2.1 x4.2.2) fun x6 =>
 some (Ex.normal,[v0,v1,v2,v3,v4,v5,x6.2.1,v7],x6.2.2) :=
  (exec_reg ..).trans (by kernel_rfl)
theorem a71s84_x : exec call n a71s84 [v0,v1,v2,v3,v4,v5,v6,v7] st =
 obind (p1 (semLdLc 6 true 5 call [(locOf 6 v6)] v6 st)) fun x0 =>
 obind (semStLc 2 5 call [(locOf 2 v2),(AV.stripB x0)] v2 st) fun x1 =>
 some (Ex.normal,[v0,v1,x1.2.1,v3,v4,v5,v6,v7],x1.2.2) :=
  (exec_reg ..).trans (by kernel_rfl)
def a71s88_k0 (call : CallT) (n : Nat) (v0 v1 v2 v3 v4 v5 v6 v7 : AV) (x1 : AV × St) : Option Out :=
 m1 (W x1.1) fun x2 =>
 brE (W x2) call n a71s87 .skip [v0,v1,v2,v3,v4,v5,v6,v7] x1.2
theorem a71s88_x : exec call n a71s88 [v0,v1,v2,v3,v4,v5,v6,v7] st =
 m1 (AV.weak v0) fun x0 =>
 obind (p2 (semCall 46 call [W x0,(.str [123])] .undef st)) (a71s88_k0 call n v0 v1 v2 v3 v4 v5 v6 v7) :=
  (exec_testT ..).trans (by kernel_rfl)
def a71s89_k0 (call : CallT) (n : Nat) (v0 v1 v2 v3 v4 v5 v6 v7 : AV) (x1 : AV × St) : Option Out :=
 m1 (W x1.1) fun x2 =>
 brE (W x2) call n a71s62 a71s88 [v0,v1,v2,v3,v4,v5,v6,v7] x1.2
theorem a71s89_x : exec call n a71s89 [v0,v1,v2,v3,v4,v5,v6,v7] st =
 m1 (AV.weak v0) fun x0 =>
 obind (p2 (semCall 46 call [W x0,(.str [91])] .undef st)) (a71s89_k0 call n v0 v1 v2 v3 v4 v5 v6 v7) :=
  (exec_testT ..).trans (by kernel_rfl)
def a71s90_k0 (call : CallT) (n : Nat) (v0 v1 v2 v3 v4 v5 v6 v7 : AV) (x1 : AV × St) : Option Out :=
 m1 (W x1.1) fun x2 =>
 gm (W x2) true (AV.weak v1) fun x3 =>
 obind (gv (W x2) true (p1 (semUn .not call [W x3] .undef x1.2))) fun x4 =>
 obind (p1 (semPick call [W x2,W x4,(.bool false)] .undef x1.2)) fun x5 =>
 m1 (W x5) fun x6 =>
 brE (W x6) call n a71s43 a71s89 [v0,v1,v2,v3,v4,v5,v6,v7] x1.2
theorem a71s90_x : exec call n a71s90 [v0,v1,v2,v3,v4,v5,v6,v7] st =
 m1 (AV.weak v0) fun x0 =>
 obind (p2 (semCall 60 call [W x0,(.str [36])] .undef st)) (a71s90_k0 call n v0 v1 v2 v3 v4 v5 v6 v7) :=
  (exec_testT ..).trans (by kernel_rfl)
theorem a71s91_x : exec call n a71s91 [v0,v1,v2,v3,v4,v5,v6,v7] st =
 obind (p1 (semFad 0 call [(locOf 3 v3)] .undef st)) fun x0 =>
 obind (p1 (semLdLc 3 false 1 call [W x0] v3 st)) fun x1 =>
 obind (p1 (semBin .eql call [W x1,(.int .u8 1)] .undef st)) fun x2 =>
 m1 (W x2) fun x3 =>
 brE (W x3) call n a71s36 a71s90 [v0,v1,v2,v3,v4,v5,v6,v7] st :=
  (exec_testT ..).trans (by kernel_rfl)
def a71s92_k0 (call : CallT) (n : Nat) (v0 v1 v2 v3 v4 v5 v6 v7 : AV) (x1 : AV × St) : Option Out :=
 m1 (W x1.1) fun x2 =>
 brE (W x2) call n a71s29 a71s91 [v0,v1,v2,v3,v4,v5,v6,v7] x1.2
theorem a71s92_x : exec call n a71s92 [v0,v1,v2,v3,v4,v5,v6,v7] st =
 m1 (AV.weak v0) fun x0 =>
 obind (p2 (semCall 46 call [W x0,(.str [110,117,108,108])] .undef st)) (a71s92_k0 call n v0 v1 v2 v3 v4 v5 v6 v7) :=
  (exec_testT ..).trans (by kernel_rfl)
def a71s93_k0 (call : CallT) (n : Nat) (v0 v1 v2 v3 v4 v5 v6 v7 : AV) (x1 : AV × St) : Option Out :=
 m1 (W x1.1) fun x2 =>
 brE (W x2) call n a71s25 a71s92 [v0,v1,v2,v3,v4,v5,v6,v7] x1.2
theorem a71s93_x : exec call n a71s93 [v0,v1,v2,v3,v4,v5,v6,v7] st =
 m1 (AV.weak v0) fun x0 =>
 obind (p2 (semCall 46 call [W x0,(.str [102,97,108,115,101])] .undef st)) (a71s93_k0 call n v0 v1 v2 v3 v4 v5 v6 v7) :=
  (exec_testT ..).trans (by kernel_rfl)
def a71s94_k0 (call : CallT) (n : Nat) (v0 v1 v2 v3 v4 v5 v6 v7 : AV) (x1 : AV × St) : Option Out :=
 m1 (W x1.1) fun x2 =>
 brE (W x2) call n a71s21 a71s93 [v0,v1,v2,v3,v4,v5,v6,v7] x1.2
theorem a71s94_x : exec call n a71s94 [v0,v1,v2,v3,v4,v5,v6,v7] st =
 m1 (AV.weak v0) fun x0 =>
 obind (p2 (semCall 46 call [W x0,(.str [116,114,117,101])] .undef st)) (a71s94_k0 call n v0 v1 v2 v3 v4 v5 v6 v7) :=
  (exec_testT ..).trans (by kernel_rfl)
theorem a71s95_x : exec call n a71s95 [v0,v1,v2,v3,v4,v5,v6,v7] st =
 obind (p1 (semFad 0 call [(locOf 3 v3)] .undef st)) fun x0 =>
 obind (p1 (semLdLc 3 false 1 call [W x0] v3 st)) fun x1 =>
 obind (p1 (semBin .eql call [W x1,(.int .u8 3)] .undef st)) fun x2 =>
 m1 (W x2) fun x3 =>
 brE (W x3) call n a71s17 a71s94 [v0,v1,v2,v3,v4,v5,v6,v7] st :=
  (exec_testT ..).trans (by kernel_rfl)
theorem a71s96_x : exec call n a71s96 [v0,v1,v2,v3,v4,v5,v6,v7] st =
 obind (p1 (semFad 0 call [(locOf 3 v3)] .undef st)) fun x0 =>
 obind (p1 (semLdLc 3 false 1 call [W x0] v3 st)) fun x1 =>
 obind (p1 (semBin .eql call [W x1,(.int .u8 2)] .undef st)) fun x2 =>
 m1 (W x2) fun x3 =>
 brE (W x3) call n a71s10 a71s95 [v0,v1,v2,v3,v4,v5,v6,v7] st :=
  (exec_testT ..).trans (by kernel_rfl)
def a71s99_k0 (call : CallT) (n : Nat) (v0 v1 v2 v3 v4 v5 v6 v7 : AV) (x1 : AV × St) : Option Out :=
 some (Ex.normal,[v0,v1,v2,v3,v4,v5,v6,v7],x1.2)
theorem a71s99_x : exec call n a71s99 [v0,v1,v2,v3,v4,v5,v6,v7] st =
 m1 (AV.weak v0) fun x0 =>
 obind (p2 (semCall 42 call [W x0,(.int .i64 4)] .undef st)) (a71s99_k0 call n v0 v1 v2 v3 v4 v5 v6 v7) :=
  (exec_reg ..).trans (by kernel_rfl)
theorem a71s101_x : exec call n a71s101 [v0,v1,v2,v3,v4,v5,v6,v7] st =
 obind (p1 (semBuild [.int .u8 0,.int .i64 0,.str [],.list true [],.list true []] [] call [] .undef st)) fun x0 =>
 obind (semStLc 2 5 call [(locOf 2 v2),(AV.stripB x0)] v2 st) fun x1 =>
 some (Ex.normal,[v0,v1,x1.2.1,v3,v4,v5,v6,v7],x1.2.2) :=
  (exec_reg ..).trans (by kernel_rfl)
theorem a72s1_x : exec call n a72s1 [v0,v1,v2] st =
 m1 (.bool false) fun x0 =>
 some (Ex.normal,[v0,v1,AV.strip x0],st) :=
  (exec_reg ..).trans (by kernel_rfl)
def a72s3_k0 (call : CallT) (n : Nat) (v0 v1 : AV) (x2 : AV × St) : Option Out :=
 obind (p1 (semBin .geq call [W x2.1,(.int .i64 0)] .undef x2.2)) fun x3 =>
 m1 (W x3) fun x4 =>
 some (Ex.normal,[v0,v1,AV.strip x4],x2.2)
theorem a72s3_x : exec call n a72s3 [v0,v1,v2] st =
 m1 (AV.weak v0) fun x0 =>
 m1 (AV.weak v1) fun x1 =>
 obind (p2 (semCall 77 call [W x0,W x1] .undef st)) (a72s3_k0 call n v0 v1) :=
  (exec_reg ..).trans (by kernel_rfl)
theorem a73s1_x : exec call n a73s1 [v0,v1,v2,v3,v4] st =
 obind (semBoxV call [(AV.weak v0)] AV.undef st) fun x0 =>
 m1 (.bool false) fun x1 =>
 some (Ex.normal,[v0,v1,v2,x0.2.1,AV.strip x1],x0.2.2) :=
  (exec_reg ..).trans (by kernel_rfl)
def a73s3_k0 (call : CallT) (n : Nat) (v0 v1 v2 v3 : AV) (x6 : AV × St) : Option Out :=
 obind (p1 (semUn .not call [W x6.1] .undef x6.2)) fun x7 =>
 m1 (W x7) fun x8 =>
 some (Ex.normal,[v0,v1,v2,v3,AV.strip x8],x6.2)
theorem a73s3_x : exec call n a73s3 [v0,v1,v2,v3,v4] st =
 obind (p1 (semLdSt false 1 call [(AV.weak v1)] .undef st)) fun x0 =>
 obind (p1 (semFad 1 call [(AV.weak v2)] .undef st)) fun x1 =>
 obind (p1 (semLdSt false 1 call [W x1] .undef st)) fun x2 =>
 obind (p1 (semIad 3 call [W x2,(.int .i64 0)] .undef st)) fun x3 =>
 obind (p1 (semLdRo true 3 call [W x3] .undef st)) fun x4 =>
 obind (p1 (semLdLc 3 true 5 call [(locOf 3 v3)] v3 st)) fun x5 =>
 obind (p2 (semCall 64 call [W x0,W x4,W x5] .undef st)) (a73s3_k0 call n v0 v1 v2 v3) :=
  (exec_reg ..).trans (by kernel_rfl)
theorem a74s1_x : exec call n a74s1 [v0,v1,v2,v3,v4,v5,v6,v7,v8,v9,v10,v11] st =
 obind (semBoxV call [(AV.weak v1)] AV.undef st) fun x0 =>
 obind (p2 (semBoxO call [(AV.weak v2)] .undef x0.2.2)) fun x1 =>
 m1 (.bool false) fun x2 =>
 some (Ex.normal,[v0,v1,v2,x0.2.1,(AV.strip x1.1),AV.strip x2,v6,v7,v8,v9,v10,v11],x1.2) :=
  (exec_reg ..).trans (by kernel_rfl)
theorem a74s3_x : exec call n a74s3 [v0,v1,v2,v3,v4,v5,v6,v7,v8,v9,v10,v11] st =
 obind (p1 (semFad 3 call [(AV.weak v4)] .undef st)) fun x0 =>
 obind (p1 (semLdSt false 1 call [W x0] .undef st)) fun x1 =>
 obind (p1 (semLenL call [(AV.weak (AV.strip x1))] .undef st)) fun x2 =>
 m1 (.int .i64 0) fun x3 =>
 some (Ex.normal,[v0,v1,v2,v3,v4,v5,v6,v7,v8,AV.strip x1,AV.strip x2,AV.strip x3],st) :=
  (exec_reg ..).trans (by kernel_rfl)
theorem a74s5_x : exec call n a74s5 [v0,v1,v2,v3,v4,v5,v6,v7,v8,v9,v10,v11] st =
 obind (p1 (semBin .lss call [(AV.weak v11),(AV.weak v10)] .undef st)) fun x0 =>
 brE (W x0) call n .skip (.exit 0) [v0,v1,v2,v3,v4,v5,v6,v7,v8,v9,v10,v11] st :=
  (exec_testT ..).trans (by kernel_rfl)
theorem a74s7_x : exec call n a74s7 [v0,v1,v2,v3,v4,v5,v6,v7,v8,v9,v10,v11] st =
 m1 (AV.weak v11) fun x0 =>
 obind (p1 (semIad 1 call [(AV.weak v9),(AV.weak v11)] .undef st)) fun x1 =>
 obind (p1 (semLdRo false 1 call [W x1] .undef st)) fun x2 =>
 m1 (W x0) fun x3 =>
 m1 (W x2) fun x4 =>
 some (Ex.normal,[v0,v1,v2,v3,v4,v5,AV.strip x3,AV.strip x4,v8,v9,v10,v11],st) :=
  (exec_reg ..).trans (by kernel_rfl)
def a74s9_k1 (call : CallT) (n : Nat) (v0 v1 v2 v3 v4 v5 v6 v7 v9 v10 v11 : AV) (x4 : AV × St) : Option Out :=
 m1 (W x4.1) fun x5 =>
 some (Ex.normal,[v0,v1,v2,v3,v4,v5,v6,v7,AV.strip x5,v9,v10,v11],x4.2)
def a74s9_k0 (call : CallT) (n : Nat) (v0 v1 v2 v3 v4 v5 v6 v7 v9 v10 v11 : AV) (x2 : AV × St) : Option Out :=
 m1 (AV.weak v7) fun x3 =>
 obind (p2 (semCall 36 call [W x2.1,W x3] .undef x2.2)) (a74s9_k1 call n v0 v1 v2 v3 v4 v5 v6 v7 v9 v10 v11)
theorem a74s9_x : exec call n a74s9 [v0,v1,v2,v3,v4,v5,v6,v7,v8,v9,v10,v11] st =
 obind (p1 (semFad 2 call [(locOf 3 v3)] .undef st)) fun x0 =>
 obind (p1 (semLdLc 3 false 1 call [W x0] v3 st)) fun x1 =>
 obind (p2 (semCall 37 call [W x1] .undef st)) (a74s9_k0 call n v0 v1 v2 v3 v4 v5 v6 v7 v9 v10 v11) :=
  (exec_reg ..).trans (by kernel_rfl)
theorem a74s12_x : exec call n a74s12 [v0,v1,v2,v3,v4,v5,v6,v7,v8,v9,v10,v11] st =
 m1 (.bool false) fun x0 =>
 some (Ex.normal,[v0,v1,v2,v3,v4,AV.strip x0,v6,v7,v8,v9,v10,v11],st) :=
  (exec_reg ..).trans (by kernel_rfl)
def a74s14_k1 (call : CallT) (n : Nat) (v0 v1 v2 v3 v4 v5 v6 v7 v8 v9 v10 v11 x10 : AV) (x23 : AV × St) : Option Out :=
 obind (gv (W x10) false (p1 (semUn .not call [W x23.1] .undef x23.2))) fun x24 =>
 obind (p1 (semPick call [W x10,(.bool true),W x24] .undef x23.2)) fun x25 =>
 brE (W x25) call n a74s13 .skip [v0,v1,v2,v3,v4,v5,v6,v7,v8,v9,v10,v11] x23.2
def a74s14_k0 (call : CallT) (n : Nat) (v0 v1 v2 v3 v4 v5 v6 v7 v8 v9 v10 v11 x2 : AV) (x8 : AV × St) : Option Out :=
 obind (p1 (semPick call [W x2,(.bool true),W x8.1] .undef x8.2)) fun x9 =>
 m1 (W x9) fun x10 =>
 gm (W x10) false (AV.weak v0) fun x11 =>
 obind (gv (W x10) false (p1 (semFad 2 call [(locOf 3 v3)] .undef x8.2))) fun x12 =>
 obind (gv (W x10) false (p1 (semLdLc 3 false 1 call [W x12] v3 x8.2))) fun x13 =>
 gm (W x10) false (AV.weak v8) fun x14 =>
 obind (gv (W x10) false (p1 (semIad 11 call [W x13,W x14] .undef x8.2))) fun x15 =>
 obind (gv (W x10) false (p1 (semFad 2 call [W x15] .undef x8.2))) fun x16 =>
 obind (gv (W x10) false (p1 (semLdRo true 3 call [W x16] .undef x8.2))) fun x17 =>
 obind (gv (W x10) false (p1 (semFad 4 call [(AV.weak v4)] .undef x8.2))) fun x18 =>
 obind (gv (W x10) false (p1 (semLdSt false 1 call [W x18] .undef x8.2))) fun x19 =>
 gm (W x10) false (AV.weak v6) fun x20 =>
 obind (gv (W x10) false (p1 (semIad 5 call [W x19,W x20] .undef x8.2))) fun x21 =>
 obind (gv (W x10) false (p1 (semLdRo true 5 call [W x21] .undef x8.2))) fun x22 =>
 obind (gv2 (W x10) false x8.2 (p2 (semCall 64 call [W x11,W x17,W x22] .undef x8.2))) (a74s14_k1 call n v0 v1 v2 v3 v4 v5 v6 v7 v8 v9 v10 v11 x10)
theorem a74s14_x : exec call n a74s14 [v0,v1,v2,v3,v4,v5,v6,v7,v8,v9,v10,v11] st =
 m1 (AV.weak v8) fun x0 =>
 obind (p1 (semBin .lss call [W x0,(.int .i64 0)] .undef st)) fun x1 =>
 m1 (W x1) fun x2 =>
 obind (gv (W x2) false (p1 (semFad 3 call [(AV.weak v4)] .undef st))) fun x3 =>
 obind (gv (W x2) false (p1 (semLdSt false 1 call [W x3] .undef st))) fun x4 =>
 gm (W x2) false (AV.weak v6) fun x5 =>
 obind (gv (W x2) false (p1 (semSlL 1 false true call [W x4,W x5] .undef st))) fun x6 =>
 gm (W x2) false (AV.weak v7) fun x7 =>
 obind (gv2 (W x2) false st (p2 (semCall 29 call [W x6,W x7] .undef st))) (a74s14_k0 call n v0 v1 v2 v3 v4 v5 v6 v7 v8 v9 v10 v11 x2) :=
  (exec_testT ..).trans (by kernel_rfl)
theorem a74s19_x : exec call n a74s19 [v0,v1,v2,v3,v4,v5,v6,v7,v8,v9,v10,v11] st =
 obind (p1 (semBin .add call [(AV.weak v11),(.int .i64 1)] .undef st)) fun x0 =>
 m1 (W x0) fun x1 =>
 some (Ex.normal,[v0,v1,v2,v3,v4,v5,v6,v7,v8,v9,v10,AV.strip x1],st) :=
  (exec_reg ..).trans (by kernel_rfl)
def a74s26_k0 (call : CallT) (n : Nat) (v0 v1 v2 v3 v4 v6 v7 v8 v9 v10 v11 : AV) (x3 : AV × St) : Option Out :=
 obind (p1 (semUn .not call [W x3.1] .undef x3.2)) fun x4 =>
 m1 (W x4) fun x5 =>
 some (Ex.normal,[v0,v1,v2,v3,v4,AV.strip x5,v6,v7,v8,v9,v10,v11],x3.2)
theorem a74s26_x : exec call n a74s26 [v0,v1,v2,v3,v4,v5,v6,v7,v8,v9,v10,v11] st =
 obind (p1 (semFad 2 call [(locOf 3 v3)] .undef st)) fun x0 =>
 obind (p1 (semLdLc 3 false 1 call [W x0] v3 st)) fun x1 =>
 obind (p1 (semMkF 78 0 call [(AV.weak v4)] .undef st)) fun x2 =>
 obind (p2 (semCall 65 call [W x1,W x2] .undef st)) (a74s26_k0 call n v0 v1 v2 v3 v4 v6 v7 v8 v9 v10 v11) :=
  (exec_reg ..).trans (by kernel_rfl)
theorem a75s1_x : exec call n a75s1 [v0,v1,v2,v3,v4,v5] st =
 m1 (.int .i64 0) fun x0 =>
 some (Ex.normal,[v0,v1,AV.strip x0,v3,v4,v5],st) :=
  (exec_reg ..).trans (by kernel_rfl)
theorem a75s3_x : exec call n a75s3 [v0,v1,v2,v3,v4,v5] st =
 m1 (AV.weak v0) fun x0 =>
 obind (p1 (semLenL call [W x0] .undef st)) fun x1 =>
 m1 (.int .i64 0) fun x2 =>
 some (Ex.normal,[v0,v1,v2,v3,AV.strip x1,AV.strip x2],st) :=
  (exec_reg ..).trans (by kernel_rfl)
theorem a75s5_x : exec call n a75s5 [v0,v1,v2,v3,v4,v5] st =
 obind (p1 (semBin .lss call [(AV.weak v5),(AV.weak v4)] .undef st)) fun x0 =>
 brE (W x0) call n .skip (.exit 0) [v0,v1,v2,v3,v4,v5] st :=
  (exec_testT ..).trans (by kernel_rfl)
theorem a75s7_x : exec call n a75s7 [v0,v1,v2,v3,v4,v5] st =
 m1 (AV.weak v5) fun x0 =>
 m1 (W x0) fun x1 =>
 some (Ex.normal,[v0,v1,v2,AV.strip x1,v4,v5],st) :=
  (exec_reg ..).trans (by kernel_rfl)
theorem a75s10_x : exec call n a75s10 [v0,v1,v2,v3,v4,v5] st =
 m1 (AV.weak v3) fun x0 =>
 m1 (W x0) fun x1 =>
 some (Ex.normal,[v0,v1,AV.strip x1,v3,v4,v5],st) :=
  (exec_reg ..).trans (by kernel_rfl)
def a75s12_k0 (call : CallT) (n : Nat) (v0 v1 v2 v3 v4 v5 : AV) (x5 : AV × St) : Option Out :=
 brE (W x5.1) call n a75s11 .skip [v0,v1,v2,v3,v4,v5] x5.2
theorem a75s12_x : exec call n a75s12 [v0,v1,v2,v3,v4,v5] st =
 m1 (AV.weak v1) fun x0 =>
 m1 (AV.weak v0) fun x1 =>
 m1 (AV.weak v3) fun x2 =>
 obind (p1 (semIad 11 call [W x1,W x2] .undef st)) fun x3 =>
 obind (p1 (semLdRo true 11 call [W x3] .undef st)) fun x4 =>
 obind (p2 (semCallV call [W x0,W x4] .undef st)) (a75s12_k0 call n v0 v1 v2 v3 v4 v5) :=
  (exec_testT ..).trans (by kernel_rfl)
theorem a75s16_x : exec call n a75s16 [v0,v1,v2,v3,v4,v5] st =
 obind (p1 (semBin .add call [(AV.weak v5),(.int .i64 1)] .undef st)) fun x0 =>
 m1 (W x0) fun x1 =>
 some (Ex.normal,[v0,v1,v2,v3,v4,AV.strip x1],st) :=
  (exec_reg ..).trans (by kernel_rfl)
theorem a75s23_x : exec call n a75s23 [v0,v1,v2,v3,v4,v5] st =
 m1 (.int .i64 (-1)) fun x0 =>
 some (Ex.normal,[v0,v1,AV.strip x0,v3,v4,v5],st) :=
  (exec_reg ..).trans (by kernel_rfl)
theorem a76s1_x : exec call n a76s1 [v0,v1,v2,v3] st =
 m1 (.str []) fun x0 =>
 m1 (.bool false) fun x1 =>
 some (Ex.normal,[v0,v1,AV.strip x0,AV.strip x1],st) :=
  (exec_reg ..).trans (by kernel_rfl)
def a76s3_k0 (call : CallT) (n : Nat) (v0 v1 : AV) (x2 : AV × St) : Option Out :=
 obind (p1 (semExt 0 call [W x2.1] .undef x2.2)) fun x3 =>
 obind (p1 (semExt 1 call [W x2.1] .undef x2.2)) fun x4 =>
 m1 (W x3) fun x5 =>
 m1 (W x4) fun x6 =>
 some (Ex.normal,[v0,v1,AV.strip x5,AV.strip x6],x2.2)
theorem a76s3_x : exec call n a76s3 [v0,v1,v2,v3] st =
 m1 (AV.weak v0) fun x0 =>
 m1 (AV.weak v1) fun x1 =>
 obind (p2 (semCall 79 call [W x0,W x1] .undef st)) (a76s3_k0 call n v0 v1) :=
  (exec_reg ..).trans (by kernel_rfl)
theorem a77s1_x : exec call n a77s1 [v0,v1,v2,v3,v4,v5] st =
 m1 (.int .i64 0) fun x0 =>
 some (Ex.normal,[v0,v1,AV.strip x0,v3,v4,v5],st) :=
  (exec_reg ..).trans (by kernel_rfl)
theorem a77s3_x : exec call n a77s3 [v0,v1,v2,v3,v4,v5] st =
 m1 (AV.weak v0) fun x0 =>
 obind (p1 (semLenL call [W x0] .undef st)) fun x1 =>
 m1 (.int .i64 0) fun x2 =>
 some (Ex.normal,[v0,v1,v2,v3,AV.strip x1,AV.strip x2],st) :=
  (exec_reg ..).trans (by kernel_rfl)
theorem a77s5_x : exec call n a77s5 [v0,v1,v2,v3,v4,v5] st =
 obind (p1 (semBin .lss call [(AV.weak v5),(AV.weak v4)] .undef st)) fun x0 =>
 brE (W x0) call n .skip (.exit 0) [v0,v1,v2,v3,v4,v5] st :=
  (exec_testT ..).trans (by kernel_rfl)
theorem a77s7_x : exec call n a77s7 [v0,v1,v2,v3,v4,v5] st =
 m1 (AV.weak v5) fun x0 =>
 m1 (W x0) fun x1 =>
 some (Ex.normal,[v0,v1,v2,AV.strip x1,v4,v5],st) :=
  (exec_reg ..).trans (by kernel_rfl)
theorem a77s10_x : exec call n a77s10 [v0,v1,v2,v3,v4,v5] st =
 m1 (AV.weak v3) fun x0 =>
 m1 (W x0) fun x1 =>
 some (Ex.normal,[v0,v1,AV.strip x1,v3,v4,v5],st) :=
  (exec_reg ..).trans (by kernel_rfl)
def a77s12_k0 (call : CallT) (n : Nat) (v0 v1 v2 v3 v4 v5 : AV) (x5 : AV × St) : Option Out :=
 brE (W x5.1) call n a77s11 .skip [v0,v1,v2,v3,v4,v5] x5.2
theorem a77s12_x : exec call n a77s12 [v0,v1,v2,v3,v4,v5] st =
 m1 (AV.weak v1) fun x0 =>
 m1 (AV.weak v0) fun x1 =>
 m1 (AV.weak v3) fun x2 =>
 obind (p1 (semIad 5 call [W x1,W x2] .undef st)) fun x3 =>
 obind (p1 (semLdRo true 5 call [W x3] .undef st)) fun x4 =>
 obind (p2 (semCallV call [W x0,W x4] .undef st)) (a77s12_k0 call n v0 v1 v2 v3 v4 v5) :=
  (exec_testT ..).trans (by kernel_rfl)
theorem a77s16_x : exec call n a77s16 [v0,v1,v2,v3,v4,v5] st =
 obind (p1 (semBin .add call [(AV.weak v5),(.int .i64 1)] .undef st)) fun x0 =>
 m1 (W x0) fun x1 =>
 some (Ex.normal,[v0,v1,v2,v3,v4,AV.strip x1],st) :=
  (exec_reg ..).trans (by kernel_rfl)
theorem a77s23_x : exec call n a77s23 [v0,v1,v2,v3,v4,v5] st =
 m1 (.int .i64 (-1)) fun x0 =>
 some (Ex.normal,[v0,v1,AV.strip x0,v3,v4,v5],st) :=
  (exec_reg ..).trans (by kernel_rfl)
theorem a78s1_x : exec call n a78s1 [v0,v1,v2,v3] st =
 obind (semBoxV call [(AV.weak v0)] AV.undef st) fun x0 =>
 m1 (.bool false) fun x1 =>
 some (Ex.normal,[v0,v1,x0.2.1,AV.strip x1],x0.2.2) :=
  (exec_reg ..).trans (by kernel_rfl)
def a78s3_k0 (call : CallT) (n : Nat) (v0 v1 v2 x8 : AV) (x13 : AV × St) : Option Out :=
 obind (gv (W x8) true (p1 (semUn .not call [W x13.1] .undef x13.2))) fun x14 =>
 obind (p1 (semPick call [W x8,W x14,(.bool false)] .undef x13.2)) fun x15 =>
 m1 (W x15) fun x16 =>
 some (Ex.normal,[v0,v1,v2,AV.strip x16],x13.2)
theorem a78s3_x : exec call n a78s3 [v0,v1,v2,v3] st =
 obind (p1 (semFad 2 call [(locOf 2 v2)] .undef st)) fun x0 =>
 obind (p1 (semFad 2 call [W x0] .undef st)) fun x1 =>
 obind (p1 (semLdLc 2 false 1 call [W x1] v2 st)) fun x2 =>
 m1 (W x2) fun x3 =>
 obind (gv (W x3) true (p1 (semFad 5 call [(locOf 2 v2)] .undef st))) fun x4 =>
 obind (gv (W x3) true (p1 (semLdLc 2 false 1 call [W x4] v2 st))) fun x5 =>
 obind (gv (W x3) true (p1 (semUn .not call [W x5] .undef st))) fun x6 =>
 obind (p1 (semPick call [W x3,W x6,(.bool false)] .undef st)) fun x7 =>
 m1 (W x7) fun x8 =>
 obind (gv (W x8) true (p1 (semFad 3 call [(AV.weak v1)] .undef st))) fun x9 =>
 obind (gv (W x8) true (p1 (semLdSt false 1 call [W x9] .undef st))) fun x10 =>
 obind (gv (W x8) true (p1 (semFad 0 call [(locOf 2 v2)] .undef st))) fun x11 =>
 obind (gv (W x8) true (p1 (semLdLc 2 false 1 call [W x11] v2 st))) fun x12 =>
 obind (gv2 (W x8) true st (p2 (semCall 29 call [W x10,W x12] .undef st))) (a78s3_k0 call n v0 v1 v2 x8) :=
  (exec_reg ..).trans (by kernel_rfl)
theorem a79s1_x : exec call n a79s1 [v0,v1,v2,v3] st =
 m1 (.str []) fun x0 =>
 m1 (.bool false) fun x1 =>
 some (Ex.normal,[v0,v1,AV.strip x0,AV.strip x1],st) :=
  (exec_reg ..).trans (by kernel_rfl)
theorem a79s4_x : exec call n a79s4 [v0,v1,v2,v3] st =
 m1 (AV.weak v0) fun x0 =>
 m1 (W x0) fun x1 =>
 m1 (.bool false) fun x2 =>
 some (Ex.normal,[v0,v1,AV.strip x1,AV.strip x2],st) :=
  (exec_reg ..).trans (by kernel_rfl)
def a79s6_k0 (call : CallT) (n : Nat) (v0 v1 v2 v3 : AV) (x2 : AV × St) : Option Out :=
 obind (p1 (semUn .not call [W x2.1] .undef x2.2)) fun x3 =>
 brE (W x3) call n a79s5 .skip [v0,v1,v2,v3] x2.2
theorem a79s6_x : exec call n a79s6 [v0,v1,v2,v3] st =
 m1 (AV.weak v0) fun x0 =>
 m1 (AV.weak v1) fun x1 =>
 obind (p2 (semCall 49 call [W x0,W x1] .undef st)) (a79s6_k0 call n v0 v1 v2 v3) :=
  (exec_testT ..).trans (by kernel_rfl)
theorem a79s8_x : exec call n a79s8 [v0,v1,v2,v3] st =
 m1 (AV.weak v0) fun x0 =>
 m1 (AV.weak v1) fun x1 =>
 obind (p1 (semLenS call [W x1] .undef st)) fun x2 =>
 obind (p1 (semSlS true false call [W x0,W x2] .undef st)) fun x3 =>
 m1 (W x3) fun x4 =>
 m1 (.bool true) fun x5 =>
 some (Ex.normal,[v0,v1,AV.strip x4,AV.strip x5],st) :=
  (exec_reg ..).trans (by kernel_rfl)
theorem K4 : type_of% (AA (AA (AA (AA (AA (AA (@a4.eq_1) (@a4s1_x)) (AA (@a4s4_x) (@a4s5.eq_1))) (AA (AA (@a4s6_x) (@a4s8_x)) (AA (@a4s11_x) (@a4s12.eq_1)))) (AA (AA (AA (@a4s13_x) (@a4s15_x)) (AA (@a4s17_x) (@a4s19_x))) (AA (AA (@a4s21_x) (@a4s23_x)) (AA (@a4s25_x) (AA (@a4s28_x) (@a4s29.eq_1)))))) (AA (AA (AA (AA (@a4s30_x) (@a4s32_x)) (AA (@a4s34_x) (@a4s36_x))) (AA (AA (@a4s38_x) (@a4s41_x)) (AA (@a4s42.eq_1) (AA (@a4s43_x) (@a4s45_x))))) (AA (AA (AA (@a4s47_x) (@a4s50_x)) (AA (@a4s51.eq_1) (@a4s52_x))) (AA (AA (@a4s53.eq_1) (@a4s55_x)) (AA (@a4s56.eq_1) (AA (@a4s57.eq_1) (@a4s58.eq_1))))))) (AA (AA (AA (AA (AA (@a4s59.eq_1) (@a4s60.eq_1)) (AA (@a4s61.eq_1) (@a4s62.eq_1))) (AA (AA (@a4s63.eq_1) (@a4s64.eq_1)) (AA (@a4s66_x) (AA (@a4s67.eq_1) (@a4s68.eq_1))))) (AA (AA (AA (@a4s69.eq_1) (@a4s70.eq_1)) (AA (@a4s71.eq_1) (@a4s73_x))) (AA (AA (@a4s74.eq_1) (@a4s75.eq_1)) (AA (@a4s76.eq_1) (AA (@a4s77.eq_1) (@a4s78.eq_1)))))) (AA (AA (AA (AA (@a4s79.eq_1) (@a4s80.eq_1)) (AA (@a4s81.eq_1) (@a4s82.eq_1))) (AA (AA (@a4s83.eq_1) (@a4s84.eq_1)) (AA (@a4s85.eq_1) (AA (@a4s86.eq_1) (@a4c.eq_1))))) (AA (AA (AA (@a4s6_k0.eq_1) (@a4s8_k0.eq_1)) (AA (@a4s23_k0.eq_1) (@a4s25_k0.eq_1))) (AA (AA (@a4s36_k0.eq_1) (@a4s38_k0.eq_1)) (AA (@a4s43_k0.eq_1) (AA (@a4s43_k1.eq_1) (@a4s52_k0.eq_1)))))))) := AA (AA (AA (AA (AA (AA (@a4.eq_1) (@a4s1_x)) (AA (@a4s4_x) (@a4s5.eq_1))) (AA (AA (@a4s6_x) (@a4s8_x)) (AA (@a4s11_x) (@a4s12.eq_1)))) (AA (AA (AA (@a4s13_x) (@a4s15_x)) (AA (@a4s17_x) (@a4s19_x))) (AA (AA (@a4s21_x) (@a4s23_x)) (AA (@a4s25_x) (AA (@a4s28_x) (@a4s29.eq_1)))))) (AA (AA (AA (AA (@a4s30_x) (@a4s32_x)) (AA (@a4s34_x) (@a4s36_x))) (AA (AA (@a4s38_x) (@a4s41_x)) (AA (@a4s42.eq_1) (AA (@a4s43_x) (@a4s45_x))))) (AA (AA (AA (@a4s47_x) (@a4s50_x)) (AA (@a4s51.eq_1) (@a4s52_x))) (AA (AA (@a4s53.eq_1) (@a4s55_x)) (AA (@a4s56.eq_1) (AA (@a4s57.eq_1) (@a4s58.eq_1))))))) (AA (AA (AA (AA (AA (@a4s59.eq_1) (@a4s60.eq_1)) (AA (@a4s61.eq_1) (@a4s62.eq_1))) (AA (AA (@a4s63.eq_1) (@a4s64.eq_1)) (AA (@a4s66_x) (AA (@a4s67.eq_1) (@a4s68.eq_1))))) (AA (AA (AA (@a4s69.eq_1) (@a4s70.eq_1)) (AA (@a4s71.eq_1) (@a4s73_x))) (AA (AA (@a4s74.eq_1) (@a4s75.eq_1)) (AA (@a4s76.eq_1) (AA (@a4s77.eq_1) (@a4s78.eq_1)))))) (AA (AA (AA (AA (@a4s79.eq_1) (@a4s80.eq_1)) (AA (@a4s81.eq_1) (@a4s82.eq_1))) (AA (AA (@a4s83.eq_1) (@a4s84.eq_1)) (AA (@a4s85.eq_1) (AA (@a4s86.eq_1) (@a4c.eq_1))))) (AA (AA (AA (@a4s6_k0.eq_1) (@a4s8_k0.eq_1)) (AA (@a4s23_k0.eq_1) (@a4s25_k0.eq_1))) (AA (AA (@a4s36_k0.eq_1) (@a4s38_k0.eq_1)) (AA (@a4s43_k0.eq_1) (AA (@a4s43_k1.eq_1) (@a4s52_k0.eq_1)))))))
theorem K9 : type_of% (AA (AA (AA (AA (AA (@a9.eq_1) (@a9s1_x)) (AA (@a9s3_x) (@a9s6_x))) (AA (AA (@a9s7.eq_1) (@a9s8_x)) (AA (@a9s10_x) (AA (@a9s12_x) (@a9s14_x))))) (AA (AA (AA (@a9s16_x) (@a9s18_x)) (AA (@a9s20_x) (@a9s21.eq_1))) (AA (AA (@a9s22.eq_1) (@a9s24_x)) (AA (@a9s25.eq_1) (AA (@a9s26.eq_1) (@a9s27.eq_1)))))) (AA (AA (AA (AA (@a9s28.eq_1) (@a9s29.eq_1)) (AA (@a9s32_x) (@a9s33.eq_1))) (AA (AA (@a9s34_x) (@a9s36_x)) (AA (@a9s37.eq_1) (AA (@a9s38.eq_1) (@a9s39.eq_1))))) (AA (AA (AA (@a9s40.eq_1) (@a9s41.eq_1)) (AA (@a9s42.eq_1) (@a9s43.eq_1))) (AA (AA (@a9s44.eq_1) (@a9c.eq_1)) (AA (@a9s3_k0.eq_1) (AA (@a9s16_k0.eq_1) (@a9s18_k0.eq_1))))))) := AA (AA (AA (AA (AA (@a9.eq_1) (@a9s1_x)) (AA (@a9s3_x) (@a9s6_x))) (AA (AA (@a9s7.eq_1) (@a9s8_x)) (AA (@a9s10_x) (AA (@a9s12_x) (@a9s14_x))))) (AA (AA (AA (@a9s16_x) (@a9s18_x)) (AA (@a9s20_x) (@a9s21.eq_1))) (AA (AA (@a9s22.eq_1) (@a9s24_x)) (AA (@a9s25.eq_1) (AA (@a9s26.eq_1) (@a9s27.eq_1)))))) (AA (AA (AA (AA (@a9s28.eq_1) (@a9s29.eq_1)) (AA (@a9s32_x) (@a9s33.eq_1))) (AA (AA (@a9s34_x) (@a9s36_x)) (AA (@a9s37.eq_1) (AA (@a9s38.eq_1) (@a9s39.eq_1))))) (AA (AA (AA (@a9s40.eq_1) (@a9s41.eq_1)) (AA (@a9s42.eq_1) (@a9s43.eq_1))) (AA (AA (@a9s44.eq_1) (@a9c.eq_1)) (AA (@a9s3_k0.eq_1) (AA (@a9s16_k0.eq_1) (@a9s18_k0.eq_1))))))
theorem K10 : type_of% (AA (AA (AA (AA (AA (AA (@a10.eq_1) (@a10s1_x)) (AA (@a10s3_x) (@a10s5_x))) (AA (AA (@a10s7_x) (@a10s9_x)) (AA (@a10s11_x) (AA (@a10s14_x) (@a10s15.eq_1))))) (AA (AA (AA (@a10s16_x) (@a10s17.eq_1)) (AA (@a10s20_x) (AA (@a10s21.eq_1) (@a10s22_x)))) (AA (AA (@a10s24_x) (@a10s25.eq_1)) (AA (@a10s26.eq_1) (AA (@a10s27.eq_1) (@a10s28.eq_1)))))) (AA (AA (AA (AA (@a10s30_x) (@a10s31.eq_1)) (AA (@a10s32.eq_1) (@a10s33.eq_1))) (AA (AA (@a10s34.eq_1) (@a10s35.eq_1)) (AA (@a10s37_x) (AA (@a10s39_x) (@a10s41_x))))) (AA (AA (AA (@a10s43_x) (@a10s46_x)) (AA (@a10s47.eq_1) (AA (@a10s48_x) (@a10s49.eq_1)))) (AA (AA (@a10s50.eq_1) (@a10s51.eq_1)) (AA (@a10s53_x) (AA (@a10s54.eq_1) (@a10s55.eq_1))))))) (AA (AA (AA (AA (AA (@a10s56.eq_1) (@a10s57.eq_1)) (AA (@a10s58.eq_1) (@a10s60_x))) (AA (AA (@a10s63_x) (@a10s64.eq_1)) (AA (@a10s65_x) (AA (@a10s66.eq_1) (@a10s68_x))))) (AA (AA (AA (@a10s70_x) (@a10s72_x)) (AA (@a10s74_x) (AA (@a10s77_x) (@a10s78.eq_1)))) (AA (AA (@a10s79_x) (@a10s80.eq_1)) (AA (@a10s81.eq_1) (AA (@a10s82.eq_1) (@a10s84_x)))))) (AA (AA (AA (AA (@a10s85.eq_1) (@a10s86.eq_1)) (AA (@a10s87.eq_1) (AA (@a10s88.eq_1) (@a10s89.eq_1)))) (AA (AA (@a10s91_x) (@a10s92.eq_1)) (AA (@a10s93.eq_1) (AA (@a10s94.eq_1) (@a10s95.eq_1))))) (AA (AA (AA (@a10s96.eq_1) (@a10s97.eq_1)) (AA (@a10s98.eq_1) (AA (@a10c.eq_1) (@a10s3_k0.eq_1)))) (AA (AA (@a10s16_k0.eq_1) (@a10s22_k0.eq_1)) (AA (@a10s43_k0.eq_1) (AA (@a10s60_k0.eq_1) (@a10s74_k0.eq_1)))))))) := AA (AA (AA (AA (AA (AA (@a10.eq_1) (@a10s1_x)) (AA (@a10s3_x) (@a10s5_x))) (AA (AA (@a10s7_x) (@a10s9_x)) (AA (@a10s11_x) (AA (@a10s14_x) (@a10s15.eq_1))))) (AA (AA (AA (@a10s16_x) (@a10s17.eq_1)) (AA (@a10s20_x) (AA (@a10s21.eq_1) (@a10s22_x)))) (AA (AA (@a10s24_x) (@a10s25.eq_1)) (AA (@a10s26.eq_1) (AA (@a10s27.eq_1) (@a10s28.eq_1)))))) (AA (AA (AA (AA (@a10s30_x) (@a10s31.eq_1)) (AA (@a10s32.eq_1) (@a10s33.eq_1))) (AA (AA (@a10s34.eq_1) (@a10s35.eq_1)) (AA (@a10s37_x) (AA (@a10s39_x) (@a10s41_x))))) (AA (AA (AA (@a10s43_x) (@a10s46_x)) (AA (@a10s47.eq_1) (AA (@a10s48_x) (@a10s49.eq_1)))) (AA (AA (@a10s50.eq_1) (@a10s51.eq_1)) (AA (@a10s53_x) (AA (@a10s54.eq_1) (@a10s55.eq_1))))))) (AA (AA (AA (AA (AA (@a10s56.eq_1) (@a10s57.eq_1)) (AA (@a10s58.eq_1) (@a10s60_x))) (AA (AA (@a10s63_x) (@a10s64.eq_1)) (AA (@a10s65_x) (AA (@a10s66.eq_1) (@a10s68_x))))) (AA (AA (AA (@a10s70_x) (@a10s72_x)) (AA (@a10s74_x) (AA (@a10s77_x) (@a10s78.eq_1)))) (AA (AA (@a10s79_x) (@a10s80.eq_1)) (AA (@a10s81.eq_1) (AA (@a10s82.eq_1) (@a10s84_x)))))) (AA (AA (AA (AA (@a10s85.eq_1) (@a10s86.eq_1)) (AA (@a10s87.eq_1) (AA (@a10s88.eq_1) (@a10s89.eq_1)))) (AA (AA (@a10s91_x) (@a10s92.eq_1)) (AA (@a10s93.eq_1) (AA (@a10s94.eq_1) (@a10s95.eq_1))))) (AA (AA (AA (@a10s96.eq_1) (@a10s97.eq_1)) (AA (@a10s98.eq_1) (AA (@a10c.eq_1) (@a10s3_k0.eq_1)))) (AA (AA (@a10s16_k0.eq_1) (@a10s22_k0.eq_1)) (AA (@a10s43_k0.eq_1) (AA (@a10s60_k0.eq_1) (@a10s74_k0.eq_1)))))))
theorem K11 : type_of% (AA (AA (AA (AA (AA (@a11.eq_1) (@a11s1_x)) (AA (@a11s3_x) (AA (@a11s6_x) (@a11s7.eq_1)))) (AA (AA (@a11s10_x) (@a11s11.eq_1)) (AA (@a11s14_x) (AA (@a11s15.eq_1) (@a11s18_x))))) (AA (AA (AA (@a11s19.eq_1) (@a11s20_x)) (AA (@a11s21_x) (AA (@a11s22_x) (@a11s23_x)))) (AA (AA (@a11s24.eq_1) (@a11s26_x)) (AA (@a11s28_x) (AA (@a11s30_x) (@a11s32_x)))))) (AA (AA (AA (AA (@a11s35_x) (@a11s36_x)) (AA (@a11s37.eq_1) (AA (@a11s38.eq_1) (@a11s40_x)))) (AA (AA (@a11s41.eq_1) (@a11s42.eq_1)) (AA (@a11s43.eq_1) (AA (@a11s44.eq_1) (@a11s45.eq_1))))) (AA (AA (AA (@a11s47_x) (@a11s48.eq_1)) (AA (@a11s49.eq_1) (AA (@a11s50.eq_1) (@a11s51.eq_1)))) (AA (AA (@a11s52.eq_1) (AA (@a11s53.eq_1) (@a11c.eq_1))) (AA (@a11s3_k0.eq_1) (AA (@a11s14_k0.eq_1) (@a11s36_k0.eq_1))))))) := AA (AA (AA (AA (AA (@a11.eq_1) (@a11s1_x)) (AA (@a11s3_x) (AA (@a11s6_x) (@a11s7.eq_1)))) (AA (AA (@a11s10_x) (@a11s11.eq_1)) (AA (@a11s14_x) (AA (@a11s15.eq_1) (@a11s18_x))))) (AA (AA (AA (@a11s19.eq_1) (@a11s20_x)) (AA (@a11s21_x) (AA (@a11s22_x) (@a11s23_x)))) (AA (AA (@a11s24.eq_1) (@a11s26_x)) (AA (@a11s28_x) (AA (@a11s30_x) (@a11s32_x)))))) (AA (AA (AA (AA (@a11s35_x) (@a11s36_x)) (AA (@a11s37.eq_1) (AA (@a11s38.eq_1) (@a11s40_x)))) (AA (AA (@a11s41.eq_1) (@a11s42.eq_1)) (AA (@a11s43.eq_1) (AA (@a11s44.eq_1) (@a11s45.eq_1))))) (AA (AA (AA (@a11s47_x) (@a11s48.eq_1)) (AA (@a11s49.eq_1) (AA (@a11s50.eq_1) (@a11s51.eq_1)))) (AA (AA (@a11s52.eq_1) (AA (@a11s53.eq_1) (@a11c.eq_1))) (AA (@a11s3_k0.eq_1) (AA (@a11s14_k0.eq_1) (@a11s36_k0.eq_1))))))
theorem K12 : type_of% (AA (AA (AA (@a12.eq_1) (@a12s1_x)) (AA (@a12s3_x) (AA (@a12s4.eq_1) (@a12s5.eq_1)))) (AA (AA (@a12c.eq_1) (@a12s3_k0.eq_1)) (AA (@a12s3_k1.eq_1) (AA (@a12s3_k2.eq_1) (@a12s3_k3.eq_1))))) := AA (AA (AA (@a12.eq_1) (@a12s1_x)) (AA (@a12s3_x) (AA (@a12s4.eq_1) (@a12s5.eq_1)))) (AA (AA (@a12c.eq_1) (@a12s3_k0.eq_1)) (AA (@a12s3_k1.eq_1) (AA (@a12s3_k2.eq_1) (@a12s3_k3.eq_1))))
theorem K13 : type_of% (AA (AA (AA (AA (@a13.eq_1) (@a13s1_x)) (AA (@a13s3_x) (@a13s5_x))) (AA (AA (@a13s8_x) (@a13s9.eq_1)) (AA (@a13s10_x) (AA (@a13s11.eq_1) (@a13s13_x))))) (AA (AA (AA (@a13s14.eq_1) (@a13s15.eq_1)) (AA (@a13s16.eq_1) (AA (@a13s17.eq_1) (@a13s18.eq_1)))) (AA (AA (@a13s20_x) (@a13s21.eq_1)) (AA (@a13s22.eq_1) (AA (@a13s23.eq_1) (@a13c.eq_1)))))) := AA (AA (AA (AA (@a13.eq_1) (@a13s1_x)) (AA (@a13s3_x) (@a13s5_x))) (AA (AA (@a13s8_x) (@a13s9.eq_1)) (AA (@a13s10_x) (AA (@a13s11.eq_1) (@a13s13_x))))) (AA (AA (AA (@a13s14.eq_1) (@a13s15.eq_1)) (AA (@a13s16.eq_1) (AA (@a13s17.eq_1) (@a13s18.eq_1)))) (AA (AA (@a13s20_x) (@a13s21.eq_1)) (AA (@a13s22.eq_1) (AA (@a13s23.eq_1) (@a13c.eq_1)))))
theorem K15 : type_of% (AA (AA (AA (AA (@a15.eq_1) (@a15s1_x)) (AA (@a15s4_x) (@a15s5.eq_1))) (AA (AA (@a15s6_x) (@a15s8_x)) (AA (@a15s11_x) (@a15s12.eq_1)))) (AA (AA (AA (@a15s13_x) (@a15s15_x)) (AA (@a15s16.eq_1) (@a15s17.eq_1))) (AA (AA (@a15s18.eq_1) (@a15s19.eq_1)) (AA (@a15s20.eq_1) (@a15c.eq_1))))) := AA (AA (AA (AA (@a15.eq_1) (@a15s1_x)) (AA (@a15s4_x) (@a15s5.eq_1))) (AA (AA (@a15s6_x) (@a15s8_x)) (AA (@a15s11_x) (@a15s12.eq_1)))) (AA (AA (AA (@a15s13_x) (@a15s15_x)) (AA (@a15s16.eq_1) (@a15s17.eq_1))) (AA (AA (@a15s18.eq_1) (@a15s19.eq_1)) (AA (@a15s20.eq_1) (@a15c.eq_1))))
theorem K18 : type_of% (AA (AA (@a18.eq_1) (AA (@a18s1_x) (@a18s3_x))) (AA (AA (@a18s4.eq_1) (@a18s5.eq_1)) (AA (@a18c.eq_1) (@a18s3_k0.eq_1)))) := AA (AA (@a18.eq_1) (AA (@a18s1_x) (@a18s3_x))) (AA (AA (@a18s4.eq_1) (@a18s5.eq_1)) (AA (@a18c.eq_1) (@a18s3_k0.eq_1)))
theorem K21 : type_of% (AA (AA (@a21.eq_1) (AA (@a21s1_x) (@a21s3_x))) (AA (AA (@a21s4.eq_1) (@a21s5.eq_1)) (AA (@a21c.eq_1) (@a21s3_k0.eq_1)))) := AA (AA (@a21.eq_1) (AA (@a21s1_x) (@a21s3_x))) (AA (AA (@a21s4.eq_1) (@a21s5.eq_1)) (AA (@a21c.eq_1) (@a21s3_k0.eq_1)))
theorem K22 : type_of% (AA (AA (@a22.eq_1) (AA (@a22s1_x) (@a22s3_x))) (AA (AA (@a22s4.eq_1) (@a22s5.eq_1)) (AA (@a22c.eq_1) (@a22s3_k0.eq_1)))) := AA (AA (@a22.eq_1) (AA (@a22s1_x) (@a22s3_x))) (AA (AA (@a22s4.eq_1) (@a22s5.eq_1)) (AA (@a22c.eq_1) (@a22s3_k0.eq_1)))
theorem K23 : type_of% (AA (AA (@a23.eq_1) (AA (@a23s1_x) (@a23s3_x))) (AA (AA (@a23s4.eq_1) (@a23s5.eq_1)) (AA (@a23c.eq_1) (@a23s3_k0.eq_1)))) := AA (AA (@a23.eq_1) (AA (@a23s1_x) (@a23s3_x))) (AA (AA (@a23s4.eq_1) (@a23s5.eq_1)) (AA (@a23c.eq_1) (@a23s3_k0.eq_1)))
theorem K25 : type_of% (AA (AA (AA (AA (AA (@a25.eq_1) (@a25s1_x)) (AA (@a25s4_x) (AA (@a25s5.eq_1) (@a25s6_x)))) (AA (AA (@a25s8_x) (AA (@a25s10_x) (@a25s12_x))) (AA (@a25s14_x) (AA (@a25s17_x) (@a25s18.eq_1))))) (AA (AA (AA (@a25s21_x) (AA (@a25s23_x) (@a25s24.eq_1))) (AA (@a25s25.eq_1) (AA (@a25s26.eq_1) (@a25s27.eq_1)))) (AA (AA (@a25s28.eq_1) (AA (@a25s29_x) (@a25s30_x))) (AA (@a25s31.eq_1) (AA (@a25s33_x) (@a25s36_x)))))) (AA (AA (AA (AA (@a25s37.eq_1) (AA (@a25s38_x) (@a25s40_x))) (AA (@a25s42_x) (AA (@a25s44_x) (@a25s45.eq_1)))) (AA (AA (@a25s46.eq_1) (AA (@a25s47.eq_1) (@a25s48.eq_1))) (AA (@a25s49.eq_1) (AA (@a25s50.eq_1) (@a25s51.eq_1))))) (AA (AA (AA (@a25s52.eq_1) (AA (@a25s53.eq_1) (@a25s54.eq_1))) (AA (@a25s56_x) (AA (@a25s57.eq_1) (@a25s58.eq_1)))) (AA (AA (@a25s59.eq_1) (AA (@a25s60.eq_1) (@a25s61.eq_1))) (AA (@a25s62.eq_1) (AA (@a25c.eq_1) (@a25s33_k0.eq_1))))))) := AA (AA (AA (AA (AA (@a25.eq_1) (@a25s1_x)) (AA (@a25s4_x) (AA (@a25s5.eq_1) (@a25s6_x)))) (AA (AA (@a25s8_x) (AA (@a25s10_x) (@a25s12_x))) (AA (@a25s14_x) (AA (@a25s17_x) (@a25s18.eq_1))))) (AA (AA (AA (@a25s21_x) (AA (@a25s23_x) (@a25s24.eq_1))) (AA (@a25s25.eq_1) (AA (@a25s26.eq_1) (@a25s27.eq_1)))) (AA (AA (@a25s28.eq_1) (AA (@a25s29_x) (@a25s30_x))) (AA (@a25s31.eq_1) (AA (@a25s33_x) (@a25s36_x)))))) (AA (AA (AA (AA (@a25s37.eq_1) (AA (@a25s38_x) (@a25s40_x))) (AA (@a25s42_x) (AA (@a25s44_x) (@a25s45.eq_1)))) (AA (AA (@a25s46.eq_1) (AA (@a25s47.eq_1) (@a25s48.eq_1))) (AA (@a25s49.eq_1) (AA (@a25s50.eq_1) (@a25s51.eq_1))))) (AA (AA (AA (@a25s52.eq_1) (AA (@a25s53.eq_1) (@a25s54.eq_1))) (AA (@a25s56_x) (AA (@a25s57.eq_1) (@a25s58.eq_1)))) (AA (AA (@a25s59.eq_1) (AA (@a25s60.eq_1) (@a25s61.eq_1))) (AA (@a25s62.eq_1) (AA (@a25c.eq_1) (@a25s33_k0.eq_1))))))
theorem K26 : type_of% (AA (AA (@a26.eq_1) (AA (@a26s1_x) (@a26s3_x))) (AA (@a26s4.eq_1) (AA (@a26s5.eq_1) (@a26c.eq_1)))) := AA (AA (@a26.eq_1) (AA (@a26s1_x) (@a26s3_x))) (AA (@a26s4.eq_1) (AA (@a26s5.eq_1) (@a26c.eq_1)))
theorem K27 : type_of% (AA (AA (AA (AA (AA (AA (@a27.eq_1) (AA (@a27s1_x) (@a27s3_x))) (AA (@a27s6_x) (AA (@a27s9_x) (@a27s12_x)))) (AA (AA (@a27s15_x) (AA (@a27s18_x) (@a27s20_x))) (AA (AA (@a27s22_x) (@a27s23.eq_1)) (AA (@a27s24.eq_1) (@a27s25_x))))) (AA (AA (AA (@a27s26_x) (AA (@a27s27_x) (@a27s28_x))) (AA (@a27s29_x) (AA (@a27s30.eq_1) (@a27s32_x)))) (AA (AA (@a27s34_x) (AA (@a27s36_x) (@a27s39_x))) (AA (AA (@a27s41_x) (@a27s42.eq_1)) (AA (@a27s45_x) (@a27s47_x)))))) (AA (AA (AA (AA (@a27s49_x) (AA (@a27s52_x) (@a27s53_x))) (AA (@a27s55_x) (AA (@a27s56.eq_1) (@a27s57.eq_1)))) (AA (AA (@a27s59_x) (AA (@a27s60.eq_1) (@a27s61.eq_1))) (AA (AA (@a27s62.eq_1) (@a27s63.eq_1)) (AA (@a27s64.eq_1) (@a27s65.eq_1))))) (AA (AA (AA (@a27s68_x) (AA (@a27s70_x) (@a27s71.eq_1))) (AA (AA (@a27s74_x) (@a27s75_x)) (AA (@a27s77_x) (@a27s79_x)))) (AA (AA (@a27s81_x) (AA (@a27s83_x) (@a27s86_x))) (AA (AA (@a27s87_x) (@a27s89_x)) (AA (@a27s91_x) (@a27s93_x))))))) (AA (AA (AA (AA (AA (@a27s94.eq_1) (AA (@a27s95.eq_1) (@a27s96.eq_1))) (AA (@a27s97.eq_1) (AA (@a27s98.eq_1) (@a27s100_x)))) (AA (AA (@a27s101.eq_1) (AA (@a27s102.eq_1) (@a27s103.eq_1))) (AA (AA (@a27s104.eq_1) (@a27s105.eq_1)) (AA (@a27s106.eq_1) (@a27s107.eq_1))))) (AA (AA (AA (@a27s108_x) (AA (@a27s109_x) (@a27s110_x))) (AA (AA (@a27s111.eq_1) (@a27s112.eq_1)) (AA (@a27s114_x) (@a27s115.eq_1)))) (AA (AA (@a27s116.eq_1) (AA (@a27s117.eq_1) (@a27s118.eq_1))) (AA (AA (@a27s119.eq_1) (@a27s120.eq_1)) (AA (@a27s121.eq_1) (@a27c.eq_1)))))) (AA (AA (AA (AA (@a27s20_k0.eq_1) (AA (@a27s25_k0.eq_1) (@a27s26_k0.eq_1))) (AA (@a27s27_k0.eq_1) (AA (@a27s28_k0.eq_1) (@a27s29_k0.eq_1)))) (AA (AA (@a27s34_k0.eq_1) (AA (@a27s39_k0.eq_1) (@a27s41_k0.eq_1))) (AA (AA (@a27s45_k0.eq_1) (@a27s49_k0.eq_1)) (AA (@a27s52_k0.eq_1) (@a27s53_k0.eq_1))))) (AA (AA (AA (@a27s53_k1.eq_1) (AA (@a27s53_k2.eq_1) (@a27s55_k0.eq_1))) (AA (AA (@a27s68_k0.eq_1) (@a27s70_k0.eq_1)) (AA (@a27s74_k0.eq_1) (@a27s75_k0.eq_1)))) (AA (AA (@a27s77_k0.eq_1) (AA (@a27s81_k0.eq_1) (@a27s83_k0.eq_1))) (AA (AA (@a27s86_k0.eq_1) (@a27s87_k0.eq_1)) (AA (@a27s89_k0.eq_1) (@a27s91_k0.eq_1)))))))) := AA (AA (AA (AA (AA (AA (@a27.eq_1) (AA (@a27s1_x) (@a27s3_x))) (AA (@a27s6_x) (AA (@a27s9_x) (@a27s12_x)))) (AA (AA (@a27s15_x) (AA (@a27s18_x) (@a27s20_x))) (AA (AA (@a27s22_x) (@a27s23.eq_1)) (AA (@a27s24.eq_1) (@a27s25_x))))) (AA (AA (AA (@a27s26_x) (AA (@a27s27_x) (@a27s28_x))) (AA (@a27s29_x) (AA (@a27s30.eq_1) (@a27s32_x)))) (AA (AA (@a27s34_x) (AA (@a27s36_x) (@a27s39_x))) (AA (AA (@a27s41_x) (@a27s42.eq_1)) (AA (@a27s45_x) (@a27s47_x)))))) (AA (AA (AA (AA (@a27s49_x) (AA (@a27s52_x) (@a27s53_x))) (AA (@a27s55_x) (AA (@a27s56.eq_1) (@a27s57.eq_1)))) (AA (AA (@a27s59_x) (AA (@a27s60.eq_1) (@a27s61.eq_1))) (AA (AA (@a27s62.eq_1) (@a27s63.eq_1)) (AA (@a27s64.eq_1) (@a27s65.eq_1))))) (AA (AA (AA (@a27s68_x) (AA (@a27s70_x) (@a27s71.eq_1))) (AA (AA (@a27s74_x) (@a27s75_x)) (AA (@a27s77_x) (@a27s79_x)))) (AA (AA (@a27s81_x) (AA (@a27s83_x) (@a27s86_x))) (AA (AA (@a27s87_x) (@a27s89_x)) (AA (@a27s91_x) (@a27s93_x))))))) (AA (AA (AA (AA (AA (@a27s94.eq_1) (AA (@a27s95.eq_1) (@a27s96.eq_1))) (AA (@a27s97.eq_1) (AA (@a27s98.eq_1) (@a27s100_x)))) (AA (AA (@a27s101.eq_1) (AA (@a27s102.eq_1) (@a27s103.eq_1))) (AA (AA (@a27s104.eq_1) (@a27s105.eq_1)) (AA (@a27s106.eq_1) (@a27s107.eq_1))))) (AA (AA (AA (@a27s108_x) (AA (@a27s109_x) (@a27s110_x))) (AA (AA (@a27s111.eq_1) (@a27s112.eq_1)) (AA (@a27s114_x) (@a27s115.eq_1)))) (AA (AA (@a27s116.eq_1) (AA (@a27s117.eq_1) (@a27s118.eq_1))) (AA (AA (@a27s119.eq_1) (@a27s120.eq_1)) (AA (@a27s121.eq_1) (@a27c.eq_1)))))) (AA (AA (AA (AA (@a27s20_k0.eq_1) (AA (@a27s25_k0.eq_1) (@a27s26_k0.eq_1))) (AA (@a27s27_k0.eq_1) (AA (@a27s28_k0.eq_1) (@a27s29_k0.eq_1)))) (AA (AA (@a27s34_k0.eq_1) (AA (@a27s39_k0.eq_1) (@a27s41_k0.eq_1))) (AA (AA (@a27s45_k0.eq_1) (@a27s49_k0.eq_1)) (AA (@a27s52_k0.eq_1) (@a27s53_k0.eq_1))))) (AA (AA (AA (@a27s53_k1.eq_1) (AA (@a27s53_k2.eq_1) (@a27s55_k0.eq_1))) (AA (AA (@a27s68_k0.eq_1) (@a27s70_k0.eq_1)) (AA (@a27s74_k0.eq_1) (@a27s75_k0.eq_1)))) (AA (AA (@a27s77_k0.eq_1) (AA (@a27s81_k0.eq_1) (@a27s83_k0.eq_1))) (AA (AA (@a27s86_k0.eq_1) (@a27s87_k0.eq_1)) (AA (@a27s89_k0.eq_1) (@a27s91_k0.eq_1)))))))
theorem K29 : type_of% (AA (AA (@a29.eq_1) (AA (@a29s1_x) (@a29s3_x))) (AA (AA (@a29s4.eq_1) (@a29s5.eq_1)) (AA (@a29c.eq_1) (@a29s3_k0.eq_1)))) := AA (AA (@a29.eq_1) (AA (@a29s1_x) (@a29s3_x))) (AA (AA (@a29s4.eq_1) (@a29s5.eq_1)) (AA (@a29c.eq_1) (@a29s3_k0.eq_1)))
theorem K30 : type_of% (AA (AA (@a30.eq_1) (AA (@a30s1_x) (@a30s3_x))) (AA (AA (@a30s4.eq_1) (@a30s5.eq_1)) (AA (@a30c.eq_1) (@a30s3_k0.eq_1)))) := AA (AA (@a30.eq_1) (AA (@a30s1_x) (@a30s3_x))) (AA (AA (@a30s4.eq_1) (@a30s5.eq_1)) (AA (@a30c.eq_1) (@a30s3_k0.eq_1)))
theorem K31 : type_of% (AA (AA (AA (AA (AA (AA (@a31.eq_1) (@a31s1_x)) (AA (@a31s3_x) (@a31s6_x))) (AA (AA (@a31s7.eq_1) (@a31s8_x)) (AA (@a31s9.eq_1) (AA (@a31s11_x) (@a31s14_x))))) (AA (AA (AA (@a31s15.eq_1) (@a31s16_x)) (AA (@a31s17.eq_1) (AA (@a31s19_x) (@a31s22_x)))) (AA (AA (@a31s23.eq_1) (@a31s24_x)) (AA (@a31s25.eq_1) (AA (@a31s27_x) (@a31s29_x)))))) (AA (AA (AA (AA (@a31s31_x) (@a31s33_x)) (AA (@a31s36_x) (@a31s37.eq_1))) (AA (AA (@a31s38_x) (@a31s39.eq_1)) (AA (@a31s40.eq_1) (AA (@a31s41.eq_1) (@a31s43_x))))) (AA (AA (AA (@a31s44.eq_1) (@a31s45.eq_1)) (AA (@a31s46.eq_1) (AA (@a31s47.eq_1) (@a31s48.eq_1)))) (AA (AA (@a31s50_x) (@a31s52_x)) (AA (@a31s54_x) (AA (@a31s56_x) (@a31s58_x))))))) (AA (AA (AA (AA (AA (@a31s62_x) (@a31s63.eq_1)) (AA (@a31s66_x) (@a31s67.eq_1))) (AA (AA (@a31s70_x) (@a31s71.eq_1)) (AA (@a31s72_x) (AA (@a31s73_x) (@a31s74_x))))) (AA (AA (AA (@a31s75_x) (@a31s76.eq_1)) (AA (@a31s77.eq_1) (AA (@a31s78.eq_1) (@a31s79.eq_1)))) (AA (AA (@a31s81_x) (@a31s82.eq_1)) (AA (@a31s83.eq_1) (AA (@a31s84.eq_1) (@a31s85.eq_1)))))) (AA (AA (AA (AA (@a31s86.eq_1) (@a31s88_x)) (AA (@a31s89.eq_1) (AA (@a31s90.eq_1) (@a31s91.eq_1)))) (AA (AA (@a31s92.eq_1) (@a31s93.eq_1)) (AA (@a31s94.eq_1) (AA (@a31s95.eq_1) (@a31s96.eq_1))))) (AA (AA (AA (@a31c.eq_1) (@a31s3_k0.eq_1)) (AA (@a31s3_k1.eq_1) (AA (@a31s11_k0.eq_1) (@a31s11_k1.eq_1)))) (AA (AA (@a31s19_k0.eq_1) (@a31s33_k0.eq_1)) (AA (@a31s58_k0.eq_1) (AA (@a31s72_k0.eq_1) (@a31s73_k0.eq_1)))))))) := AA (AA (AA (AA (AA (AA (@a31.eq_1) (@a31s1_x)) (AA (@a31s3_x) (@a31s6_x))) (AA (AA (@a31s7.eq_1) (@a31s8_x)) (AA (@a31s9.eq_1) (AA (@a31s11_x) (@a31s14_x))))) (AA (AA (AA (@a31s15.eq_1) (@a31s16_x)) (AA (@a31s17.eq_1) (AA (@a31s19_x) (@a31s22_x)))) (AA (AA (@a31s23.eq_1) (@a31s24_x)) (AA (@a31s25.eq_1) (AA (@a31s27_x) (@a31s29_x)))))) (AA (AA (AA (AA (@a31s31_x) (@a31s33_x)) (AA (@a31s36_x) (@a31s37.eq_1))) (AA (AA (@a31s38_x) (@a31s39.eq_1)) (AA (@a31s40.eq_1) (AA (@a31s41.eq_1) (@a31s43_x))))) (AA (AA (AA (@a31s44.eq_1) (@a31s45.eq_1)) (AA (@a31s46.eq_1) (AA (@a31s47.eq_1) (@a31s48.eq_1)))) (AA (AA (@a31s50_x) (@a31s52_x)) (AA (@a31s54_x) (AA (@a31s56_x) (@a31s58_x))))))) (AA (AA (AA (AA (AA (@a31s62_x) (@a31s63.eq_1)) (AA (@a31s66_x) (@a31s67.eq_1))) (AA (AA (@a31s70_x) (@a31s71.eq_1)) (AA (@a31s72_x) (AA (@a31s73_x) (@a31s74_x))))) (AA (AA (AA (@a31s75_x) (@a31s76.eq_1)) (AA (@a31s77.eq_1) (AA (@a31s78.eq_1) (@a31s79.eq_1)))) (AA (AA (@a31s81_x) (@a31s82.eq_1)) (AA (@a31s83.eq_1) (AA (@a31s84.eq_1) (@a31s85.eq_1)))))) (AA (AA (AA (AA (@a31s86.eq_1) (@a31s88_x)) (AA (@a31s89.eq_1) (AA (@a31s90.eq_1) (@a31s91.eq_1)))) (AA (AA (@a31s92.eq_1) (@a31s93.eq_1)) (AA (@a31s94.eq_1) (AA (@a31s95.eq_1) (@a31s96.eq_1))))) (AA (AA (AA (@a31c.eq_1) (@a31s3_k0.eq_1)) (AA (@a31s3_k1.eq_1) (AA (@a31s11_k0.eq_1) (@a31s11_k1.eq_1)))) (AA (AA (@a31s19_k0.eq_1) (@a31s33_k0.eq_1)) (AA (@a31s58_k0.eq_1) (AA (@a31s72_k0.eq_1) (@a31s73_k0.eq_1)))))))
theorem K32 : type_of% (AA (AA (AA (AA (AA (@a32.eq_1) (@a32s1_x)) (AA (@a32s4_x) (@a32s5.eq_1))) (AA (AA (@a32s6_x) (@a32s8_x)) (AA (@a32s10_x) (AA (@a32s12_x) (@a32s14_x))))) (AA (AA (AA (@a32s16_x) (@a32s19_x)) (AA (@a32s22_x) (AA (@a32s23_x) (@a32s24_x)))) (AA (AA (@a32s25.eq_1) (@a32s26.eq_1)) (AA (@a32s29_x) (AA (@a32s30.eq_1) (@a32s31_x)))))) (AA (AA (AA (AA (@a32s32.eq_1) (@a32s33.eq_1)) (AA (@a32s34.eq_1) (@a32s35.eq_1))) (AA (AA (@a32s37_x) (@a32s38.eq_1)) (AA (@a32s39.eq_1) (AA (@a32s40.eq_1) (@a32s41.eq_1))))) (AA (AA (AA (@a32s42.eq_1) (@a32s44_x)) (AA (@a32s45.eq_1) (AA (@a32s46.eq_1) (@a32s47.eq_1)))) (AA (AA (@a32s48.eq_1) (@a32c.eq_1)) (AA (@a32s19_k0.eq_1) (AA (@a32s19_k1.eq_1) (@a32s22_k0.eq_1))))))) := AA (AA (AA (AA (AA (@a32.eq_1) (@a32s1_x)) (AA (@a32s4_x) (@a32s5.eq_1))) (AA (AA (@a32s6_x) (@a32s8_x)) (AA (@a32s10_x) (AA (@a32s12_x) (@a32s14_x))))) (AA (AA (AA (@a32s16_x) (@a32s19_x)) (AA (@a32s22_x) (AA (@a32s23_x) (@a32s24_x)))) (AA (AA (@a32s25.eq_1) (@a32s26.eq_1)) (AA (@a32s29_x) (AA (@a32s30.eq_1) (@a32s31_x)))))) (AA (AA (AA (AA (@a32s32.eq_1) (@a32s33.eq_1)) (AA (@a32s34.eq_1) (@a32s35.eq_1))) (AA (AA (@a32s37_x) (@a32s38.eq_1)) (AA (@a32s39.eq_1) (AA (@a32s40.eq_1) (@a32s41.eq_1))))) (AA (AA (AA (@a32s42.eq_1) (@a32s44_x)) (AA (@a32s45.eq_1) (AA (@a32s46.eq_1) (@a32s47.eq_1)))) (AA (AA (@a32s48.eq_1) (@a32c.eq_1)) (AA (@a32s19_k0.eq_1) (AA (@a32s19_k1.eq_1) (@a32s22_k0.eq_1))))))
theorem K34 : type_of% (AA (AA (@a34.eq_1) (AA (@a34s1_x) (@a34s3_x))) (AA (@a34s4.eq_1) (AA (@a34s5.eq_1) (@a34c.eq_1)))) := AA (AA (@a34.eq_1) (AA (@a34s1_x) (@a34s3_x))) (AA (@a34s4.eq_1) (AA (@a34s5.eq_1) (@a34c.eq_1)))
theorem K35 : type_of% (AA (AA (AA (@a35.eq_1) (@a35s1_x)) (AA (@a35s3_x) (@a35s5_x))) (AA (AA (@a35s6.eq_1) (@a35s7.eq_1)) (AA (@a35s8.eq_1) (AA (@a35c.eq_1) (@a35s3_k0.eq_1))))) := AA (AA (AA (@a35.eq_1) (@a35s1_x)) (AA (@a35s3_x) (@a35s5_x))) (AA (AA (@a35s6.eq_1) (@a35s7.eq_1)) (AA (@a35s8.eq_1) (AA (@a35c.eq_1) (@a35s3_k0.eq_1))))
theorem K36 : type_of% (AA (AA (AA (AA (@a36.eq_1) (@a36s1_x)) (AA (@a36s3_x) (AA (@a36s5_x) (@a36s7_x)))) (AA (AA (@a36s10_x) (@a36s11.eq_1)) (AA (@a36s12_x) (AA (@a36s13.eq_1) (@a36s14.eq_1))))) (AA (AA (AA (@a36s16_x) (@a36s17.eq_1)) (AA (@a36s18.eq_1) (AA (@a36s19.eq_1) (@a36s20.eq_1)))) (AA (AA (@a36s21.eq_1) (AA (@a36s23_x) (@a36s24.eq_1))) (AA (@a36s25.eq_1) (AA (@a36s26.eq_1) (@a36c.eq_1)))))) := AA (AA (AA (AA (@a36.eq_1) (@a36s1_x)) (AA (@a36s3_x) (AA (@a36s5_x) (@a36s7_x)))) (AA (AA (@a36s10_x) (@a36s11.eq_1)) (AA (@a36s12_x) (AA (@a36s13.eq_1) (@a36s14.eq_1))))) (AA (AA (AA (@a36s16_x) (@a36s17.eq_1)) (AA (@a36s18.eq_1) (AA (@a36s19.eq_1) (@a36s20.eq_1)))) (AA (AA (@a36s21.eq_1) (AA (@a36s23_x) (@a36s24.eq_1))) (AA (@a36s25.eq_1) (AA (@a36s26.eq_1) (@a36c.eq_1)))))
theorem K37 : type_of% (AA (AA (AA (AA (@a37.eq_1) (@a37s1_x)) (AA (@a37s3_x) (AA (@a37s5_x) (@a37s7_x)))) (AA (AA (@a37s9_x) (@a37s11_x)) (AA (@a37s12.eq_1) (AA (@a37s13.eq_1) (@a37s15_x))))) (AA (AA (AA (@a37s16.eq_1) (@a37s17.eq_1)) (AA (@a37s18.eq_1) (AA (@a37s19.eq_1) (@a37s20.eq_1)))) (AA (AA (@a37s22_x) (AA (@a37s23.eq_1) (@a37s24.eq_1))) (AA (@a37s25.eq_1) (AA (@a37s26.eq_1) (@a37c.eq_1)))))) := AA (AA (AA (AA (@a37.eq_1) (@a37s1_x)) (AA (@a37s3_x) (AA (@a37s5_x) (@a37s7_x)))) (AA (AA (@a37s9_x) (@a37s11_x)) (AA (@a37s12.eq_1) (AA (@a37s13.eq_1) (@a37s15_x))))) (AA (AA (AA (@a37s16.eq_1) (@a37s17.eq_1)) (AA (@a37s18.eq_1) (AA (@a37s19.eq_1) (@a37s20.eq_1)))) (AA (AA (@a37s22_x) (AA (@a37s23.eq_1) (@a37s24.eq_1))) (AA (@a37s25.eq_1) (AA (@a37s26.eq_1) (@a37c.eq_1)))))
theorem K38 : type_of% (AA (AA (AA (AA (@a38.eq_1) (AA (@a38s1_x) (@a38s4_x))) (AA (AA (@a38s5.eq_1) (@a38s6_x)) (AA (@a38s8_x) (@a38s10_x)))) (AA (AA (@a38s12_x) (AA (@a38s14_x) (@a38s17_x))) (AA (AA (@a38s18.eq_1) (@a38s19_x)) (AA (@a38s20.eq_1) (@a38s21.eq_1))))) (AA (AA (AA (@a38s22.eq_1) (AA (@a38s24_x) (@a38s25.eq_1))) (AA (AA (@a38s26.eq_1) (@a38s27.eq_1)) (AA (@a38s28.eq_1) (@a38s29.eq_1)))) (AA (AA (@a38s31_x) (AA (@a38s32.eq_1) (@a38s33.eq_1))) (AA (AA (@a38s34.eq_1) (@a38s35.eq_1)) (AA (@a38c.eq_1) (@a38s19_k0.eq_1)))))) := AA (AA (AA (AA (@a38.eq_1) (AA (@a38s1_x) (@a38s4_x))) (AA (AA (@a38s5.eq_1) (@a38s6_x)) (AA (@a38s8_x) (@a38s10_x)))) (AA (AA (@a38s12_x) (AA (@a38s14_x) (@a38s17_x))) (AA (AA (@a38s18.eq_1) (@a38s19_x)) (AA (@a38s20.eq_1) (@a38s21.eq_1))))) (AA (AA (AA (@a38s22.eq_1) (AA (@a38s24_x) (@a38s25.eq_1))) (AA (AA (@a38s26.eq_1) (@a38s27.eq_1)) (AA (@a38s28.eq_1) (@a38s29.eq_1)))) (AA (AA (@a38s31_x) (AA (@a38s32.eq_1) (@a38s33.eq_1))) (AA (AA (@a38s34.eq_1) (@a38s35.eq_1)) (AA (@a38c.eq_1) (@a38s19_k0.eq_1)))))
theorem K40 : type_of% (AA (AA (AA (AA (AA (@a40.eq_1) (AA (@a40s1_x) (@a40s3_x))) (AA (@a40s5_x) (AA (@a40s8_x) (@a40s10_x)))) (AA (AA (@a40s11.eq_1) (AA (@a40s12.eq_1) (@a40s13.eq_1))) (AA (@a40s14.eq_1) (AA (@a40s17_x) (@a40s18.eq_1))))) (AA (AA (AA (@a40s19_x) (AA (@a40s21_x) (@a40s22.eq_1))) (AA (@a40s23.eq_1) (AA (@a40s24.eq_1) (@a40s27_x)))) (AA (AA (@a40s28.eq_1) (AA (@a40s31_x) (@a40s32.eq_1))) (AA (@a40s36_x) (AA (@a40s37.eq_1) (@a40s38_x)))))) (AA (AA (AA (AA (@a40s40_x) (AA (@a40s41.eq_1) (@a40s42.eq_1))) (AA (@a40s45_x) (AA (@a40s46.eq_1) (@a40s47_x)))) (AA (AA (@a40s48_x) (AA (@a40s49_x) (@a40s50_x))) (AA (@a40s51_x) (AA (@a40s52.eq_1) (@a40s54_x))))) (AA (AA (AA (@a40s55.eq_1) (AA (@a40s56.eq_1) (@a40s57.eq_1))) (AA (@a40s58.eq_1) (AA (@a40s59.eq_1) (@a40c.eq_1)))) (AA (AA (@a40s8_k0.eq_1) (AA (@a40s8_k1.eq_1) (@a40s27_k0.eq_1))) (AA (@a40s31_k0.eq_1) (AA (@a40s50_k0.eq_1) (@a40s51_k0.eq_1))))))) := AA (AA (AA (AA (AA (@a40.eq_1) (AA (@a40s1_x) (@a40s3_x))) (AA (@a40s5_x) (AA (@a40s8_x) (@a40s10_x)))) (AA (AA (@a40s11.eq_1) (AA (@a40s12.eq_1) (@a40s13.eq_1))) (AA (@a40s14.eq_1) (AA (@a40s17_x) (@a40s18.eq_1))))) (AA (AA (AA (@a40s19_x) (AA (@a40s21_x) (@a40s22.eq_1))) (AA (@a40s23.eq_1) (AA (@a40s24.eq_1) (@a40s27_x)))) (AA (AA (@a40s28.eq_1) (AA (@a40s31_x) (@a40s32.eq_1))) (AA (@a40s36_x) (AA (@a40s37.eq_1) (@a40s38_x)))))) (AA (AA (AA (AA (@a40s40_x) (AA (@a40s41.eq_1) (@a40s42.eq_1))) (AA (@a40s45_x) (AA (@a40s46.eq_1) (@a40s47_x)))) (AA (AA (@a40s48_x) (AA (@a40s49_x) (@a40s50_x))) (AA (@a40s51_x) (AA (@a40s52.eq_1) (@a40s54_x))))) (AA (AA (AA (@a40s55.eq_1) (AA (@a40s56.eq_1) (@a40s57.eq_1))) (AA (@a40s58.eq_1) (AA (@a40s59.eq_1) (@a40c.eq_1)))) (AA (AA (@a40s8_k0.eq_1) (AA (@a40s8_k1.eq_1) (@a40s27_k0.eq_1))) (AA (@a40s31_k0.eq_1) (AA (@a40s50_k0.eq_1) (@a40s51_k0.eq_1))))))
theorem K41 : type_of% (AA (AA (@a41.eq_1) (AA (@a41s1_x) (@a41s3_x))) (AA (@a41s4.eq_1) (AA (@a41s5.eq_1) (@a41c.eq_1)))) := AA (AA (@a41.eq_1) (AA (@a41s1_x) (@a41s3_x))) (AA (@a41s4.eq_1) (AA (@a41s5.eq_1) (@a41c.eq_1)))
theorem K42 : type_of% (AA (AA (@a42.eq_1) (AA (@a42s2_x) (@a42s4_x))) (AA (@a42s5.eq_1) (AA (@a42s6_x) (@a42c.eq_1)))) := AA (AA (@a42.eq_1) (AA (@a42s2_x) (@a42s4_x))) (AA (@a42s5.eq_1) (AA (@a42s6_x) (@a42c.eq_1)))
theorem K43 : type_of% (AA (AA (AA (AA (@a43.eq_1) (@a43s1_x)) (AA (@a43s4_x) (@a43s6_x))) (AA (AA (@a43s7.eq_1) (@a43s8.eq_1)) (AA (@a43s9_x) (@a43s11_x)))) (AA (AA (AA (@a43s13_x) (@a43s14.eq_1)) (AA (@a43s15.eq_1) (@a43s16.eq_1))) (AA (AA (@a43s17.eq_1) (@a43c.eq_1)) (AA (@a43s4_k0.eq_1) (@a43s9_k0.eq_1))))) := AA (AA (AA (AA (@a43.eq_1) (@a43s1_x)) (AA (@a43s4_x) (@a43s6_x))) (AA (AA (@a43s7.eq_1) (@a43s8.eq_1)) (AA (@a43s9_x) (@a43s11_x)))) (AA (AA (AA (@a43s13_x) (@a43s14.eq_1)) (AA (@a43s15.eq_1) (@a43s16.eq_1))) (AA (AA (@a43s17.eq_1) (@a43c.eq_1)) (AA (@a43s4_k0.eq_1) (@a43s9_k0.eq_1))))
theorem K44 : type_of% (AA (AA (@a44.eq_1) (AA (@a44s2_x) (@a44s3_x))) (AA (@a44c.eq_1) (AA (@a44s2_k0.eq_1) (@a44s3_k0.eq_1)))) := AA (AA (@a44.eq_1) (AA (@a44s2_x) (@a44s3_x))) (AA (@a44c.eq_1) (AA (@a44s2_k0.eq_1) (@a44s3_k0.eq_1)))
theorem K45 : type_of% (AA (AA (AA (AA (@a45.eq_1) (@a45s1_x)) (AA (@a45s3_x) (AA (@a45s5_x) (@a45s7_x)))) (AA (AA (@a45s9_x) (@a45s10.eq_1)) (AA (@a45s11.eq_1) (AA (@a45s12.eq_1) (@a45s13.eq_1))))) (AA (AA (AA (@a45s15_x) (@a45s16.eq_1)) (AA (@a45s17.eq_1) (AA (@a45s18.eq_1) (@a45s19.eq_1)))) (AA (AA (@a45s20.eq_1) (AA (@a45c.eq_1) (@a45s3_k0.eq_1))) (AA (@a45s5_k0.eq_1) (AA (@a45s7_k0.eq_1) (@a45s9_k0.eq_1)))))) := AA (AA (AA (AA (@a45.eq_1) (@a45s1_x)) (AA (@a45s3_x) (AA (@a45s5_x) (@a45s7_x)))) (AA (AA (@a45s9_x) (@a45s10.eq_1)) (AA (@a45s11.eq_1) (AA (@a45s12.eq_1) (@a45s13.eq_1))))) (AA (AA (AA (@a45s15_x) (@a45s16.eq_1)) (AA (@a45s17.eq_1) (AA (@a45s18.eq_1) (@a45s19.eq_1)))) (AA (AA (@a45s20.eq_1) (AA (@a45c.eq_1) (@a45s3_k0.eq_1))) (AA (@a45s5_k0.eq_1) (AA (@a45s7_k0.eq_1) (@a45s9_k0.eq_1)))))
theorem K46 : type_of% (AA (AA (AA (@a46.eq_1) (AA (@a46s1_x) (@a46s4_x))) (AA (AA (@a46s6_x) (@a46s7.eq_1)) (AA (@a46s8.eq_1) (@a46s9_x)))) (AA (AA (@a46s11_x) (AA (@a46s12.eq_1) (@a46s13.eq_1))) (AA (AA (@a46s14.eq_1) (@a46c.eq_1)) (AA (@a46s9_k0.eq_1) (@a46s9_k1.eq_1))))) := AA (AA (AA (@a46.eq_1) (AA (@a46s1_x) (@a46s4_x))) (AA (AA (@a46s6_x) (@a46s7.eq_1)) (AA (@a46s8.eq_1) (@a46s9_x)))) (AA (AA (@a46s11_x) (AA (@a46s12.eq_1) (@a46s13.eq_1))) (AA (AA (@a46s14.eq_1) (@a46c.eq_1)) (AA (@a46s9_k0.eq_1) (@a46s9_k1.eq_1))))
theorem K47 : type_of% (AA (AA (AA (AA (AA (@a47.eq_1) (@a47s1_x)) (AA (@a47s3_x) (@a47s5_x))) (AA (AA (@a47s7_x) (@a47s9_x)) (AA (@a47s11_x) (AA (@a47s13_x) (@a47s16_x))))) (AA (AA (AA (@a47s18_x) (@a47s19.eq_1)) (AA (@a47s20_x) (@a47s22_x))) (AA (AA (@a47s23.eq_1) (@a47s24.eq_1)) (AA (@a47s25.eq_1) (AA (@a47s26.eq_1) (@a47s27.eq_1)))))) (AA (AA (AA (AA (@a47s29_x) (@a47s30.eq_1)) (AA (@a47s31.eq_1) (@a47s32.eq_1))) (AA (AA (@a47s33.eq_1) (@a47s34.eq_1)) (AA (@a47s36_x) (AA (@a47s37.eq_1) (@a47s38.eq_1))))) (AA (AA (AA (@a47s39.eq_1) (@a47s40.eq_1)) (AA (@a47c.eq_1) (@a47s7_k0.eq_1))) (AA (AA (@a47s9_k0.eq_1) (@a47s11_k0.eq_1)) (AA (@a47s13_k0.eq_1) (AA (@a47s18_k0.eq_1) (@a47s20_k0.eq_1))))))) := AA (AA (AA (AA (AA (@a47.eq_1) (@a47s1_x)) (AA (@a47s3_x) (@a47s5_x))) (AA (AA (@a47s7_x) (@a47s9_x)) (AA (@a47s11_x) (AA (@a47s13_x) (@a47s16_x))))) (AA (AA (AA (@a47s18_x) (@a47s19.eq_1)) (AA (@a47s20_x) (@a47s22_x))) (AA (AA (@a47s23.eq_1) (@a47s24.eq_1)) (AA (@a47s25.eq_1) (AA (@a47s26.eq_1) (@a47s27.eq_1)))))) (AA (AA (AA (AA (@a47s29_x) (@a47s30.eq_1)) (AA (@a47s31.eq_1) (@a47s32.eq_1))) (AA (AA (@a47s33.eq_1) (@a47s34.eq_1)) (AA (@a47s36_x) (AA (@a47s37.eq_1) (@a47s38.eq_1))))) (AA (AA (AA (@a47s39.eq_1) (@a47s40.eq_1)) (AA (@a47c.eq_1) (@a47s7_k0.eq_1))) (AA (AA (@a47s9_k0.eq_1) (@a47s11_k0.eq_1)) (AA (@a47s13_k0.eq_1) (AA (@a47s18_k0.eq_1) (@a47s20_k0.eq_1))))))
theorem K48 : type_of% (AA (AA (AA (AA (@a48.eq_1) (AA (@a48s1_x) (@a48s3_x))) (AA (@a48s7_x) (AA (@a48s9_x) (@a48s11_x)))) (AA (AA (@a48s12.eq_1) (AA (@a48s13.eq_1) (@a48s15_x))) (AA (AA (@a48s16_x) (@a48s18_x)) (AA (@a48s19.eq_1) (@a48s20_x))))) (AA (AA (AA (@a48s22_x) (AA (@a48s24_x) (@a48s25.eq_1))) (AA (AA (@a48s26.eq_1) (@a48s27.eq_1)) (AA (@a48s28.eq_1) (@a48s29.eq_1)))) (AA (AA (@a48c.eq_1) (AA (@a48s7_k0.eq_1) (@a48s11_k0.eq_1))) (AA (AA (@a48s15_k0.eq_1) (@a48s16_k0.eq_1)) (AA (@a48s18_k0.eq_1) (@a48s20_k0.eq_1)))))) := AA (AA (AA (AA (@a48.eq_1) (AA (@a48s1_x) (@a48s3_x))) (AA (@a48s7_x) (AA (@a48s9_x) (@a48s11_x)))) (AA (AA (@a48s12.eq_1) (AA (@a48s13.eq_1) (@a48s15_x))) (AA (AA (@a48s16_x) (@a48s18_x)) (AA (@a48s19.eq_1) (@a48s20_x))))) (AA (AA (AA (@a48s22_x) (AA (@a48s24_x) (@a48s25.eq_1))) (AA (AA (@a48s26.eq_1) (@a48s27.eq_1)) (AA (@a48s28.eq_1) (@a48s29.eq_1)))) (AA (AA (@a48c.eq_1) (AA (@a48s7_k0.eq_1) (@a48s11_k0.eq_1))) (AA (AA (@a48s15_k0.eq_1) (@a48s16_k0.eq_1)) (AA (@a48s18_k0.eq_1) (@a48s20_k0.eq_1)))))
theorem K49 : type_of% (AA (AA (@a49.eq_1) (AA (@a49s1_x) (@a49s3_x))) (AA (@a49s4.eq_1) (AA (@a49s5.eq_1) (@a49c.eq_1)))) := AA (AA (@a49.eq_1) (AA (@a49s1_x) (@a49s3_x))) (AA (@a49s4.eq_1) (AA (@a49s5.eq_1) (@a49c.eq_1)))
theorem K50 : type_of% (AA (AA (AA (AA (@a50.eq_1) (AA (@a50s1_x) (@a50s3_x))) (AA (@a50s5_x) (AA (@a50s7_x) (@a50s10_x)))) (AA (AA (@a50s11.eq_1) (AA (@a50s12_x) (@a50s15_x))) (AA (AA (@a50s16.eq_1) (@a50s17_x)) (AA (@a50s18.eq_1) (@a50s19.eq_1))))) (AA (AA (AA (@a50s20.eq_1) (AA (@a50s22_x) (@a50s23.eq_1))) (AA (AA (@a50s24.eq_1) (@a50s25.eq_1)) (AA (@a50s26.eq_1) (@a50s27.eq_1)))) (AA (AA (@a50s29_x) (AA (@a50s30.eq_1) (@a50s31.eq_1))) (AA (AA (@a50s32.eq_1) (@a50c.eq_1)) (AA (@a50s12_k0.eq_1) (@a50s17_k0.eq_1)))))) := AA (AA (AA (AA (@a50.eq_1) (AA (@a50s1_x) (@a50s3_x))) (AA (@a50s5_x) (AA (@a50s7_x) (@a50s10_x)))) (AA (AA (@a50s11.eq_1) (AA (@a50s12_x) (@a50s15_x))) (AA (AA (@a50s16.eq_1) (@a50s17_x)) (AA (@a50s18.eq_1) (@a50s19.eq_1))))) (AA (AA (AA (@a50s20.eq_1) (AA (@a50s22_x) (@a50s23.eq_1))) (AA (AA (@a50s24.eq_1) (@a50s25.eq_1)) (AA (@a50s26.eq_1) (@a50s27.eq_1)))) (AA (AA (@a50s29_x) (AA (@a50s30.eq_1) (@a50s31.eq_1))) (AA (AA (@a50s32.eq_1) (@a50c.eq_1)) (AA (@a50s12_k0.eq_1) (@a50s17_k0.eq_1)))))
theorem K51 : type_of% (AA (AA (AA (AA (AA (AA (@a51.eq_1) (@a51s1_x)) (AA (@a51s3_x) (@a51s5_x))) (AA (AA (@a51s8_x) (@a51s9.eq_1)) (AA (@a51s13_x) (@a51s14_x)))) (AA (AA (AA (@a51s15_x) (@a51s17_x)) (AA (@a51s18.eq_1) (@a51s21_x))) (AA (AA (@a51s22.eq_1) (@a51s23_x)) (AA (@a51s24_x) (AA (@a51s25.eq_1) (@a51s26_x)))))) (AA (AA (AA (AA (@a51s27.eq_1) (@a51s29_x)) (AA (@a51s32_x) (@a51s33.eq_1))) (AA (AA (@a51s34_x) (@a51s35.eq_1)) (AA (@a51s37_x) (@a51s39_x)))) (AA (AA (AA (@a51s41_x) (@a51s43_x)) (AA (@a51s47_x) (@a51s48.eq_1))) (AA (AA (@a51s49_x) (@a51s51_x)) (AA (@a51s54_x) (AA (@a51s55.eq_1) (@a51s56_x))))))) (AA (AA (AA (AA (AA (@a51s57.eq_1) (@a51s58_x)) (AA (@a51s59.eq_1) (@a51s60.eq_1))) (AA (AA (@a51s61.eq_1) (@a51s62.eq_1)) (AA (@a51s64_x) (@a51s65.eq_1)))) (AA (AA (AA (@a51s66.eq_1) (@a51s67.eq_1)) (AA (@a51s68.eq_1) (@a51s69.eq_1))) (AA (AA (@a51s71_x) (@a51s72.eq_1)) (AA (@a51s73.eq_1) (AA (@a51s74.eq_1) (@a51s75.eq_1)))))) (AA (AA (AA (AA (@a51s76.eq_1) (@a51s77.eq_1)) (AA (@a51s78.eq_1) (@a51c.eq_1))) (AA (AA (@a51s3_k0.eq_1) (@a51s5_k0.eq_1)) (AA (@a51s13_k0.eq_1) (@a51s14_k0.eq_1)))) (AA (AA (AA (@a51s15_k0.eq_1) (@a51s15_k1.eq_1)) (AA (@a51s23_k0.eq_1) (@a51s26_k0.eq_1))) (AA (AA (@a51s29_k0.eq_1) (@a51s29_k1.eq_1)) (AA (@a51s43_k0.eq_1) (AA (@a51s51_k0.eq_1) (@a51s58_k0.eq_1)))))))) := AA (AA (AA (AA (AA (AA (@a51.eq_1) (@a51s1_x)) (AA (@a51s3_x) (@a51s5_x))) (AA (AA (@a51s8_x) (@a51s9.eq_1)) (AA (@a51s13_x) (@a51s14_x)))) (AA (AA (AA (@a51s15_x) (@a51s17_x)) (AA (@a51s18.eq_1) (@a51s21_x))) (AA (AA (@a51s22.eq_1) (@a51s23_x)) (AA (@a51s24_x) (AA (@a51s25.eq_1) (@a51s26_x)))))) (AA (AA (AA (AA (@a51s27.eq_1) (@a51s29_x)) (AA (@a51s32_x) (@a51s33.eq_1))) (AA (AA (@a51s34_x) (@a51s35.eq_1)) (AA (@a51s37_x) (@a51s39_x)))) (AA (AA (AA (@a51s41_x) (@a51s43_x)) (AA (@a51s47_x) (@a51s48.eq_1))) (AA (AA (@a51s49_x) (@a51s51_x)) (AA (@a51s54_x) (AA (@a51s55.eq_1) (@a51s56_x))))))) (AA (AA (AA (AA (AA (@a51s57.eq_1) (@a51s58_x)) (AA (@a51s59.eq_1) (@a51s60.eq_1))) (AA (AA (@a51s61.eq_1) (@a51s62.eq_1)) (AA (@a51s64_x) (@a51s65.eq_1)))) (AA (AA (AA (@a51s66.eq_1) (@a51s67.eq_1)) (AA (@a51s68.eq_1) (@a51s69.eq_1))) (AA (AA (@a51s71_x) (@a51s72.eq_1)) (AA (@a51s73.eq_1) (AA (@a51s74.eq_1) (@a51s75.eq_1)))))) (AA (AA (AA (AA (@a51s76.eq_1) (@a51s77.eq_1)) (AA (@a51s78.eq_1) (@a51c.eq_1))) (AA (AA (@a51s3_k0.eq_1) (@a51s5_k0.eq_1)) (AA (@a51s13_k0.eq_1) (@a51s14_k0.eq_1)))) (AA (AA (AA (@a51s15_k0.eq_1) (@a51s15_k1.eq_1)) (AA (@a51s23_k0.eq_1) (@a51s26_k0.eq_1))) (AA (AA (@a51s29_k0.eq_1) (@a51s29_k1.eq_1)) (AA (@a51s43_k0.eq_1) (AA (@a51s51_k0.eq_1) (@a51s58_k0.eq_1)))))))
theorem K52 : type_of% (AA (AA (@a52.eq_1) (AA (@a52s1_x) (@a52s3_x))) (AA (AA (@a52s4.eq_1) (@a52s5.eq_1)) (AA (@a52c.eq_1) (@a52s3_k0.eq_1)))) := AA (AA (@a52.eq_1) (AA (@a52s1_x) (@a52s3_x))) (AA (AA (@a52s4.eq_1) (@a52s5.eq_1)) (AA (@a52c.eq_1) (@a52s3_k0.eq_1)))
theorem K53 : type_of% (AA (AA (AA (@a53.eq_1) (@a53s1_x)) (AA (@a53s3_x) (@a53s4.eq_1))) (AA (AA (@a53s5.eq_1) (@a53c.eq_1)) (AA (@a53s3_k0.eq_1) (@a53s3_k1.eq_1)))) := AA (AA (AA (@a53.eq_1) (@a53s1_x)) (AA (@a53s3_x) (@a53s4.eq_1))) (AA (AA (@a53s5.eq_1) (@a53c.eq_1)) (AA (@a53s3_k0.eq_1) (@a53s3_k1.eq_1)))
theorem K54 : type_of% (AA (AA (AA (@a54.eq_1) (@a54s1_x)) (AA (@a54s3_x) (AA (@a54s4.eq_1) (@a54s5.eq_1)))) (AA (AA (@a54c.eq_1) (@a54s3_k0.eq_1)) (AA (@a54s3_k1.eq_1) (AA (@a54s3_k2.eq_1) (@a54s3_k3.eq_1))))) := AA (AA (AA (@a54.eq_1) (@a54s1_x)) (AA (@a54s3_x) (AA (@a54s4.eq_1) (@a54s5.eq_1)))) (AA (AA (@a54c.eq_1) (@a54s3_k0.eq_1)) (AA (@a54s3_k1.eq_1) (AA (@a54s3_k2.eq_1) (@a54s3_k3.eq_1))))
theorem K55 : type_of% (AA (AA (AA (AA (AA (@a55.eq_1) (@a55s1_x)) (AA (@a55s3_x) (@a55s5_x))) (AA (AA (@a55s8_x) (@a55s9.eq_1)) (AA (@a55s10_x) (AA (@a55s13_x) (@a55s14.eq_1))))) (AA (AA (AA (@a55s15_x) (@a55s18_x)) (AA (@a55s19.eq_1) (@a55s20_x))) (AA (AA (@a55s22_x) (@a55s25_x)) (AA (@a55s26.eq_1) (AA (@a55s27_x) (@a55s29_x)))))) (AA (AA (AA (AA (@a55s30.eq_1) (@a55s31.eq_1)) (AA (@a55s32.eq_1) (@a55s33.eq_1))) (AA (AA (@a55s34.eq_1) (@a55s35.eq_1)) (AA (@a55s36.eq_1) (AA (@a55s37.eq_1) (@a55s38.eq_1))))) (AA (AA (AA (@a55c.eq_1) (@a55s3_k0.eq_1)) (AA (@a55s5_k0.eq_1) (@a55s10_k0.eq_1))) (AA (AA (@a55s10_k1.eq_1) (@a55s13_k0.eq_1)) (AA (@a55s20_k0.eq_1) (AA (@a55s22_k0.eq_1) (@a55s29_k0.eq_1))))))) := AA (AA (AA (AA (AA (@a55.eq_1) (@a55s1_x)) (AA (@a55s3_x) (@a55s5_x))) (AA (AA (@a55s8_x) (@a55s9.eq_1)) (AA (@a55s10_x) (AA (@a55s13_x) (@a55s14.eq_1))))) (AA (AA (AA (@a55s15_x) (@a55s18_x)) (AA (@a55s19.eq_1) (@a55s20_x))) (AA (AA (@a55s22_x) (@a55s25_x)) (AA (@a55s26.eq_1) (AA (@a55s27_x) (@a55s29_x)))))) (AA (AA (AA (AA (@a55s30.eq_1) (@a55s31.eq_1)) (AA (@a55s32.eq_1) (@a55s33.eq_1))) (AA (AA (@a55s34.eq_1) (@a55s35.eq_1)) (AA (@a55s36.eq_1) (AA (@a55s37.eq_1) (@a55s38.eq_1))))) (AA (AA (AA (@a55c.eq_1) (@a55s3_k0.eq_1)) (AA (@a55s5_k0.eq_1) (@a55s10_k0.eq_1))) (AA (AA (@a55s10_k1.eq_1) (@a55s13_k0.eq_1)) (AA (@a55s20_k0.eq_1) (AA (@a55s22_k0.eq_1) (@a55s29_k0.eq_1))))))
theorem K56 : type_of% (AA (AA (@a56.eq_1) (AA (@a56s1_x) (@a56s3_x))) (AA (@a56s4.eq_1) (AA (@a56s5.eq_1) (@a56c.eq_1)))) := AA (AA (@a56.eq_1) (AA (@a56s1_x) (@a56s3_x))) (AA (@a56s4.eq_1) (AA (@a56s5.eq_1) (@a56c.eq_1)))
theorem K57 : type_of% (AA (AA (@a57.eq_1) (AA (@a57s1_x) (@a57s3_x))) (AA (@a57s4.eq_1) (AA (@a57s5.eq_1) (@a57c.eq_1)))) := AA (AA (@a57.eq_1) (AA (@a57s1_x) (@a57s3_x))) (AA (@a57s4.eq_1) (AA (@a57s5.eq_1) (@a57c.eq_1)))
theorem K58 : type_of% (AA (AA (AA (AA (AA (@a58.eq_1) (@a58s1_x)) (AA (@a58s3_x) (AA (@a58s5_x) (@a58s8_x)))) (AA (AA (@a58s9_x) (AA (@a58s11_x) (@a58s13_x))) (AA (@a58s15_x) (AA (@a58s18_x) (@a58s19_x))))) (AA (AA (AA (@a58s21_x) (AA (@a58s22.eq_1) (@a58s23.eq_1))) (AA (@a58s24.eq_1) (AA (@a58s25.eq_1) (@a58s26.eq_1)))) (AA (AA (@a58s29_x) (AA (@a58s30.eq_1) (@a58s33_x))) (AA (@a58s34.eq_1) (AA (@a58s37_x) (@a58s38.eq_1)))))) (AA (AA (AA (AA (@a58s41_x) (@a58s42.eq_1)) (AA (@a58s43_x) (AA (@a58s44_x) (@a58s45_x)))) (AA (AA (@a58s46_x) (AA (@a58s47.eq_1) (@a58s50_x))) (AA (@a58s51_x) (AA (@a58s53_x) (@a58s54.eq_1))))) (AA (AA (AA (@a58s55.eq_1) (AA (@a58s56.eq_1) (@a58s57.eq_1))) (AA (@a58s58.eq_1) (AA (@a58s59.eq_1) (@a58s60.eq_1)))) (AA (AA (@a58s61.eq_1) (AA (@a58s62.eq_1) (@a58s63.eq_1))) (AA (@a58c.eq_1) (AA (@a58s15_k0.eq_1) (@a58s44_k0.eq_1))))))) := AA (AA (AA (AA (AA (@a58.eq_1) (@a58s1_x)) (AA (@a58s3_x) (AA (@a58s5_x) (@a58s8_x)))) (AA (AA (@a58s9_x) (AA (@a58s11_x) (@a58s13_x))) (AA (@a58s15_x) (AA (@a58s18_x) (@a58s19_x))))) (AA (AA (AA (@a58s21_x) (AA (@a58s22.eq_1) (@a58s23.eq_1))) (AA (@a58s24.eq_1) (AA (@a58s25.eq_1) (@a58s26.eq_1)))) (AA (AA (@a58s29_x) (AA (@a58s30.eq_1) (@a58s33_x))) (AA (@a58s34.eq_1) (AA (@a58s37_x) (@a58s38.eq_1)))))) (AA (AA (AA (AA (@a58s41_x) (@a58s42.eq_1)) (AA (@a58s43_x) (AA (@a58s44_x) (@a58s45_x)))) (AA (AA (@a58s46_x) (AA (@a58s47.eq_1) (@a58s50_x))) (AA (@a58s51_x) (AA (@a58s53_x) (@a58s54.eq_1))))) (AA (AA (AA (@a58s55.eq_1) (AA (@a58s56.eq_1) (@a58s57.eq_1))) (AA (@a58s58.eq_1) (AA (@a58s59.eq_1) (@a58s60.eq_1)))) (AA (AA (@a58s61.eq_1) (AA (@a58s62.eq_1) (@a58s63.eq_1))) (AA (@a58c.eq_1) (AA (@a58s15_k0.eq_1) (@a58s44_k0.eq_1))))))
theorem K59 : type_of% (AA (AA (AA (AA (AA (@a59.eq_1) (AA (@a59s1_x) (@a59s3_x))) (AA (@a59s5_x) (AA (@a59s7_x) (@a59s9_x)))) (AA (AA (@a59s13_x) (AA (@a59s14.eq_1) (@a59s15_x))) (AA (AA (@a59s17_x) (@a59s18.eq_1)) (AA (@a59s19.eq_1) (@a59s22_x))))) (AA (AA (AA (@a59s23.eq_1) (AA (@a59s26_x) (@a59s29_x))) (AA (AA (@a59s30.eq_1) (@a59s31_x)) (AA (@a59s33_x) (@a59s36_x)))) (AA (AA (@a59s39_x) (AA (@a59s43_x) (@a59s44_x))) (AA (AA (@a59s45_x) (@a59s47_x)) (AA (@a59s49_x) (@a59s50.eq_1)))))) (AA (AA (AA (AA (@a59s51_x) (AA (@a59s52.eq_1) (@a59s53_x))) (AA (@a59s54_x) (AA (@a59s55.eq_1) (@a59s56.eq_1)))) (AA (AA (@a59s57.eq_1) (AA (@a59s58.eq_1) (@a59s60_x))) (AA (AA (@a59s61_x) (@a59s62_x)) (AA (@a59s63_x) (@a59s64.eq_1))))) (AA (AA (AA (@a59s65.eq_1) (AA (@a59s67_x) (@a59s68.eq_1))) (AA (AA (@a59s69.eq_1) (@a59s70.eq_1)) (AA (@a59s71.eq_1) (@a59s72.eq_1)))) (AA (AA (@a59s74_x) (AA (@a59s75.eq_1) (@a59s76.eq_1))) (AA (AA (@a59s77.eq_1) (@a59s78.eq_1)) (AA (@a59s79.eq_1) (@a59c.eq_1))))))) := AA (AA (AA (AA (AA (@a59.eq_1) (AA (@a59s1_x) (@a59s3_x))) (AA (@a59s5_x) (AA (@a59s7_x) (@a59s9_x)))) (AA (AA (@a59s13_x) (AA (@a59s14.eq_1) (@a59s15_x))) (AA (AA (@a59s17_x) (@a59s18.eq_1)) (AA (@a59s19.eq_1) (@a59s22_x))))) (AA (AA (AA (@a59s23.eq_1) (AA (@a59s26_x) (@a59s29_x))) (AA (AA (@a59s30.eq_1) (@a59s31_x)) (AA (@a59s33_x) (@a59s36_x)))) (AA (AA (@a59s39_x) (AA (@a59s43_x) (@a59s44_x))) (AA (AA (@a59s45_x) (@a59s47_x)) (AA (@a59s49_x) (@a59s50.eq_1)))))) (AA (AA (AA (AA (@a59s51_x) (AA (@a59s52.eq_1) (@a59s53_x))) (AA (@a59s54_x) (AA (@a59s55.eq_1) (@a59s56.eq_1)))) (AA (AA (@a59s57.eq_1) (AA (@a59s58.eq_1) (@a59s60_x))) (AA (AA (@a59s61_x) (@a59s62_x)) (AA (@a59s63_x) (@a59s64.eq_1))))) (AA (AA (AA (@a59s65.eq_1) (AA (@a59s67_x) (@a59s68.eq_1))) (AA (AA (@a59s69.eq_1) (@a59s70.eq_1)) (AA (@a59s71.eq_1) (@a59s72.eq_1)))) (AA (AA (@a59s74_x) (AA (@a59s75.eq_1) (@a59s76.eq_1))) (AA (AA (@a59s77.eq_1) (@a59s78.eq_1)) (AA (@a59s79.eq_1) (@a59c.eq_1))))))
theorem K60 : type_of% (AA (AA (@a60.eq_1) (AA (@a60s1_x) (@a60s3_x))) (AA (@a60s4.eq_1) (AA (@a60s5.eq_1) (@a60c.eq_1)))) := AA (AA (@a60.eq_1) (AA (@a60s1_x) (@a60s3_x))) (AA (@a60s4.eq_1) (AA (@a60s5.eq_1) (@a60c.eq_1)))
theorem K61 : type_of% (AA (AA (AA (@a61.eq_1) (AA (@a61s1_x) (@a61s3_x))) (AA (AA (@a61s6_x) (@a61s7_x)) (AA (@a61s9_x) (@a61s11_x)))) (AA (AA (AA (@a61s12.eq_1) (@a61s13.eq_1)) (AA (@a61s14.eq_1) (@a61s15.eq_1))) (AA (AA (@a61s16.eq_1) (@a61c.eq_1)) (AA (@a61s6_k0.eq_1) (@a61s7_k0.eq_1))))) := AA (AA (AA (@a61.eq_1) (AA (@a61s1_x) (@a61s3_x))) (AA (AA (@a61s6_x) (@a61s7_x)) (AA (@a61s9_x) (@a61s11_x)))) (AA (AA (AA (@a61s12.eq_1) (@a61s13.eq_1)) (AA (@a61s14.eq_1) (@a61s15.eq_1))) (AA (AA (@a61s16.eq_1) (@a61c.eq_1)) (AA (@a61s6_k0.eq_1) (@a61s7_k0.eq_1))))
theorem K62 : type_of% (AA (AA (AA (@a62.eq_1) (AA (@a62s1_x) (@a62s3_x))) (AA (@a62s6_x) (AA (@a62s7_x) (@a62s9_x)))) (AA (AA (@a62s10.eq_1) (AA (@a62s11.eq_1) (@a62s12.eq_1))) (AA (@a62s13.eq_1) (AA (@a62c.eq_1) (@a62s6_k0.eq_1))))) := AA (AA (AA (@a62.eq_1) (AA (@a62s1_x) (@a62s3_x))) (AA (@a62s6_x) (AA (@a62s7_x) (@a62s9_x)))) (AA (AA (@a62s10.eq_1) (AA (@a62s11.eq_1) (@a62s12.eq_1))) (AA (@a62s13.eq_1) (AA (@a62c.eq_1) (@a62s6_k0.eq_1))))
theorem K63 : type_of% (AA (AA (AA (@a63.eq_1) (AA (@a63s1_x) (@a63s3_x))) (AA (@a63s5_x) (AA (@a63s6.eq_1) (@a63s7.eq_1)))) (AA (AA (@a63s8.eq_1) (AA (@a63s9.eq_1) (@a63s11_x))) (AA (AA (@a63s12.eq_1) (@a63s13.eq_1)) (AA (@a63s14.eq_1) (@a63c.eq_1))))) := AA (AA (AA (@a63.eq_1) (AA (@a63s1_x) (@a63s3_x))) (AA (@a63s5_x) (AA (@a63s6.eq_1) (@a63s7.eq_1)))) (AA (AA (@a63s8.eq_1) (AA (@a63s9.eq_1) (@a63s11_x))) (AA (AA (@a63s12.eq_1) (@a63s13.eq_1)) (AA (@a63s14.eq_1) (@a63c.eq_1))))
theorem K64 : type_of% (AA (AA (AA (AA (AA (@a64.eq_1) (AA (@a64s1_x) (@a64s4_x))) (AA (@a64s5.eq_1) (AA (@a64s6_x) (@a64s10_x)))) (AA (AA (@a64s11.eq_1) (AA (@a64s12_x) (@a64s14_x))) (AA (@a64s15.eq_1) (AA (@a64s16.eq_1) (@a64s17_x))))) (AA (AA (AA (@a64s19_x) (AA (@a64s22_x) (@a64s23.eq_1))) (AA (@a64s26_x) (AA (@a64s27.eq_1) (@a64s30_x)))) (AA (AA (@a64s31.eq_1) (AA (@a64s34_x) (@a64s35.eq_1))) (AA (AA (@a64s36_x) (@a64s37_x)) (AA (@a64s38_x) (@a64s39_x)))))) (AA (AA (AA (AA (@a64s40.eq_1) (AA (@a64s41.eq_1) (@a64s43_x))) (AA (@a64s45_x) (AA (@a64s48_x) (@a64s49.eq_1)))) (AA (AA (@a64s52_x) (AA (@a64s53.eq_1) (@a64s54_x))) (AA (AA (@a64s55_x) (@a64s56.eq_1)) (AA (@a64s57.eq_1) (@a64s59_x))))) (AA (AA (AA (@a64s60.eq_1) (AA (@a64s61.eq_1) (@a64s62.eq_1))) (AA (@a64s63.eq_1) (AA (@a64s64.eq_1) (@a64s65.eq_1)))) (AA (AA (@a64s66.eq_1) (AA (@a64c.eq_1) (@a64s10_k0.eq_1))) (AA (AA (@a64s14_k0.eq_1) (@a64s43_k0.eq_1)) (AA (@a64s48_k0.eq_1) (@a64s52_k0.eq_1))))))) := AA (AA (AA (AA (AA (@a64.eq_1) (AA (@a64s1_x) (@a64s4_x))) (AA (@a64s5.eq_1) (AA (@a64s6_x) (@a64s10_x)))) (AA (AA (@a64s11.eq_1) (AA (@a64s12_x) (@a64s14_x))) (AA (@a64s15.eq_1) (AA (@a64s16.eq_1) (@a64s17_x))))) (AA (AA (AA (@a64s19_x) (AA (@a64s22_x) (@a64s23.eq_1))) (AA (@a64s26_x) (AA (@a64s27.eq_1) (@a64s30_x)))) (AA (AA (@a64s31.eq_1) (AA (@a64s34_x) (@a64s35.eq_1))) (AA (AA (@a64s36_x) (@a64s37_x)) (AA (@a64s38_x) (@a64s39_x)))))) (AA (AA (AA (AA (@a64s40.eq_1) (AA (@a64s41.eq_1) (@a64s43_x))) (AA (@a64s45_x) (AA (@a64s48_x) (@a64s49.eq_1)))) (AA (AA (@a64s52_x) (AA (@a64s53.eq_1) (@a64s54_x))) (AA (AA (@a64s55_x) (@a64s56.eq_1)) (AA (@a64s57.eq_1) (@a64s59_x))))) (AA (AA (AA (@a64s60.eq_1) (AA (@a64s61.eq_1) (@a64s62.eq_1))) (AA (@a64s63.eq_1) (AA (@a64s64.eq_1) (@a64s65.eq_1)))) (AA (AA (@a64s66.eq_1) (AA (@a64c.eq_1) (@a64s10_k0.eq_1))) (AA (AA (@a64s14_k0.eq_1) (@a64s43_k0.eq_1)) (AA (@a64s48_k0.eq_1) (@a64s52_k0.eq_1))))))
theorem K65 : type_of% (AA (AA (@a65.eq_1) (AA (@a65s1_x) (@a65s3_x))) (AA (AA (@a65s4.eq_1) (@a65s5.eq_1)) (AA (@a65c.eq_1) (@a65s3_k0.eq_1)))) := AA (AA (@a65.eq_1) (AA (@a65s1_x) (@a65s3_x))) (AA (AA (@a65s4.eq_1) (@a65s5.eq_1)) (AA (@a65c.eq_1) (@a65s3_k0.eq_1)))
theorem K66 : type_of% (AA (AA (AA (@a66.eq_1) (@a66s1_x)) (AA (@a66s3_x) (AA (@a66s5_x) (@a66s6.eq_1)))) (AA (AA (@a66s7.eq_1) (AA (@a66s8.eq_1) (@a66c.eq_1))) (AA (@a66s3_k0.eq_1) (AA (@a66s3_k1.eq_1) (@a66s5_k0.eq_1))))) := AA (AA (AA (@a66.eq_1) (@a66s1_x)) (AA (@a66s3_x) (AA (@a66s5_x) (@a66s6.eq_1)))) (AA (AA (@a66s7.eq_1) (AA (@a66s8.eq_1) (@a66c.eq_1))) (AA (@a66s3_k0.eq_1) (AA (@a66s3_k1.eq_1) (@a66s5_k0.eq_1))))
theorem K67 : type_of% (AA (AA (@a67.eq_1) (AA (@a67s1_x) (@a67s3_x))) (AA (AA (@a67s4.eq_1) (@a67s5.eq_1)) (AA (@a67c.eq_1) (@a67s3_k0.eq_1)))) := AA (AA (@a67.eq_1) (AA (@a67s1_x) (@a67s3_x))) (AA (AA (@a67s4.eq_1) (@a67s5.eq_1)) (AA (@a67c.eq_1) (@a67s3_k0.eq_1)))
theorem K68 : type_of% (AA (AA (AA (AA (@a68.eq_1) (AA (@a68s1_x) (@a68s3_x))) (AA (@a68s5_x) (AA (@a68s7_x) (@a68s9_x)))) (AA (AA (@a68s12_x) (AA (@a68s13.eq_1) (@a68s14_x))) (AA (@a68s15.eq_1) (AA (@a68s16.eq_1) (@a68s17.eq_1))))) (AA (AA (AA (@a68s19_x) (AA (@a68s20.eq_1) (@a68s21.eq_1))) (AA (@a68s22.eq_1) (AA (@a68s23.eq_1) (@a68s24.eq_1)))) (AA (AA (@a68s26_x) (AA (@a68s27.eq_1) (@a68s28.eq_1))) (AA (@a68s29.eq_1) (AA (@a68c.eq_1) (@a68s9_k0.eq_1)))))) := AA (AA (AA (AA (@a68.eq_1) (AA (@a68s1_x) (@a68s3_x))) (AA (@a68s5_x) (AA (@a68s7_x) (@a68s9_x)))) (AA (AA (@a68s12_x) (AA (@a68s13.eq_1) (@a68s14_x))) (AA (@a68s15.eq_1) (AA (@a68s16.eq_1) (@a68s17.eq_1))))) (AA (AA (AA (@a68s19_x) (AA (@a68s20.eq_1) (@a68s21.eq_1))) (AA (@a68s22.eq_1) (AA (@a68s23.eq_1) (@a68s24.eq_1)))) (AA (AA (@a68s26_x) (AA (@a68s27.eq_1) (@a68s28.eq_1))) (AA (@a68s29.eq_1) (AA (@a68c.eq_1) (@a68s9_k0.eq_1)))))
theorem K69 : type_of% (AA (AA (AA (@a69.eq_1) (@a69s1_x)) (AA (@a69s3_x) (AA (@a69s5_x) (@a69s6.eq_1)))) (AA (AA (@a69s7.eq_1) (AA (@a69s8.eq_1) (@a69c.eq_1))) (AA (@a69s3_k0.eq_1) (AA (@a69s3_k1.eq_1) (@a69s5_k0.eq_1))))) := AA (AA (AA (@a69.eq_1) (@a69s1_x)) (AA (@a69s3_x) (AA (@a69s5_x) (@a69s6.eq_1)))) (AA (AA (@a69s7.eq_1) (AA (@a69s8.eq_1) (@a69c.eq_1))) (AA (@a69s3_k0.eq_1) (AA (@a69s3_k1.eq_1) (@a69s5_k0.eq_1))))
theorem K70 : type_of% (AA (AA (AA (AA (@a70.eq_1) (@a70s1_x)) (AA (@a70s4_x) (@a70s5.eq_1))) (AA (AA (@a70s6_x) (@a70s9_x)) (AA (@a70s10.eq_1) (@a70s11_x)))) (AA (AA (AA (@a70s13_x) (@a70s14.eq_1)) (AA (@a70s15.eq_1) (@a70s16.eq_1))) (AA (AA (@a70s17.eq_1) (@a70c.eq_1)) (AA (@a70s9_k0.eq_1) (@a70s13_k0.eq_1))))) := AA (AA (AA (AA (@a70.eq_1) (@a70s1_x)) (AA (@a70s4_x) (@a70s5.eq_1))) (AA (AA (@a70s6_x) (@a70s9_x)) (AA (@a70s10.eq_1) (@a70s11_x)))) (AA (AA (AA (@a70s13_x) (@a70s14.eq_1)) (AA (@a70s15.eq_1) (@a70s16.eq_1))) (AA (AA (@a70s17.eq_1) (@a70c.eq_1)) (AA (@a70s9_k0.eq_1) (@a70s13_k0.eq_1))))
theorem K71 : type_of% (AA (AA (AA (AA (AA (AA (@a71.eq_1) (@a71s1_x)) (AA (@a71s3_x) (AA (@a71s6_x) (@a71s8_x)))) (AA (AA (@a71s9.eq_1) (@a71s10.eq_1)) (AA (@a71s13_x) (AA (@a71s15_x) (@a71s16.eq_1))))) (AA (AA (AA (@a71s17.eq_1) (@a71s20_x)) (AA (@a71s21.eq_1) (AA (@a71s24_x) (@a71s25.eq_1)))) (AA (AA (@a71s28_x) (AA (@a71s29.eq_1) (@a71s32_x))) (AA (@a71s34_x) (AA (@a71s35.eq_1) (@a71s36.eq_1)))))) (AA (AA (AA (AA (@a71s39_x) (@a71s41_x)) (AA (@a71s42.eq_1) (AA (@a71s43.eq_1) (@a71s46_x)))) (AA (AA (@a71s48_x) (AA (@a71s50_x) (@a71s52_x))) (AA (@a71s53.eq_1) (AA (@a71s54.eq_1) (@a71s55.eq_1))))) (AA (AA (AA (@a71s56.eq_1) (@a71s57.eq_1)) (AA (@a71s59_x) (AA (@a71s60.eq_1) (@a71s61.eq_1)))) (AA (AA (@a71s62.eq_1) (AA (@a71s65_x) (@a71s67_x))) (AA (@a71s69_x) (AA (@a71s71_x) (@a71s73_x))))))) (AA (AA (AA (AA (AA (@a71s75_x) (@a71s76.eq_1)) (AA (@a71s77.eq_1) (AA (@a71s78.eq_1) (@a71s79.eq_1)))) (AA (AA (@a71s80.eq_1) (AA (@a71s81.eq_1) (@a71s82.eq_1))) (AA (@a71s84_x) (AA (@a71s85.eq_1) (@a71s86.eq_1))))) (AA (AA (AA (@a71s87.eq_1) (@a71s88_x)) (AA (@a71s89_x) (AA (@a71s90_x) (@a71s91_x)))) (AA (AA (@a71s92_x) (AA (@a71s93_x) (@a71s94_x))) (AA (@a71s95_x) (AA (@a71s96_x) (@a71s97.eq_1)))))) (AA (AA (AA (AA (@a71s99_x) (@a71s101_x)) (AA (@a71s102.eq_1) (AA (@a71s103.eq_1) (@a71s104.eq_1)))) (AA (AA (@a71s105.eq_1) (AA (@a71s106.eq_1) (@a71c.eq_1))) (AA (@a71s41_k0.eq_1) (AA (@a71s48_k0.eq_1) (@a71s50_k0.eq_1))))) (AA (AA (AA (@a71s67_k0.eq_1) (@a71s69_k0.eq_1)) (AA (@a71s71_k0.eq_1) (AA (@a71s73_k0.eq_1) (@a71s88_k0.eq_1)))) (AA (AA (@a71s89_k0.eq_1) (AA (@a71s90_k0.eq_1) (@a71s92_k0.eq_1))) (AA (@a71s93_k0.eq_1) (AA (@a71s94_k0.eq_1) (@a71s99_k0.eq_1)))))))) := AA (AA (AA (AA (AA (AA (@a71.eq_1) (@a71s1_x)) (AA (@a71s3_x) (AA (@a71s6_x) (@a71s8_x)))) (AA (AA (@a71s9.eq_1) (@a71s10.eq_1)) (AA (@a71s13_x) (AA (@a71s15_x) (@a71s16.eq_1))))) (AA (AA (AA (@a71s17.eq_1) (@a71s20_x)) (AA (@a71s21.eq_1) (AA (@a71s24_x) (@a71s25.eq_1)))) (AA (AA (@a71s28_x) (AA (@a71s29.eq_1) (@a71s32_x))) (AA (@a71s34_x) (AA (@a71s35.eq_1) (@a71s36.eq_1)))))) (AA (AA (AA (AA (@a71s39_x) (@a71s41_x)) (AA (@a71s42.eq_1) (AA (@a71s43.eq_1) (@a71s46_x)))) (AA (AA (@a71s48_x) (AA (@a71s50_x) (@a71s52_x))) (AA (@a71s53.eq_1) (AA (@a71s54.eq_1) (@a71s55.eq_1))))) (AA (AA (AA (@a71s56.eq_1) (@a71s57.eq_1)) (AA (@a71s59_x) (AA (@a71s60.eq_1) (@a71s61.eq_1)))) (AA (AA (@a71s62.eq_1) (AA (@a71s65_x) (@a71s67_x))) (AA (@a71s69_x) (AA (@a71s71_x) (@a71s73_x))))))) (AA (AA (AA (AA (AA (@a71s75_x) (@a71s76.eq_1)) (AA (@a71s77.eq_1) (AA (@a71s78.eq_1) (@a71s79.eq_1)))) (AA (AA (@a71s80.eq_1) (AA (@a71s81.eq_1) (@a71s82.eq_1))) (AA (@a71s84_x) (AA (@a71s85.eq_1) (@a71s86.eq_1))))) (AA (AA (AA (@a71s87.eq_1) (@a71s88_x)) (AA (@a71s89_x) (AA (@a71s90_x) (@a71s91_x)))) (AA (AA (@a71s92_x) (AA (@a71s93_x) (@a71s94_x))) (AA (@a71s95_x) (AA (@a71s96_x) (@a71s97.eq_1)))))) (AA (AA (AA (AA (@a71s99_x) (@a71s101_x)) (AA (@a71s102.eq_1) (AA (@a71s103.eq_1) (@a71s104.eq_1)))) (AA (AA (@a71s105.eq_1) (AA (@a71s106.eq_1) (@a71c.eq_1))) (AA (@a71s41_k0.eq_1) (AA (@a71s48_k0.eq_1) (@a71s50_k0.eq_1))))) (AA (AA (AA (@a71s67_k0.eq_1) (@a71s69_k0.eq_1)) (AA (@a71s71_k0.eq_1) (AA (@a71s73_k0.eq_1) (@a71s88_k0.eq_1)))) (AA (AA (@a71s89_k0.eq_1) (AA (@a71s90_k0.eq_1) (@a71s92_k0.eq_1))) (AA (@a71s93_k0.eq_1) (AA (@a71s94_k0.eq_1) (@a71s99_k0.eq_1)))))))
theorem K72 : type_of% (AA (AA (@a72.eq_1) (AA (@a72s1_x) (@a72s3_x))) (AA (AA (@a72s4.eq_1) (@a72s5.eq_1)) (AA (@a72c.eq_1) (@a72s3_k0.eq_1)))) := AA (AA (@a72.eq_1) (AA (@a72s1_x) (@a72s3_x))) (AA (AA (@a72s4.eq_1) (@a72s5.eq_1)) (AA (@a72c.eq_1) (@a72s3_k0.eq_1)))
theorem K73 : type_of% (AA (AA (@a73.eq_1) (AA (@a73s1_x) (@a73s3_x))) (AA (AA (@a73s4.eq_1) (@a73s5.eq_1)) (AA (@a73c.eq_1) (@a73s3_k0.eq_1)))) := AA (AA (@a73.eq_1) (AA (@a73s1_x) (@a73s3_x))) (AA (AA (@a73s4.eq_1) (@a73s5.eq_1)) (AA (@a73c.eq_1) (@a73s3_k0.eq_1)))
theorem K74 : type_of% (AA (AA (AA (AA (@a74.eq_1) (AA (@a74s1_x) (@a74s3_x))) (AA (AA (@a74s5_x) (@a74s7_x)) (AA (@a74s9_x) (@a74s12_x)))) (AA (AA (@a74s13.eq_1) (AA (@a74s14_x) (@a74s15.eq_1))) (AA (AA (@a74s16.eq_1) (@a74s17.eq_1)) (AA (@a74s19_x) (@a74s20.eq_1))))) (AA (AA (AA (@a74s21.eq_1) (AA (@a74s22.eq_1) (@a74s23.eq_1))) (AA (AA (@a74s24.eq_1) (@a74s26_x)) (AA (@a74s27.eq_1) (@a74s28.eq_1)))) (AA (AA (@a74s29.eq_1) (AA (@a74c.eq_1) (@a74s9_k0.eq_1))) (AA (AA (@a74s9_k1.eq_1) (@a74s14_k0.eq_1)) (AA (@a74s14_k1.eq_1) (@a74s26_k0.eq_1)))))) := AA (AA (AA (AA (@a74.eq_1) (AA (@a74s1_x) (@a74s3_x))) (AA (AA (@a74s5_x) (@a74s7_x)) (AA (@a74s9_x) (@a74s12_x)))) (AA (AA (@a74s13.eq_1) (AA (@a74s14_x) (@a74s15.eq_1))) (AA (AA (@a74s16.eq_1) (@a74s17.eq_1)) (AA (@a74s19_x) (@a74s20.eq_1))))) (AA (AA (AA (@a74s21.eq_1) (AA (@a74s22.eq_1) (@a74s23.eq_1))) (AA (AA (@a74s24.eq_1) (@a74s26_x)) (AA (@a74s27.eq_1) (@a74s28.eq_1)))) (AA (AA (@a74s29.eq_1) (AA (@a74c.eq_1) (@a74s9_k0.eq_1))) (AA (AA (@a74s9_k1.eq_1) (@a74s14_k0.eq_1)) (AA (@a74s14_k1.eq_1) (@a74s26_k0.eq_1)))))
theorem K75 : type_of% (AA (AA (AA (AA (@a75.eq_1) (@a75s1_x)) (AA (@a75s3_x) (AA (@a75s5_x) (@a75s7_x)))) (AA (AA (@a75s10_x) (AA (@a75s11.eq_1) (@a75s12_x))) (AA (@a75s13.eq_1) (AA (@a75s14.eq_1) (@a75s16_x))))) (AA (AA (AA (@a75s17.eq_1) (@a75s18.eq_1)) (AA (@a75s19.eq_1) (AA (@a75s20.eq_1) (@a75s21.eq_1)))) (AA (AA (@a75s23_x) (AA (@a75s24.eq_1) (@a75s25.eq_1))) (AA (@a75s26.eq_1) (AA (@a75c.eq_1) (@a75s12_k0.eq_1)))))) := AA (AA (AA (AA (@a75.eq_1) (@a75s1_x)) (AA (@a75s3_x) (AA (@a75s5_x) (@a75s7_x)))) (AA (AA (@a75s10_x) (AA (@a75s11.eq_1) (@a75s12_x))) (AA (@a75s13.eq_1) (AA (@a75s14.eq_1) (@a75s16_x))))) (AA (AA (AA (@a75s17.eq_1) (@a75s18.eq_1)) (AA (@a75s19.eq_1) (AA (@a75s20.eq_1) (@a75s21.eq_1)))) (AA (AA (@a75s23_x) (AA (@a75s24.eq_1) (@a75s25.eq_1))) (AA (@a75s26.eq_1) (AA (@a75c.eq_1) (@a75s12_k0.eq_1)))))
theorem K76 : type_of% (AA (AA (@a76.eq_1) (AA (@a76s1_x) (@a76s3_x))) (AA (AA (@a76s4.eq_1) (@a76s5.eq_1)) (AA (@a76c.eq_1) (@a76s3_k0.eq_1)))) := AA (AA (@a76.eq_1) (AA (@a76s1_x) (@a76s3_x))) (AA (AA (@a76s4.eq_1) (@a76s5.eq_1)) (AA (@a76c.eq_1) (@a76s3_k0.eq_1)))
theorem K77 : type_of% (AA (AA (AA (AA (@a77.eq_1) (@a77s1_x)) (AA (@a77s3_x) (AA (@a77s5_x) (@a77s7_x)))) (AA (AA (@a77s10_x) (AA (@a77s11.eq_1) (@a77s12_x))) (AA (@a77s13.eq_1) (AA (@a77s14.eq_1) (@a77s16_x))))) (AA (AA (AA (@a77s17.eq_1) (@a77s18.eq_1)) (AA (@a77s19.eq_1) (AA (@a77s20.eq_1) (@a77s21.eq_1)))) (AA (AA (@a77s23_x) (AA (@a77s24.eq_1) (@a77s25.eq_1))) (AA (@a77s26.eq_1) (AA (@a77c.eq_1) (@a77s12_k0.eq_1)))))) := AA (AA (AA (AA (@a77.eq_1) (@a77s1_x)) (AA (@a77s3_x) (AA (@a77s5_x) (@a77s7_x)))) (AA (AA (@a77s10_x) (AA (@a77s11.eq_1) (@a77s12_x))) (AA (@a77s13.eq_1) (AA (@a77s14.eq_1) (@a77s16_x))))) (AA (AA (AA (@a77s17.eq_1) (@a77s18.eq_1)) (AA (@a77s19.eq_1) (AA (@a77s20.eq_1) (@a77s21.eq_1)))) (AA (AA (@a77s23_x) (AA (@a77s24.eq_1) (@a77s25.eq_1))) (AA (@a77s26.eq_1) (AA (@a77c.eq_1) (@a77s12_k0.eq_1)))))
theorem K78 : type_of% (AA (AA (@a78.eq_1) (AA (@a78s1_x) (@a78s3_x))) (AA (AA (@a78s4.eq_1) (@a78s5.eq_1)) (AA (@a78c.eq_1) (@a78s3_k0.eq_1)))) := AA (AA (@a78.eq_1) (AA (@a78s1_x) (@a78s3_x))) (AA (AA (@a78s4.eq_1) (@a78s5.eq_1)) (AA (@a78c.eq_1) (@a78s3_k0.eq_1)))
theorem K79 : type_of% (AA (AA (AA (@a79.eq_1) (@a79s1_x)) (AA (@a79s4_x) (AA (@a79s5.eq_1) (@a79s6_x)))) (AA (AA (@a79s8_x) (AA (@a79s9.eq_1) (@a79s10.eq_1))) (AA (@a79s11.eq_1) (AA (@a79c.eq_1) (@a79s6_k0.eq_1))))) := AA (AA (AA (@a79.eq_1) (@a79s1_x)) (AA (@a79s4_x) (AA (@a79s5.eq_1) (@a79s6_x)))) (AA (AA (@a79s8_x) (AA (@a79s9.eq_1) (@a79s10.eq_1))) (AA (@a79s11.eq_1) (AA (@a79c.eq_1) (@a79s6_k0.eq_1))))
end Go.Cb.CodeA
