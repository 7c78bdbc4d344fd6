/- What the pieces of that code come to, as chains. No conditions. -/
import Derived.Test.YtkfbiiedabbgfaaDoorCodeA
import Derived.Test.YtkfbiiedabbgfaaDoorXAm37
import Derived.KernelRfl
set_option maxRecDepth 100000
set_option linter.unusedVariables false
namespace Go.Cb.CodeA
open Go Go.Cb
theorem a7s1_x (call : CallT) (n : Nat) (v0 v1 v2 v3 v4 v5 v6 v7 v8 : AV) (st : St) : exec call n a7s1 [v0, v1, v2, v3, v4, v5, v6, v7, v8] st =
    obind (semBoxV call [(AV.weak v1)] AV.undef st) fun x0 =>
    obind (p1 (semMv call [(.bool false)] AV.undef x0.2.2)) fun x1 =>
    some (Ex.normal, [v0, v1, x0.2.1, (AV.strip x1), v4, v5, v6, v7, v8], x0.2.2) :=
  (exec_reg call n [2] a7r0 [v0, v1, v2, v3, v4, v5, v6, v7, v8] st).trans (by kernel_rfl)
def a7s4_k0 (call : CallT) (n : Nat) (v0 : AV) (v1 : AV) (v2 : AV) (v4 : AV) (v5 : AV) (v6 : AV) (v7 : AV) (v8 : AV) (x0 : AV × St) : Option Out :=
    obind (p1 (semMv call [(AV.weak (AV.stripB x0.1))] AV.undef x0.2)) fun x1 =>
    some (Ex.normal, [v0, v1, v2, (AV.strip x1), v4, v5, v6, v7, v8], x0.2)
theorem a7s4_k0_x (call : CallT) (n : Nat) (v0 : AV) (v1 : AV) (v2 : AV) (v4 : AV) (v5 : AV) (v6 : AV) (v7 : AV) (v8 : AV) (x0 : AV × St) : a7s4_k0 call n v0 v1 v2 v4 v5 v6 v7 v8 x0 =
    obind (p1 (semMv call [(AV.weak (AV.stripB x0.1))] AV.undef x0.2)) fun x1 =>
    some (Ex.normal, [v0, v1, v2, (AV.strip x1), v4, v5, v6, v7, v8], x0.2) := spine rfl
theorem a7s4_x (call : CallT) (n : Nat) (v0 v1 v2 v3 v4 v5 v6 v7 v8 : AV) (st : St) : exec call n a7s4 [v0, v1, v2, v3, v4, v5, v6, v7, v8] st =
    obind (p2 (semCall 8 call [] AV.undef st)) (a7s4_k0 call n v0 v1 v2 v4 v5 v6 v7 v8) :=
  (exec_reg call n [] a7r3 [v0, v1, v2, v3, v4, v5, v6, v7, v8] st).trans (by kernel_rfl)
def a7s6_k1 (call : CallT) (n : Nat) (v0 : AV) (v1 : AV) (v2 : AV) (v3 : AV) (v4 : AV) (v5 : AV) (v6 : AV) (v7 : AV) (v8 : AV) (x2 : AV) (x4 : AV × St) : Option Out :=
    obind (gv (AV.weak (AV.stripB x2)) false (p1 (semUn .not call [(AV.weak (AV.stripB x4.1))] AV.undef x4.2))) fun x5 =>
    obind (p1 (semPick call [(AV.weak (AV.stripB x2)), (.bool true), (AV.weak (AV.stripB x5))] AV.undef x4.2)) fun x6 =>
    brT (AV.weak (AV.stripB x6)) (exeT call n a7s5 [v0, v1, v2, v3, v4, v5, v6, v7, v8] x4.2) (exeT call n .skip [v0, v1, v2, v3, v4, v5, v6, v7, v8] x4.2)
theorem a7s6_k1_x (call : CallT) (n : Nat) (v0 : AV) (v1 : AV) (v2 : AV) (v3 : AV) (v4 : AV) (v5 : AV) (v6 : AV) (v7 : AV) (v8 : AV) (x2 : AV) (x4 : AV × St) : a7s6_k1 call n v0 v1 v2 v3 v4 v5 v6 v7 v8 x2 x4 =
    obind (gv (AV.weak (AV.stripB x2)) false (p1 (semUn .not call [(AV.weak (AV.stripB x4.1))] AV.undef x4.2))) fun x5 =>
    obind (p1 (semPick call [(AV.weak (AV.stripB x2)), (.bool true), (AV.weak (AV.stripB x5))] AV.undef x4.2)) fun x6 =>
    brT (AV.weak (AV.stripB x6)) (exeT call n a7s5 [v0, v1, v2, v3, v4, v5, v6, v7, v8] x4.2) (exeT call n .skip [v0, v1, v2, v3, v4, v5, v6, v7, v8] x4.2) := spine rfl
def a7s6_k0 (call : CallT) (n : Nat) (v0 : AV) (v1 : AV) (v2 : AV) (v3 : AV) (v4 : AV) (v5 : AV) (v6 : AV) (v7 : AV) (v8 : AV) (x1 : AV × St) : Option Out :=
    obind (p1 (semMv call [(AV.weak (AV.stripB x1.1))] AV.undef x1.2)) fun x2 =>
    obind (gv (AV.weak (AV.stripB x2)) false (p1 (semLdLc 2 true 5 call [(locOf 2 v2)] v2 x1.2))) fun x3 =>
    obind (gv2 (AV.weak (AV.stripB x2)) false x1.2 (p2 (semCall 20 call [(AV.weak (AV.stripB x3))] AV.undef x1.2))) (a7s6_k1 call n v0 v1 v2 v3 v4 v5 v6 v7 v8 x2)
theorem a7s6_k0_x (call : CallT) (n : Nat) (v0 : AV) (v1 : AV) (v2 : AV) (v3 : AV) (v4 : AV) (v5 : AV) (v6 : AV) (v7 : AV) (v8 : AV) (x1 : AV × St) : a7s6_k0 call n v0 v1 v2 v3 v4 v5 v6 v7 v8 x1 =
    obind (p1 (semMv call [(AV.weak (AV.stripB x1.1))] AV.undef x1.2)) fun x2 =>
    obind (gv (AV.weak (AV.stripB x2)) false (p1 (semLdLc 2 true 5 call [(locOf 2 v2)] v2 x1.2))) fun x3 =>
    obind (gv2 (AV.weak (AV.stripB x2)) false x1.2 (p2 (semCall 20 call [(AV.weak (AV.stripB x3))] AV.undef x1.2))) (a7s6_k1 call n v0 v1 v2 v3 v4 v5 v6 v7 v8 x2) := spine rfl
theorem a7s6_x (call : CallT) (n : Nat) (v0 v1 v2 v3 v4 v5 v6 v7 v8 : AV) (st : St) : exec call n a7s6 [v0, v1, v2, v3, v4, v5, v6, v7, v8] st =
    obind (p1 (semLdLc 2 true 5 call [(locOf 2 v2)] v2 st)) fun x0 =>
    obind (p2 (semCall 19 call [(AV.weak (AV.stripB x0))] AV.undef st)) (a7s6_k0 call n v0 v1 v2 v3 v4 v5 v6 v7 v8) :=
  (exec_testT call n [] a7r2 (.t 16) a7s5 .skip [v0, v1, v2, v3, v4, v5, v6, v7, v8] st).trans (by kernel_rfl)
theorem a7s8_x (call : CallT) (n : Nat) (v0 v1 v2 v3 v4 v5 v6 v7 v8 : AV) (st : St) : exec call n a7s8 [v0, v1, v2, v3, v4, v5, v6, v7, v8] st =
    obind (p1 (semMv call [(.nilp)] AV.undef st)) fun x0 =>
    some (Ex.normal, [v0, v1, v2, v3, (AV.strip x0), v5, v6, v7, v8], st) :=
  (exec_reg call n [] a7r7 [v0, v1, v2, v3, v4, v5, v6, v7, v8] st).trans (by kernel_rfl)
def a7s10_k0 (call : CallT) (n : Nat) (v0 : AV) (v1 : AV) (v2 : AV) (v3 : AV) (v4 : AV) (v7 : AV) (v8 : AV) (x2 : AV × St) : Option Out :=
    obind (p1 (semMv call [(AV.weak (AV.stripB x2.1))] AV.undef x2.2)) fun x3 =>
    obind (p1 (semExt 0 call [(AV.weak (AV.stripB x3))] AV.undef x2.2)) fun x4 =>
    obind (p1 (semExt 1 call [(AV.weak (AV.stripB x3))] AV.undef x2.2)) fun x5 =>
    obind (semAlloc [.int .u8 0, .str [], .list true [], .list true []] call [] AV.undef x2.2) fun x6 =>
    obind (semStLc 5 4 call [(locOf 5 x6.2.1), (AV.stripB x4)] x6.2.1 x6.2.2) fun x7 =>
    obind (p1 (semMv call [(AV.weak (AV.stripB x5))] AV.undef x7.2.2)) fun x8 =>
    some (Ex.normal, [v0, v1, v2, v3, v4, x7.2.1, (AV.strip x8), v7, v8], x7.2.2)
theorem a7s10_k0_x (call : CallT) (n : Nat) (v0 : AV) (v1 : AV) (v2 : AV) (v3 : AV) (v4 : AV) (v7 : AV) (v8 : AV) (x2 : AV × St) : a7s10_k0 call n v0 v1 v2 v3 v4 v7 v8 x2 =
    obind (p1 (semMv call [(AV.weak (AV.stripB x2.1))] AV.undef x2.2)) fun x3 =>
    obind (p1 (semExt 0 call [(AV.weak (AV.stripB x3))] AV.undef x2.2)) fun x4 =>
    obind (p1 (semExt 1 call [(AV.weak (AV.stripB x3))] AV.undef x2.2)) fun x5 =>
    obind (semAlloc [.int .u8 0, .str [], .list true [], .list true []] call [] AV.undef x2.2) fun x6 =>
    obind (semStLc 5 4 call [(locOf 5 x6.2.1), (AV.stripB x4)] x6.2.1 x6.2.2) fun x7 =>
    obind (p1 (semMv call [(AV.weak (AV.stripB x5))] AV.undef x7.2.2)) fun x8 =>
    some (Ex.normal, [v0, v1, v2, v3, v4, x7.2.1, (AV.strip x8), v7, v8], x7.2.2) := spine rfl
theorem a7s10_x (call : CallT) (n : Nat) (v0 v1 v2 v3 v4 v5 v6 v7 v8 : AV) (st : St) : exec call n a7s10 [v0, v1, v2, v3, v4, v5, v6, v7, v8] st =
    obind (p1 (semMv call [(AV.weak v4)] AV.undef st)) fun x0 =>
    obind (p1 (semMv call [(AV.weak v0)] AV.undef st)) fun x1 =>
    obind (p2 (semCall 15 call [(AV.weak (AV.stripB x0)), (AV.weak (AV.stripB x1))] AV.undef st)) (a7s10_k0 call n v0 v1 v2 v3 v4 v7 v8) :=
  (exec_reg call n [5] a7r9 [v0, v1, v2, v3, v4, v5, v6, v7, v8] st).trans (by kernel_rfl)
def a7s12_k0 (call : CallT) (n : Nat) (v0 : AV) (v1 : AV) (v2 : AV) (v3 : AV) (v4 : AV) (v5 : AV) (v6 : AV) (x3 : AV × St) : Option Out :=
    obind (p1 (semMv call [(AV.weak (AV.stripB x3.1))] AV.undef x3.2)) fun x4 =>
    obind (p1 (semExt 0 call [(AV.weak (AV.stripB x4))] AV.undef x3.2)) fun x5 =>
    obind (p1 (semExt 1 call [(AV.weak (AV.stripB x4))] AV.undef x3.2)) fun x6 =>
    obind (semAlloc [.str [], .list true [], .str [], .list true [], .bool false, .bool false, .int .u8 0, .int .i64 0, .str [], .list true [], .list true []] call [] AV.undef x3.2) fun x7 =>
    obind (semStLc 7 11 call [(locOf 7 x7.2.1), (AV.stripB x5)] x7.2.1 x7.2.2) fun x8 =>
    obind (p1 (semMv call [(AV.weak (AV.stripB x6))] AV.undef x8.2.2)) fun x9 =>
    some (Ex.normal, [v0, v1, v2, v3, v4, v5, v6, x8.2.1, (AV.strip x9)], x8.2.2)
theorem a7s12_k0_x (call : CallT) (n : Nat) (v0 : AV) (v1 : AV) (v2 : AV) (v3 : AV) (v4 : AV) (v5 : AV) (v6 : AV) (x3 : AV × St) : a7s12_k0 call n v0 v1 v2 v3 v4 v5 v6 x3 =
    obind (p1 (semMv call [(AV.weak (AV.stripB x3.1))] AV.undef x3.2)) fun x4 =>
    obind (p1 (semExt 0 call [(AV.weak (AV.stripB x4))] AV.undef x3.2)) fun x5 =>
    obind (p1 (semExt 1 call [(AV.weak (AV.stripB x4))] AV.undef x3.2)) fun x6 =>
    obind (semAlloc [.str [], .list true [], .str [], .list true [], .bool false, .bool false, .int .u8 0, .int .i64 0, .str [], .list true [], .list true []] call [] AV.undef x3.2) fun x7 =>
    obind (semStLc 7 11 call [(locOf 7 x7.2.1), (AV.stripB x5)] x7.2.1 x7.2.2) fun x8 =>
    obind (p1 (semMv call [(AV.weak (AV.stripB x6))] AV.undef x8.2.2)) fun x9 =>
    some (Ex.normal, [v0, v1, v2, v3, v4, v5, v6, x8.2.1, (AV.strip x9)], x8.2.2) := spine rfl
theorem a7s12_x (call : CallT) (n : Nat) (v0 v1 v2 v3 v4 v5 v6 v7 v8 : AV) (st : St) : exec call n a7s12 [v0, v1, v2, v3, v4, v5, v6, v7, v8] st =
    obind (p1 (semMv call [(AV.weak v4)] AV.undef st)) fun x0 =>
    obind (p1 (semMv call [(AV.weak v0)] AV.undef st)) fun x1 =>
    obind (p1 (semMv call [(AV.weak v0)] AV.undef st)) fun x2 =>
    obind (p2 (semCall 17 call [(AV.weak (AV.stripB x0)), (AV.weak (AV.stripB x1)), (AV.weak (AV.stripB x2))] AV.undef st)) (a7s12_k0 call n v0 v1 v2 v3 v4 v5 v6) :=
  (exec_reg call n [7] a7r11 [v0, v1, v2, v3, v4, v5, v6, v7, v8] st).trans (by kernel_rfl)
def a7s14_k7 (call : CallT) (n : Nat) (v0 : AV) (v1 : AV) (v2 : AV) (v4 : AV) (v5 : AV) (v6 : AV) (v7 : AV) (v8 : AV) (x46 : AV) (x48 : AV × St) : Option Out :=
    obind (gv (AV.weak (AV.stripB x46)) true (p1 (semLenL call [(AV.weak (AV.stripB x48.1))] AV.undef x48.2))) fun x49 =>
    obind (gv (AV.weak (AV.stripB x46)) true (p1 (semBin .eql call [(AV.weak (AV.stripB x49)), (.int .i64 0)] AV.undef x48.2))) fun x50 =>
    obind (p1 (semPick call [(AV.weak (AV.stripB x46)), (AV.weak (AV.stripB x50)), (.bool false)] AV.undef x48.2)) fun x51 =>
    obind (p1 (semMv call [(AV.weak (AV.stripB x51))] AV.undef x48.2)) fun x52 =>
    some (Ex.normal, [v0, v1, v2, (AV.strip x52), v4, v5, v6, v7, v8], x48.2)
theorem a7s14_k7_x (call : CallT) (n : Nat) (v0 : AV) (v1 : AV) (v2 : AV) (v4 : AV) (v5 : AV) (v6 : AV) (v7 : AV) (v8 : AV) (x46 : AV) (x48 : AV × St) : a7s14_k7 call n v0 v1 v2 v4 v5 v6 v7 v8 x46 x48 =
    obind (gv (AV.weak (AV.stripB x46)) true (p1 (semLenL call [(AV.weak (AV.stripB x48.1))] AV.undef x48.2))) fun x49 =>
    obind (gv (AV.weak (AV.stripB x46)) true (p1 (semBin .eql call [(AV.weak (AV.stripB x49)), (.int .i64 0)] AV.undef x48.2))) fun x50 =>
    obind (p1 (semPick call [(AV.weak (AV.stripB x46)), (AV.weak (AV.stripB x50)), (.bool false)] AV.undef x48.2)) fun x51 =>
    obind (p1 (semMv call [(AV.weak (AV.stripB x51))] AV.undef x48.2)) fun x52 =>
    some (Ex.normal, [v0, v1, v2, (AV.strip x52), v4, v5, v6, v7, v8], x48.2) := spine rfl
def a7s14_k6 (call : CallT) (n : Nat) (v0 : AV) (v1 : AV) (v2 : AV) (v4 : AV) (v5 : AV) (v6 : AV) (v7 : AV) (v8 : AV) (x39 : AV) (x42 : AV × St) : Option Out :=
    obind (gv (AV.weak (AV.stripB x39)) true (p1 (semLenL call [(AV.weak (AV.stripB x42.1))] AV.undef x42.2))) fun x43 =>
    obind (gv (AV.weak (AV.stripB x39)) true (p1 (semBin .eql call [(AV.weak (AV.stripB x43)), (.int .i64 0)] AV.undef x42.2))) fun x44 =>
    obind (p1 (semPick call [(AV.weak (AV.stripB x39)), (AV.weak (AV.stripB x44)), (.bool false)] AV.undef x42.2)) fun x45 =>
    obind (p1 (semMv call [(AV.weak (AV.stripB x45))] AV.undef x42.2)) fun x46 =>
    obind (gv (AV.weak (AV.stripB x46)) true (p1 (semMv call [(AV.weak v4)] AV.undef x42.2))) fun x47 =>
    obind (gv2 (AV.weak (AV.stripB x46)) true x42.2 (p2 (semCall 16 call [(AV.weak (AV.stripB x47))] AV.undef x42.2))) (a7s14_k7 call n v0 v1 v2 v4 v5 v6 v7 v8 x46)
theorem a7s14_k6_x (call : CallT) (n : Nat) (v0 : AV) (v1 : AV) (v2 : AV) (v4 : AV) (v5 : AV) (v6 : AV) (v7 : AV) (v8 : AV) (x39 : AV) (x42 : AV × St) : a7s14_k6 call n v0 v1 v2 v4 v5 v6 v7 v8 x39 x42 =
    obind (gv (AV.weak (AV.stripB x39)) true (p1 (semLenL call [(AV.weak (AV.stripB x42.1))] AV.undef x42.2))) fun x43 =>
    obind (gv (AV.weak (AV.stripB x39)) true (p1 (semBin .eql call [(AV.weak (AV.stripB x43)), (.int .i64 0)] AV.undef x42.2))) fun x44 =>
    obind (p1 (semPick call [(AV.weak (AV.stripB x39)), (AV.weak (AV.stripB x44)), (.bool false)] AV.undef x42.2)) fun x45 =>
    obind (p1 (semMv call [(AV.weak (AV.stripB x45))] AV.undef x42.2)) fun x46 =>
    obind (gv (AV.weak (AV.stripB x46)) true (p1 (semMv call [(AV.weak v4)] AV.undef x42.2))) fun x47 =>
    obind (gv2 (AV.weak (AV.stripB x46)) true x42.2 (p2 (semCall 16 call [(AV.weak (AV.stripB x47))] AV.undef x42.2))) (a7s14_k7 call n v0 v1 v2 v4 v5 v6 v7 v8 x46) := spine rfl
def a7s14_k5 (call : CallT) (n : Nat) (v0 : AV) (v1 : AV) (v2 : AV) (v4 : AV) (v5 : AV) (v6 : AV) (v7 : AV) (v8 : AV) (x33 : AV) (x36 : AV × St) : Option Out :=
    obind (gv (AV.weak (AV.stripB x33)) true (p1 (semUn .not call [(AV.weak (AV.stripB x36.1))] AV.undef x36.2))) fun x37 =>
    obind (p1 (semPick call [(AV.weak (AV.stripB x33)), (AV.weak (AV.stripB x37)), (.bool false)] AV.undef x36.2)) fun x38 =>
    obind (p1 (semMv call [(AV.weak (AV.stripB x38))] AV.undef x36.2)) fun x39 =>
    obind (gv (AV.weak (AV.stripB x39)) true (p1 (semMv call [(AV.weak v4)] AV.undef x36.2))) fun x40 =>
    obind (gv (AV.weak (AV.stripB x39)) true (p1 (semMv call [(AV.weak v0)] AV.undef x36.2))) fun x41 =>
    obind (gv2 (AV.weak (AV.stripB x39)) true x36.2 (p2 (semCall 11 call [(AV.weak (AV.stripB x40)), (AV.weak (AV.stripB x41))] AV.undef x36.2))) (a7s14_k6 call n v0 v1 v2 v4 v5 v6 v7 v8 x39)
theorem a7s14_k5_x (call : CallT) (n : Nat) (v0 : AV) (v1 : AV) (v2 : AV) (v4 : AV) (v5 : AV) (v6 : AV) (v7 : AV) (v8 : AV) (x33 : AV) (x36 : AV × St) : a7s14_k5 call n v0 v1 v2 v4 v5 v6 v7 v8 x33 x36 =
    obind (gv (AV.weak (AV.stripB x33)) true (p1 (semUn .not call [(AV.weak (AV.stripB x36.1))] AV.undef x36.2))) fun x37 =>
    obind (p1 (semPick call [(AV.weak (AV.stripB x33)), (AV.weak (AV.stripB x37)), (.bool false)] AV.undef x36.2)) fun x38 =>
    obind (p1 (semMv call [(AV.weak (AV.stripB x38))] AV.undef x36.2)) fun x39 =>
    obind (gv (AV.weak (AV.stripB x39)) true (p1 (semMv call [(AV.weak v4)] AV.undef x36.2))) fun x40 =>
    obind (gv (AV.weak (AV.stripB x39)) true (p1 (semMv call [(AV.weak v0)] AV.undef x36.2))) fun x41 =>
    obind (gv2 (AV.weak (AV.stripB x39)) true x36.2 (p2 (semCall 11 call [(AV.weak (AV.stripB x40)), (AV.weak (AV.stripB x41))] AV.undef x36.2))) (a7s14_k6 call n v0 v1 v2 v4 v5 v6 v7 v8 x39) := spine rfl
def a7s14_k4 (call : CallT) (n : Nat) (v0 : AV) (v1 : AV) (v2 : AV) (v4 : AV) (v5 : AV) (v6 : AV) (v7 : AV) (v8 : AV) (x27 : AV) (x30 : AV × St) : Option Out :=
    obind (gv (AV.weak (AV.stripB x27)) true (p1 (semUn .not call [(AV.weak (AV.stripB x30.1))] AV.undef x30.2))) fun x31 =>
    obind (p1 (semPick call [(AV.weak (AV.stripB x27)), (AV.weak (AV.stripB x31)), (.bool false)] AV.undef x30.2)) fun x32 =>
    obind (p1 (semMv call [(AV.weak (AV.stripB x32))] AV.undef x30.2)) fun x33 =>
    obind (gv (AV.weak (AV.stripB x33)) true (p1 (semMv call [(AV.weak v4)] AV.undef x30.2))) fun x34 =>
    obind (gv (AV.weak (AV.stripB x33)) true (p1 (semMv call [(AV.weak v0)] AV.undef x30.2))) fun x35 =>
    obind (gv2 (AV.weak (AV.stripB x33)) true x30.2 (p2 (semCall 12 call [(AV.weak (AV.stripB x34)), (AV.weak (AV.stripB x35))] AV.undef x30.2))) (a7s14_k5 call n v0 v1 v2 v4 v5 v6 v7 v8 x33)
theorem a7s14_k4_x (call : CallT) (n : Nat) (v0 : AV) (v1 : AV) (v2 : AV) (v4 : AV) (v5 : AV) (v6 : AV) (v7 : AV) (v8 : AV) (x27 : AV) (x30 : AV × St) : a7s14_k4 call n v0 v1 v2 v4 v5 v6 v7 v8 x27 x30 =
    obind (gv (AV.weak (AV.stripB x27)) true (p1 (semUn .not call [(AV.weak (AV.stripB x30.1))] AV.undef x30.2))) fun x31 =>
    obind (p1 (semPick call [(AV.weak (AV.stripB x27)), (AV.weak (AV.stripB x31)), (.bool false)] AV.undef x30.2)) fun x32 =>
    obind (p1 (semMv call [(AV.weak (AV.stripB x32))] AV.undef x30.2)) fun x33 =>
    obind (gv (AV.weak (AV.stripB x33)) true (p1 (semMv call [(AV.weak v4)] AV.undef x30.2))) fun x34 =>
    obind (gv (AV.weak (AV.stripB x33)) true (p1 (semMv call [(AV.weak v0)] AV.undef x30.2))) fun x35 =>
    obind (gv2 (AV.weak (AV.stripB x33)) true x30.2 (p2 (semCall 12 call [(AV.weak (AV.stripB x34)), (AV.weak (AV.stripB x35))] AV.undef x30.2))) (a7s14_k5 call n v0 v1 v2 v4 v5 v6 v7 v8 x33) := spine rfl
def a7s14_k3 (call : CallT) (n : Nat) (v0 : AV) (v1 : AV) (v2 : AV) (v4 : AV) (v5 : AV) (v6 : AV) (v7 : AV) (v8 : AV) (x21 : AV) (x24 : AV × St) : Option Out :=
    obind (gv (AV.weak (AV.stripB x21)) true (p1 (semUn .not call [(AV.weak (AV.stripB x24.1))] AV.undef x24.2))) fun x25 =>
    obind (p1 (semPick call [(AV.weak (AV.stripB x21)), (AV.weak (AV.stripB x25)), (.bool false)] AV.undef x24.2)) fun x26 =>
    obind (p1 (semMv call [(AV.weak (AV.stripB x26))] AV.undef x24.2)) fun x27 =>
    obind (gv (AV.weak (AV.stripB x27)) true (p1 (semMv call [(AV.weak v4)] AV.undef x24.2))) fun x28 =>
    obind (gv (AV.weak (AV.stripB x27)) true (p1 (semMv call [(AV.weak v0)] AV.undef x24.2))) fun x29 =>
    obind (gv2 (AV.weak (AV.stripB x27)) true x24.2 (p2 (semCall 24 call [(AV.weak (AV.stripB x28)), (AV.weak (AV.stripB x29))] AV.undef x24.2))) (a7s14_k4 call n v0 v1 v2 v4 v5 v6 v7 v8 x27)
theorem a7s14_k3_x (call : CallT) (n : Nat) (v0 : AV) (v1 : AV) (v2 : AV) (v4 : AV) (v5 : AV) (v6 : AV) (v7 : AV) (v8 : AV) (x21 : AV) (x24 : AV × St) : a7s14_k3 call n v0 v1 v2 v4 v5 v6 v7 v8 x21 x24 =
    obind (gv (AV.weak (AV.stripB x21)) true (p1 (semUn .not call [(AV.weak (AV.stripB x24.1))] AV.undef x24.2))) fun x25 =>
    obind (p1 (semPick call [(AV.weak (AV.stripB x21)), (AV.weak (AV.stripB x25)), (.bool false)] AV.undef x24.2)) fun x26 =>
    obind (p1 (semMv call [(AV.weak (AV.stripB x26))] AV.undef x24.2)) fun x27 =>
    obind (gv (AV.weak (AV.stripB x27)) true (p1 (semMv call [(AV.weak v4)] AV.undef x24.2))) fun x28 =>
    obind (gv (AV.weak (AV.stripB x27)) true (p1 (semMv call [(AV.weak v0)] AV.undef x24.2))) fun x29 =>
    obind (gv2 (AV.weak (AV.stripB x27)) true x24.2 (p2 (semCall 24 call [(AV.weak (AV.stripB x28)), (AV.weak (AV.stripB x29))] AV.undef x24.2))) (a7s14_k4 call n v0 v1 v2 v4 v5 v6 v7 v8 x27) := spine rfl
def a7s14_k2 (call : CallT) (n : Nat) (v0 : AV) (v1 : AV) (v2 : AV) (v4 : AV) (v5 : AV) (v6 : AV) (v7 : AV) (v8 : AV) (x15 : AV) (x18 : AV × St) : Option Out :=
    obind (gv (AV.weak (AV.stripB x15)) true (p1 (semUn .not call [(AV.weak (AV.stripB x18.1))] AV.undef x18.2))) fun x19 =>
    obind (p1 (semPick call [(AV.weak (AV.stripB x15)), (AV.weak (AV.stripB x19)), (.bool false)] AV.undef x18.2)) fun x20 =>
    obind (p1 (semMv call [(AV.weak (AV.stripB x20))] AV.undef x18.2)) fun x21 =>
    obind (gv (AV.weak (AV.stripB x21)) true (p1 (semMv call [(AV.weak v4)] AV.undef x18.2))) fun x22 =>
    obind (gv (AV.weak (AV.stripB x21)) true (p1 (semMv call [(AV.weak v0)] AV.undef x18.2))) fun x23 =>
    obind (gv2 (AV.weak (AV.stripB x21)) true x18.2 (p2 (semCall 23 call [(AV.weak (AV.stripB x22)), (AV.weak (AV.stripB x23))] AV.undef x18.2))) (a7s14_k3 call n v0 v1 v2 v4 v5 v6 v7 v8 x21)
theorem a7s14_k2_x (call : CallT) (n : Nat) (v0 : AV) (v1 : AV) (v2 : AV) (v4 : AV) (v5 : AV) (v6 : AV) (v7 : AV) (v8 : AV) (x15 : AV) (x18 : AV × St) : a7s14_k2 call n v0 v1 v2 v4 v5 v6 v7 v8 x15 x18 =
    obind (gv (AV.weak (AV.stripB x15)) true (p1 (semUn .not call [(AV.weak (AV.stripB x18.1))] AV.undef x18.2))) fun x19 =>
    obind (p1 (semPick call [(AV.weak (AV.stripB x15)), (AV.weak (AV.stripB x19)), (.bool false)] AV.undef x18.2)) fun x20 =>
    obind (p1 (semMv call [(AV.weak (AV.stripB x20))] AV.undef x18.2)) fun x21 =>
    obind (gv (AV.weak (AV.stripB x21)) true (p1 (semMv call [(AV.weak v4)] AV.undef x18.2))) fun x22 =>
    obind (gv (AV.weak (AV.stripB x21)) true (p1 (semMv call [(AV.weak v0)] AV.undef x18.2))) fun x23 =>
    obind (gv2 (AV.weak (AV.stripB x21)) true x18.2 (p2 (semCall 23 call [(AV.weak (AV.stripB x22)), (AV.weak (AV.stripB x23))] AV.undef x18.2))) (a7s14_k3 call n v0 v1 v2 v4 v5 v6 v7 v8 x21) := spine rfl
def a7s14_k1 (call : CallT) (n : Nat) (v0 : AV) (v1 : AV) (v2 : AV) (v4 : AV) (v5 : AV) (v6 : AV) (v7 : AV) (v8 : AV) (x9 : AV) (x12 : AV × St) : Option Out :=
    obind (gv (AV.weak (AV.stripB x9)) true (p1 (semUn .not call [(AV.weak (AV.stripB x12.1))] AV.undef x12.2))) fun x13 =>
    obind (p1 (semPick call [(AV.weak (AV.stripB x9)), (AV.weak (AV.stripB x13)), (.bool false)] AV.undef x12.2)) fun x14 =>
    obind (p1 (semMv call [(AV.weak (AV.stripB x14))] AV.undef x12.2)) fun x15 =>
    obind (gv (AV.weak (AV.stripB x15)) true (p1 (semMv call [(AV.weak v4)] AV.undef x12.2))) fun x16 =>
    obind (gv (AV.weak (AV.stripB x15)) true (p1 (semMv call [(AV.weak v0)] AV.undef x12.2))) fun x17 =>
    obind (gv2 (AV.weak (AV.stripB x15)) true x12.2 (p2 (semCall 22 call [(AV.weak (AV.stripB x16)), (AV.weak (AV.stripB x17))] AV.undef x12.2))) (a7s14_k2 call n v0 v1 v2 v4 v5 v6 v7 v8 x15)
theorem a7s14_k1_x (call : CallT) (n : Nat) (v0 : AV) (v1 : AV) (v2 : AV) (v4 : AV) (v5 : AV) (v6 : AV) (v7 : AV) (v8 : AV) (x9 : AV) (x12 : AV × St) : a7s14_k1 call n v0 v1 v2 v4 v5 v6 v7 v8 x9 x12 =
    obind (gv (AV.weak (AV.stripB x9)) true (p1 (semUn .not call [(AV.weak (AV.stripB x12.1))] AV.undef x12.2))) fun x13 =>
    obind (p1 (semPick call [(AV.weak (AV.stripB x9)), (AV.weak (AV.stripB x13)), (.bool false)] AV.undef x12.2)) fun x14 =>
    obind (p1 (semMv call [(AV.weak (AV.stripB x14))] AV.undef x12.2)) fun x15 =>
    obind (gv (AV.weak (AV.stripB x15)) true (p1 (semMv call [(AV.weak v4)] AV.undef x12.2))) fun x16 =>
    obind (gv (AV.weak (AV.stripB x15)) true (p1 (semMv call [(AV.weak v0)] AV.undef x12.2))) fun x17 =>
    obind (gv2 (AV.weak (AV.stripB x15)) true x12.2 (p2 (semCall 22 call [(AV.weak (AV.stripB x16)), (AV.weak (AV.stripB x17))] AV.undef x12.2))) (a7s14_k2 call n v0 v1 v2 v4 v5 v6 v7 v8 x15) := spine rfl
def a7s14_k0 (call : CallT) (n : Nat) (v0 : AV) (v1 : AV) (v2 : AV) (v4 : AV) (v5 : AV) (v6 : AV) (v7 : AV) (v8 : AV) (x0 : AV × St) : Option Out :=
    obind (p1 (semMv call [(AV.weak (AV.stripB x0.1))] AV.undef x0.2)) fun x1 =>
    obind (gv (AV.weak (AV.stripB x1)) true (p1 (semMv call [(AV.weak v6)] AV.undef x0.2))) fun x2 =>
    obind (gv (AV.weak (AV.stripB x1)) true (p1 (semUn .not call [(AV.weak (AV.stripB x2))] AV.undef x0.2))) fun x3 =>
    obind (p1 (semPick call [(AV.weak (AV.stripB x1)), (AV.weak (AV.stripB x3)), (.bool false)] AV.undef x0.2)) fun x4 =>
    obind (p1 (semMv call [(AV.weak (AV.stripB x4))] AV.undef x0.2)) fun x5 =>
    obind (gv (AV.weak (AV.stripB x5)) true (p1 (semMv call [(AV.weak v8)] AV.undef x0.2))) fun x6 =>
    obind (gv (AV.weak (AV.stripB x5)) true (p1 (semUn .not call [(AV.weak (AV.stripB x6))] AV.undef x0.2))) fun x7 =>
    obind (p1 (semPick call [(AV.weak (AV.stripB x5)), (AV.weak (AV.stripB x7)), (.bool false)] AV.undef x0.2)) fun x8 =>
    obind (p1 (semMv call [(AV.weak (AV.stripB x8))] AV.undef x0.2)) fun x9 =>
    obind (gv (AV.weak (AV.stripB x9)) true (p1 (semMv call [(AV.weak v4)] AV.undef x0.2))) fun x10 =>
    obind (gv (AV.weak (AV.stripB x9)) true (p1 (semMv call [(AV.weak v0)] AV.undef x0.2))) fun x11 =>
    obind (gv2 (AV.weak (AV.stripB x9)) true x0.2 (p2 (semCall 21 call [(AV.weak (AV.stripB x10)), (AV.weak (AV.stripB x11))] AV.undef x0.2))) (a7s14_k1 call n v0 v1 v2 v4 v5 v6 v7 v8 x9)
theorem a7s14_k0_x (call : CallT) (n : Nat) (v0 : AV) (v1 : AV) (v2 : AV) (v4 : AV) (v5 : AV) (v6 : AV) (v7 : AV) (v8 : AV) (x0 : AV × St) : a7s14_k0 call n v0 v1 v2 v4 v5 v6 v7 v8 x0 =
    obind (p1 (semMv call [(AV.weak (AV.stripB x0.1))] AV.undef x0.2)) fun x1 =>
    obind (gv (AV.weak (AV.stripB x1)) true (p1 (semMv call [(AV.weak v6)] AV.undef x0.2))) fun x2 =>
    obind (gv (AV.weak (AV.stripB x1)) true (p1 (semUn .not call [(AV.weak (AV.stripB x2))] AV.undef x0.2))) fun x3 =>
    obind (p1 (semPick call [(AV.weak (AV.stripB x1)), (AV.weak (AV.stripB x3)), (.bool false)] AV.undef x0.2)) fun x4 =>
    obind (p1 (semMv call [(AV.weak (AV.stripB x4))] AV.undef x0.2)) fun x5 =>
    obind (gv (AV.weak (AV.stripB x5)) true (p1 (semMv call [(AV.weak v8)] AV.undef x0.2))) fun x6 =>
    obind (gv (AV.weak (AV.stripB x5)) true (p1 (semUn .not call [(AV.weak (AV.stripB x6))] AV.undef x0.2))) fun x7 =>
    obind (p1 (semPick call [(AV.weak (AV.stripB x5)), (AV.weak (AV.stripB x7)), (.bool false)] AV.undef x0.2)) fun x8 =>
    obind (p1 (semMv call [(AV.weak (AV.stripB x8))] AV.undef x0.2)) fun x9 =>
    obind (gv (AV.weak (AV.stripB x9)) true (p1 (semMv call [(AV.weak v4)] AV.undef x0.2))) fun x10 =>
    obind (gv (AV.weak (AV.stripB x9)) true (p1 (semMv call [(AV.weak v0)] AV.undef x0.2))) fun x11 =>
    obind (gv2 (AV.weak (AV.stripB x9)) true x0.2 (p2 (semCall 21 call [(AV.weak (AV.stripB x10)), (AV.weak (AV.stripB x11))] AV.undef x0.2))) (a7s14_k1 call n v0 v1 v2 v4 v5 v6 v7 v8 x9) := spine rfl
theorem a7s14_x (call : CallT) (n : Nat) (v0 v1 v2 v3 v4 v5 v6 v7 v8 : AV) (st : St) : exec call n a7s14 [v0, v1, v2, v3, v4, v5, v6, v7, v8] st =
    obind (p2 (semCall 8 call [] AV.undef st)) (a7s14_k0 call n v0 v1 v2 v4 v5 v6 v7 v8) :=
  (exec_reg call n [] a7r13 [v0, v1, v2, v3, v4, v5, v6, v7, v8] st).trans (by kernel_rfl)
theorem a11s1_x (call : CallT) (n : Nat) (v0 v1 v2 v3 v4 v5 v6 v7 v8 v9 : AV) (st : St) : exec call n a11s1 [v0, v1, v2, v3, v4, v5, v6, v7, v8, v9] st =
    obind (p1 (semMv call [(.list true [])] AV.undef st)) fun x0 =>
    some (Ex.normal, [v0, v1, (AV.strip x0), v3, v4, v5, v6, v7, v8, v9], st) :=
  (exec_reg call n [] a11r0 [v0, v1, v2, v3, v4, v5, v6, v7, v8, v9] st).trans (by kernel_rfl)
def a11s3_k0 (call : CallT) (n : Nat) (v0 : AV) (v1 : AV) (v2 : AV) (v5 : AV) (v6 : AV) (v7 : AV) (v8 : AV) (v9 : AV) (x2 : AV × St) : Option Out :=
    obind (p1 (semMv call [(AV.weak (AV.stripB x2.1))] AV.undef x2.2)) fun x3 =>
    obind (p1 (semExt 0 call [(AV.weak (AV.stripB x3))] AV.undef x2.2)) fun x4 =>
    obind (p1 (semExt 1 call [(AV.weak (AV.stripB x3))] AV.undef x2.2)) fun x5 =>
    obind (semAlloc [.int .u8 0, .str [], .list true [], .list true []] call [] AV.undef x2.2) fun x6 =>
    obind (semStLc 3 4 call [(locOf 3 x6.2.1), (AV.stripB x4)] x6.2.1 x6.2.2) fun x7 =>
    obind (p1 (semMv call [(AV.weak (AV.stripB x5))] AV.undef x7.2.2)) fun x8 =>
    some (Ex.normal, [v0, v1, v2, x7.2.1, (AV.strip x8), v5, v6, v7, v8, v9], x7.2.2)
theorem a11s3_k0_x (call : CallT) (n : Nat) (v0 : AV) (v1 : AV) (v2 : AV) (v5 : AV) (v6 : AV) (v7 : AV) (v8 : AV) (v9 : AV) (x2 : AV × St) : a11s3_k0 call n v0 v1 v2 v5 v6 v7 v8 v9 x2 =
    obind (p1 (semMv call [(AV.weak (AV.stripB x2.1))] AV.undef x2.2)) fun x3 =>
    obind (p1 (semExt 0 call [(AV.weak (AV.stripB x3))] AV.undef x2.2)) fun x4 =>
    obind (p1 (semExt 1 call [(AV.weak (AV.stripB x3))] AV.undef x2.2)) fun x5 =>
    obind (semAlloc [.int .u8 0, .str [], .list true [], .list true []] call [] AV.undef x2.2) fun x6 =>
    obind (semStLc 3 4 call [(locOf 3 x6.2.1), (AV.stripB x4)] x6.2.1 x6.2.2) fun x7 =>
    obind (p1 (semMv call [(AV.weak (AV.stripB x5))] AV.undef x7.2.2)) fun x8 =>
    some (Ex.normal, [v0, v1, v2, x7.2.1, (AV.strip x8), v5, v6, v7, v8, v9], x7.2.2) := spine rfl
theorem a11s3_x (call : CallT) (n : Nat) (v0 v1 v2 v3 v4 v5 v6 v7 v8 v9 : AV) (st : St) : exec call n a11s3 [v0, v1, v2, v3, v4, v5, v6, v7, v8, v9] st =
    obind (p1 (semMv call [(AV.weak v0)] AV.undef st)) fun x0 =>
    obind (p1 (semMv call [(AV.weak v1)] AV.undef st)) fun x1 =>
    obind (p2 (semCall 15 call [(AV.weak (AV.stripB x0)), (AV.weak (AV.stripB x1))] AV.undef st)) (a11s3_k0 call n v0 v1 v2 v5 v6 v7 v8 v9) :=
  (exec_reg call n [3] a11r2 [v0, v1, v2, v3, v4, v5, v6, v7, v8, v9] st).trans (by kernel_rfl)
theorem a11s6_x (call : CallT) (n : Nat) (v0 v1 v2 v3 v4 v5 v6 v7 v8 v9 : AV) (st : St) : exec call n a11s6 [v0, v1, v2, v3, v4, v5, v6, v7, v8, v9] st =
    obind (p1 (semMv call [(.list true [])] AV.undef st)) fun x0 =>
    some (Ex.normal, [v0, v1, (AV.strip x0), v3, v4, v5, v6, v7, v8, v9], st) :=
  (exec_reg call n [] a11r5 [v0, v1, v2, v3, v4, v5, v6, v7, v8, v9] st).trans (by kernel_rfl)
theorem a11s10_x (call : CallT) (n : Nat) (v0 v1 v2 v3 v4 v5 v6 v7 v8 v9 : AV) (st : St) : exec call n a11s10 [v0, v1, v2, v3, v4, v5, v6, v7, v8, v9] st =
    obind (p1 (semMv call [(AV.weak v1)] AV.undef st)) fun x0 =>
    obind (p1 (semBslice 1 [[.str []]] [0] call [(AV.weak (AV.stripB x0))] AV.undef st)) fun x1 =>
    obind (semMv call [(AV.stripB x1)] AV.undef st) fun x2 =>
    some (Ex.normal, [v0, v1, (AV.strip x2.1), v3, v4, v5, v6, v7, v8, v9], x2.2.2) :=
  (exec_reg call n [] a11r9 [v0, v1, v2, v3, v4, v5, v6, v7, v8, v9] st).trans (by kernel_rfl)
def a11s14_k0 (call : CallT) (n : Nat) (v0 : AV) (v1 : AV) (v3 : AV) (v4 : AV) (v5 : AV) (v6 : AV) (v7 : AV) (v8 : AV) (v9 : AV) (x2 : AV × St) : Option Out :=
    obind (semMv call [(AV.stripB x2.1)] AV.undef x2.2) fun x3 =>
    some (Ex.normal, [v0, v1, (AV.strip x3.1), v3, v4, v5, v6, v7, v8, v9], x3.2.2)
theorem a11s14_k0_x (call : CallT) (n : Nat) (v0 : AV) (v1 : AV) (v3 : AV) (v4 : AV) (v5 : AV) (v6 : AV) (v7 : AV) (v8 : AV) (v9 : AV) (x2 : AV × St) : a11s14_k0 call n v0 v1 v3 v4 v5 v6 v7 v8 v9 x2 =
    obind (semMv call [(AV.stripB x2.1)] AV.undef x2.2) fun x3 =>
    some (Ex.normal, [v0, v1, (AV.strip x3.1), v3, v4, v5, v6, v7, v8, v9], x3.2.2) := spine rfl
theorem a11s14_x (call : CallT) (n : Nat) (v0 v1 v2 v3 v4 v5 v6 v7 v8 v9 : AV) (st : St) : exec call n a11s14 [v0, v1, v2, v3, v4, v5, v6, v7, v8, v9] st =
    obind (p1 (semFad 3 call [(locOf 3 v3)] AV.undef st)) fun x0 =>
    obind (p1 (semLdLc 3 false 1 call [(AV.weak (AV.stripB x0))] v3 st)) fun x1 =>
    obind (p2 (semCall 33 call [(AV.weak (AV.stripB x1))] AV.undef st)) (a11s14_k0 call n v0 v1 v3 v4 v5 v6 v7 v8 v9) :=
  (exec_reg call n [] a11r13 [v0, v1, v2, v3, v4, v5, v6, v7, v8, v9] st).trans (by kernel_rfl)
theorem a11s18_x (call : CallT) (n : Nat) (v0 v1 v2 v3 v4 v5 v6 v7 v8 v9 : AV) (st : St) : exec call n a11s18 [v0, v1, v2, v3, v4, v5, v6, v7, v8, v9] st =
    obind (p1 (semMv call [(.list true [])] AV.undef st)) fun x0 =>
    some (Ex.normal, [v0, v1, (AV.strip x0), v3, v4, v5, v6, v7, v8, v9], st) :=
  (exec_reg call n [] a11r17 [v0, v1, v2, v3, v4, v5, v6, v7, v8, v9] st).trans (by kernel_rfl)
theorem a11s20_x (call : CallT) (n : Nat) (v0 v1 v2 v3 v4 v5 v6 v7 v8 v9 : AV) (st : St) : exec call n a11s20 [v0, v1, v2, v3, v4, v5, v6, v7, v8, v9] st =
    obind (p1 (semFad 0 call [(locOf 3 v3)] AV.undef st)) fun x0 =>
    obind (p1 (semLdLc 3 false 1 call [(AV.weak (AV.stripB x0))] v3 st)) fun x1 =>
    obind (p1 (semBin .neq call [(AV.weak (AV.stripB x1)), (.int .u8 2)] AV.undef st)) fun x2 =>
    obind (p1 (semMv call [(AV.weak (AV.stripB x2))] AV.undef st)) fun x3 =>
    brT (AV.weak (AV.stripB x3)) (exeT call n a11s19 [v0, v1, v2, v3, v4, v5, v6, v7, v8, v9] st) (exeT call n .skip [v0, v1, v2, v3, v4, v5, v6, v7, v8, v9] st) :=
  (exec_testT call n [] a11r16 (.t 32) a11s19 .skip [v0, v1, v2, v3, v4, v5, v6, v7, v8, v9] st).trans (by kernel_rfl)
theorem a11s21_x (call : CallT) (n : Nat) (v0 v1 v2 v3 v4 v5 v6 v7 v8 v9 : AV) (st : St) : exec call n a11s21 [v0, v1, v2, v3, v4, v5, v6, v7, v8, v9] st =
    obind (p1 (semFad 0 call [(locOf 3 v3)] AV.undef st)) fun x0 =>
    obind (p1 (semLdLc 3 false 1 call [(AV.weak (AV.stripB x0))] v3 st)) fun x1 =>
    obind (p1 (semBin .eql call [(AV.weak (AV.stripB x1)), (.int .u8 3)] AV.undef st)) fun x2 =>
    obind (p1 (semMv call [(AV.weak (AV.stripB x2))] AV.undef st)) fun x3 =>
    brT (AV.weak (AV.stripB x3)) (exeT call n a11s15 [v0, v1, v2, v3, v4, v5, v6, v7, v8, v9] st) (exeT call n a11s20 [v0, v1, v2, v3, v4, v5, v6, v7, v8, v9] st) :=
  (exec_testT call n [] a11r12 (.t 25) a11s15 a11s20 [v0, v1, v2, v3, v4, v5, v6, v7, v8, v9] st).trans (by kernel_rfl)
theorem a11s22_x (call : CallT) (n : Nat) (v0 v1 v2 v3 v4 v5 v6 v7 v8 v9 : AV) (st : St) : exec call n a11s22 [v0, v1, v2, v3, v4, v5, v6, v7, v8, v9] st =
    obind (p1 (semFad 0 call [(locOf 3 v3)] AV.undef st)) fun x0 =>
    obind (p1 (semLdLc 3 false 1 call [(AV.weak (AV.stripB x0))] v3 st)) fun x1 =>
    obind (p1 (semBin .eql call [(AV.weak (AV.stripB x1)), (.int .u8 1)] AV.undef st)) fun x2 =>
    obind (p1 (semMv call [(AV.weak (AV.stripB x2))] AV.undef st)) fun x3 =>
    brT (AV.weak (AV.stripB x3)) (exeT call n a11s11 [v0, v1, v2, v3, v4, v5, v6, v7, v8, v9] st) (exeT call n a11s21 [v0, v1, v2, v3, v4, v5, v6, v7, v8, v9] st) :=
  (exec_testT call n [] a11r8 (.t 19) a11s11 a11s21 [v0, v1, v2, v3, v4, v5, v6, v7, v8, v9] st).trans (by kernel_rfl)
theorem a11s23_x (call : CallT) (n : Nat) (v0 v1 v2 v3 v4 v5 v6 v7 v8 v9 : AV) (st : St) : exec call n a11s23 [v0, v1, v2, v3, v4, v5, v6, v7, v8, v9] st =
    obind (p1 (semMv call [(AV.weak v4)] AV.undef st)) fun x0 =>
    obind (p1 (semUn .not call [(AV.weak (AV.stripB x0))] AV.undef st)) fun x1 =>
    obind (p1 (semMv call [(AV.weak (AV.stripB x1))] AV.undef st)) fun x2 =>
    brT (AV.weak (AV.stripB x2)) (exeT call n a11s7 [v0, v1, v2, v3, v4, v5, v6, v7, v8, v9] st) (exeT call n a11s22 [v0, v1, v2, v3, v4, v5, v6, v7, v8, v9] st) :=
  (exec_testT call n [] a11r4 (.t 16) a11s7 a11s22 [v0, v1, v2, v3, v4, v5, v6, v7, v8, v9] st).trans (by kernel_rfl)
theorem a11s26_x (call : CallT) (n : Nat) (v0 v1 v2 v3 v4 v5 v6 v7 v8 v9 : AV) (st : St) : exec call n a11s26 [v0, v1, v2, v3, v4, v5, v6, v7, v8, v9] st =
    obind (p1 (semMv call [(.list true [])] AV.undef st)) fun x0 =>
    some (Ex.normal, [v0, v1, v2, v3, v4, (AV.strip x0), v6, v7, v8, v9], st) :=
  (exec_reg call n [] a11r25 [v0, v1, v2, v3, v4, v5, v6, v7, v8, v9] st).trans (by kernel_rfl)
theorem a11s28_x (call : CallT) (n : Nat) (v0 v1 v2 v3 v4 v5 v6 v7 v8 v9 : AV) (st : St) : exec call n a11s28 [v0, v1, v2, v3, v4, v5, v6, v7, v8, v9] st =
    obind (p1 (semMv call [(AV.weak v0)] AV.undef st)) fun x0 =>
    obind (p1 (semNilchk call [(AV.weak (AV.stripB x0))] AV.undef st)) fun x1 =>
    obind (p1 (semFad 0 call [(AV.weak (AV.stripB x1))] AV.undef st)) fun x2 =>
    obind (p1 (semLdSt false 1 call [(AV.weak (AV.stripB x2))] AV.undef st)) fun x3 =>
    obind (p1 (semLenL call [(AV.weak (AV.strip x3))] AV.undef st)) fun x4 =>
    obind (p1 (semMv call [(.int .i64 0)] AV.undef st)) fun x5 =>
    some (Ex.normal, [v0, v1, v2, v3, v4, v5, v6, (AV.strip x3), (AV.strip x4), (AV.strip x5)], st) :=
  (exec_reg call n [] a11r27 [v0, v1, v2, v3, v4, v5, v6, v7, v8, v9] st).trans (by kernel_rfl)
theorem a11s30_x (call : CallT) (n : Nat) (v0 v1 v2 v3 v4 v5 v6 v7 v8 v9 : AV) (st : St) : exec call n a11s30 [v0, v1, v2, v3, v4, v5, v6, v7, v8, v9] st =
    obind (p1 (semBin .lss call [(AV.weak v9), (AV.weak v8)] AV.undef st)) fun x0 =>
    brT (AV.weak (AV.stripB x0)) (exeT call n .skip [v0, v1, v2, v3, v4, v5, v6, v7, v8, v9] st) (exeT call n (.exit 1) [v0, v1, v2, v3, v4, v5, v6, v7, v8, v9] st) :=
  (exec_testT call n [] a11r29 (.t 42) .skip (.exit 1) [v0, v1, v2, v3, v4, v5, v6, v7, v8, v9] st).trans (by kernel_rfl)
theorem a11s32_x (call : CallT) (n : Nat) (v0 v1 v2 v3 v4 v5 v6 v7 v8 v9 : AV) (st : St) : exec call n a11s32 [v0, v1, v2, v3, v4, v5, v6, v7, v8, v9] st =
    obind (p1 (semIad 4 call [(AV.weak v7), (AV.weak v9)] AV.undef st)) fun x0 =>
    obind (p1 (semLdRo true 4 call [(AV.weak (AV.stripB x0))] AV.undef st)) fun x1 =>
    obind (semAlloc [.int .u8 0, .str [], .list true [], .list true []] call [] AV.undef st) fun x2 =>
    obind (semStLc 6 4 call [(locOf 6 x2.2.1), (AV.stripB x1)] x2.2.1 x2.2.2) fun x3 =>
    some (Ex.normal, [v0, v1, v2, v3, v4, v5, x3.2.1, v7, v8, v9], x3.2.2) :=
  (exec_reg call n [6] a11r31 [v0, v1, v2, v3, v4, v5, v6, v7, v8, v9] st).trans (by kernel_rfl)
theorem a11s35_x (call : CallT) (n : Nat) (v0 v1 v2 v3 v4 v5 v6 v7 v8 v9 : AV) (st : St) : exec call n a11s35 [v0, v1, v2, v3, v4, v5, v6, v7, v8, v9] st =
    obind (semMv call [v5] AV.undef st) fun x0 =>
    obind (p1 (semFad 1 call [(locOf 6 v6)] AV.undef x0.2.2)) fun x1 =>
    obind (p1 (semLdLc 6 false 1 call [(AV.weak (AV.stripB x1))] v6 x0.2.2)) fun x2 =>
    obind (p1 (semBslice 1 [[.str []]] [0] call [(AV.weak (AV.stripB x2))] AV.undef x0.2.2)) fun x3 =>
    obind (semApp 1 16 call [(AV.stripB x0.1), (AV.weak (AV.stripB x3))] AV.undef x0.2.2) fun x4 =>
    obind (semMv call [(AV.stripB x4.1)] AV.undef x4.2.2) fun x5 =>
    some (Ex.normal, [v0, v1, v2, v3, v4, (AV.strip x5.1), v6, v7, v8, v9], x5.2.2) :=
  (exec_reg call n [] a11r34 [v0, v1, v2, v3, v4, v5, v6, v7, v8, v9] st).trans (by kernel_rfl)
def a11s36_k0 (call : CallT) (n : Nat) (v0 : AV) (v1 : AV) (v2 : AV) (v3 : AV) (v4 : AV) (v5 : AV) (v6 : AV) (v7 : AV) (v8 : AV) (v9 : AV) (x3 : AV) (x7 : AV × St) : Option Out :=
    obind (p1 (semPick call [(AV.weak (AV.stripB x3)), (AV.weak (AV.stripB x7.1)), (.bool false)] AV.undef x7.2)) fun x8 =>
    brT (AV.weak (AV.stripB x8)) (exeT call n a11s35 [v0, v1, v2, v3, v4, v5, v6, v7, v8, v9] x7.2) (exeT call n .skip [v0, v1, v2, v3, v4, v5, v6, v7, v8, v9] x7.2)
theorem a11s36_k0_x (call : CallT) (n : Nat) (v0 : AV) (v1 : AV) (v2 : AV) (v3 : AV) (v4 : AV) (v5 : AV) (v6 : AV) (v7 : AV) (v8 : AV) (v9 : AV) (x3 : AV) (x7 : AV × St) : a11s36_k0 call n v0 v1 v2 v3 v4 v5 v6 v7 v8 v9 x3 x7 =
    obind (p1 (semPick call [(AV.weak (AV.stripB x3)), (AV.weak (AV.stripB x7.1)), (.bool false)] AV.undef x7.2)) fun x8 =>
    brT (AV.weak (AV.stripB x8)) (exeT call n a11s35 [v0, v1, v2, v3, v4, v5, v6, v7, v8, v9] x7.2) (exeT call n .skip [v0, v1, v2, v3, v4, v5, v6, v7, v8, v9] x7.2) := spine rfl
theorem a11s36_x (call : CallT) (n : Nat) (v0 v1 v2 v3 v4 v5 v6 v7 v8 v9 : AV) (st : St) : exec call n a11s36 [v0, v1, v2, v3, v4, v5, v6, v7, v8, v9] st =
    obind (p1 (semFad 0 call [(locOf 6 v6)] AV.undef st)) fun x0 =>
    obind (p1 (semLdLc 6 false 1 call [(AV.weak (AV.stripB x0))] v6 st)) fun x1 =>
    obind (p1 (semBin .eql call [(AV.weak (AV.stripB x1)), (.int .u8 1)] AV.undef st)) fun x2 =>
    obind (p1 (semMv call [(AV.weak (AV.stripB x2))] AV.undef st)) fun x3 =>
    obind (gv (AV.weak (AV.stripB x3)) true (p1 (semFad 3 call [(locOf 6 v6)] AV.undef st))) fun x4 =>
    obind (gv (AV.weak (AV.stripB x3)) true (p1 (semLdLc 6 false 1 call [(AV.weak (AV.stripB x4))] v6 st))) fun x5 =>
    obind (gv (AV.weak (AV.stripB x3)) true (p1 (semMv call [(AV.weak v1)] AV.undef st))) fun x6 =>
    obind (gv2 (AV.weak (AV.stripB x3)) true st (p2 (semCall 29 call [(AV.weak (AV.stripB x5)), (AV.weak (AV.stripB x6))] AV.undef st))) (a11s36_k0 call n v0 v1 v2 v3 v4 v5 v6 v7 v8 v9 x3) :=
  (exec_testT call n [] a11r33 (.t 53) a11s35 .skip [v0, v1, v2, v3, v4, v5, v6, v7, v8, v9] st).trans (by kernel_rfl)
theorem a11s40_x (call : CallT) (n : Nat) (v0 v1 v2 v3 v4 v5 v6 v7 v8 v9 : AV) (st : St) : exec call n a11s40 [v0, v1, v2, v3, v4, v5, v6, v7, v8, v9] st =
    obind (p1 (semBin .add call [(AV.weak v9), (.int .i64 1)] AV.undef st)) fun x0 =>
    obind (p1 (semMv call [(AV.weak (AV.stripB x0))] AV.undef st)) fun x1 =>
    some (Ex.normal, [v0, v1, v2, v3, v4, v5, v6, v7, v8, (AV.strip x1)], st) :=
  (exec_reg call n [] a11r39 [v0, v1, v2, v3, v4, v5, v6, v7, v8, v9] st).trans (by kernel_rfl)
theorem a11s47_x (call : CallT) (n : Nat) (v0 v1 v2 v3 v4 v5 v6 v7 v8 v9 : AV) (st : St) : exec call n a11s47 [v0, v1, v2, v3, v4, v5, v6, v7, v8, v9] st =
    obind (p1 (semMv call [(AV.weak v5)] AV.undef st)) fun x0 =>
    obind (semMv call [(AV.stripB x0)] AV.undef st) fun x1 =>
    some (Ex.normal, [v0, v1, (AV.strip x1.1), v3, v4, v5, v6, v7, v8, v9], x1.2.2) :=
  (exec_reg call n [] a11r46 [v0, v1, v2, v3, v4, v5, v6, v7, v8, v9] st).trans (by kernel_rfl)
theorem a12s1_x (call : CallT) (n : Nat) (v0 v1 v2 : AV) (st : St) : exec call n a12s1 [v0, v1, v2] st =
    obind (p1 (semMv call [(.bool false)] AV.undef st)) fun x0 =>
    some (Ex.normal, [v0, v1, (AV.strip x0)], st) :=
  (exec_reg call n [] a12r0 [v0, v1, v2] st).trans (by kernel_rfl)
def a12s3_k3 (call : CallT) (n : Nat) (v0 : AV) (v1 : AV) (x3 : AV) (x12 : AV) (x15 : AV × St) : Option Out :=
    obind (gv (AV.weak (AV.stripB x3)) true (p1 (semPick call [(AV.weak (AV.stripB x12)), (.bool true), (AV.weak (AV.stripB x15.1))] AV.undef x15.2))) fun x16 =>
    obind (p1 (semPick call [(AV.weak (AV.stripB x3)), (AV.weak (AV.stripB x16)), (.bool false)] AV.undef x15.2)) fun x17 =>
    obind (p1 (semMv call [(AV.weak (AV.stripB x17))] AV.undef x15.2)) fun x18 =>
    some (Ex.normal, [v0, v1, (AV.strip x18)], x15.2)
theorem a12s3_k3_x (call : CallT) (n : Nat) (v0 : AV) (v1 : AV) (x3 : AV) (x12 : AV) (x15 : AV × St) : a12s3_k3 call n v0 v1 x3 x12 x15 =
    obind (gv (AV.weak (AV.stripB x3)) true (p1 (semPick call [(AV.weak (AV.stripB x12)), (.bool true), (AV.weak (AV.stripB x15.1))] AV.undef x15.2))) fun x16 =>
    obind (p1 (semPick call [(AV.weak (AV.stripB x3)), (AV.weak (AV.stripB x16)), (.bool false)] AV.undef x15.2)) fun x17 =>
    obind (p1 (semMv call [(AV.weak (AV.stripB x17))] AV.undef x15.2)) fun x18 =>
    some (Ex.normal, [v0, v1, (AV.strip x18)], x15.2) := spine rfl
def a12s3_k2 (call : CallT) (n : Nat) (v0 : AV) (v1 : AV) (x3 : AV) (x7 : AV) (x10 : AV × St) : Option Out :=
    obind (gv (AV.weak (AV.stripB x3)) true (p1 (semPick call [(AV.weak (AV.stripB x7)), (.bool true), (AV.weak (AV.stripB x10.1))] AV.undef x10.2))) fun x11 =>
    obind (gv (AV.weak (AV.stripB x3)) true (p1 (semMv call [(AV.weak (AV.stripB x11))] AV.undef x10.2))) fun x12 =>
    obind (gv (AV.weak (AV.stripB x12)) false (p1 (semMv call [(AV.weak v0)] AV.undef x10.2))) fun x13 =>
    obind (gv (AV.weak (AV.stripB x12)) false (p1 (semMv call [(AV.weak v1)] AV.undef x10.2))) fun x14 =>
    obind (gv2 (AV.weak (AV.stripB x12)) false x10.2 (p2 (semCall 35 call [(AV.weak (AV.stripB x13)), (AV.weak (AV.stripB x14)), (.int .u8 3)] AV.undef x10.2))) (a12s3_k3 call n v0 v1 x3 x12)
theorem a12s3_k2_x (call : CallT) (n : Nat) (v0 : AV) (v1 : AV) (x3 : AV) (x7 : AV) (x10 : AV × St) : a12s3_k2 call n v0 v1 x3 x7 x10 =
    obind (gv (AV.weak (AV.stripB x3)) true (p1 (semPick call [(AV.weak (AV.stripB x7)), (.bool true), (AV.weak (AV.stripB x10.1))] AV.undef x10.2))) fun x11 =>
    obind (gv (AV.weak (AV.stripB x3)) true (p1 (semMv call [(AV.weak (AV.stripB x11))] AV.undef x10.2))) fun x12 =>
    obind (gv (AV.weak (AV.stripB x12)) false (p1 (semMv call [(AV.weak v0)] AV.undef x10.2))) fun x13 =>
    obind (gv (AV.weak (AV.stripB x12)) false (p1 (semMv call [(AV.weak v1)] AV.undef x10.2))) fun x14 =>
    obind (gv2 (AV.weak (AV.stripB x12)) false x10.2 (p2 (semCall 35 call [(AV.weak (AV.stripB x13)), (AV.weak (AV.stripB x14)), (.int .u8 3)] AV.undef x10.2))) (a12s3_k3 call n v0 v1 x3 x12) := spine rfl
def a12s3_k1 (call : CallT) (n : Nat) (v0 : AV) (v1 : AV) (x3 : AV) (x6 : AV × St) : Option Out :=
    obind (gv (AV.weak (AV.stripB x3)) true (p1 (semMv call [(AV.weak (AV.stripB x6.1))] AV.undef x6.2))) fun x7 =>
    obind (gv (AV.weak (AV.stripB x7)) false (p1 (semMv call [(AV.weak v0)] AV.undef x6.2))) fun x8 =>
    obind (gv (AV.weak (AV.stripB x7)) false (p1 (semMv call [(AV.weak v1)] AV.undef x6.2))) fun x9 =>
    obind (gv2 (AV.weak (AV.stripB x7)) false x6.2 (p2 (semCall 35 call [(AV.weak (AV.stripB x8)), (AV.weak (AV.stripB x9)), (.int .u8 2)] AV.undef x6.2))) (a12s3_k2 call n v0 v1 x3 x7)
theorem a12s3_k1_x (call : CallT) (n : Nat) (v0 : AV) (v1 : AV) (x3 : AV) (x6 : AV × St) : a12s3_k1 call n v0 v1 x3 x6 =
    obind (gv (AV.weak (AV.stripB x3)) true (p1 (semMv call [(AV.weak (AV.stripB x6.1))] AV.undef x6.2))) fun x7 =>
    obind (gv (AV.weak (AV.stripB x7)) false (p1 (semMv call [(AV.weak v0)] AV.undef x6.2))) fun x8 =>
    obind (gv (AV.weak (AV.stripB x7)) false (p1 (semMv call [(AV.weak v1)] AV.undef x6.2))) fun x9 =>
    obind (gv2 (AV.weak (AV.stripB x7)) false x6.2 (p2 (semCall 35 call [(AV.weak (AV.stripB x8)), (AV.weak (AV.stripB x9)), (.int .u8 2)] AV.undef x6.2))) (a12s3_k2 call n v0 v1 x3 x7) := spine rfl
def a12s3_k0 (call : CallT) (n : Nat) (v0 : AV) (v1 : AV) (x1 : AV × St) : Option Out :=
    obind (p1 (semUn .not call [(AV.weak (AV.stripB x1.1))] AV.undef x1.2)) fun x2 =>
    obind (p1 (semMv call [(AV.weak (AV.stripB x2))] AV.undef x1.2)) fun x3 =>
    obind (gv (AV.weak (AV.stripB x3)) true (p1 (semMv call [(AV.weak v0)] AV.undef x1.2))) fun x4 =>
    obind (gv (AV.weak (AV.stripB x3)) true (p1 (semMv call [(AV.weak v1)] AV.undef x1.2))) fun x5 =>
    obind (gv2 (AV.weak (AV.stripB x3)) true x1.2 (p2 (semCall 35 call [(AV.weak (AV.stripB x4)), (AV.weak (AV.stripB x5)), (.int .u8 1)] AV.undef x1.2))) (a12s3_k1 call n v0 v1 x3)
theorem a12s3_k0_x (call : CallT) (n : Nat) (v0 : AV) (v1 : AV) (x1 : AV × St) : a12s3_k0 call n v0 v1 x1 =
    obind (p1 (semUn .not call [(AV.weak (AV.stripB x1.1))] AV.undef x1.2)) fun x2 =>
    obind (p1 (semMv call [(AV.weak (AV.stripB x2))] AV.undef x1.2)) fun x3 =>
    obind (gv (AV.weak (AV.stripB x3)) true (p1 (semMv call [(AV.weak v0)] AV.undef x1.2))) fun x4 =>
    obind (gv (AV.weak (AV.stripB x3)) true (p1 (semMv call [(AV.weak v1)] AV.undef x1.2))) fun x5 =>
    obind (gv2 (AV.weak (AV.stripB x3)) true x1.2 (p2 (semCall 35 call [(AV.weak (AV.stripB x4)), (AV.weak (AV.stripB x5)), (.int .u8 1)] AV.undef x1.2))) (a12s3_k1 call n v0 v1 x3) := spine rfl
theorem a12s3_x (call : CallT) (n : Nat) (v0 v1 v2 : AV) (st : St) : exec call n a12s3 [v0, v1, v2] st =
    obind (p1 (semMv call [(AV.weak v1)] AV.undef st)) fun x0 =>
    obind (p2 (semCall 34 call [(AV.weak (AV.stripB x0))] AV.undef st)) (a12s3_k0 call n v0 v1) :=
  (exec_reg call n [] a12r2 [v0, v1, v2] st).trans (by kernel_rfl)
theorem a15s1_x (call : CallT) (n : Nat) (v0 v1 v2 v3 v4 v5 : AV) (st : St) : exec call n a15s1 [v0, v1, v2, v3, v4, v5] st =
    obind (semAlloc [.int .u8 0, .str [], .list true [], .list true []] call [] AV.undef st) fun x0 =>
    obind (p1 (semMv call [(.bool false)] AV.undef x0.2.2)) fun x1 =>
    some (Ex.normal, [v0, v1, x0.2.1, (AV.strip x1), v4, v5], x0.2.2) :=
  (exec_reg call n [2] a15r0 [v0, v1, v2, v3, v4, v5] st).trans (by kernel_rfl)
theorem a15s4_x (call : CallT) (n : Nat) (v0 v1 v2 v3 v4 v5 : AV) (st : St) : exec call n a15s4 [v0, v1, v2, v3, v4, v5] st =
    obind (p1 (semBuild [.int .u8 0, .str [], .list true [], .list true []] [] call [] AV.undef st)) fun x0 =>
    obind (semStLc 2 4 call [(locOf 2 v2), (AV.stripB x0)] v2 st) fun x1 =>
    obind (p1 (semMv call [(.bool false)] AV.undef x1.2.2)) fun x2 =>
    some (Ex.normal, [v0, v1, x1.2.1, (AV.strip x2), v4, v5], x1.2.2) :=
  (exec_reg call n [] a15r3 [v0, v1, v2, v3, v4, v5] st).trans (by kernel_rfl)
theorem a15s6_x (call : CallT) (n : Nat) (v0 v1 v2 v3 v4 v5 : AV) (st : St) : exec call n a15s6 [v0, v1, v2, v3, v4, v5] st =
    obind (p1 (semMv call [(AV.weak v0)] AV.undef st)) fun x0 =>
    obind (p1 (semBinP .eql call [(AV.weak (AV.stripB x0)), (.nilp)] AV.undef st)) fun x1 =>
    brT (AV.weak (AV.stripB x1)) (exeT call n a15s5 [v0, v1, v2, v3, v4, v5] st) (exeT call n .skip [v0, v1, v2, v3, v4, v5] st) :=
  (exec_testT call n [] a15r2 (.t 9) a15s5 .skip [v0, v1, v2, v3, v4, v5] st).trans (by kernel_rfl)
theorem a15s8_x (call : CallT) (n : Nat) (v0 v1 v2 v3 v4 v5 : AV) (st : St) : exec call n a15s8 [v0, v1, v2, v3, v4, v5] st =
    obind (p1 (semMv call [(AV.weak v0)] AV.undef st)) fun x0 =>
    obind (p1 (semNilchk call [(AV.weak (AV.stripB x0))] AV.undef st)) fun x1 =>
    obind (p1 (semFad 1 call [(AV.weak (AV.stripB x1))] AV.undef st)) fun x2 =>
    obind (p1 (semLdSt false 1 call [(AV.weak (AV.stripB x2))] AV.undef st)) fun x3 =>
    obind (p1 (semMv call [(AV.weak v1)] AV.undef st)) fun x4 =>
    obind (p1 (semMget 1 [.int .i64 0] false true call [(AV.weak (AV.stripB x3)), (AV.weak (AV.stripB x4))] AV.undef st)) fun x5 =>
    obind (p1 (semMv call [(AV.weak (AV.stripB x5))] AV.undef st)) fun x6 =>
    obind (p1 (semExt 0 call [(AV.weak (AV.stripB x6))] AV.undef st)) fun x7 =>
    obind (p1 (semExt 1 call [(AV.weak (AV.stripB x6))] AV.undef st)) fun x8 =>
    obind (p1 (semMv call [(AV.weak (AV.stripB x7))] AV.undef st)) fun x9 =>
    obind (p1 (semMv call [(AV.weak (AV.stripB x8))] AV.undef st)) fun x10 =>
    some (Ex.normal, [v0, v1, v2, v3, (AV.strip x9), (AV.strip x10)], st) :=
  (exec_reg call n [] a15r7 [v0, v1, v2, v3, v4, v5] st).trans (by kernel_rfl)
theorem a15s11_x (call : CallT) (n : Nat) (v0 v1 v2 v3 v4 v5 : AV) (st : St) : exec call n a15s11 [v0, v1, v2, v3, v4, v5] st =
    obind (p1 (semBuild [.int .u8 0, .str [], .list true [], .list true []] [] call [] AV.undef st)) fun x0 =>
    obind (semStLc 2 4 call [(locOf 2 v2), (AV.stripB x0)] v2 st) fun x1 =>
    obind (p1 (semMv call [(.bool false)] AV.undef x1.2.2)) fun x2 =>
    some (Ex.normal, [v0, v1, x1.2.1, (AV.strip x2), v4, v5], x1.2.2) :=
  (exec_reg call n [] a15r10 [v0, v1, v2, v3, v4, v5] st).trans (by kernel_rfl)
theorem a15s13_x (call : CallT) (n : Nat) (v0 v1 v2 v3 v4 v5 : AV) (st : St) : exec call n a15s13 [v0, v1, v2, v3, v4, v5] st =
    obind (p1 (semMv call [(AV.weak v5)] AV.undef st)) fun x0 =>
    obind (p1 (semUn .not call [(AV.weak (AV.stripB x0))] AV.undef st)) fun x1 =>
    brT (AV.weak (AV.stripB x1)) (exeT call n a15s12 [v0, v1, v2, v3, v4, v5] st) (exeT call n .skip [v0, v1, v2, v3, v4, v5] st) :=
  (exec_testT call n [] a15r9 (.t 21) a15s12 .skip [v0, v1, v2, v3, v4, v5] st).trans (by kernel_rfl)
theorem a15s15_x (call : CallT) (n : Nat) (v0 v1 v2 v3 v4 v5 : AV) (st : St) : exec call n a15s15 [v0, v1, v2, v3, v4, v5] st =
    obind (p1 (semMv call [(AV.weak v0)] AV.undef st)) fun x0 =>
    obind (p1 (semNilchk call [(AV.weak (AV.stripB x0))] AV.undef st)) fun x1 =>
    obind (p1 (semFad 0 call [(AV.weak (AV.stripB x1))] AV.undef st)) fun x2 =>
    obind (p1 (semLdSt false 1 call [(AV.weak (AV.stripB x2))] AV.undef st)) fun x3 =>
    obind (p1 (semMv call [(AV.weak v4)] AV.undef st)) fun x4 =>
    obind (p1 (semIad 4 call [(AV.weak (AV.stripB x3)), (AV.weak (AV.stripB x4))] AV.undef st)) fun x5 =>
    obind (p1 (semLdRo true 4 call [(AV.weak (AV.stripB x5))] AV.undef st)) fun x6 =>
    obind (semStLc 2 4 call [(locOf 2 v2), (AV.stripB x6)] v2 st) fun x7 =>
    obind (p1 (semMv call [(.bool true)] AV.undef x7.2.2)) fun x8 =>
    some (Ex.normal, [v0, v1, x7.2.1, (AV.strip x8), v4, v5], x7.2.2) :=
  (exec_reg call n [] a15r14 [v0, v1, v2, v3, v4, v5] st).trans (by kernel_rfl)
theorem a16s1_x (call : CallT) (n : Nat) (v0 v1 : AV) (st : St) : exec call n a16s1 [v0, v1] st =
    obind (p1 (semMv call [(.list true [])] AV.undef st)) fun x0 =>
    some (Ex.normal, [v0, (AV.strip x0)], st) :=
  (exec_reg call n [] a16r0 [v0, v1] st).trans (by kernel_rfl)
theorem a16s4_x (call : CallT) (n : Nat) (v0 v1 : AV) (st : St) : exec call n a16s4 [v0, v1] st =
    obind (p1 (semMv call [(.list true [])] AV.undef st)) fun x0 =>
    some (Ex.normal, [v0, (AV.strip x0)], st) :=
  (exec_reg call n [] a16r3 [v0, v1] st).trans (by kernel_rfl)
theorem a16s6_x (call : CallT) (n : Nat) (v0 v1 : AV) (st : St) : exec call n a16s6 [v0, v1] st =
    obind (p1 (semMv call [(AV.weak v0)] AV.undef st)) fun x0 =>
    obind (p1 (semBinP .eql call [(AV.weak (AV.stripB x0)), (.nilp)] AV.undef st)) fun x1 =>
    brT (AV.weak (AV.stripB x1)) (exeT call n a16s5 [v0, v1] st) (exeT call n .skip [v0, v1] st) :=
  (exec_testT call n [] a16r2 (.t 4) a16s5 .skip [v0, v1] st).trans (by kernel_rfl)
def a16s8_k0 (call : CallT) (n : Nat) (v0 : AV) (x4 : AV × St) : Option Out :=
    obind (semMv call [(AV.stripB x4.1)] AV.undef x4.2) fun x5 =>
    some (Ex.normal, [v0, (AV.strip x5.1)], x5.2.2)
theorem a16s8_k0_x (call : CallT) (n : Nat) (v0 : AV) (x4 : AV × St) : a16s8_k0 call n v0 x4 =
    obind (semMv call [(AV.stripB x4.1)] AV.undef x4.2) fun x5 =>
    some (Ex.normal, [v0, (AV.strip x5.1)], x5.2.2) := spine rfl
theorem a16s8_x (call : CallT) (n : Nat) (v0 v1 : AV) (st : St) : exec call n a16s8 [v0, v1] st =
    obind (p1 (semMv call [(AV.weak v0)] AV.undef st)) fun x0 =>
    obind (p1 (semNilchk call [(AV.weak (AV.stripB x0))] AV.undef st)) fun x1 =>
    obind (p1 (semFad 0 call [(AV.weak (AV.stripB x1))] AV.undef st)) fun x2 =>
    obind (p1 (semLdSt false 1 call [(AV.weak (AV.stripB x2))] AV.undef st)) fun x3 =>
    obind (p2 (semCall 28 call [(AV.weak (AV.stripB x3))] AV.undef st)) (a16s8_k0 call n v0) :=
  (exec_reg call n [] a16r7 [v0, v1] st).trans (by kernel_rfl)
theorem a17s1_x (call : CallT) (n : Nat) (v0 v1 v2 v3 v4 v5 v6 v7 : AV) (st : St) : exec call n a17s1 [v0, v1, v2, v3, v4, v5, v6, v7] st =
    obind (semAlloc [.str [], .list true [], .str [], .list true [], .bool false, .bool false, .int .u8 0, .int .i64 0, .str [], .list true [], .list true []] call [] AV.undef st) fun x0 =>
    obind (p1 (semMv call [(.bool false)] AV.undef x0.2.2)) fun x1 =>
    some (Ex.normal, [v0, v1, v2, x0.2.1, (AV.strip x1), v5, v6, v7], x0.2.2) :=
  (exec_reg call n [3] a17r0 [v0, v1, v2, v3, v4, v5, v6, v7] st).trans (by kernel_rfl)
def a17s3_k0 (call : CallT) (n : Nat) (v0 : AV) (v1 : AV) (v2 : AV) (v3 : AV) (v4 : AV) (v7 : AV) (x2 : AV × St) : Option Out :=
    obind (p1 (semMv call [(AV.weak (AV.stripB x2.1))] AV.undef x2.2)) fun x3 =>
    obind (p1 (semExt 0 call [(AV.weak (AV.stripB x3))] AV.undef x2.2)) fun x4 =>
    obind (p1 (semExt 1 call [(AV.weak (AV.stripB x3))] AV.undef x2.2)) fun x5 =>
    obind (semAlloc [.int .u8 0, .str [], .list true [], .list true []] call [] AV.undef x2.2) fun x6 =>
    obind (semStLc 5 4 call [(locOf 5 x6.2.1), (AV.stripB x4)] x6.2.1 x6.2.2) fun x7 =>
    obind (p1 (semMv call [(AV.weak (AV.stripB x5))] AV.undef x7.2.2)) fun x8 =>
    some (Ex.normal, [v0, v1, v2, v3, v4, x7.2.1, (AV.strip x8), v7], x7.2.2)
theorem a17s3_k0_x (call : CallT) (n : Nat) (v0 : AV) (v1 : AV) (v2 : AV) (v3 : AV) (v4 : AV) (v7 : AV) (x2 : AV × St) : a17s3_k0 call n v0 v1 v2 v3 v4 v7 x2 =
    obind (p1 (semMv call [(AV.weak (AV.stripB x2.1))] AV.undef x2.2)) fun x3 =>
    obind (p1 (semExt 0 call [(AV.weak (AV.stripB x3))] AV.undef x2.2)) fun x4 =>
    obind (p1 (semExt 1 call [(AV.weak (AV.stripB x3))] AV.undef x2.2)) fun x5 =>
    obind (semAlloc [.int .u8 0, .str [], .list true [], .list true []] call [] AV.undef x2.2) fun x6 =>
    obind (semStLc 5 4 call [(locOf 5 x6.2.1), (AV.stripB x4)] x6.2.1 x6.2.2) fun x7 =>
    obind (p1 (semMv call [(AV.weak (AV.stripB x5))] AV.undef x7.2.2)) fun x8 =>
    some (Ex.normal, [v0, v1, v2, v3, v4, x7.2.1, (AV.strip x8), v7], x7.2.2) := spine rfl
theorem a17s3_x (call : CallT) (n : Nat) (v0 v1 v2 v3 v4 v5 v6 v7 : AV) (st : St) : exec call n a17s3 [v0, v1, v2, v3, v4, v5, v6, v7] st =
    obind (p1 (semMv call [(AV.weak v0)] AV.undef st)) fun x0 =>
    obind (p1 (semMv call [(AV.weak v1)] AV.undef st)) fun x1 =>
    obind (p2 (semCall 15 call [(AV.weak (AV.stripB x0)), (AV.weak (AV.stripB x1))] AV.undef st)) (a17s3_k0 call n v0 v1 v2 v3 v4 v7) :=
  (exec_reg call n [5] a17r2 [v0, v1, v2, v3, v4, v5, v6, v7] st).trans (by kernel_rfl)
theorem a17s6_x (call : CallT) (n : Nat) (v0 v1 v2 v3 v4 v5 v6 v7 : AV) (st : St) : exec call n a17s6 [v0, v1, v2, v3, v4, v5, v6, v7] st =
    obind (p1 (semMv call [(AV.weak v2)] AV.undef st)) fun x0 =>
    obind (p1 (semBuild [.str [], .list true [], .bool false] [(0, 1), (2, 1)] call [(.str [83, 116, 114, 105, 110, 103]), (.bool true)] AV.undef st)) fun x1 =>
    obind (p1 (semBuild [.str [], .list true [], .str [], .list true [], .bool false, .bool false, .int .u8 0, .int .i64 0, .str [], .list true [], .list true []] [(0, 1), (2, 3)] call [(AV.weak (AV.stripB x0)), (AV.weak (AV.stripB x1))] AV.undef st)) fun x2 =>
    obind (semStLc 3 11 call [(locOf 3 v3), (AV.stripB x2)] v3 st) fun x3 =>
    obind (p1 (semMv call [(.bool true)] AV.undef x3.2.2)) fun x4 =>
    some (Ex.normal, [v0, v1, v2, x3.2.1, (AV.strip x4), v5, v6, v7], x3.2.2) :=
  (exec_reg call n [] a17r5 [v0, v1, v2, v3, v4, v5, v6, v7] st).trans (by kernel_rfl)
def a17s8_k1 (call : CallT) (n : Nat) (v0 : AV) (v1 : AV) (v2 : AV) (v3 : AV) (v4 : AV) (v5 : AV) (v6 : AV) (v7 : AV) (x5 : AV) (x9 : AV) (x11 : AV × St) : Option Out :=
    obind (gv (AV.weak (AV.stripB x5)) true (p1 (semPick call [(AV.weak (AV.stripB x9)), (.bool true), (AV.weak (AV.stripB x11.1))] AV.undef x11.2))) fun x12 =>
    obind (p1 (semPick call [(AV.weak (AV.stripB x5)), (AV.weak (AV.stripB x12)), (.bool false)] AV.undef x11.2)) fun x13 =>
    brT (AV.weak (AV.stripB x13)) (exeT call n a17s7 [v0, v1, v2, v3, v4, v5, v6, v7] x11.2) (exeT call n .skip [v0, v1, v2, v3, v4, v5, v6, v7] x11.2)
theorem a17s8_k1_x (call : CallT) (n : Nat) (v0 : AV) (v1 : AV) (v2 : AV) (v3 : AV) (v4 : AV) (v5 : AV) (v6 : AV) (v7 : AV) (x5 : AV) (x9 : AV) (x11 : AV × St) : a17s8_k1 call n v0 v1 v2 v3 v4 v5 v6 v7 x5 x9 x11 =
    obind (gv (AV.weak (AV.stripB x5)) true (p1 (semPick call [(AV.weak (AV.stripB x9)), (.bool true), (AV.weak (AV.stripB x11.1))] AV.undef x11.2))) fun x12 =>
    obind (p1 (semPick call [(AV.weak (AV.stripB x5)), (AV.weak (AV.stripB x12)), (.bool false)] AV.undef x11.2)) fun x13 =>
    brT (AV.weak (AV.stripB x13)) (exeT call n a17s7 [v0, v1, v2, v3, v4, v5, v6, v7] x11.2) (exeT call n .skip [v0, v1, v2, v3, v4, v5, v6, v7] x11.2) := spine rfl
def a17s8_k0 (call : CallT) (n : Nat) (v0 : AV) (v1 : AV) (v2 : AV) (v3 : AV) (v4 : AV) (v5 : AV) (v6 : AV) (v7 : AV) (x5 : AV) (x8 : AV × St) : Option Out :=
    obind (gv (AV.weak (AV.stripB x5)) true (p1 (semMv call [(AV.weak (AV.stripB x8.1))] AV.undef x8.2))) fun x9 =>
    obind (gv (AV.weak (AV.stripB x9)) false (p1 (semMv call [(AV.weak v1)] AV.undef x8.2))) fun x10 =>
    obind (gv2 (AV.weak (AV.stripB x9)) false x8.2 (p2 (semCall 34 call [(AV.weak (AV.stripB x10))] AV.undef x8.2))) (a17s8_k1 call n v0 v1 v2 v3 v4 v5 v6 v7 x5 x9)
theorem a17s8_k0_x (call : CallT) (n : Nat) (v0 : AV) (v1 : AV) (v2 : AV) (v3 : AV) (v4 : AV) (v5 : AV) (v6 : AV) (v7 : AV) (x5 : AV) (x8 : AV × St) : a17s8_k0 call n v0 v1 v2 v3 v4 v5 v6 v7 x5 x8 =
    obind (gv (AV.weak (AV.stripB x5)) true (p1 (semMv call [(AV.weak (AV.stripB x8.1))] AV.undef x8.2))) fun x9 =>
    obind (gv (AV.weak (AV.stripB x9)) false (p1 (semMv call [(AV.weak v1)] AV.undef x8.2))) fun x10 =>
    obind (gv2 (AV.weak (AV.stripB x9)) false x8.2 (p2 (semCall 34 call [(AV.weak (AV.stripB x10))] AV.undef x8.2))) (a17s8_k1 call n v0 v1 v2 v3 v4 v5 v6 v7 x5 x9) := spine rfl
theorem a17s8_x (call : CallT) (n : Nat) (v0 v1 v2 v3 v4 v5 v6 v7 : AV) (st : St) : exec call n a17s8 [v0, v1, v2, v3, v4, v5, v6, v7] st =
    obind (p1 (semMv call [(AV.weak v6)] AV.undef st)) fun x0 =>
    obind (p1 (semMv call [(AV.weak (AV.stripB x0))] AV.undef st)) fun x1 =>
    obind (gv (AV.weak (AV.stripB x1)) true (p1 (semMv call [(AV.weak v2)] AV.undef st))) fun x2 =>
    obind (gv (AV.weak (AV.stripB x1)) true (p1 (semBin .eql call [(AV.weak (AV.stripB x2)), (.str [95, 95, 116, 121, 112, 101, 110, 97, 109, 101])] AV.undef st))) fun x3 =>
    obind (p1 (semPick call [(AV.weak (AV.stripB x1)), (AV.weak (AV.stripB x3)), (.bool false)] AV.undef st)) fun x4 =>
    obind (p1 (semMv call [(AV.weak (AV.stripB x4))] AV.undef st)) fun x5 =>
    obind (gv (AV.weak (AV.stripB x5)) true (p1 (semMv call [(AV.weak v0)] AV.undef st))) fun x6 =>
    obind (gv (AV.weak (AV.stripB x5)) true (p1 (semMv call [(AV.weak v1)] AV.undef st))) fun x7 =>
    obind (gv2 (AV.weak (AV.stripB x5)) true st (p2 (semCall 12 call [(AV.weak (AV.stripB x6)), (AV.weak (AV.stripB x7))] AV.undef st))) (a17s8_k0 call n v0 v1 v2 v3 v4 v5 v6 v7 x5) :=
  (exec_testT call n [] a17r4 (.t 30) a17s7 .skip [v0, v1, v2, v3, v4, v5, v6, v7] st).trans (by kernel_rfl)
def a17s10_k1 (call : CallT) (n : Nat) (v0 : AV) (v1 : AV) (v2 : AV) (v3 : AV) (v4 : AV) (v5 : AV) (v6 : AV) (x4 : AV × St) : Option Out :=
    obind (p1 (semMv call [(AV.weak (AV.stripB x4.1))] AV.undef x4.2)) fun x5 =>
    some (Ex.normal, [v0, v1, v2, v3, v4, v5, v6, (AV.strip x5)], x4.2)
theorem a17s10_k1_x (call : CallT) (n : Nat) (v0 : AV) (v1 : AV) (v2 : AV) (v3 : AV) (v4 : AV) (v5 : AV) (v6 : AV) (x4 : AV × St) : a17s10_k1 call n v0 v1 v2 v3 v4 v5 v6 x4 =
    obind (p1 (semMv call [(AV.weak (AV.stripB x4.1))] AV.undef x4.2)) fun x5 =>
    some (Ex.normal, [v0, v1, v2, v3, v4, v5, v6, (AV.strip x5)], x4.2) := spine rfl
def a17s10_k0 (call : CallT) (n : Nat) (v0 : AV) (v1 : AV) (v2 : AV) (v3 : AV) (v4 : AV) (v5 : AV) (v6 : AV) (x2 : AV × St) : Option Out :=
    obind (p1 (semMv call [(AV.weak v2)] AV.undef x2.2)) fun x3 =>
    obind (p2 (semCall 36 call [(AV.weak (AV.stripB x2.1)), (AV.weak (AV.stripB x3))] AV.undef x2.2)) (a17s10_k1 call n v0 v1 v2 v3 v4 v5 v6)
theorem a17s10_k0_x (call : CallT) (n : Nat) (v0 : AV) (v1 : AV) (v2 : AV) (v3 : AV) (v4 : AV) (v5 : AV) (v6 : AV) (x2 : AV × St) : a17s10_k0 call n v0 v1 v2 v3 v4 v5 v6 x2 =
    obind (p1 (semMv call [(AV.weak v2)] AV.undef x2.2)) fun x3 =>
    obind (p2 (semCall 36 call [(AV.weak (AV.stripB x2.1)), (AV.weak (AV.stripB x3))] AV.undef x2.2)) (a17s10_k1 call n v0 v1 v2 v3 v4 v5 v6) := spine rfl
theorem a17s10_x (call : CallT) (n : Nat) (v0 v1 v2 v3 v4 v5 v6 v7 : AV) (st : St) : exec call n a17s10 [v0, v1, v2, v3, v4, v5, v6, v7] st =
    obind (p1 (semFad 2 call [(locOf 5 v5)] AV.undef st)) fun x0 =>
    obind (p1 (semLdLc 5 false 1 call [(AV.weak (AV.stripB x0))] v5 st)) fun x1 =>
    obind (p2 (semCall 37 call [(AV.weak (AV.stripB x1))] AV.undef st)) (a17s10_k0 call n v0 v1 v2 v3 v4 v5 v6) :=
  (exec_reg call n [] a17r9 [v0, v1, v2, v3, v4, v5, v6, v7] st).trans (by kernel_rfl)
theorem a17s13_x (call : CallT) (n : Nat) (v0 v1 v2 v3 v4 v5 v6 v7 : AV) (st : St) : exec call n a17s13 [v0, v1, v2, v3, v4, v5, v6, v7] st =
    obind (p1 (semFad 2 call [(locOf 5 v5)] AV.undef st)) fun x0 =>
    obind (p1 (semLdLc 5 false 1 call [(AV.weak (AV.stripB x0))] v5 st)) fun x1 =>
    obind (p1 (semMv call [(AV.weak v7)] AV.undef st)) fun x2 =>
    obind (p1 (semIad 11 call [(AV.weak (AV.stripB x1)), (AV.weak (AV.stripB x2))] AV.undef st)) fun x3 =>
    obind (p1 (semLdRo true 11 call [(AV.weak (AV.stripB x3))] AV.undef st)) fun x4 =>
    obind (semStLc 3 11 call [(locOf 3 v3), (AV.stripB x4)] v3 st) fun x5 =>
    obind (p1 (semMv call [(.bool true)] AV.undef x5.2.2)) fun x6 =>
    some (Ex.normal, [v0, v1, v2, x5.2.1, (AV.strip x6), v5, v6, v7], x5.2.2) :=
  (exec_reg call n [] a17r12 [v0, v1, v2, v3, v4, v5, v6, v7] st).trans (by kernel_rfl)
theorem a17s15_x (call : CallT) (n : Nat) (v0 v1 v2 v3 v4 v5 v6 v7 : AV) (st : St) : exec call n a17s15 [v0, v1, v2, v3, v4, v5, v6, v7] st =
    obind (p1 (semMv call [(AV.weak v7)] AV.undef st)) fun x0 =>
    obind (p1 (semBin .geq call [(AV.weak (AV.stripB x0)), (.int .i64 0)] AV.undef st)) fun x1 =>
    obind (p1 (semMv call [(AV.weak (AV.stripB x1))] AV.undef st)) fun x2 =>
    obind (gv (AV.weak (AV.stripB x2)) true (p1 (semFad 0 call [(locOf 5 v5)] AV.undef st))) fun x3 =>
    obind (gv (AV.weak (AV.stripB x2)) true (p1 (semLdLc 5 false 1 call [(AV.weak (AV.stripB x3))] v5 st))) fun x4 =>
    obind (gv (AV.weak (AV.stripB x2)) true (p1 (semBin .neq call [(AV.weak (AV.stripB x4)), (.int .u8 5)] AV.undef st))) fun x5 =>
    obind (p1 (semPick call [(AV.weak (AV.stripB x2)), (AV.weak (AV.stripB x5)), (.bool false)] AV.undef st)) fun x6 =>
    brT (AV.weak (AV.stripB x6)) (exeT call n a17s14 [v0, v1, v2, v3, v4, v5, v6, v7] st) (exeT call n .skip [v0, v1, v2, v3, v4, v5, v6, v7] st) :=
  (exec_testT call n [] a17r11 (.t 45) a17s14 .skip [v0, v1, v2, v3, v4, v5, v6, v7] st).trans (by kernel_rfl)
theorem a17s18_x (call : CallT) (n : Nat) (v0 v1 v2 v3 v4 v5 v6 v7 : AV) (st : St) : exec call n a17s18 [v0, v1, v2, v3, v4, v5, v6, v7] st =
    obind (p1 (semBuild [.str [], .list true [], .str [], .list true [], .bool false, .bool false, .int .u8 0, .int .i64 0, .str [], .list true [], .list true []] [] call [] AV.undef st)) fun x0 =>
    obind (semStLc 3 11 call [(locOf 3 v3), (AV.stripB x0)] v3 st) fun x1 =>
    obind (p1 (semMv call [(.bool false)] AV.undef x1.2.2)) fun x2 =>
    some (Ex.normal, [v0, v1, v2, x1.2.1, (AV.strip x2), v5, v6, v7], x1.2.2) :=
  (exec_reg call n [] a17r17 [v0, v1, v2, v3, v4, v5, v6, v7] st).trans (by kernel_rfl)
theorem a19s1_x (call : CallT) (n : Nat) (v0 v1 v2 : AV) (st : St) : exec call n a19s1 [v0, v1, v2] st =
    obind (semBoxV call [(AV.weak v0)] AV.undef st) fun x0 =>
    obind (p1 (semMv call [(.bool false)] AV.undef x0.2.2)) fun x1 =>
    some (Ex.normal, [v0, x0.2.1, (AV.strip x1)], x0.2.2) :=
  (exec_reg call n [1] a19r0 [v0, v1, v2] st).trans (by kernel_rfl)
def a19s3_k0 (call : CallT) (n : Nat) (v0 : AV) (v1 : AV) (x1 : AV × St) : Option Out :=
    obind (p1 (semBin .gtr call [(AV.weak (AV.stripB x1.1)), (.int .i64 3000)] AV.undef x1.2)) fun x2 =>
    obind (p1 (semMv call [(AV.weak (AV.stripB x2))] AV.undef x1.2)) fun x3 =>
    some (Ex.normal, [v0, v1, (AV.strip x3)], x1.2)
theorem a19s3_k0_x (call : CallT) (n : Nat) (v0 : AV) (v1 : AV) (x1 : AV × St) : a19s3_k0 call n v0 v1 x1 =
    obind (p1 (semBin .gtr call [(AV.weak (AV.stripB x1.1)), (.int .i64 3000)] AV.undef x1.2)) fun x2 =>
    obind (p1 (semMv call [(AV.weak (AV.stripB x2))] AV.undef x1.2)) fun x3 =>
    some (Ex.normal, [v0, v1, (AV.strip x3)], x1.2) := spine rfl
theorem a19s3_x (call : CallT) (n : Nat) (v0 v1 v2 : AV) (st : St) : exec call n a19s3 [v0, v1, v2] st =
    obind (p1 (semLdLc 1 true 5 call [(locOf 1 v1)] v1 st)) fun x0 =>
    obind (p2 (semCall 39 call [(AV.weak (AV.stripB x0)), (.int .i64 0), (.int .i64 3000)] AV.undef st)) (a19s3_k0 call n v0 v1) :=
  (exec_reg call n [] a19r2 [v0, v1, v2] st).trans (by kernel_rfl)
theorem a20s1_x (call : CallT) (n : Nat) (v0 v1 v2 v3 v4 v5 : AV) (st : St) : exec call n a20s1 [v0, v1, v2, v3, v4, v5] st =
    obind (semBoxV call [(AV.weak v0)] AV.undef st) fun x0 =>
    obind (p1 (semMv call [(.bool false)] AV.undef x0.2.2)) fun x1 =>
    some (Ex.normal, [v0, x0.2.1, (AV.strip x1), v3, v4, v5], x0.2.2) :=
  (exec_reg call n [1] a20r0 [v0, v1, v2, v3, v4, v5] st).trans (by kernel_rfl)
theorem a20s3_x (call : CallT) (n : Nat) (v0 v1 v2 v3 v4 v5 : AV) (st : St) : exec call n a20s3 [v0, v1, v2, v3, v4, v5] st =
    obind (p1 (semFad 0 call [(locOf 1 v1)] AV.undef st)) fun x0 =>
    obind (p1 (semLdLc 1 false 1 call [(AV.weak (AV.stripB x0))] v1 st)) fun x1 =>
    obind (p1 (semBin .eql call [(AV.weak (AV.stripB x1)), (.int .u8 1)] AV.undef st)) fun x2 =>
    obind (p1 (semMv call [(AV.weak (AV.stripB x2))] AV.undef st)) fun x3 =>
    obind (gv (AV.weak (AV.stripB x3)) false (p1 (semFad 0 call [(locOf 1 v1)] AV.undef st))) fun x4 =>
    obind (gv (AV.weak (AV.stripB x3)) false (p1 (semLdLc 1 false 1 call [(AV.weak (AV.stripB x4))] v1 st))) fun x5 =>
    obind (gv (AV.weak (AV.stripB x3)) false (p1 (semBin .eql call [(AV.weak (AV.stripB x5)), (.int .u8 3)] AV.undef st))) fun x6 =>
    obind (gv (AV.weak (AV.stripB x3)) false (p1 (semMv call [(AV.weak (AV.stripB x6))] AV.undef st))) fun x7 =>
    obind (gv (AV.weak (AV.stripB x7)) true (p1 (semFad 1 call [(locOf 1 v1)] AV.undef st))) fun x8 =>
    obind (gv (AV.weak (AV.stripB x7)) true (p1 (semLdLc 1 false 1 call [(AV.weak (AV.stripB x8))] v1 st))) fun x9 =>
    obind (gv (AV.weak (AV.stripB x7)) true (p1 (semBin .eql call [(AV.weak (AV.stripB x9)), (.int .i64 0)] AV.undef st))) fun x10 =>
    obind (gv (AV.weak (AV.stripB x7)) true (p1 (semMv call [(AV.weak (AV.stripB x10))] AV.undef st))) fun x11 =>
    obind (gv (AV.weak (AV.stripB x11)) false (p1 (semFad 1 call [(locOf 1 v1)] AV.undef st))) fun x12 =>
    obind (gv (AV.weak (AV.stripB x11)) false (p1 (semLdLc 1 false 1 call [(AV.weak (AV.stripB x12))] v1 st))) fun x13 =>
    obind (gv (AV.weak (AV.stripB x11)) false (p1 (semBin .eql call [(AV.weak (AV.stripB x13)), (.int .i64 1)] AV.undef st))) fun x14 =>
    obind (gv (AV.weak (AV.stripB x7)) true (p1 (semPick call [(AV.weak (AV.stripB x11)), (.bool true), (AV.weak (AV.stripB x14))] AV.undef st))) fun x15 =>
    obind (gv (AV.weak (AV.stripB x3)) false (p1 (semPick call [(AV.weak (AV.stripB x7)), (AV.weak (AV.stripB x15)), (.bool false)] AV.undef st))) fun x16 =>
    obind (p1 (semPick call [(AV.weak (AV.stripB x3)), (.bool true), (AV.weak (AV.stripB x16))] AV.undef st)) fun x17 =>
    obind (p1 (semMv call [(AV.weak (AV.stripB x17))] AV.undef st)) fun x18 =>
    some (Ex.normal, [v0, v1, v2, (AV.strip x18), v4, v5], st) :=
  (exec_reg call n [] a20r2 [v0, v1, v2, v3, v4, v5] st).trans (by kernel_rfl)
theorem a20s5_x (call : CallT) (n : Nat) (v0 v1 v2 v3 v4 v5 : AV) (st : St) : exec call n a20s5 [v0, v1, v2, v3, v4, v5] st =
    obind (p1 (semFad 0 call [(locOf 1 v1)] AV.undef st)) fun x0 =>
    obind (p1 (semLdLc 1 false 1 call [(AV.weak (AV.stripB x0))] v1 st)) fun x1 =>
    obind (p1 (semBin .eql call [(AV.weak (AV.stripB x1)), (.int .u8 2)] AV.undef st)) fun x2 =>
    obind (p1 (semMv call [(AV.weak (AV.stripB x2))] AV.undef st)) fun x3 =>
    obind (gv (AV.weak (AV.stripB x3)) false (p1 (semFad 0 call [(locOf 1 v1)] AV.undef st))) fun x4 =>
    obind (gv (AV.weak (AV.stripB x3)) false (p1 (semLdLc 1 false 1 call [(AV.weak (AV.stripB x4))] v1 st))) fun x5 =>
    obind (gv (AV.weak (AV.stripB x3)) false (p1 (semBin .eql call [(AV.weak (AV.stripB x5)), (.int .u8 4)] AV.undef st))) fun x6 =>
    obind (p1 (semPick call [(AV.weak (AV.stripB x3)), (.bool true), (AV.weak (AV.stripB x6))] AV.undef st)) fun x7 =>
    obind (p1 (semMv call [(AV.weak (AV.stripB x7))] AV.undef st)) fun x8 =>
    obind (gv (AV.weak (AV.stripB x8)) false (p1 (semFad 0 call [(locOf 1 v1)] AV.undef st))) fun x9 =>
    obind (gv (AV.weak (AV.stripB x8)) false (p1 (semLdLc 1 false 1 call [(AV.weak (AV.stripB x9))] v1 st))) fun x10 =>
    obind (gv (AV.weak (AV.stripB x8)) false (p1 (semBin .eql call [(AV.weak (AV.stripB x10)), (.int .u8 7)] AV.undef st))) fun x11 =>
    obind (p1 (semPick call [(AV.weak (AV.stripB x8)), (.bool true), (AV.weak (AV.stripB x11))] AV.undef st)) fun x12 =>
    obind (p1 (semMv call [(AV.weak (AV.stripB x12))] AV.undef st)) fun x13 =>
    obind (gv (AV.weak (AV.stripB x13)) false (p1 (semFad 0 call [(locOf 1 v1)] AV.undef st))) fun x14 =>
    obind (gv (AV.weak (AV.stripB x13)) false (p1 (semLdLc 1 false 1 call [(AV.weak (AV.stripB x14))] v1 st))) fun x15 =>
    obind (gv (AV.weak (AV.stripB x13)) false (p1 (semBin .eql call [(AV.weak (AV.stripB x15)), (.int .u8 8)] AV.undef st))) fun x16 =>
    obind (p1 (semPick call [(AV.weak (AV.stripB x13)), (.bool true), (AV.weak (AV.stripB x16))] AV.undef st)) fun x17 =>
    obind (p1 (semMv call [(AV.weak (AV.stripB x17))] AV.undef st)) fun x18 =>
    some (Ex.normal, [v0, v1, v2, v3, (AV.strip x18), v5], st) :=
  (exec_reg call n [] a20r4 [v0, v1, v2, v3, v4, v5] st).trans (by kernel_rfl)
theorem a20s8_x (call : CallT) (n : Nat) (v0 v1 v2 v3 v4 v5 : AV) (st : St) : exec call n a20s8 [v0, v1, v2, v3, v4, v5] st =
    obind (p1 (semMv call [(.bool false)] AV.undef st)) fun x0 =>
    some (Ex.normal, [v0, v1, (AV.strip x0), v3, v4, v5], st) :=
  (exec_reg call n [] a20r7 [v0, v1, v2, v3, v4, v5] st).trans (by kernel_rfl)
theorem a20s10_x (call : CallT) (n : Nat) (v0 v1 v2 v3 v4 v5 : AV) (st : St) : exec call n a20s10 [v0, v1, v2, v3, v4, v5] st =
    obind (p1 (semFad 0 call [(locOf 1 v1)] AV.undef st)) fun x0 =>
    obind (p1 (semLdLc 1 false 1 call [(AV.weak (AV.stripB x0))] v1 st)) fun x1 =>
    obind (p1 (semBin .gtr call [(AV.weak (AV.stripB x1)), (.int .u8 8)] AV.undef st)) fun x2 =>
    obind (p1 (semMv call [(AV.weak (AV.stripB x2))] AV.undef st)) fun x3 =>
    obind (gv (AV.weak (AV.stripB x3)) false (p1 (semMv call [(AV.weak v3)] AV.undef st))) fun x4 =>
    obind (gv (AV.weak (AV.stripB x3)) false (p1 (semUn .not call [(AV.weak (AV.stripB x4))] AV.undef st))) fun x5 =>
    obind (gv (AV.weak (AV.stripB x3)) false (p1 (semMv call [(AV.weak (AV.stripB x5))] AV.undef st))) fun x6 =>
    obind (gv (AV.weak (AV.stripB x6)) true (p1 (semFad 1 call [(locOf 1 v1)] AV.undef st))) fun x7 =>
    obind (gv (AV.weak (AV.stripB x6)) true (p1 (semLdLc 1 false 1 call [(AV.weak (AV.stripB x7))] v1 st))) fun x8 =>
    obind (gv (AV.weak (AV.stripB x6)) true (p1 (semBin .neq call [(AV.weak (AV.stripB x8)), (.int .i64 0)] AV.undef st))) fun x9 =>
    obind (gv (AV.weak (AV.stripB x3)) false (p1 (semPick call [(AV.weak (AV.stripB x6)), (AV.weak (AV.stripB x9)), (.bool false)] AV.undef st))) fun x10 =>
    obind (p1 (semPick call [(AV.weak (AV.stripB x3)), (.bool true), (AV.weak (AV.stripB x10))] AV.undef st)) fun x11 =>
    obind (p1 (semMv call [(AV.weak (AV.stripB x11))] AV.undef st)) fun x12 =>
    obind (gv (AV.weak (AV.stripB x12)) false (p1 (semMv call [(AV.weak v4)] AV.undef st))) fun x13 =>
    obind (gv (AV.weak (AV.stripB x12)) false (p1 (semUn .not call [(AV.weak (AV.stripB x13))] AV.undef st))) fun x14 =>
    obind (gv (AV.weak (AV.stripB x12)) false (p1 (semMv call [(AV.weak (AV.stripB x14))] AV.undef st))) fun x15 =>
    obind (gv (AV.weak (AV.stripB x15)) true (p1 (semFad 2 call [(locOf 1 v1)] AV.undef st))) fun x16 =>
    obind (gv (AV.weak (AV.stripB x15)) true (p1 (semLdLc 1 false 1 call [(AV.weak (AV.stripB x16))] v1 st))) fun x17 =>
    obind (gv (AV.weak (AV.stripB x15)) true (p1 (semBin .neq call [(AV.weak (AV.stripB x17)), (.str [])] AV.undef st))) fun x18 =>
    obind (gv (AV.weak (AV.stripB x12)) false (p1 (semPick call [(AV.weak (AV.stripB x15)), (AV.weak (AV.stripB x18)), (.bool false)] AV.undef st))) fun x19 =>
    obind (p1 (semPick call [(AV.weak (AV.stripB x12)), (.bool true), (AV.weak (AV.stripB x19))] AV.undef st)) fun x20 =>
    obind (p1 (semMv call [(AV.weak (AV.stripB x20))] AV.undef st)) fun x21 =>
    obind (gv (AV.weak (AV.stripB x21)) false (p1 (semFad 0 call [(locOf 1 v1)] AV.undef st))) fun x22 =>
    obind (gv (AV.weak (AV.stripB x21)) false (p1 (semLdLc 1 false 1 call [(AV.weak (AV.stripB x22))] v1 st))) fun x23 =>
    obind (gv (AV.weak (AV.stripB x21)) false (p1 (semBin .neq call [(AV.weak (AV.stripB x23)), (.int .u8 5)] AV.undef st))) fun x24 =>
    obind (gv (AV.weak (AV.stripB x21)) false (p1 (semMv call [(AV.weak (AV.stripB x24))] AV.undef st))) fun x25 =>
    obind (gv (AV.weak (AV.stripB x25)) true (p1 (semFad 0 call [(locOf 1 v1)] AV.undef st))) fun x26 =>
    obind (gv (AV.weak (AV.stripB x25)) true (p1 (semLdLc 1 false 1 call [(AV.weak (AV.stripB x26))] v1 st))) fun x27 =>
    obind (gv (AV.weak (AV.stripB x25)) true (p1 (semBin .neq call [(AV.weak (AV.stripB x27)), (.int .u8 6)] AV.undef st))) fun x28 =>
    obind (gv (AV.weak (AV.stripB x21)) false (p1 (semPick call [(AV.weak (AV.stripB x25)), (AV.weak (AV.stripB x28)), (.bool false)] AV.undef st))) fun x29 =>
    obind (gv (AV.weak (AV.stripB x21)) false (p1 (semMv call [(AV.weak (AV.stripB x29))] AV.undef st))) fun x30 =>
    obind (gv (AV.weak (AV.stripB x30)) true (p1 (semFad 4 call [(locOf 1 v1)] AV.undef st))) fun x31 =>
    obind (gv (AV.weak (AV.stripB x30)) true (p1 (semLdLc 1 false 1 call [(AV.weak (AV.stripB x31))] v1 st))) fun x32 =>
    obind (gv (AV.weak (AV.stripB x30)) true (p1 (semLenL call [(AV.weak (AV.stripB x32))] AV.undef st))) fun x33 =>
    obind (gv (AV.weak (AV.stripB x30)) true (p1 (semBin .gtr call [(AV.weak (AV.stripB x33)), (.int .i64 0)] AV.undef st))) fun x34 =>
    obind (gv (AV.weak (AV.stripB x21)) false (p1 (semPick call [(AV.weak (AV.stripB x30)), (AV.weak (AV.stripB x34)), (.bool false)] AV.undef st))) fun x35 =>
    obind (p1 (semPick call [(AV.weak (AV.stripB x21)), (.bool true), (AV.weak (AV.stripB x35))] AV.undef st)) fun x36 =>
    brT (AV.weak (AV.stripB x36)) (exeT call n a20s9 [v0, v1, v2, v3, v4, v5] st) (exeT call n .skip [v0, v1, v2, v3, v4, v5] st) :=
  (exec_testT call n [] a20r6 (.t 78) a20s9 .skip [v0, v1, v2, v3, v4, v5] st).trans (by kernel_rfl)
theorem a20s13_x (call : CallT) (n : Nat) (v0 v1 v2 v3 v4 v5 : AV) (st : St) : exec call n a20s13 [v0, v1, v2, v3, v4, v5] st =
    obind (p1 (semMv call [(.bool false)] AV.undef st)) fun x0 =>
    some (Ex.normal, [v0, v1, (AV.strip x0), v3, v4, v5], st) :=
  (exec_reg call n [] a20r12 [v0, v1, v2, v3, v4, v5] st).trans (by kernel_rfl)
theorem a20s15_x (call : CallT) (n : Nat) (v0 v1 v2 v3 v4 v5 : AV) (st : St) : exec call n a20s15 [v0, v1, v2, v3, v4, v5] st =
    obind (p1 (semFad 0 call [(locOf 1 v1)] AV.undef st)) fun x0 =>
    obind (p1 (semLdLc 1 false 1 call [(AV.weak (AV.stripB x0))] v1 st)) fun x1 =>
    obind (p1 (semBin .eql call [(AV.weak (AV.stripB x1)), (.int .u8 6)] AV.undef st)) fun x2 =>
    obind (p1 (semMv call [(AV.weak (AV.stripB x2))] AV.undef st)) fun x3 =>
    obind (gv (AV.weak (AV.stripB x3)) true (p1 (semFad 3 call [(locOf 1 v1)] AV.undef st))) fun x4 =>
    obind (gv (AV.weak (AV.stripB x3)) true (p1 (semLdLc 1 false 1 call [(AV.weak (AV.stripB x4))] v1 st))) fun x5 =>
    obind (gv (AV.weak (AV.stripB x3)) true (p1 (semLenL call [(AV.weak (AV.stripB x5))] AV.undef st))) fun x6 =>
    obind (gv (AV.weak (AV.stripB x3)) true (p1 (semFad 4 call [(locOf 1 v1)] AV.undef st))) fun x7 =>
    obind (gv (AV.weak (AV.stripB x3)) true (p1 (semLdLc 1 false 1 call [(AV.weak (AV.stripB x7))] v1 st))) fun x8 =>
    obind (gv (AV.weak (AV.stripB x3)) true (p1 (semLenL call [(AV.weak (AV.stripB x8))] AV.undef st))) fun x9 =>
    obind (gv (AV.weak (AV.stripB x3)) true (p1 (semBin .neq call [(AV.weak (AV.stripB x6)), (AV.weak (AV.stripB x9))] AV.undef st))) fun x10 =>
    obind (p1 (semPick call [(AV.weak (AV.stripB x3)), (AV.weak (AV.stripB x10)), (.bool false)] AV.undef st)) fun x11 =>
    obind (p1 (semMv call [(AV.weak (AV.stripB x11))] AV.undef st)) fun x12 =>
    obind (gv (AV.weak (AV.stripB x12)) false (p1 (semFad 0 call [(locOf 1 v1)] AV.undef st))) fun x13 =>
    obind (gv (AV.weak (AV.stripB x12)) false (p1 (semLdLc 1 false 1 call [(AV.weak (AV.stripB x13))] v1 st))) fun x14 =>
    obind (gv (AV.weak (AV.stripB x12)) false (p1 (semBin .neq call [(AV.weak (AV.stripB x14)), (.int .u8 6)] AV.undef st))) fun x15 =>
    obind (gv (AV.weak (AV.stripB x12)) false (p1 (semMv call [(AV.weak (AV.stripB x15))] AV.undef st))) fun x16 =>
    obind (gv (AV.weak (AV.stripB x16)) true (p1 (semFad 3 call [(locOf 1 v1)] AV.undef st))) fun x17 =>
    obind (gv (AV.weak (AV.stripB x16)) true (p1 (semLdLc 1 false 1 call [(AV.weak (AV.stripB x17))] v1 st))) fun x18 =>
    obind (gv (AV.weak (AV.stripB x16)) true (p1 (semLenL call [(AV.weak (AV.stripB x18))] AV.undef st))) fun x19 =>
    obind (gv (AV.weak (AV.stripB x16)) true (p1 (semBin .gtr call [(AV.weak (AV.stripB x19)), (.int .i64 0)] AV.undef st))) fun x20 =>
    obind (gv (AV.weak (AV.stripB x12)) false (p1 (semPick call [(AV.weak (AV.stripB x16)), (AV.weak (AV.stripB x20)), (.bool false)] AV.undef st))) fun x21 =>
    obind (p1 (semPick call [(AV.weak (AV.stripB x12)), (.bool true), (AV.weak (AV.stripB x21))] AV.undef st)) fun x22 =>
    brT (AV.weak (AV.stripB x22)) (exeT call n a20s14 [v0, v1, v2, v3, v4, v5] st) (exeT call n .skip [v0, v1, v2, v3, v4, v5] st) :=
  (exec_testT call n [] a20r11 (.t 101) a20s14 .skip [v0, v1, v2, v3, v4, v5] st).trans (by kernel_rfl)
theorem a20s17_x (call : CallT) (n : Nat) (v0 v1 v2 v3 v4 v5 : AV) (st : St) : exec call n a20s17 [v0, v1, v2, v3, v4, v5] st =
    obind (p1 (semMv call [(.int .i64 0)] AV.undef st)) fun x0 =>
    some (Ex.normal, [v0, v1, v2, v3, v4, (AV.strip x0)], st) :=
  (exec_reg call n [] a20r16 [v0, v1, v2, v3, v4, v5] st).trans (by kernel_rfl)
theorem a20s19_x (call : CallT) (n : Nat) (v0 v1 v2 v3 v4 v5 : AV) (st : St) : exec call n a20s19 [v0, v1, v2, v3, v4, v5] st =
    obind (p1 (semMv call [(AV.weak v5)] AV.undef st)) fun x0 =>
    obind (p1 (semFad 4 call [(locOf 1 v1)] AV.undef st)) fun x1 =>
    obind (p1 (semLdLc 1 false 1 call [(AV.weak (AV.stripB x1))] v1 st)) fun x2 =>
    obind (p1 (semLenL call [(AV.weak (AV.stripB x2))] AV.undef st)) fun x3 =>
    obind (p1 (semBin .lss call [(AV.weak (AV.stripB x0)), (AV.weak (AV.stripB x3))] AV.undef st)) fun x4 =>
    brT (AV.weak (AV.stripB x4)) (exeT call n .skip [v0, v1, v2, v3, v4, v5] st) (exeT call n (.exit 0) [v0, v1, v2, v3, v4, v5] st) :=
  (exec_testT call n [] a20r18 (.t 106) .skip (.exit 0) [v0, v1, v2, v3, v4, v5] st).trans (by kernel_rfl)
theorem a20s22_x (call : CallT) (n : Nat) (v0 v1 v2 v3 v4 v5 : AV) (st : St) : exec call n a20s22 [v0, v1, v2, v3, v4, v5] st =
    obind (p1 (semMv call [(.bool false)] AV.undef st)) fun x0 =>
    some (Ex.normal, [v0, v1, (AV.strip x0), v3, v4, v5], st) :=
  (exec_reg call n [] a20r21 [v0, v1, v2, v3, v4, v5] st).trans (by kernel_rfl)
def a20s24_k0 (call : CallT) (n : Nat) (v0 : AV) (v1 : AV) (v2 : AV) (v3 : AV) (v4 : AV) (v5 : AV) (x5 : AV × St) : Option Out :=
    obind (p1 (semUn .not call [(AV.weak (AV.stripB x5.1))] AV.undef x5.2)) fun x6 =>
    brT (AV.weak (AV.stripB x6)) (exeT call n a20s23 [v0, v1, v2, v3, v4, v5] x5.2) (exeT call n .skip [v0, v1, v2, v3, v4, v5] x5.2)
theorem a20s24_k0_x (call : CallT) (n : Nat) (v0 : AV) (v1 : AV) (v2 : AV) (v3 : AV) (v4 : AV) (v5 : AV) (x5 : AV × St) : a20s24_k0 call n v0 v1 v2 v3 v4 v5 x5 =
    obind (p1 (semUn .not call [(AV.weak (AV.stripB x5.1))] AV.undef x5.2)) fun x6 =>
    brT (AV.weak (AV.stripB x6)) (exeT call n a20s23 [v0, v1, v2, v3, v4, v5] x5.2) (exeT call n .skip [v0, v1, v2, v3, v4, v5] x5.2) := spine rfl
theorem a20s24_x (call : CallT) (n : Nat) (v0 v1 v2 v3 v4 v5 : AV) (st : St) : exec call n a20s24 [v0, v1, v2, v3, v4, v5] st =
    obind (p1 (semFad 4 call [(locOf 1 v1)] AV.undef st)) fun x0 =>
    obind (p1 (semLdLc 1 false 1 call [(AV.weak (AV.stripB x0))] v1 st)) fun x1 =>
    obind (p1 (semMv call [(AV.weak v5)] AV.undef st)) fun x2 =>
    obind (p1 (semIad 5 call [(AV.weak (AV.stripB x1)), (AV.weak (AV.stripB x2))] AV.undef st)) fun x3 =>
    obind (p1 (semLdRo true 5 call [(AV.weak (AV.stripB x3))] AV.undef st)) fun x4 =>
    obind (p2 (semCall 20 call [(AV.weak (AV.stripB x4))] AV.undef st)) (a20s24_k0 call n v0 v1 v2 v3 v4 v5) :=
  (exec_testT call n [] a20r20 (.t 115) a20s23 .skip [v0, v1, v2, v3, v4, v5] st).trans (by kernel_rfl)
theorem a20s27_x (call : CallT) (n : Nat) (v0 v1 v2 v3 v4 v5 : AV) (st : St) : exec call n a20s27 [v0, v1, v2, v3, v4, v5] st =
    obind (p1 (semMv call [(AV.weak v5)] AV.undef st)) fun x0 =>
    obind (p1 (semBin .add call [(AV.weak (AV.stripB x0)), (.int .i64 1)] AV.undef st)) fun x1 =>
    obind (p1 (semMv call [(AV.weak (AV.stripB x1))] AV.undef st)) fun x2 =>
    some (Ex.normal, [v0, v1, v2, v3, v4, (AV.strip x2)], st) :=
  (exec_reg call n [] a20r26 [v0, v1, v2, v3, v4, v5] st).trans (by kernel_rfl)
theorem a20s34_x (call : CallT) (n : Nat) (v0 v1 v2 v3 v4 v5 : AV) (st : St) : exec call n a20s34 [v0, v1, v2, v3, v4, v5] st =
    obind (p1 (semMv call [(.bool true)] AV.undef st)) fun x0 =>
    some (Ex.normal, [v0, v1, (AV.strip x0), v3, v4, v5], st) :=
  (exec_reg call n [] a20r33 [v0, v1, v2, v3, v4, v5] st).trans (by kernel_rfl)
theorem a21s1_x (call : CallT) (n : Nat) (v0 v1 v2 : AV) (st : St) : exec call n a21s1 [v0, v1, v2] st =
    obind (p1 (semMv call [(.bool false)] AV.undef st)) fun x0 =>
    some (Ex.normal, [v0, v1, (AV.strip x0)], st) :=
  (exec_reg call n [] a21r0 [v0, v1, v2] st).trans (by kernel_rfl)
def a21s3_k0 (call : CallT) (n : Nat) (v0 : AV) (v1 : AV) (x2 : AV) (x5 : AV × St) : Option Out :=
    obind (p1 (semPick call [(AV.weak (AV.stripB x2)), (AV.weak (AV.stripB x5.1)), (.bool false)] AV.undef x5.2)) fun x6 =>
    obind (p1 (semMv call [(AV.weak (AV.stripB x6))] AV.undef x5.2)) fun x7 =>
    some (Ex.normal, [v0, v1, (AV.strip x7)], x5.2)
theorem a21s3_k0_x (call : CallT) (n : Nat) (v0 : AV) (v1 : AV) (x2 : AV) (x5 : AV × St) : a21s3_k0 call n v0 v1 x2 x5 =
    obind (p1 (semPick call [(AV.weak (AV.stripB x2)), (AV.weak (AV.stripB x5.1)), (.bool false)] AV.undef x5.2)) fun x6 =>
    obind (p1 (semMv call [(AV.weak (AV.stripB x6))] AV.undef x5.2)) fun x7 =>
    some (Ex.normal, [v0, v1, (AV.strip x7)], x5.2) := spine rfl
theorem a21s3_x (call : CallT) (n : Nat) (v0 v1 v2 : AV) (st : St) : exec call n a21s3 [v0, v1, v2] st =
    obind (p1 (semMv call [(AV.weak v0)] AV.undef st)) fun x0 =>
    obind (p1 (semBinP .neq call [(AV.weak (AV.stripB x0)), (.nilp)] AV.undef st)) fun x1 =>
    obind (p1 (semMv call [(AV.weak (AV.stripB x1))] AV.undef st)) fun x2 =>
    obind (gv (AV.weak (AV.stripB x2)) true (p1 (semSlA 4 1 false false call [(.ro [.str [66, 111, 111, 108, 101, 97, 110], .str [73, 68], .str [73, 110, 116], .str [83, 116, 114, 105, 110, 103]])] AV.undef st))) fun x3 =>
    obind (gv (AV.weak (AV.stripB x2)) true (p1 (semMv call [(AV.weak v1)] AV.undef st))) fun x4 =>
    obind (gv2 (AV.weak (AV.stripB x2)) true st (p2 (semCall 29 call [(AV.weak (AV.stripB x3)), (AV.weak (AV.stripB x4))] AV.undef st))) (a21s3_k0 call n v0 v1 x2) :=
  (exec_reg call n [] a21r2 [v0, v1, v2] st).trans (by kernel_rfl)
theorem a22s1_x (call : CallT) (n : Nat) (v0 v1 v2 : AV) (st : St) : exec call n a22s1 [v0, v1, v2] st =
    obind (p1 (semMv call [(.bool false)] AV.undef st)) fun x0 =>
    some (Ex.normal, [v0, v1, (AV.strip x0)], st) :=
  (exec_reg call n [] a22r0 [v0, v1, v2] st).trans (by kernel_rfl)
def a22s3_k0 (call : CallT) (n : Nat) (v0 : AV) (v1 : AV) (x2 : AV × St) : Option Out :=
    obind (p1 (semMv call [(AV.weak (AV.stripB x2.1))] AV.undef x2.2)) fun x3 =>
    some (Ex.normal, [v0, v1, (AV.strip x3)], x2.2)
theorem a22s3_k0_x (call : CallT) (n : Nat) (v0 : AV) (v1 : AV) (x2 : AV × St) : a22s3_k0 call n v0 v1 x2 =
    obind (p1 (semMv call [(AV.weak (AV.stripB x2.1))] AV.undef x2.2)) fun x3 =>
    some (Ex.normal, [v0, v1, (AV.strip x3)], x2.2) := spine rfl
theorem a22s3_x (call : CallT) (n : Nat) (v0 v1 v2 : AV) (st : St) : exec call n a22s3 [v0, v1, v2] st =
    obind (p1 (semMv call [(AV.weak v0)] AV.undef st)) fun x0 =>
    obind (p1 (semMv call [(AV.weak v1)] AV.undef st)) fun x1 =>
    obind (p2 (semCall 35 call [(AV.weak (AV.stripB x0)), (AV.weak (AV.stripB x1)), (.int .u8 4)] AV.undef st)) (a22s3_k0 call n v0 v1) :=
  (exec_reg call n [] a22r2 [v0, v1, v2] st).trans (by kernel_rfl)
theorem a23s1_x (call : CallT) (n : Nat) (v0 v1 v2 : AV) (st : St) : exec call n a23s1 [v0, v1, v2] st =
    obind (p1 (semMv call [(.bool false)] AV.undef st)) fun x0 =>
    some (Ex.normal, [v0, v1, (AV.strip x0)], st) :=
  (exec_reg call n [] a23r0 [v0, v1, v2] st).trans (by kernel_rfl)
def a23s3_k0 (call : CallT) (n : Nat) (v0 : AV) (v1 : AV) (x2 : AV × St) : Option Out :=
    obind (p1 (semMv call [(AV.weak (AV.stripB x2.1))] AV.undef x2.2)) fun x3 =>
    some (Ex.normal, [v0, v1, (AV.strip x3)], x2.2)
theorem a23s3_k0_x (call : CallT) (n : Nat) (v0 : AV) (v1 : AV) (x2 : AV × St) : a23s3_k0 call n v0 v1 x2 =
    obind (p1 (semMv call [(AV.weak (AV.stripB x2.1))] AV.undef x2.2)) fun x3 =>
    some (Ex.normal, [v0, v1, (AV.strip x3)], x2.2) := spine rfl
theorem a23s3_x (call : CallT) (n : Nat) (v0 v1 v2 : AV) (st : St) : exec call n a23s3 [v0, v1, v2] st =
    obind (p1 (semMv call [(AV.weak v0)] AV.undef st)) fun x0 =>
    obind (p1 (semMv call [(AV.weak v1)] AV.undef st)) fun x1 =>
    obind (p2 (semCall 35 call [(AV.weak (AV.stripB x0)), (AV.weak (AV.stripB x1)), (.int .u8 5)] AV.undef st)) (a23s3_k0 call n v0 v1) :=
  (exec_reg call n [] a23r2 [v0, v1, v2] st).trans (by kernel_rfl)
theorem a24s1_x (call : CallT) (n : Nat) (v0 v1 v2 : AV) (st : St) : exec call n a24s1 [v0, v1, v2] st =
    obind (p1 (semMv call [(.bool false)] AV.undef st)) fun x0 =>
    some (Ex.normal, [v0, v1, (AV.strip x0)], st) :=
  (exec_reg call n [] a24r0 [v0, v1, v2] st).trans (by kernel_rfl)
def a24s3_k1 (call : CallT) (n : Nat) (v0 : AV) (v1 : AV) (x3 : AV) (x6 : AV × St) : Option Out :=
    obind (p1 (semPick call [(AV.weak (AV.stripB x3)), (.bool true), (AV.weak (AV.stripB x6.1))] AV.undef x6.2)) fun x7 =>
    obind (p1 (semMv call [(AV.weak (AV.stripB x7))] AV.undef x6.2)) fun x8 =>
    some (Ex.normal, [v0, v1, (AV.strip x8)], x6.2)
theorem a24s3_k1_x (call : CallT) (n : Nat) (v0 : AV) (v1 : AV) (x3 : AV) (x6 : AV × St) : a24s3_k1 call n v0 v1 x3 x6 =
    obind (p1 (semPick call [(AV.weak (AV.stripB x3)), (.bool true), (AV.weak (AV.stripB x6.1))] AV.undef x6.2)) fun x7 =>
    obind (p1 (semMv call [(AV.weak (AV.stripB x7))] AV.undef x6.2)) fun x8 =>
    some (Ex.normal, [v0, v1, (AV.strip x8)], x6.2) := spine rfl
def a24s3_k0 (call : CallT) (n : Nat) (v0 : AV) (v1 : AV) (x2 : AV × St) : Option Out :=
    obind (p1 (semMv call [(AV.weak (AV.stripB x2.1))] AV.undef x2.2)) fun x3 =>
    obind (gv (AV.weak (AV.stripB x3)) false (p1 (semMv call [(AV.weak v0)] AV.undef x2.2))) fun x4 =>
    obind (gv (AV.weak (AV.stripB x3)) false (p1 (semMv call [(AV.weak v1)] AV.undef x2.2))) fun x5 =>
    obind (gv2 (AV.weak (AV.stripB x3)) false x2.2 (p2 (semCall 22 call [(AV.weak (AV.stripB x4)), (AV.weak (AV.stripB x5))] AV.undef x2.2))) (a24s3_k1 call n v0 v1 x3)
theorem a24s3_k0_x (call : CallT) (n : Nat) (v0 : AV) (v1 : AV) (x2 : AV × St) : a24s3_k0 call n v0 v1 x2 =
    obind (p1 (semMv call [(AV.weak (AV.stripB x2.1))] AV.undef x2.2)) fun x3 =>
    obind (gv (AV.weak (AV.stripB x3)) false (p1 (semMv call [(AV.weak v0)] AV.undef x2.2))) fun x4 =>
    obind (gv (AV.weak (AV.stripB x3)) false (p1 (semMv call [(AV.weak v1)] AV.undef x2.2))) fun x5 =>
    obind (gv2 (AV.weak (AV.stripB x3)) false x2.2 (p2 (semCall 22 call [(AV.weak (AV.stripB x4)), (AV.weak (AV.stripB x5))] AV.undef x2.2))) (a24s3_k1 call n v0 v1 x3) := spine rfl
theorem a24s3_x (call : CallT) (n : Nat) (v0 v1 v2 : AV) (st : St) : exec call n a24s3 [v0, v1, v2] st =
    obind (p1 (semMv call [(AV.weak v0)] AV.undef st)) fun x0 =>
    obind (p1 (semMv call [(AV.weak v1)] AV.undef st)) fun x1 =>
    obind (p2 (semCall 21 call [(AV.weak (AV.stripB x0)), (AV.weak (AV.stripB x1))] AV.undef st)) (a24s3_k0 call n v0 v1) :=
  (exec_reg call n [] a24r2 [v0, v1, v2] st).trans (by kernel_rfl)
theorem a34s1_x (call : CallT) (n : Nat) (v0 v1 : AV) (st : St) : exec call n a34s1 [v0, v1] st =
    obind (p1 (semMv call [(.bool false)] AV.undef st)) fun x0 =>
    some (Ex.normal, [v0, (AV.strip x0)], st) :=
  (exec_reg call n [] a34r0 [v0, v1] st).trans (by kernel_rfl)
theorem a34s3_x (call : CallT) (n : Nat) (v0 v1 : AV) (st : St) : exec call n a34s3 [v0, v1] st =
    obind (p1 (semMv call [(AV.weak v0)] AV.undef st)) fun x0 =>
    obind (p1 (semBin .eql call [(AV.weak (AV.stripB x0)), (.str [81, 117, 101, 114, 121])] AV.undef st)) fun x1 =>
    obind (p1 (semMv call [(AV.weak (AV.stripB x1))] AV.undef st)) fun x2 =>
    obind (gv (AV.weak (AV.stripB x2)) false (p1 (semMv call [(AV.weak v0)] AV.undef st))) fun x3 =>
    obind (gv (AV.weak (AV.stripB x2)) false (p1 (semBin .eql call [(AV.weak (AV.stripB x3)), (.str [77, 117, 116, 97, 116, 105, 111, 110])] AV.undef st))) fun x4 =>
    obind (p1 (semPick call [(AV.weak (AV.stripB x2)), (.bool true), (AV.weak (AV.stripB x4))] AV.undef st)) fun x5 =>
    obind (p1 (semMv call [(AV.weak (AV.stripB x5))] AV.undef st)) fun x6 =>
    some (Ex.normal, [v0, (AV.strip x6)], st) :=
  (exec_reg call n [] a34r2 [v0, v1] st).trans (by kernel_rfl)
theorem a35s1_x (call : CallT) (n : Nat) (v0 v1 v2 v3 v4 v5 : AV) (st : St) : exec call n a35s1 [v0, v1, v2, v3, v4, v5] st =
    obind (p1 (semMv call [(.bool false)] AV.undef st)) fun x0 =>
    some (Ex.normal, [v0, v1, v2, (AV.strip x0), v4, v5], st) :=
  (exec_reg call n [] a35r0 [v0, v1, v2, v3, v4, v5] st).trans (by kernel_rfl)
def a35s3_k0 (call : CallT) (n : Nat) (v0 : AV) (v1 : AV) (v2 : AV) (v3 : AV) (x2 : AV × St) : Option Out :=
    obind (p1 (semMv call [(AV.weak (AV.stripB x2.1))] AV.undef x2.2)) fun x3 =>
    obind (p1 (semExt 0 call [(AV.weak (AV.stripB x3))] AV.undef x2.2)) fun x4 =>
    obind (p1 (semExt 1 call [(AV.weak (AV.stripB x3))] AV.undef x2.2)) fun x5 =>
    obind (semAlloc [.int .u8 0, .str [], .list true [], .list true []] call [] AV.undef x2.2) fun x6 =>
    obind (semStLc 4 4 call [(locOf 4 x6.2.1), (AV.stripB x4)] x6.2.1 x6.2.2) fun x7 =>
    obind (p1 (semMv call [(AV.weak (AV.stripB x5))] AV.undef x7.2.2)) fun x8 =>
    some (Ex.normal, [v0, v1, v2, v3, x7.2.1, (AV.strip x8)], x7.2.2)
theorem a35s3_k0_x (call : CallT) (n : Nat) (v0 : AV) (v1 : AV) (v2 : AV) (v3 : AV) (x2 : AV × St) : a35s3_k0 call n v0 v1 v2 v3 x2 =
    obind (p1 (semMv call [(AV.weak (AV.stripB x2.1))] AV.undef x2.2)) fun x3 =>
    obind (p1 (semExt 0 call [(AV.weak (AV.stripB x3))] AV.undef x2.2)) fun x4 =>
    obind (p1 (semExt 1 call [(AV.weak (AV.stripB x3))] AV.undef x2.2)) fun x5 =>
    obind (semAlloc [.int .u8 0, .str [], .list true [], .list true []] call [] AV.undef x2.2) fun x6 =>
    obind (semStLc 4 4 call [(locOf 4 x6.2.1), (AV.stripB x4)] x6.2.1 x6.2.2) fun x7 =>
    obind (p1 (semMv call [(AV.weak (AV.stripB x5))] AV.undef x7.2.2)) fun x8 =>
    some (Ex.normal, [v0, v1, v2, v3, x7.2.1, (AV.strip x8)], x7.2.2) := spine rfl
theorem a35s3_x (call : CallT) (n : Nat) (v0 v1 v2 v3 v4 v5 : AV) (st : St) : exec call n a35s3 [v0, v1, v2, v3, v4, v5] st =
    obind (p1 (semMv call [(AV.weak v0)] AV.undef st)) fun x0 =>
    obind (p1 (semMv call [(AV.weak v1)] AV.undef st)) fun x1 =>
    obind (p2 (semCall 15 call [(AV.weak (AV.stripB x0)), (AV.weak (AV.stripB x1))] AV.undef st)) (a35s3_k0 call n v0 v1 v2 v3) :=
  (exec_reg call n [4] a35r2 [v0, v1, v2, v3, v4, v5] st).trans (by kernel_rfl)
theorem a35s5_x (call : CallT) (n : Nat) (v0 v1 v2 v3 v4 v5 : AV) (st : St) : exec call n a35s5 [v0, v1, v2, v3, v4, v5] st =
    obind (p1 (semMv call [(AV.weak v5)] AV.undef st)) fun x0 =>
    obind (p1 (semMv call [(AV.weak (AV.stripB x0))] AV.undef st)) fun x1 =>
    obind (gv (AV.weak (AV.stripB x1)) true (p1 (semFad 0 call [(locOf 4 v4)] AV.undef st))) fun x2 =>
    obind (gv (AV.weak (AV.stripB x1)) true (p1 (semLdLc 4 false 1 call [(AV.weak (AV.stripB x2))] v4 st))) fun x3 =>
    obind (gv (AV.weak (AV.stripB x1)) true (p1 (semMv call [(AV.weak v2)] AV.undef st))) fun x4 =>
    obind (gv (AV.weak (AV.stripB x1)) true (p1 (semBin .eql call [(AV.weak (AV.stripB x3)), (AV.weak (AV.stripB x4))] AV.undef st))) fun x5 =>
    obind (p1 (semPick call [(AV.weak (AV.stripB x1)), (AV.weak (AV.stripB x5)), (.bool false)] AV.undef st)) fun x6 =>
    obind (p1 (semMv call [(AV.weak (AV.stripB x6))] AV.undef st)) fun x7 =>
    some (Ex.normal, [v0, v1, v2, (AV.strip x7), v4, v5], st) :=
  (exec_reg call n [] a35r4 [v0, v1, v2, v3, v4, v5] st).trans (by kernel_rfl)
theorem a36s1_x (call : CallT) (n : Nat) (v0 v1 v2 v3 v4 v5 : AV) (st : St) : exec call n a36s1 [v0, v1, v2, v3, v4, v5] st =
    obind (p1 (semMv call [(.int .i64 0)] AV.undef st)) fun x0 =>
    some (Ex.normal, [v0, v1, (AV.strip x0), v3, v4, v5], st) :=
  (exec_reg call n [] a36r0 [v0, v1, v2, v3, v4, v5] st).trans (by kernel_rfl)
theorem a36s3_x (call : CallT) (n : Nat) (v0 v1 v2 v3 v4 v5 : AV) (st : St) : exec call n a36s3 [v0, v1, v2, v3, v4, v5] st =
    obind (p1 (semMv call [(AV.weak v0)] AV.undef st)) fun x0 =>
    obind (p1 (semLenL call [(AV.weak (AV.stripB x0))] AV.undef st)) fun x1 =>
    obind (p1 (semMv call [(.int .i64 0)] AV.undef st)) fun x2 =>
    some (Ex.normal, [v0, v1, v2, v3, (AV.strip x1), (AV.strip x2)], st) :=
  (exec_reg call n [] a36r2 [v0, v1, v2, v3, v4, v5] st).trans (by kernel_rfl)
theorem a36s5_x (call : CallT) (n : Nat) (v0 v1 v2 v3 v4 v5 : AV) (st : St) : exec call n a36s5 [v0, v1, v2, v3, v4, v5] st =
    obind (p1 (semBin .lss call [(AV.weak v5), (AV.weak v4)] AV.undef st)) fun x0 =>
    brT (AV.weak (AV.stripB x0)) (exeT call n .skip [v0, v1, v2, v3, v4, v5] st) (exeT call n (.exit 0) [v0, v1, v2, v3, v4, v5] st) :=
  (exec_testT call n [] a36r4 (.t 9) .skip (.exit 0) [v0, v1, v2, v3, v4, v5] st).trans (by kernel_rfl)
theorem a36s7_x (call : CallT) (n : Nat) (v0 v1 v2 v3 v4 v5 : AV) (st : St) : exec call n a36s7 [v0, v1, v2, v3, v4, v5] st =
    obind (p1 (semMv call [(AV.weak v5)] AV.undef st)) fun x0 =>
    obind (p1 (semMv call [(AV.weak (AV.stripB x0))] AV.undef st)) fun x1 =>
    some (Ex.normal, [v0, v1, v2, (AV.strip x1), v4, v5], st) :=
  (exec_reg call n [] a36r6 [v0, v1, v2, v3, v4, v5] st).trans (by kernel_rfl)
theorem a36s10_x (call : CallT) (n : Nat) (v0 v1 v2 v3 v4 v5 : AV) (st : St) : exec call n a36s10 [v0, v1, v2, v3, v4, v5] st =
    obind (p1 (semMv call [(AV.weak v3)] AV.undef st)) fun x0 =>
    obind (p1 (semMv call [(AV.weak (AV.stripB x0))] AV.undef st)) fun x1 =>
    some (Ex.normal, [v0, v1, (AV.strip x1), v3, v4, v5], st) :=
  (exec_reg call n [] a36r9 [v0, v1, v2, v3, v4, v5] st).trans (by kernel_rfl)
theorem a36s12_x (call : CallT) (n : Nat) (v0 v1 v2 v3 v4 v5 : AV) (st : St) : exec call n a36s12 [v0, v1, v2, v3, v4, v5] st =
    obind (p1 (semMv call [(AV.weak v1)] AV.undef st)) fun x0 =>
    obind (p1 (semMv call [(AV.weak v0)] AV.undef st)) fun x1 =>
    obind (p1 (semMv call [(AV.weak v3)] AV.undef st)) fun x2 =>
    obind (p1 (semIad 1 call [(AV.weak (AV.stripB x1)), (AV.weak (AV.stripB x2))] AV.undef st)) fun x3 =>
    obind (p1 (semLdRo false 1 call [(AV.weak (AV.stripB x3))] AV.undef st)) fun x4 =>
    obind (p1 (semBin .eql call [(AV.weak (AV.stripB x0)), (AV.weak (AV.stripB x4))] AV.undef st)) fun x5 =>
    brT (AV.weak (AV.stripB x5)) (exeT call n a36s11 [v0, v1, v2, v3, v4, v5] st) (exeT call n .skip [v0, v1, v2, v3, v4, v5] st) :=
  (exec_testT call n [] a36r8 (.t 16) a36s11 .skip [v0, v1, v2, v3, v4, v5] st).trans (by kernel_rfl)
theorem a36s16_x (call : CallT) (n : Nat) (v0 v1 v2 v3 v4 v5 : AV) (st : St) : exec call n a36s16 [v0, v1, v2, v3, v4, v5] st =
    obind (p1 (semBin .add call [(AV.weak v5), (.int .i64 1)] AV.undef st)) fun x0 =>
    obind (p1 (semMv call [(AV.weak (AV.stripB x0))] AV.undef st)) fun x1 =>
    some (Ex.normal, [v0, v1, v2, v3, v4, (AV.strip x1)], st) :=
  (exec_reg call n [] a36r15 [v0, v1, v2, v3, v4, v5] st).trans (by kernel_rfl)
theorem a36s23_x (call : CallT) (n : Nat) (v0 v1 v2 v3 v4 v5 : AV) (st : St) : exec call n a36s23 [v0, v1, v2, v3, v4, v5] st =
    obind (p1 (semMv call [(.int .i64 (-1))] AV.undef st)) fun x0 =>
    some (Ex.normal, [v0, v1, (AV.strip x0), v3, v4, v5], st) :=
  (exec_reg call n [] a36r22 [v0, v1, v2, v3, v4, v5] st).trans (by kernel_rfl)
theorem a37s1_x (call : CallT) (n : Nat) (v0 v1 v2 v3 v4 v5 v6 : AV) (st : St) : exec call n a37s1 [v0, v1, v2, v3, v4, v5, v6] st =
    obind (p1 (semMv call [(.list true [])] AV.undef st)) fun x0 =>
    some (Ex.normal, [v0, (AV.strip x0), v2, v3, v4, v5, v6], st) :=
  (exec_reg call n [] a37r0 [v0, v1, v2, v3, v4, v5, v6] st).trans (by kernel_rfl)
theorem a37s3_x (call : CallT) (n : Nat) (v0 v1 v2 v3 v4 v5 v6 : AV) (st : St) : exec call n a37s3 [v0, v1, v2, v3, v4, v5, v6] st =
    obind (p1 (semMv call [(.list true [])] AV.undef st)) fun x0 =>
    some (Ex.normal, [v0, v1, (AV.strip x0), v3, v4, v5, v6], st) :=
  (exec_reg call n [] a37r2 [v0, v1, v2, v3, v4, v5, v6] st).trans (by kernel_rfl)
theorem a37s5_x (call : CallT) (n : Nat) (v0 v1 v2 v3 v4 v5 v6 : AV) (st : St) : exec call n a37s5 [v0, v1, v2, v3, v4, v5, v6] st =
    obind (p1 (semMv call [(AV.weak v0)] AV.undef st)) fun x0 =>
    obind (p1 (semLenL call [(AV.weak (AV.strip x0))] AV.undef st)) fun x1 =>
    obind (p1 (semMv call [(.int .i64 0)] AV.undef st)) fun x2 =>
    some (Ex.normal, [v0, v1, v2, v3, (AV.strip x0), (AV.strip x1), (AV.strip x2)], st) :=
  (exec_reg call n [] a37r4 [v0, v1, v2, v3, v4, v5, v6] st).trans (by kernel_rfl)
theorem a37s7_x (call : CallT) (n : Nat) (v0 v1 v2 v3 v4 v5 v6 : AV) (st : St) : exec call n a37s7 [v0, v1, v2, v3, v4, v5, v6] st =
    obind (p1 (semBin .lss call [(AV.weak v6), (AV.weak v5)] AV.undef st)) fun x0 =>
    brT (AV.weak (AV.stripB x0)) (exeT call n .skip [v0, v1, v2, v3, v4, v5, v6] st) (exeT call n (.exit 0) [v0, v1, v2, v3, v4, v5, v6] st) :=
  (exec_testT call n [] a37r6 (.t 9) .skip (.exit 0) [v0, v1, v2, v3, v4, v5, v6] st).trans (by kernel_rfl)
theorem a37s9_x (call : CallT) (n : Nat) (v0 v1 v2 v3 v4 v5 v6 : AV) (st : St) : exec call n a37s9 [v0, v1, v2, v3, v4, v5, v6] st =
    obind (p1 (semIad 11 call [(AV.weak v4), (AV.weak v6)] AV.undef st)) fun x0 =>
    obind (p1 (semLdRo true 11 call [(AV.weak (AV.stripB x0))] AV.undef st)) fun x1 =>
    obind (semAlloc [.str [], .list true [], .str [], .list true [], .bool false, .bool false, .int .u8 0, .int .i64 0, .str [], .list true [], .list true []] call [] AV.undef st) fun x2 =>
    obind (semStLc 3 11 call [(locOf 3 x2.2.1), (AV.stripB x1)] x2.2.1 x2.2.2) fun x3 =>
    some (Ex.normal, [v0, v1, v2, x3.2.1, v4, v5, v6], x3.2.2) :=
  (exec_reg call n [3] a37r8 [v0, v1, v2, v3, v4, v5, v6] st).trans (by kernel_rfl)
theorem a37s11_x (call : CallT) (n : Nat) (v0 v1 v2 v3 v4 v5 v6 : AV) (st : St) : exec call n a37s11 [v0, v1, v2, v3, v4, v5, v6] st =
    obind (semMv call [v2] AV.undef st) fun x0 =>
    obind (p1 (semFad 0 call [(locOf 3 v3)] AV.undef x0.2.2)) fun x1 =>
    obind (p1 (semLdLc 3 false 1 call [(AV.weak (AV.stripB x1))] v3 x0.2.2)) fun x2 =>
    obind (p1 (semBslice 1 [[.str []]] [0] call [(AV.weak (AV.stripB x2))] AV.undef x0.2.2)) fun x3 =>
    obind (semApp 1 16 call [(AV.stripB x0.1), (AV.weak (AV.stripB x3))] AV.undef x0.2.2) fun x4 =>
    obind (semMv call [(AV.stripB x4.1)] AV.undef x4.2.2) fun x5 =>
    some (Ex.normal, [v0, v1, (AV.strip x5.1), v3, v4, v5, v6], x5.2.2) :=
  (exec_reg call n [] a37r10 [v0, v1, v2, v3, v4, v5, v6] st).trans (by kernel_rfl)
theorem a37s15_x (call : CallT) (n : Nat) (v0 v1 v2 v3 v4 v5 v6 : AV) (st : St) : exec call n a37s15 [v0, v1, v2, v3, v4, v5, v6] st =
    obind (p1 (semBin .add call [(AV.weak v6), (.int .i64 1)] AV.undef st)) fun x0 =>
    obind (p1 (semMv call [(AV.weak (AV.stripB x0))] AV.undef st)) fun x1 =>
    some (Ex.normal, [v0, v1, v2, v3, v4, v5, (AV.strip x1)], st) :=
  (exec_reg call n [] a37r14 [v0, v1, v2, v3, v4, v5, v6] st).trans (by kernel_rfl)
theorem a37s22_x (call : CallT) (n : Nat) (v0 v1 v2 v3 v4 v5 v6 : AV) (st : St) : exec call n a37s22 [v0, v1, v2, v3, v4, v5, v6] st =
    obind (semMv call [v2] AV.undef st) fun x0 =>
    obind (semMv call [(AV.stripB x0.1)] AV.undef x0.2.2) fun x1 =>
    some (Ex.normal, [v0, (AV.strip x1.1), (AV.weak v2), v3, v4, v5, v6], x1.2.2) :=
  (exec_reg call n [] a37r21 [v0, v1, v2, v3, v4, v5, v6] st).trans (by kernel_rfl)
theorem a39s1_x (call : CallT) (n : Nat) (v0 v1 v2 v3 v4 v5 v6 : AV) (st : St) : exec call n a39s1 [v0, v1, v2, v3, v4, v5, v6] st =
    obind (semBoxV call [(AV.weak v0)] AV.undef st) fun x0 =>
    obind (p1 (semMv call [(.int .i64 0)] AV.undef x0.2.2)) fun x1 =>
    some (Ex.normal, [v0, v1, v2, x0.2.1, (AV.strip x1), v5, v6], x0.2.2) :=
  (exec_reg call n [3] a39r0 [v0, v1, v2, v3, v4, v5, v6] st).trans (by kernel_rfl)
theorem a39s3_x (call : CallT) (n : Nat) (v0 v1 v2 v3 v4 v5 v6 : AV) (st : St) : exec call n a39s3 [v0, v1, v2, v3, v4, v5, v6] st =
    obind (p1 (semMv call [(.int .i64 1)] AV.undef st)) fun x0 =>
    some (Ex.normal, [v0, v1, v2, v3, v4, (AV.strip x0), v6], st) :=
  (exec_reg call n [] a39r2 [v0, v1, v2, v3, v4, v5, v6] st).trans (by kernel_rfl)
theorem a39s6_x (call : CallT) (n : Nat) (v0 v1 v2 v3 v4 v5 v6 : AV) (st : St) : exec call n a39s6 [v0, v1, v2, v3, v4, v5, v6] st =
    obind (p1 (semMv call [(AV.weak v2)] AV.undef st)) fun x0 =>
    obind (p1 (semBin .add call [(AV.weak (AV.stripB x0)), (.int .i64 1)] AV.undef st)) fun x1 =>
    obind (p1 (semMv call [(AV.weak (AV.stripB x1))] AV.undef st)) fun x2 =>
    some (Ex.normal, [v0, v1, v2, v3, (AV.strip x2), v5, v6], st) :=
  (exec_reg call n [] a39r5 [v0, v1, v2, v3, v4, v5, v6] st).trans (by kernel_rfl)
theorem a39s8_x (call : CallT) (n : Nat) (v0 v1 v2 v3 v4 v5 v6 : AV) (st : St) : exec call n a39s8 [v0, v1, v2, v3, v4, v5, v6] st =
    obind (p1 (semMv call [(AV.weak v1)] AV.undef st)) fun x0 =>
    obind (p1 (semBin .gtr call [(AV.weak (AV.stripB x0)), (.int .i64 60)] AV.undef st)) fun x1 =>
    brT (AV.weak (AV.stripB x1)) (exeT call n a39s7 [v0, v1, v2, v3, v4, v5, v6] st) (exeT call n .skip [v0, v1, v2, v3, v4, v5, v6] st) :=
  (exec_testT call n [] a39r4 (.t 10) a39s7 .skip [v0, v1, v2, v3, v4, v5, v6] st).trans (by kernel_rfl)
theorem a39s11_x (call : CallT) (n : Nat) (v0 v1 v2 v3 v4 v5 v6 : AV) (st : St) : exec call n a39s11 [v0, v1, v2, v3, v4, v5, v6] st =
    obind (p1 (semMv call [(AV.weak v2)] AV.undef st)) fun x0 =>
    obind (p1 (semBin .add call [(AV.weak (AV.stripB x0)), (.int .i64 1)] AV.undef st)) fun x1 =>
    obind (p1 (semMv call [(AV.weak (AV.stripB x1))] AV.undef st)) fun x2 =>
    some (Ex.normal, [v0, v1, v2, v3, (AV.strip x2), v5, v6], st) :=
  (exec_reg call n [] a39r10 [v0, v1, v2, v3, v4, v5, v6] st).trans (by kernel_rfl)
theorem a39s13_x (call : CallT) (n : Nat) (v0 v1 v2 v3 v4 v5 v6 : AV) (st : St) : exec call n a39s13 [v0, v1, v2, v3, v4, v5, v6] st =
    obind (p1 (semFad 3 call [(locOf 3 v3)] AV.undef st)) fun x0 =>
    obind (p1 (semLdLc 3 false 1 call [(AV.weak (AV.stripB x0))] v3 st)) fun x1 =>
    obind (p1 (semLenL call [(AV.weak (AV.stripB x1))] AV.undef st)) fun x2 =>
    obind (p1 (semMv call [(AV.weak v2)] AV.undef st)) fun x3 =>
    obind (p1 (semBin .gtr call [(AV.weak (AV.stripB x2)), (AV.weak (AV.stripB x3))] AV.undef st)) fun x4 =>
    obind (p1 (semMv call [(AV.weak (AV.stripB x4))] AV.undef st)) fun x5 =>
    obind (gv (AV.weak (AV.stripB x5)) false (p1 (semFad 4 call [(locOf 3 v3)] AV.undef st))) fun x6 =>
    obind (gv (AV.weak (AV.stripB x5)) false (p1 (semLdLc 3 false 1 call [(AV.weak (AV.stripB x6))] v3 st))) fun x7 =>
    obind (gv (AV.weak (AV.stripB x5)) false (p1 (semLenL call [(AV.weak (AV.stripB x7))] AV.undef st))) fun x8 =>
    obind (gv (AV.weak (AV.stripB x5)) false (p1 (semMv call [(AV.weak v2)] AV.undef st))) fun x9 =>
    obind (gv (AV.weak (AV.stripB x5)) false (p1 (semBin .gtr call [(AV.weak (AV.stripB x8)), (AV.weak (AV.stripB x9))] AV.undef st))) fun x10 =>
    obind (p1 (semPick call [(AV.weak (AV.stripB x5)), (.bool true), (AV.weak (AV.stripB x10))] AV.undef st)) fun x11 =>
    brT (AV.weak (AV.stripB x11)) (exeT call n a39s12 [v0, v1, v2, v3, v4, v5, v6] st) (exeT call n .skip [v0, v1, v2, v3, v4, v5, v6] st) :=
  (exec_testT call n [] a39r9 (.t 24) a39s12 .skip [v0, v1, v2, v3, v4, v5, v6] st).trans (by kernel_rfl)
theorem a39s15_x (call : CallT) (n : Nat) (v0 v1 v2 v3 v4 v5 v6 : AV) (st : St) : exec call n a39s15 [v0, v1, v2, v3, v4, v5, v6] st =
    obind (p1 (semMv call [(.int .i64 0)] AV.undef st)) fun x0 =>
    some (Ex.normal, [v0, v1, v2, v3, v4, v5, (AV.strip x0)], st) :=
  (exec_reg call n [] a39r14 [v0, v1, v2, v3, v4, v5, v6] st).trans (by kernel_rfl)
theorem a39s17_x (call : CallT) (n : Nat) (v0 v1 v2 v3 v4 v5 v6 : AV) (st : St) : exec call n a39s17 [v0, v1, v2, v3, v4, v5, v6] st =
    obind (p1 (semMv call [(AV.weak v6)] AV.undef st)) fun x0 =>
    obind (p1 (semFad 4 call [(locOf 3 v3)] AV.undef st)) fun x1 =>
    obind (p1 (semLdLc 3 false 1 call [(AV.weak (AV.stripB x1))] v3 st)) fun x2 =>
    obind (p1 (semLenL call [(AV.weak (AV.stripB x2))] AV.undef st)) fun x3 =>
    obind (p1 (semBin .lss call [(AV.weak (AV.stripB x0)), (AV.weak (AV.stripB x3))] AV.undef st)) fun x4 =>
    obind (p1 (semMv call [(AV.weak (AV.stripB x4))] AV.undef st)) fun x5 =>
    obind (gv (AV.weak (AV.stripB x5)) true (p1 (semMv call [(AV.weak v5)] AV.undef st))) fun x6 =>
    obind (gv (AV.weak (AV.stripB x5)) true (p1 (semMv call [(AV.weak v2)] AV.undef st))) fun x7 =>
    obind (gv (AV.weak (AV.stripB x5)) true (p1 (semBin .leq call [(AV.weak (AV.stripB x6)), (AV.weak (AV.stripB x7))] AV.undef st))) fun x8 =>
    obind (p1 (semPick call [(AV.weak (AV.stripB x5)), (AV.weak (AV.stripB x8)), (.bool false)] AV.undef st)) fun x9 =>
    brT (AV.weak (AV.stripB x9)) (exeT call n .skip [v0, v1, v2, v3, v4, v5, v6] st) (exeT call n (.exit 0) [v0, v1, v2, v3, v4, v5, v6] st) :=
  (exec_testT call n [] a39r16 (.t 36) .skip (.exit 0) [v0, v1, v2, v3, v4, v5, v6] st).trans (by kernel_rfl)
def a39s19_k0 (call : CallT) (n : Nat) (v0 : AV) (v1 : AV) (v2 : AV) (v3 : AV) (v4 : AV) (v6 : AV) (x0 : AV) (x11 : AV × St) : Option Out :=
    obind (p1 (semBin .add call [(AV.weak (AV.stripB x0)), (AV.weak (AV.stripB x11.1))] AV.undef x11.2)) fun x12 =>
    obind (p1 (semMv call [(AV.weak (AV.stripB x12))] AV.undef x11.2)) fun x13 =>
    some (Ex.normal, [v0, v1, v2, v3, v4, (AV.strip x13), v6], x11.2)
theorem a39s19_k0_x (call : CallT) (n : Nat) (v0 : AV) (v1 : AV) (v2 : AV) (v3 : AV) (v4 : AV) (v6 : AV) (x0 : AV) (x11 : AV × St) : a39s19_k0 call n v0 v1 v2 v3 v4 v6 x0 x11 =
    obind (p1 (semBin .add call [(AV.weak (AV.stripB x0)), (AV.weak (AV.stripB x11.1))] AV.undef x11.2)) fun x12 =>
    obind (p1 (semMv call [(AV.weak (AV.stripB x12))] AV.undef x11.2)) fun x13 =>
    some (Ex.normal, [v0, v1, v2, v3, v4, (AV.strip x13), v6], x11.2) := spine rfl
theorem a39s19_x (call : CallT) (n : Nat) (v0 v1 v2 v3 v4 v5 v6 : AV) (st : St) : exec call n a39s19 [v0, v1, v2, v3, v4, v5, v6] st =
    obind (p1 (semMv call [(AV.weak v5)] AV.undef st)) fun x0 =>
    obind (p1 (semFad 4 call [(locOf 3 v3)] AV.undef st)) fun x1 =>
    obind (p1 (semLdLc 3 false 1 call [(AV.weak (AV.stripB x1))] v3 st)) fun x2 =>
    obind (p1 (semMv call [(AV.weak v6)] AV.undef st)) fun x3 =>
    obind (p1 (semIad 5 call [(AV.weak (AV.stripB x2)), (AV.weak (AV.stripB x3))] AV.undef st)) fun x4 =>
    obind (p1 (semLdRo true 5 call [(AV.weak (AV.stripB x4))] AV.undef st)) fun x5 =>
    obind (p1 (semMv call [(AV.weak v1)] AV.undef st)) fun x6 =>
    obind (p1 (semBin .add call [(AV.weak (AV.stripB x6)), (.int .i64 1)] AV.undef st)) fun x7 =>
    obind (p1 (semMv call [(AV.weak v2)] AV.undef st)) fun x8 =>
    obind (p1 (semMv call [(AV.weak v5)] AV.undef st)) fun x9 =>
    obind (p1 (semBin .sub call [(AV.weak (AV.stripB x8)), (AV.weak (AV.stripB x9))] AV.undef st)) fun x10 =>
    obind (p2 (semCall 39 call [(AV.weak (AV.stripB x5)), (AV.weak (AV.stripB x7)), (AV.weak (AV.stripB x10))] AV.undef st)) (a39s19_k0 call n v0 v1 v2 v3 v4 v6 x0) :=
  (exec_reg call n [] a39r18 [v0, v1, v2, v3, v4, v5, v6] st).trans (by kernel_rfl)
theorem a39s22_x (call : CallT) (n : Nat) (v0 v1 v2 v3 v4 v5 v6 : AV) (st : St) : exec call n a39s22 [v0, v1, v2, v3, v4, v5, v6] st =
    obind (p1 (semMv call [(AV.weak v6)] AV.undef st)) fun x0 =>
    obind (p1 (semBin .add call [(AV.weak (AV.stripB x0)), (.int .i64 1)] AV.undef st)) fun x1 =>
    obind (p1 (semMv call [(AV.weak (AV.stripB x1))] AV.undef st)) fun x2 =>
    some (Ex.normal, [v0, v1, v2, v3, v4, v5, (AV.strip x2)], st) :=
  (exec_reg call n [] a39r21 [v0, v1, v2, v3, v4, v5, v6] st).trans (by kernel_rfl)
theorem a39s29_x (call : CallT) (n : Nat) (v0 v1 v2 v3 v4 v5 v6 : AV) (st : St) : exec call n a39s29 [v0, v1, v2, v3, v4, v5, v6] st =
    obind (p1 (semMv call [(AV.weak v5)] AV.undef st)) fun x0 =>
    obind (p1 (semMv call [(AV.weak (AV.stripB x0))] AV.undef st)) fun x1 =>
    some (Ex.normal, [v0, v1, v2, v3, (AV.strip x1), v5, v6], st) :=
  (exec_reg call n [] a39r28 [v0, v1, v2, v3, v4, v5, v6] st).trans (by kernel_rfl)
theorem a7_e : a7 = AFn.mk 2 9 [.v 3] a7c none := spine rfl
theorem a7s5_e : a7s5 = .seq a7s4 .ret := spine rfl
theorem a7s15_e : a7s15 = .seq a7s14 .ret := spine rfl
theorem a7s16_e : a7s16 = .seq a7s12 a7s15 := spine rfl
theorem a7s17_e : a7s17 = .seq a7s10 a7s16 := spine rfl
theorem a7s18_e : a7s18 = .seq a7s8 a7s17 := spine rfl
theorem a7s19_e : a7s19 = .seq a7s6 a7s18 := spine rfl
theorem a7s20_e : a7s20 = .seq a7s1 a7s19 := spine rfl
theorem a7c_e : a7c = a7s20 := spine rfl
theorem K7 : type_of% (And.intro (And.intro (And.intro (And.intro (@a7_e) (And.intro (@a7s1_x) (@a7s4_x))) (And.intro (And.intro (@a7s5_e) (@a7s6_x)) (And.intro (@a7s8_x) (@a7s10_x)))) (And.intro (And.intro (@a7s12_x) (And.intro (@a7s14_x) (@a7s15_e))) (And.intro (And.intro (@a7s16_e) (@a7s17_e)) (And.intro (@a7s18_e) (@a7s19_e))))) (And.intro (And.intro (And.intro (@a7s20_e) (And.intro (@a7c_e) (@a7s4_k0_x))) (And.intro (And.intro (@a7s6_k0_x) (@a7s6_k1_x)) (And.intro (@a7s10_k0_x) (@a7s12_k0_x)))) (And.intro (And.intro (And.intro (@a7s14_k0_x) (@a7s14_k1_x)) (And.intro (@a7s14_k2_x) (@a7s14_k3_x))) (And.intro (And.intro (@a7s14_k4_x) (@a7s14_k5_x)) (And.intro (@a7s14_k6_x) (@a7s14_k7_x)))))) := And.intro (And.intro (And.intro (And.intro (@a7_e) (And.intro (@a7s1_x) (@a7s4_x))) (And.intro (And.intro (@a7s5_e) (@a7s6_x)) (And.intro (@a7s8_x) (@a7s10_x)))) (And.intro (And.intro (@a7s12_x) (And.intro (@a7s14_x) (@a7s15_e))) (And.intro (And.intro (@a7s16_e) (@a7s17_e)) (And.intro (@a7s18_e) (@a7s19_e))))) (And.intro (And.intro (And.intro (@a7s20_e) (And.intro (@a7c_e) (@a7s4_k0_x))) (And.intro (And.intro (@a7s6_k0_x) (@a7s6_k1_x)) (And.intro (@a7s10_k0_x) (@a7s12_k0_x)))) (And.intro (And.intro (And.intro (@a7s14_k0_x) (@a7s14_k1_x)) (And.intro (@a7s14_k2_x) (@a7s14_k3_x))) (And.intro (And.intro (@a7s14_k4_x) (@a7s14_k5_x)) (And.intro (@a7s14_k6_x) (@a7s14_k7_x)))))
theorem a11_e : a11 = AFn.mk 2 10 [.v 2] a11c none := spine rfl
theorem a11s7_e : a11s7 = .seq a11s6 .ret := spine rfl
theorem a11s11_e : a11s11 = .seq a11s10 .ret := spine rfl
theorem a11s15_e : a11s15 = .seq a11s14 .ret := spine rfl
theorem a11s19_e : a11s19 = .seq a11s18 .ret := spine rfl
theorem a11s24_e : a11s24 = .blk 0 a11s23 := spine rfl
theorem a11s37_e : a11s37 = .seq a11s32 a11s36 := spine rfl
theorem a11s38_e : a11s38 = .blk 2 a11s37 := spine rfl
theorem a11s41_e : a11s41 = .seq a11s38 a11s40 := spine rfl
theorem a11s42_e : a11s42 = .seq a11s30 a11s41 := spine rfl
theorem a11s43_e : a11s43 = .loop a11s42 := spine rfl
theorem a11s44_e : a11s44 = .blk 1 a11s43 := spine rfl
theorem a11s45_e : a11s45 = .seq a11s28 a11s44 := spine rfl
theorem a11s48_e : a11s48 = .seq a11s47 .ret := spine rfl
theorem a11s49_e : a11s49 = .seq a11s45 a11s48 := spine rfl
theorem a11s50_e : a11s50 = .seq a11s26 a11s49 := spine rfl
theorem a11s51_e : a11s51 = .seq a11s24 a11s50 := spine rfl
theorem a11s52_e : a11s52 = .seq a11s3 a11s51 := spine rfl
theorem a11s53_e : a11s53 = .seq a11s1 a11s52 := spine rfl
theorem a11c_e : a11c = a11s53 := spine rfl
theorem K11 : type_of% (And.intro (And.intro (And.intro (And.intro (And.intro (@a11_e) (@a11s1_x)) (And.intro (@a11s3_x) (And.intro (@a11s6_x) (@a11s7_e)))) (And.intro (And.intro (@a11s10_x) (@a11s11_e)) (And.intro (@a11s14_x) (And.intro (@a11s15_e) (@a11s18_x))))) (And.intro (And.intro (And.intro (@a11s19_e) (@a11s20_x)) (And.intro (@a11s21_x) (And.intro (@a11s22_x) (@a11s23_x)))) (And.intro (And.intro (@a11s24_e) (@a11s26_x)) (And.intro (@a11s28_x) (And.intro (@a11s30_x) (@a11s32_x)))))) (And.intro (And.intro (And.intro (And.intro (@a11s35_x) (@a11s36_x)) (And.intro (@a11s37_e) (And.intro (@a11s38_e) (@a11s40_x)))) (And.intro (And.intro (@a11s41_e) (@a11s42_e)) (And.intro (@a11s43_e) (And.intro (@a11s44_e) (@a11s45_e))))) (And.intro (And.intro (And.intro (@a11s47_x) (@a11s48_e)) (And.intro (@a11s49_e) (And.intro (@a11s50_e) (@a11s51_e)))) (And.intro (And.intro (@a11s52_e) (And.intro (@a11s53_e) (@a11c_e))) (And.intro (@a11s3_k0_x) (And.intro (@a11s14_k0_x) (@a11s36_k0_x))))))) := And.intro (And.intro (And.intro (And.intro (And.intro (@a11_e) (@a11s1_x)) (And.intro (@a11s3_x) (And.intro (@a11s6_x) (@a11s7_e)))) (And.intro (And.intro (@a11s10_x) (@a11s11_e)) (And.intro (@a11s14_x) (And.intro (@a11s15_e) (@a11s18_x))))) (And.intro (And.intro (And.intro (@a11s19_e) (@a11s20_x)) (And.intro (@a11s21_x) (And.intro (@a11s22_x) (@a11s23_x)))) (And.intro (And.intro (@a11s24_e) (@a11s26_x)) (And.intro (@a11s28_x) (And.intro (@a11s30_x) (@a11s32_x)))))) (And.intro (And.intro (And.intro (And.intro (@a11s35_x) (@a11s36_x)) (And.intro (@a11s37_e) (And.intro (@a11s38_e) (@a11s40_x)))) (And.intro (And.intro (@a11s41_e) (@a11s42_e)) (And.intro (@a11s43_e) (And.intro (@a11s44_e) (@a11s45_e))))) (And.intro (And.intro (And.intro (@a11s47_x) (@a11s48_e)) (And.intro (@a11s49_e) (And.intro (@a11s50_e) (@a11s51_e)))) (And.intro (And.intro (@a11s52_e) (And.intro (@a11s53_e) (@a11c_e))) (And.intro (@a11s3_k0_x) (And.intro (@a11s14_k0_x) (@a11s36_k0_x))))))
theorem a12_e : a12 = AFn.mk 2 3 [.v 2] a12c none := spine rfl
theorem a12s4_e : a12s4 = .seq a12s3 .ret := spine rfl
theorem a12s5_e : a12s5 = .seq a12s1 a12s4 := spine rfl
theorem a12c_e : a12c = a12s5 := spine rfl
theorem K12 : type_of% (And.intro (And.intro (And.intro (@a12_e) (@a12s1_x)) (And.intro (@a12s3_x) (And.intro (@a12s4_e) (@a12s5_e)))) (And.intro (And.intro (@a12c_e) (@a12s3_k0_x)) (And.intro (@a12s3_k1_x) (And.intro (@a12s3_k2_x) (@a12s3_k3_x))))) := And.intro (And.intro (And.intro (@a12_e) (@a12s1_x)) (And.intro (@a12s3_x) (And.intro (@a12s4_e) (@a12s5_e)))) (And.intro (And.intro (@a12c_e) (@a12s3_k0_x)) (And.intro (@a12s3_k1_x) (And.intro (@a12s3_k2_x) (@a12s3_k3_x))))
theorem a15_e : a15 = AFn.mk 2 6 [.bx 2 true 4, .v 3] a15c none := spine rfl
theorem a15s5_e : a15s5 = .seq a15s4 .ret := spine rfl
theorem a15s12_e : a15s12 = .seq a15s11 .ret := spine rfl
theorem a15s16_e : a15s16 = .seq a15s15 .ret := spine rfl
theorem a15s17_e : a15s17 = .seq a15s13 a15s16 := spine rfl
theorem a15s18_e : a15s18 = .seq a15s8 a15s17 := spine rfl
theorem a15s19_e : a15s19 = .seq a15s6 a15s18 := spine rfl
theorem a15s20_e : a15s20 = .seq a15s1 a15s19 := spine rfl
theorem a15c_e : a15c = a15s20 := spine rfl
theorem K15 : type_of% (And.intro (And.intro (And.intro (And.intro (@a15_e) (@a15s1_x)) (And.intro (@a15s4_x) (@a15s5_e))) (And.intro (And.intro (@a15s6_x) (@a15s8_x)) (And.intro (@a15s11_x) (@a15s12_e)))) (And.intro (And.intro (And.intro (@a15s13_x) (@a15s15_x)) (And.intro (@a15s16_e) (@a15s17_e))) (And.intro (And.intro (@a15s18_e) (@a15s19_e)) (And.intro (@a15s20_e) (@a15c_e))))) := And.intro (And.intro (And.intro (And.intro (@a15_e) (@a15s1_x)) (And.intro (@a15s4_x) (@a15s5_e))) (And.intro (And.intro (@a15s6_x) (@a15s8_x)) (And.intro (@a15s11_x) (@a15s12_e)))) (And.intro (And.intro (And.intro (@a15s13_x) (@a15s15_x)) (And.intro (@a15s16_e) (@a15s17_e))) (And.intro (And.intro (@a15s18_e) (@a15s19_e)) (And.intro (@a15s20_e) (@a15c_e))))
theorem a16_e : a16 = AFn.mk 1 2 [.v 1] a16c none := spine rfl
theorem a16s5_e : a16s5 = .seq a16s4 .ret := spine rfl
theorem a16s9_e : a16s9 = .seq a16s8 .ret := spine rfl
theorem a16s10_e : a16s10 = .seq a16s6 a16s9 := spine rfl
theorem a16s11_e : a16s11 = .seq a16s1 a16s10 := spine rfl
theorem a16c_e : a16c = a16s11 := spine rfl
theorem K16 : type_of% (And.intro (And.intro (And.intro (@a16_e) (@a16s1_x)) (And.intro (@a16s4_x) (And.intro (@a16s5_e) (@a16s6_x)))) (And.intro (And.intro (@a16s8_x) (And.intro (@a16s9_e) (@a16s10_e))) (And.intro (@a16s11_e) (And.intro (@a16c_e) (@a16s8_k0_x))))) := And.intro (And.intro (And.intro (@a16_e) (@a16s1_x)) (And.intro (@a16s4_x) (And.intro (@a16s5_e) (@a16s6_x)))) (And.intro (And.intro (@a16s8_x) (And.intro (@a16s9_e) (@a16s10_e))) (And.intro (@a16s11_e) (And.intro (@a16c_e) (@a16s8_k0_x))))
theorem a17_e : a17 = AFn.mk 3 8 [.bx 3 true 11, .v 4] a17c none := spine rfl
theorem a17s7_e : a17s7 = .seq a17s6 .ret := spine rfl
theorem a17s14_e : a17s14 = .seq a17s13 .ret := spine rfl
theorem a17s16_e : a17s16 = .seq a17s10 a17s15 := spine rfl
theorem a17s19_e : a17s19 = .seq a17s18 .ret := spine rfl
theorem a17s20_e : a17s20 = .seq a17s16 a17s19 := spine rfl
theorem a17s21_e : a17s21 = .seq a17s8 a17s20 := spine rfl
theorem a17s22_e : a17s22 = .seq a17s3 a17s21 := spine rfl
theorem a17s23_e : a17s23 = .seq a17s1 a17s22 := spine rfl
theorem a17c_e : a17c = a17s23 := spine rfl
theorem K17 : type_of% (And.intro (And.intro (And.intro (And.intro (@a17_e) (@a17s1_x)) (And.intro (@a17s3_x) (And.intro (@a17s6_x) (@a17s7_e)))) (And.intro (And.intro (@a17s8_x) (And.intro (@a17s10_x) (@a17s13_x))) (And.intro (@a17s14_e) (And.intro (@a17s15_x) (@a17s16_e))))) (And.intro (And.intro (And.intro (@a17s18_x) (And.intro (@a17s19_e) (@a17s20_e))) (And.intro (@a17s21_e) (And.intro (@a17s22_e) (@a17s23_e)))) (And.intro (And.intro (@a17c_e) (And.intro (@a17s3_k0_x) (@a17s8_k0_x))) (And.intro (@a17s8_k1_x) (And.intro (@a17s10_k0_x) (@a17s10_k1_x)))))) := And.intro (And.intro (And.intro (And.intro (@a17_e) (@a17s1_x)) (And.intro (@a17s3_x) (And.intro (@a17s6_x) (@a17s7_e)))) (And.intro (And.intro (@a17s8_x) (And.intro (@a17s10_x) (@a17s13_x))) (And.intro (@a17s14_e) (And.intro (@a17s15_x) (@a17s16_e))))) (And.intro (And.intro (And.intro (@a17s18_x) (And.intro (@a17s19_e) (@a17s20_e))) (And.intro (@a17s21_e) (And.intro (@a17s22_e) (@a17s23_e)))) (And.intro (And.intro (@a17c_e) (And.intro (@a17s3_k0_x) (@a17s8_k0_x))) (And.intro (@a17s8_k1_x) (And.intro (@a17s10_k0_x) (@a17s10_k1_x)))))
theorem a19_e : a19 = AFn.mk 1 3 [.v 2] a19c none := spine rfl
theorem a19s4_e : a19s4 = .seq a19s3 .ret := spine rfl
theorem a19s5_e : a19s5 = .seq a19s1 a19s4 := spine rfl
theorem a19c_e : a19c = a19s5 := spine rfl
theorem K19 : type_of% (And.intro (And.intro (@a19_e) (And.intro (@a19s1_x) (@a19s3_x))) (And.intro (And.intro (@a19s4_e) (@a19s5_e)) (And.intro (@a19c_e) (@a19s3_k0_x)))) := And.intro (And.intro (@a19_e) (And.intro (@a19s1_x) (@a19s3_x))) (And.intro (And.intro (@a19s4_e) (@a19s5_e)) (And.intro (@a19c_e) (@a19s3_k0_x)))
theorem a20_e : a20 = AFn.mk 1 6 [.v 2] a20c none := spine rfl
theorem a20s9_e : a20s9 = .seq a20s8 .ret := spine rfl
theorem a20s14_e : a20s14 = .seq a20s13 .ret := spine rfl
theorem a20s23_e : a20s23 = .seq a20s22 .ret := spine rfl
theorem a20s25_e : a20s25 = .blk 1 a20s24 := spine rfl
theorem a20s28_e : a20s28 = .seq a20s25 a20s27 := spine rfl
theorem a20s29_e : a20s29 = .seq a20s19 a20s28 := spine rfl
theorem a20s30_e : a20s30 = .loop a20s29 := spine rfl
theorem a20s31_e : a20s31 = .blk 0 a20s30 := spine rfl
theorem a20s32_e : a20s32 = .seq a20s17 a20s31 := spine rfl
theorem a20s35_e : a20s35 = .seq a20s34 .ret := spine rfl
theorem a20s36_e : a20s36 = .seq a20s32 a20s35 := spine rfl
theorem a20s37_e : a20s37 = .seq a20s15 a20s36 := spine rfl
theorem a20s38_e : a20s38 = .seq a20s10 a20s37 := spine rfl
theorem a20s39_e : a20s39 = .seq a20s5 a20s38 := spine rfl
theorem a20s40_e : a20s40 = .seq a20s3 a20s39 := spine rfl
theorem a20s41_e : a20s41 = .seq a20s1 a20s40 := spine rfl
theorem a20c_e : a20c = a20s41 := spine rfl
theorem K20 : type_of% (And.intro (And.intro (And.intro (And.intro (And.intro (@a20_e) (@a20s1_x)) (And.intro (@a20s3_x) (@a20s5_x))) (And.intro (And.intro (@a20s8_x) (@a20s9_e)) (And.intro (@a20s10_x) (@a20s13_x)))) (And.intro (And.intro (And.intro (@a20s14_e) (@a20s15_x)) (And.intro (@a20s17_x) (@a20s19_x))) (And.intro (And.intro (@a20s22_x) (@a20s23_e)) (And.intro (@a20s24_x) (@a20s25_e))))) (And.intro (And.intro (And.intro (And.intro (@a20s27_x) (@a20s28_e)) (And.intro (@a20s29_e) (@a20s30_e))) (And.intro (And.intro (@a20s31_e) (@a20s32_e)) (And.intro (@a20s34_x) (@a20s35_e)))) (And.intro (And.intro (And.intro (@a20s36_e) (@a20s37_e)) (And.intro (@a20s38_e) (@a20s39_e))) (And.intro (And.intro (@a20s40_e) (@a20s41_e)) (And.intro (@a20c_e) (@a20s24_k0_x)))))) := And.intro (And.intro (And.intro (And.intro (And.intro (@a20_e) (@a20s1_x)) (And.intro (@a20s3_x) (@a20s5_x))) (And.intro (And.intro (@a20s8_x) (@a20s9_e)) (And.intro (@a20s10_x) (@a20s13_x)))) (And.intro (And.intro (And.intro (@a20s14_e) (@a20s15_x)) (And.intro (@a20s17_x) (@a20s19_x))) (And.intro (And.intro (@a20s22_x) (@a20s23_e)) (And.intro (@a20s24_x) (@a20s25_e))))) (And.intro (And.intro (And.intro (And.intro (@a20s27_x) (@a20s28_e)) (And.intro (@a20s29_e) (@a20s30_e))) (And.intro (And.intro (@a20s31_e) (@a20s32_e)) (And.intro (@a20s34_x) (@a20s35_e)))) (And.intro (And.intro (And.intro (@a20s36_e) (@a20s37_e)) (And.intro (@a20s38_e) (@a20s39_e))) (And.intro (And.intro (@a20s40_e) (@a20s41_e)) (And.intro (@a20c_e) (@a20s24_k0_x)))))
theorem a21_e : a21 = AFn.mk 2 3 [.v 2] a21c none := spine rfl
theorem a21s4_e : a21s4 = .seq a21s3 .ret := spine rfl
theorem a21s5_e : a21s5 = .seq a21s1 a21s4 := spine rfl
theorem a21c_e : a21c = a21s5 := spine rfl
theorem K21 : type_of% (And.intro (And.intro (@a21_e) (And.intro (@a21s1_x) (@a21s3_x))) (And.intro (And.intro (@a21s4_e) (@a21s5_e)) (And.intro (@a21c_e) (@a21s3_k0_x)))) := And.intro (And.intro (@a21_e) (And.intro (@a21s1_x) (@a21s3_x))) (And.intro (And.intro (@a21s4_e) (@a21s5_e)) (And.intro (@a21c_e) (@a21s3_k0_x)))
theorem a22_e : a22 = AFn.mk 2 3 [.v 2] a22c none := spine rfl
theorem a22s4_e : a22s4 = .seq a22s3 .ret := spine rfl
theorem a22s5_e : a22s5 = .seq a22s1 a22s4 := spine rfl
theorem a22c_e : a22c = a22s5 := spine rfl
theorem K22 : type_of% (And.intro (And.intro (@a22_e) (And.intro (@a22s1_x) (@a22s3_x))) (And.intro (And.intro (@a22s4_e) (@a22s5_e)) (And.intro (@a22c_e) (@a22s3_k0_x)))) := And.intro (And.intro (@a22_e) (And.intro (@a22s1_x) (@a22s3_x))) (And.intro (And.intro (@a22s4_e) (@a22s5_e)) (And.intro (@a22c_e) (@a22s3_k0_x)))
theorem a23_e : a23 = AFn.mk 2 3 [.v 2] a23c none := spine rfl
theorem a23s4_e : a23s4 = .seq a23s3 .ret := spine rfl
theorem a23s5_e : a23s5 = .seq a23s1 a23s4 := spine rfl
theorem a23c_e : a23c = a23s5 := spine rfl
theorem K23 : type_of% (And.intro (And.intro (@a23_e) (And.intro (@a23s1_x) (@a23s3_x))) (And.intro (And.intro (@a23s4_e) (@a23s5_e)) (And.intro (@a23c_e) (@a23s3_k0_x)))) := And.intro (And.intro (@a23_e) (And.intro (@a23s1_x) (@a23s3_x))) (And.intro (And.intro (@a23s4_e) (@a23s5_e)) (And.intro (@a23c_e) (@a23s3_k0_x)))
theorem a24_e : a24 = AFn.mk 2 3 [.v 2] a24c none := spine rfl
theorem a24s4_e : a24s4 = .seq a24s3 .ret := spine rfl
theorem a24s5_e : a24s5 = .seq a24s1 a24s4 := spine rfl
theorem a24c_e : a24c = a24s5 := spine rfl
theorem K24 : type_of% (And.intro (And.intro (And.intro (@a24_e) (@a24s1_x)) (And.intro (@a24s3_x) (@a24s4_e))) (And.intro (And.intro (@a24s5_e) (@a24c_e)) (And.intro (@a24s3_k0_x) (@a24s3_k1_x)))) := And.intro (And.intro (And.intro (@a24_e) (@a24s1_x)) (And.intro (@a24s3_x) (@a24s4_e))) (And.intro (And.intro (@a24s5_e) (@a24c_e)) (And.intro (@a24s3_k0_x) (@a24s3_k1_x)))
theorem a34_e : a34 = AFn.mk 1 2 [.v 1] a34c none := spine rfl
theorem a34s4_e : a34s4 = .seq a34s3 .ret := spine rfl
theorem a34s5_e : a34s5 = .seq a34s1 a34s4 := spine rfl
theorem a34c_e : a34c = a34s5 := spine rfl
theorem K34 : type_of% (And.intro (And.intro (@a34_e) (And.intro (@a34s1_x) (@a34s3_x))) (And.intro (@a34s4_e) (And.intro (@a34s5_e) (@a34c_e)))) := And.intro (And.intro (@a34_e) (And.intro (@a34s1_x) (@a34s3_x))) (And.intro (@a34s4_e) (And.intro (@a34s5_e) (@a34c_e)))
theorem a35_e : a35 = AFn.mk 3 6 [.v 3] a35c none := spine rfl
theorem a35s6_e : a35s6 = .seq a35s5 .ret := spine rfl
theorem a35s7_e : a35s7 = .seq a35s3 a35s6 := spine rfl
theorem a35s8_e : a35s8 = .seq a35s1 a35s7 := spine rfl
theorem a35c_e : a35c = a35s8 := spine rfl
theorem K35 : type_of% (And.intro (And.intro (And.intro (@a35_e) (@a35s1_x)) (And.intro (@a35s3_x) (@a35s5_x))) (And.intro (And.intro (@a35s6_e) (@a35s7_e)) (And.intro (@a35s8_e) (And.intro (@a35c_e) (@a35s3_k0_x))))) := And.intro (And.intro (And.intro (@a35_e) (@a35s1_x)) (And.intro (@a35s3_x) (@a35s5_x))) (And.intro (And.intro (@a35s6_e) (@a35s7_e)) (And.intro (@a35s8_e) (And.intro (@a35c_e) (@a35s3_k0_x))))
theorem a36_e : a36 = AFn.mk 2 6 [.v 2] a36c none := spine rfl
theorem a36s11_e : a36s11 = .seq a36s10 .ret := spine rfl
theorem a36s13_e : a36s13 = .seq a36s7 a36s12 := spine rfl
theorem a36s14_e : a36s14 = .blk 1 a36s13 := spine rfl
theorem a36s17_e : a36s17 = .seq a36s14 a36s16 := spine rfl
theorem a36s18_e : a36s18 = .seq a36s5 a36s17 := spine rfl
theorem a36s19_e : a36s19 = .loop a36s18 := spine rfl
theorem a36s20_e : a36s20 = .blk 0 a36s19 := spine rfl
theorem a36s21_e : a36s21 = .seq a36s3 a36s20 := spine rfl
theorem a36s24_e : a36s24 = .seq a36s23 .ret := spine rfl
theorem a36s25_e : a36s25 = .seq a36s21 a36s24 := spine rfl
theorem a36s26_e : a36s26 = .seq a36s1 a36s25 := spine rfl
theorem a36c_e : a36c = a36s26 := spine rfl
theorem K36 : type_of% (And.intro (And.intro (And.intro (And.intro (@a36_e) (@a36s1_x)) (And.intro (@a36s3_x) (And.intro (@a36s5_x) (@a36s7_x)))) (And.intro (And.intro (@a36s10_x) (@a36s11_e)) (And.intro (@a36s12_x) (And.intro (@a36s13_e) (@a36s14_e))))) (And.intro (And.intro (And.intro (@a36s16_x) (@a36s17_e)) (And.intro (@a36s18_e) (And.intro (@a36s19_e) (@a36s20_e)))) (And.intro (And.intro (@a36s21_e) (And.intro (@a36s23_x) (@a36s24_e))) (And.intro (@a36s25_e) (And.intro (@a36s26_e) (@a36c_e)))))) := And.intro (And.intro (And.intro (And.intro (@a36_e) (@a36s1_x)) (And.intro (@a36s3_x) (And.intro (@a36s5_x) (@a36s7_x)))) (And.intro (And.intro (@a36s10_x) (@a36s11_e)) (And.intro (@a36s12_x) (And.intro (@a36s13_e) (@a36s14_e))))) (And.intro (And.intro (And.intro (@a36s16_x) (@a36s17_e)) (And.intro (@a36s18_e) (And.intro (@a36s19_e) (@a36s20_e)))) (And.intro (And.intro (@a36s21_e) (And.intro (@a36s23_x) (@a36s24_e))) (And.intro (@a36s25_e) (And.intro (@a36s26_e) (@a36c_e)))))
theorem a37_e : a37 = AFn.mk 1 7 [.vs 1] a37c none := spine rfl
theorem a37s12_e : a37s12 = .seq a37s9 a37s11 := spine rfl
theorem a37s13_e : a37s13 = .blk 1 a37s12 := spine rfl
theorem a37s16_e : a37s16 = .seq a37s13 a37s15 := spine rfl
theorem a37s17_e : a37s17 = .seq a37s7 a37s16 := spine rfl
theorem a37s18_e : a37s18 = .loop a37s17 := spine rfl
theorem a37s19_e : a37s19 = .blk 0 a37s18 := spine rfl
theorem a37s20_e : a37s20 = .seq a37s5 a37s19 := spine rfl
theorem a37s23_e : a37s23 = .seq a37s22 .ret := spine rfl
theorem a37s24_e : a37s24 = .seq a37s20 a37s23 := spine rfl
theorem a37s25_e : a37s25 = .seq a37s3 a37s24 := spine rfl
theorem a37s26_e : a37s26 = .seq a37s1 a37s25 := spine rfl
theorem a37c_e : a37c = a37s26 := spine rfl
theorem K37 : type_of% (And.intro (And.intro (And.intro (And.intro (@a37_e) (@a37s1_x)) (And.intro (@a37s3_x) (And.intro (@a37s5_x) (@a37s7_x)))) (And.intro (And.intro (@a37s9_x) (@a37s11_x)) (And.intro (@a37s12_e) (And.intro (@a37s13_e) (@a37s15_x))))) (And.intro (And.intro (And.intro (@a37s16_e) (@a37s17_e)) (And.intro (@a37s18_e) (And.intro (@a37s19_e) (@a37s20_e)))) (And.intro (And.intro (@a37s22_x) (And.intro (@a37s23_e) (@a37s24_e))) (And.intro (@a37s25_e) (And.intro (@a37s26_e) (@a37c_e)))))) := And.intro (And.intro (And.intro (And.intro (@a37_e) (@a37s1_x)) (And.intro (@a37s3_x) (And.intro (@a37s5_x) (@a37s7_x)))) (And.intro (And.intro (@a37s9_x) (@a37s11_x)) (And.intro (@a37s12_e) (And.intro (@a37s13_e) (@a37s15_x))))) (And.intro (And.intro (And.intro (@a37s16_e) (@a37s17_e)) (And.intro (@a37s18_e) (And.intro (@a37s19_e) (@a37s20_e)))) (And.intro (And.intro (@a37s22_x) (And.intro (@a37s23_e) (@a37s24_e))) (And.intro (@a37s25_e) (And.intro (@a37s26_e) (@a37c_e)))))
theorem a39_e : a39 = AFn.mk 3 7 [.v 4] a39c none := spine rfl
theorem a39s7_e : a39s7 = .seq a39s6 .ret := spine rfl
theorem a39s12_e : a39s12 = .seq a39s11 .ret := spine rfl
theorem a39s20_e : a39s20 = .blk 1 a39s19 := spine rfl
theorem a39s23_e : a39s23 = .seq a39s20 a39s22 := spine rfl
theorem a39s24_e : a39s24 = .seq a39s17 a39s23 := spine rfl
theorem a39s25_e : a39s25 = .loop a39s24 := spine rfl
theorem a39s26_e : a39s26 = .blk 0 a39s25 := spine rfl
theorem a39s27_e : a39s27 = .seq a39s15 a39s26 := spine rfl
theorem a39s30_e : a39s30 = .seq a39s29 .ret := spine rfl
theorem a39s31_e : a39s31 = .seq a39s27 a39s30 := spine rfl
theorem a39s32_e : a39s32 = .seq a39s13 a39s31 := spine rfl
theorem a39s33_e : a39s33 = .seq a39s8 a39s32 := spine rfl
theorem a39s34_e : a39s34 = .seq a39s3 a39s33 := spine rfl
theorem a39s35_e : a39s35 = .seq a39s1 a39s34 := spine rfl
theorem a39c_e : a39c = a39s35 := spine rfl
theorem K39 : type_of% (And.intro (And.intro (And.intro (And.intro (@a39_e) (And.intro (@a39s1_x) (@a39s3_x))) (And.intro (And.intro (@a39s6_x) (@a39s7_e)) (And.intro (@a39s8_x) (@a39s11_x)))) (And.intro (And.intro (@a39s12_e) (And.intro (@a39s13_x) (@a39s15_x))) (And.intro (And.intro (@a39s17_x) (@a39s19_x)) (And.intro (@a39s20_e) (@a39s22_x))))) (And.intro (And.intro (And.intro (@a39s23_e) (And.intro (@a39s24_e) (@a39s25_e))) (And.intro (And.intro (@a39s26_e) (@a39s27_e)) (And.intro (@a39s29_x) (@a39s30_e)))) (And.intro (And.intro (@a39s31_e) (And.intro (@a39s32_e) (@a39s33_e))) (And.intro (And.intro (@a39s34_e) (@a39s35_e)) (And.intro (@a39c_e) (@a39s19_k0_x)))))) := And.intro (And.intro (And.intro (And.intro (@a39_e) (And.intro (@a39s1_x) (@a39s3_x))) (And.intro (And.intro (@a39s6_x) (@a39s7_e)) (And.intro (@a39s8_x) (@a39s11_x)))) (And.intro (And.intro (@a39s12_e) (And.intro (@a39s13_x) (@a39s15_x))) (And.intro (And.intro (@a39s17_x) (@a39s19_x)) (And.intro (@a39s20_e) (@a39s22_x))))) (And.intro (And.intro (And.intro (@a39s23_e) (And.intro (@a39s24_e) (@a39s25_e))) (And.intro (And.intro (@a39s26_e) (@a39s27_e)) (And.intro (@a39s29_x) (@a39s30_e)))) (And.intro (And.intro (@a39s31_e) (And.intro (@a39s32_e) (@a39s33_e))) (And.intro (And.intro (@a39s34_e) (@a39s35_e)) (And.intro (@a39c_e) (@a39s19_k0_x)))))
end Go.Cb.CodeA
