/- What the pieces of that code are, function by function, and the rules by which they run. No conditions. -/
import Derived.Test.YthnliekianmljaaGreatDoorCodeA
import Derived.Test.YthnliekianmljaaGreatDoorXAms3
import Derived.KernelRfl
set_option maxRecDepth 100000
set_option linter.unusedVariables false
set_option linter.defProp false
namespace Go.Cb.CodeA
open Go Go.Cb
open Go.Cb.V (VV)
theorem A2 {a b:Prop} (xa:a) (xb:b):a∧b:=⟨xa,xb⟩
theorem A3 {a b c:Prop} (xa:a) (xb:b) (xc:c):a∧b∧c:=⟨xa,xb,xc⟩
theorem A4 {a b c d:Prop} (xa:a) (xb:b) (xc:c) (xd:d):a∧b∧c∧d:=⟨xa,xb,xc,xd⟩
theorem A5 {a b c d e:Prop} (xa:a) (xb:b) (xc:c) (xd:d) (xe:e):a∧b∧c∧d∧e:=⟨xa,xb,xc,xd,xe⟩
theorem A6 {a b c d e f:Prop} (xa:a) (xb:b) (xc:c) (xd:d) (xe:e) (xf:f):a∧b∧c∧d∧e∧f:=⟨xa,xb,xc,xd,xe,xf⟩
theorem A7 {a b c d e f g:Prop} (xa:a) (xb:b) (xc:c) (xd:d) (xe:e) (xf:f) (xg:g):a∧b∧c∧d∧e∧f∧g:=⟨xa,xb,xc,xd,xe,xf,xg⟩
theorem A8 {a b c d e f g h:Prop} (xa:a) (xb:b) (xc:c) (xd:d) (xe:e) (xf:f) (xg:g) (xh:h):a∧b∧c∧d∧e∧f∧g∧h:=⟨xa,xb,xc,xd,xe,xf,xg,xh⟩
def a10s25_k0 (call:b6) (n:Nat) (v0 v1 v2 v3 v4 v5 v6 v7 v8 v9 v11:AV) (x1:AV×St):Option Out :=
    obind (p1 (H6 [.str [],.str [],.list true []] [(0,1)] call [(W x1.1)] .undef x1.2)) fun x2 =>
    obind (N4 [.str [],.str [],.list true []] call [] AV.undef x1.2) fun x3 =>
    obind (F6 10 3 call [(a3j 10 x3.2.1),(AV.stripB x2)] x3.2.1 x3.2.2) fun x4 =>
    some (Ex.normal,[v0,v1,v2,v3,v4,v5,v6,v7,v8,v9,x4.2.1,v11],x4.2.2)
theorem b8a (call:b6) (n:Nat) (v0 v1 v2 v3 v4 v5 v6 v7 v8 v9 v10 v11:AV) (st:St):d8 call n b5f [v0,v1,v2,v3,v4,v5,v6,v7,v8,v9,v10,v11] st =
    m1 (AV.weak v7) fun x0 =>
    obind (p2 (n4 21 call [(W x0)] .undef st)) (a10s25_k0 call n v0 v1 v2 v3 v4 v5 v6 v7 v8 v9 v11) :=
  (a0l ..).trans (by kernel_rfl)
def a10s41_k0 (call:b6) (n:Nat) (v0 v1 v2 v3 v4 v5 v6 v7 v8 v9 v10 v11:AV) (x1:AV×St):Option Out :=
    brE (W x1.1) call n a10s40 .skip [v0,v1,v2,v3,v4,v5,v6,v7,v8,v9,v10,v11] x1.2
theorem b73 (call:b6) (n:Nat) (v0 v1 v2 v3 v4 v5 v6 v7 v8 v9 v10 v11:AV) (st:St):d8 call n b4J [v0,v1,v2,v3,v4,v5,v6,v7,v8,v9,v10,v11] st =
    m1 (AV.weak v7) fun x0 =>
    obind (p2 (n4 19 call [(W x0),(.str [102,114,97,103,109,101,110,116])] .undef st)) (a10s41_k0 call n v0 v1 v2 v3 v4 v5 v6 v7 v8 v9 v10 v11) :=
  (Z1 ..).trans (by kernel_rfl)
def a10s54_k0 (call:b6) (n:Nat) (v0 v1 v2 v3 v4 v5 v6 v7 v8 v9 v10 v11:AV) (x1:AV×St):Option Out :=
    brE (W x1.1) call n a10s53 .skip [v0,v1,v2,v3,v4,v5,v6,v7,v8,v9,v10,v11] x1.2
theorem b79 (call:b6) (n:Nat) (v0 v1 v2 v3 v4 v5 v6 v7 v8 v9 v10 v11:AV) (st:St):d8 call n b5z [v0,v1,v2,v3,v4,v5,v6,v7,v8,v9,v10,v11] st =
    m1 (AV.weak v7) fun x0 =>
    obind (p2 (n4 18 call [(W x0),(.int .u8 1)] .undef st)) (a10s54_k0 call n v0 v1 v2 v3 v4 v5 v6 v7 v8 v9 v10 v11) :=
  (Z1 ..).trans (by kernel_rfl)
def a10s67_k0 (call:b6) (n:Nat) (v0 v1 v2 v3 v4 v5 v6 v7 v8 v9 v10 v11:AV) (x1:AV×St):Option Out :=
    brE (W x1.1) call n a10s66 .skip [v0,v1,v2,v3,v4,v5,v6,v7,v8,v9,v10,v11] x1.2
theorem b7P (call:b6) (n:Nat) (v0 v1 v2 v3 v4 v5 v6 v7 v8 v9 v10 v11:AV) (st:St):d8 call n a9i [v0,v1,v2,v3,v4,v5,v6,v7,v8,v9,v10,v11] st =
    m1 (AV.weak v7) fun x0 =>
    obind (p2 (n4 25 call [(W x0),(.str [40])] .undef st)) (a10s67_k0 call n v0 v1 v2 v3 v4 v5 v6 v7 v8 v9 v10 v11) :=
  (Z1 ..).trans (by kernel_rfl)
def a10s73_k0 (call:b6) (n:Nat) (v0 v1 v2 v3 v4 v5 v6 v7 v8 v9 v10 v11:AV) (x1:AV×St):Option Out :=
    obind (p1 (G8 3 call [(a3j 11 v11)] .undef x1.2)) fun x2 =>
    obind (F6 11 1 call [(W x2),(AV.stripB x1.1)] v11 x1.2) fun x3 =>
    some (Ex.normal,[v0,v1,v2,v3,v4,v5,v6,v7,v8,v9,v10,x3.2.1],x3.2.2)
theorem b6J (call:b6) (n:Nat) (v0 v1 v2 v3 v4 v5 v6 v7 v8 v9 v10 v11:AV) (st:St):d8 call n a10s73 [v0,v1,v2,v3,v4,v5,v6,v7,v8,v9,v10,v11] st =
    m1 (AV.weak v7) fun x0 =>
    obind (p2 (n4 23 call [(W x0)] .undef st)) (a10s73_k0 call n v0 v1 v2 v3 v4 v5 v6 v7 v8 v9 v10 v11) :=
  (a0l ..).trans (by kernel_rfl)
def a40s13_k0 (call:b6) (n:Nat) (v0 v1 v2 v3:AV) (x1:AV×St):Option Out :=
    obind (p1 (G8 4 call [(a3j 2 v2)] .undef x1.2)) fun x2 =>
    obind (F6 2 1 call [(W x2),(AV.stripB x1.1)] v2 x1.2) fun x3 =>
    some (Ex.normal,[v0,v1,x3.2.1,v3],x3.2.2)
theorem b8x (call:b6) (n:Nat) (v0 v1 v2 v3:AV) (st:St):d8 call n b6v [v0,v1,v2,v3] st =
    m1 (AV.weak v0) fun x0 =>
    obind (p2 (n4 68 call [(W x0)] .undef st)) (a40s13_k0 call n v0 v1 v2 v3) :=
  (a0l ..).trans (by kernel_rfl)
def a40s50_k0 (call:b6) (n:Nat) (v0 v1 v2 v3:AV) (x1:AV×St):Option Out :=
    obind (p1 (G8 5 call [(a3j 3 v3)] .undef x1.2)) fun x2 =>
    obind (F6 3 1 call [(W x2),(AV.stripB x1.1)] v3 x1.2) fun x3 =>
    some (Ex.normal,[v0,v1,v2,x3.2.1],x3.2.2)
theorem b7j (call:b6) (n:Nat) (v0 v1 v2 v3:AV) (st:St):d8 call n a40s50 [v0,v1,v2,v3] st =
    m1 (AV.weak v0) fun x0 =>
    obind (p2 (n4 69 call [(W x0)] .undef st)) (a40s50_k0 call n v0 v1 v2 v3) :=
  (a0l ..).trans (by kernel_rfl)
def K8:=A4 (A8 @a8.eq_1 @a8s1.eq_1 @a8s4.eq_1 @a8s6.eq_1 @a8s8.eq_1 @a8s11.eq_1 @a8s13.eq_1 @a8s15.eq_1) (A8 @a8s17.eq_1 @a8s19.eq_1 @a8s21.eq_1 @a8s23.eq_1 @a8s25.eq_1 @a8s28.eq_1 @a8s30.eq_1 @a8s33.eq_1) (A8 @a8s40.eq_1 @a8s42.eq_1 @a8s45.eq_1 @a8s47.eq_1 @a8s50.eq_1 @a8s59.eq_1 @a8s66.eq_1 @a8c.eq_1) VV
def K10:=A6 (A8 @a10.eq_1 @a10s1.eq_1 @a10s3.eq_1 @a10s6.eq_1 @a10s8.eq_1 @a10s10.eq_1 @a10s12.eq_1 @a10s14.eq_1) (A8 @a10s16.eq_1 @a10s19.eq_1 @a10s22.eq_1 @a10s23.eq_1 @a10s27.eq_1 @a10s29.eq_1 @a10s31.eq_1 @a10s33.eq_1) (A8 @a10s40.eq_1 @a10s43.eq_1 @a10s46.eq_1 @a10s49.eq_1 @a10s50.eq_1 @a10s53.eq_1 @a10s57.eq_1 @a10s59.eq_1) (A8 @a10s61.eq_1 @a10s66.eq_1 @a10s71.eq_1 @a10s75.eq_1 @a10s82.eq_1 @a10s90.eq_1 @a10s92.eq_1 @a10s94.eq_1) (A8 @a10c.eq_1 @b8a @a10s25_k0.eq_1 @b73 @a10s41_k0.eq_1 @b79 @a10s54_k0.eq_1 @b7P) (A4 @a10s67_k0.eq_1 @b6J @a10s73_k0.eq_1 VV)
def K12:=A7 @a12.eq_1 @a12s1.eq_1 @a12s3.eq_1 @a12s5.eq_1 @a12s7.eq_1 @a12c.eq_1 VV
def K13:=A5 @a13.eq_1 @a13s1.eq_1 @a13s3.eq_1 @a13c.eq_1 VV
def K14:=A2 (A8 @a14.eq_1 @a14s1.eq_1 @a14s3.eq_1 @a14s5.eq_1 @a14s8.eq_1 @a14s10.eq_1 @a14s13.eq_1 @a14s15.eq_1) (A8 @a14s17.eq_1 @a14s19.eq_1 @a14s22.eq_1 @a14s24.eq_1 @a14s27.eq_1 @a14s34.eq_1 @a14c.eq_1 VV)
def K15:=A2 (A8 @a15.eq_1 @a15s1.eq_1 @a15s4.eq_1 @a15s6.eq_1 @a15s8.eq_1 @a15s10.eq_1 @a15s13.eq_1 @a15s15.eq_1) (A4 @a15s18.eq_1 @a15s25.eq_1 @a15c.eq_1 VV)
def G3:=A3 (A8 @a16.eq_1 @a16s1.eq_1 @a16s3.eq_1 @a16s5.eq_1 @a16s7.eq_1 @a16s9.eq_1 @a16s11.eq_1 @a16s13.eq_1) (A8 @a16s15.eq_1 @a16s18.eq_1 @a16s19.eq_1 @a16s22.eq_1 @a16s30.eq_1 @a16s32.eq_1 @a16s34.eq_1 @a16s42.eq_1) (A3 @a16s49.eq_1 @a16c.eq_1 VV)
def K16:=A2 G3 @a16s36.eq_1
def K17:=A3 (A8 @a17.eq_1 @a17s1.eq_1 @a17s4.eq_1 @a17s6.eq_1 @a17s8.eq_1 @a17s10.eq_1 @a17s12.eq_1 @a17s14.eq_1) (A8 @a17s17.eq_1 @a17s21.eq_1 @a17s23.eq_1 @a17s29.eq_1 @a17s30.eq_1 @a17s33.eq_1 @a17s36.eq_1 @a17s38.eq_1) (A6 @a17s40.eq_1 @a17s42.eq_1 @a17s44.eq_1 @a17s56.eq_1 @a17c.eq_1 VV)
def K18:=A5 @a18.eq_1 @a18s1.eq_1 @a18s3.eq_1 @a18c.eq_1 VV
def K19:=A5 @a19.eq_1 @a19s1.eq_1 @a19s3.eq_1 @a19c.eq_1 VV
def K20:=A6 @a20.eq_1 @a20s2.eq_1 @a20s4.eq_1 @a20s6.eq_1 @a20c.eq_1 VV
def K21:=A2 (A8 @a21.eq_1 @a21s1.eq_1 @a21s4.eq_1 @a21s6.eq_1 @a21s9.eq_1 @a21s11.eq_1 @a21s13.eq_1 @a21c.eq_1) VV
def K22:=A5 @a22.eq_1 @a22s2.eq_1 @a22s3.eq_1 @a22c.eq_1 VV
def K23:=A2 (A8 @a23.eq_1 @a23s1.eq_1 @a23s3.eq_1 @a23s6.eq_1 @a23s8.eq_1 @a23s10.eq_1 @a23s12.eq_1 @a23s14.eq_1) (A5 @a23s22.eq_1 @a23s24.eq_1 @a23s26.eq_1 @a23c.eq_1 VV)
def K24:=A5 @a24.eq_1 @a24s1.eq_1 @a24s3.eq_1 @a24c.eq_1 VV
def K25:=A8 @a25.eq_1 @a25s1.eq_1 @a25s4.eq_1 @a25s6.eq_1 @a25s9.eq_1 @a25s11.eq_1 @a25c.eq_1 VV
def K26:=A6 @a26.eq_1 @a26s2.eq_1 @a26s4.eq_1 @a26s6.eq_1 @a26c.eq_1 VV
def K27:=A2 (A8 @a27.eq_1 @a27s1.eq_1 @a27s3.eq_1 @a27s5.eq_1 @a27s7.eq_1 @a27s9.eq_1 @a27s12.eq_1 @a27s14.eq_1) (A4 @a27s16.eq_1 @a27s18.eq_1 @a27c.eq_1 VV)
def K31:=A3 (A8 @a31.eq_1 @a31s1.eq_1 @a31s3.eq_1 @a31s5.eq_1 @a31s7.eq_1 @a31s9.eq_1 @a31s12.eq_1 @a31s15.eq_1) (A8 @a31s17.eq_1 @a31s19.eq_1 @a31s22.eq_1 @a31s23.eq_1 @a31s29.eq_1 @a31s30.eq_1 @a31s31.eq_1 @a31s32.eq_1) (A3 @a31s39.eq_1 @a31c.eq_1 VV)
def K32:=A2 (A8 @a32.eq_1 @a32s1.eq_1 @a32s3.eq_1 @a32s6.eq_1 @a32s8.eq_1 @a32s11.eq_1 @a32s13.eq_1 @a32s15.eq_1) (A6 @a32s17.eq_1 @a32s19.eq_1 @a32s22.eq_1 @a32s29.eq_1 @a32c.eq_1 VV)
def K33:=A2 (A8 @a33.eq_1 @a33s1.eq_1 @a33s3.eq_1 @a33s5.eq_1 @a33s7.eq_1 @a33s9.eq_1 @a33s12.eq_1 @a33s19.eq_1) (A2 @a33c.eq_1 VV)
def K34:=A2 (A8 @a34.eq_1 @a34s1.eq_1 @a34s3.eq_1 @a34s5.eq_1 @a34s7.eq_1 @a34s9.eq_1 @a34s11.eq_1 @a34s15.eq_1) (A3 @a34s22.eq_1 @a34c.eq_1 VV)
def K35:=A2 (A8 @a35.eq_1 @a35s1.eq_1 @a35s3.eq_1 @a35s5.eq_1 @a35s7.eq_1 @a35s9.eq_1 @a35s12.eq_1 @a35s19.eq_1) (A2 @a35c.eq_1 VV)
def K36:=A4 (A8 @a36.eq_1 @a36s1.eq_1 @a36s3.eq_1 @a36s5.eq_1 @a36s7.eq_1 @a36s9.eq_1 @a36s12.eq_1 @a36s14.eq_1) (A8 @a36s16.eq_1 @a36s18.eq_1 @a36s21.eq_1 @a36s23.eq_1 @a36s25.eq_1 @a36s27.eq_1 @a36s30.eq_1 @a36s32.eq_1) (A8 @a36s34.eq_1 @a36s37.eq_1 @a36s40.eq_1 @a36s47.eq_1 @a36s49.eq_1 @a36s54.eq_1 @a36s57.eq_1 @a36s58.eq_1) (A4 @a36s67.eq_1 @a36s74.eq_1 @a36c.eq_1 VV)
def K37:=A7 @a37.eq_1 @a37s1.eq_1 @a37s4.eq_1 @a37s6.eq_1 @a37s8.eq_1 @a37c.eq_1 VV
def K38:=A3 (A8 @a38.eq_1 @a38s1.eq_1 @a38s3.eq_1 @a38s5.eq_1 @a38s8.eq_1 @a38s10.eq_1 @a38s17.eq_1 @a38s19.eq_1) (A8 @a38s21.eq_1 @a38s27.eq_1 @a38s28.eq_1 @a38s31.eq_1 @a38s36.eq_1 @a38s38.eq_1 @a38s40.eq_1 @a38s45.eq_1) (A8 @a38s47.eq_1 @a38s48.eq_1 @a38s49.eq_1 @a38s50.eq_1 @a38s51.eq_1 @a38s54.eq_1 @a38c.eq_1 VV)
def K39:=A8 @a39.eq_1 @a39s1.eq_1 @a39s3.eq_1 @a39s6.eq_1 @a39s7.eq_1 @a39s9.eq_1 @a39c.eq_1 VV
def K40:=A4 (A8 @a40.eq_1 @a40s1.eq_1 @a40s4.eq_1 @a40s7.eq_1 @a40s9.eq_1 @a40s11.eq_1 @a40s15.eq_1 @a40s18.eq_1) (A8 @a40s19.eq_1 @a40s21.eq_1 @a40s28.eq_1 @a40s30.eq_1 @a40s33.eq_1 @a40s36.eq_1 @a40s38.eq_1 @a40s40.eq_1) (A8 @a40s42.eq_1 @a40s47.eq_1 @a40s48.eq_1 @a40s52.eq_1 @a40s54.eq_1 @a40c.eq_1 @b8x @a40s13_k0.eq_1) (A3 @b7j @a40s50_k0.eq_1 VV)
def K41:=A2 (A8 @a41.eq_1 @a41s1.eq_1 @a41s3.eq_1 @a41s7.eq_1 @a41s9.eq_1 @a41s11.eq_1 @a41s15.eq_1 @a41s16.eq_1) (A6 @a41s18.eq_1 @a41s20.eq_1 @a41s22.eq_1 @a41s24.eq_1 @a41c.eq_1 VV)
def K42:=A2 (A8 @a42.eq_1 @a42s1.eq_1 @a42s3.eq_1 @a42s6.eq_1 @a42s7.eq_1 @a42s9.eq_1 @a42s11.eq_1 @a42c.eq_1) VV
def K45:=A5 @a45.eq_1 @a45s1.eq_1 @a45s3.eq_1 @a45c.eq_1 VV
def K48:=A2 (A8 @a48.eq_1 @a48s1.eq_1 @a48s4.eq_1 @a48s6.eq_1 @a48s8.eq_1 @a48s11.eq_1 @a48s13.eq_1 @a48s15.eq_1) (A2 @a48c.eq_1 VV)
def K51:=A2 (A8 @a51.eq_1 @a51s1.eq_1 @a51s3.eq_1 @a51s5.eq_1 @a51s8.eq_1 @a51s10.eq_1 @a51s13.eq_1 @a51s20.eq_1) (A2 @a51c.eq_1 VV)
def K54:=A2 (A8 @a54.eq_1 @a54s1.eq_1 @a54s3.eq_1 @a54s5.eq_1 @a54s8.eq_1 @a54s10.eq_1 @a54s13.eq_1 @a54s20.eq_1) (A2 @a54c.eq_1 VV)
def K56:=A5 @a56.eq_1 @a56s1.eq_1 @a56s3.eq_1 @a56c.eq_1 VV
def K57:=A2 (A8 @a57.eq_1 @a57s1.eq_1 @a57s3.eq_1 @a57s6.eq_1 @a57s7.eq_1 @a57s9.eq_1 @a57s12.eq_1 @a57s14.eq_1) (A8 @a57s16.eq_1 @a57s18.eq_1 @a57s20.eq_1 @a57s21.eq_1 @a57s23.eq_1 @a57s24.eq_1 @a57c.eq_1 VV)
def K58:=A2 (A8 @a58.eq_1 @a58s1.eq_1 @a58s3.eq_1 @a58s5.eq_1 @a58s7.eq_1 @a58s10.eq_1 @a58s12.eq_1 @a58s16.eq_1) (A3 @a58s23.eq_1 @a58c.eq_1 VV)
def K59:=A5 @a59.eq_1 @a59s1.eq_1 @a59s3.eq_1 @a59c.eq_1 VV
def K60:=A5 @a60.eq_1 @a60s1.eq_1 @a60s3.eq_1 @a60c.eq_1 VV
def a2A:=A3 (A8 @a61.eq_1 @a61s1.eq_1 @a61s3.eq_1 @a61s5.eq_1 @a61s9.eq_1 @a61s10.eq_1 @a61s12.eq_1 @a61s16.eq_1) (A8 @a61s18.eq_1 @a61s21.eq_1 @a61s22.eq_1 @a61s24.eq_1 @a61s25.eq_1 @a61s29.eq_1 @a61s31.eq_1 @a61s33.eq_1) (A6 @a61s36.eq_1 @a61s44.eq_1 @a61s45.eq_1 @a61s47.eq_1 @a61c.eq_1 VV)
def K61:=A2 a2A @a61s50.eq_1
def K62:=A3 (A8 @a62.eq_1 @a62s1.eq_1 @a62s3.eq_1 @a62s5.eq_1 @a62s7.eq_1 @a62s9.eq_1 @a62s11.eq_1 @a62s13.eq_1) (A8 @a62s15.eq_1 @a62s17.eq_1 @a62s20.eq_1 @a62s21.eq_1 @a62s23.eq_1 @a62s29.eq_1 @a62s37.eq_1 @a62s39.eq_1) (A4 @a62s45.eq_1 @a62s52.eq_1 @a62c.eq_1 VV)
def K63:=A3 (A8 @a63.eq_1 @a63s1.eq_1 @a63s3.eq_1 @a63s5.eq_1 @a63s8.eq_1 @a63s12.eq_1 @a63s16.eq_1 @a63s18.eq_1) (A8 @a63s20.eq_1 @a63s23.eq_1 @a63s24.eq_1 @a63s27.eq_1 @a63s34.eq_1 @a63s38.eq_1 @a63s39.eq_1 @a63s40.eq_1) (A3 @a63s44.eq_1 @a63c.eq_1 VV)
def K64:=A5 @a64.eq_1 @a64s1.eq_1 @a64s3.eq_1 @a64c.eq_1 VV
def K65:=A5 @a65.eq_1 @a65s1.eq_1 @a65s3.eq_1 @a65c.eq_1 VV
def K66:=A4 (A8 @a66.eq_1 @a66s1.eq_1 @a66s3.eq_1 @a66s5.eq_1 @a66s8.eq_1 @a66s9.eq_1 @a66s11.eq_1 @a66s13.eq_1) (A8 @a66s15.eq_1 @a66s18.eq_1 @a66s19.eq_1 @a66s21.eq_1 @a66s29.eq_1 @a66s33.eq_1 @a66s37.eq_1 @a66s41.eq_1) (A8 @a66s43.eq_1 @a66s44.eq_1 @a66s45.eq_1 @a66s46.eq_1 @a66s50.eq_1 @a66s51.eq_1 @a66s53.eq_1 @a66c.eq_1) VV
def K67:=A4 (A8 @a67.eq_1 @a67s1.eq_1 @a67s3.eq_1 @a67s5.eq_1 @a67s7.eq_1 @a67s9.eq_1 @a67s13.eq_1 @a67s15.eq_1) (A8 @a67s17.eq_1 @a67s22.eq_1 @a67s26.eq_1 @a67s29.eq_1 @a67s31.eq_1 @a67s33.eq_1 @a67s36.eq_1 @a67s39.eq_1) (A8 @a67s43.eq_1 @a67s44.eq_1 @a67s45.eq_1 @a67s47.eq_1 @a67s49.eq_1 @a67s51.eq_1 @a67s53.eq_1 @a67s54.eq_1) (A8 @a67s60.eq_1 @a67s61.eq_1 @a67s62.eq_1 @a67s63.eq_1 @a67s67.eq_1 @a67s74.eq_1 @a67c.eq_1 VV)
def K68:=A2 (A8 @a68.eq_1 @a68s1.eq_1 @a68s3.eq_1 @a68s6.eq_1 @a68s8.eq_1 @a68s10.eq_1 @a68s12.eq_1 @a68s14.eq_1) (A7 @a68s16.eq_1 @a68s18.eq_1 @a68s20.eq_1 @a68s26.eq_1 @a68s33.eq_1 @a68c.eq_1 VV)
def K69:=A2 (A8 @a69.eq_1 @a69s1.eq_1 @a69s3.eq_1 @a69s5.eq_1 @a69s7.eq_1 @a69s9.eq_1 @a69s11.eq_1 @a69s19.eq_1) (A2 @a69c.eq_1 VV)
def K70:=A5 (A8 @a70.eq_1 @a70s1.eq_1 @a70s3.eq_1 @a70s6.eq_1 @a70s8.eq_1 @a70s13.eq_1 @a70s15.eq_1 @a70s20.eq_1) (A8 @a70s24.eq_1 @a70s28.eq_1 @a70s32.eq_1 @a70s34.eq_1 @a70s39.eq_1 @a70s41.eq_1 @a70s46.eq_1 @a70s48.eq_1) (A8 @a70s50.eq_1 @a70s52.eq_1 @a70s59.eq_1 @a70s65.eq_1 @a70s67.eq_1 @a70s69.eq_1 @a70s71.eq_1 @a70s73.eq_1) (A8 @a70s75.eq_1 @a70s84.eq_1 @a70s88.eq_1 @a70s89.eq_1 @a70s90.eq_1 @a70s91.eq_1 @a70s92.eq_1 @a70s93.eq_1) (A7 @a70s94.eq_1 @a70s95.eq_1 @a70s96.eq_1 @a70s99.eq_1 @a70s101.eq_1 @a70c.eq_1 VV)
def K73:=A2 (A8 @a73.eq_1 @a73s1.eq_1 @a73s3.eq_1 @a73s5.eq_1 @a73s7.eq_1 @a73s10.eq_1 @a73s12.eq_1 @a73s16.eq_1) (A3 @a73s23.eq_1 @a73c.eq_1 VV)
def K93:=A5 @a93.eq_1 @a93s1.eq_1 @a93s3.eq_1 @a93c.eq_1 VV
def K94:=A5 @a94.eq_1 @a94s1.eq_1 @a94s3.eq_1 @a94c.eq_1 VV
def K95:=A2 (A8 @a95.eq_1 @a95s1.eq_1 @a95s3.eq_1 @a95s5.eq_1 @a95s7.eq_1 @a95s9.eq_1 @a95s12.eq_1 @a95s13.eq_1) (A6 @a95s16.eq_1 @a95s18.eq_1 @a95s24.eq_1 @a95s31.eq_1 @a95c.eq_1 VV)
def K96:=A2 (A8 @a96.eq_1 @a96s1.eq_1 @a96s3.eq_1 @a96s5.eq_1 @a96s7.eq_1 @a96s10.eq_1 @a96s12.eq_1 @a96s16.eq_1) (A3 @a96s23.eq_1 @a96c.eq_1 VV)
def K97:=A5 @a97.eq_1 @a97s1.eq_1 @a97s3.eq_1 @a97c.eq_1 VV
def K98:=A3 (A8 @a98.eq_1 @a98s1.eq_1 @a98s3.eq_1 @a98s6.eq_1 @a98s10.eq_1 @a98s14.eq_1 @a98s18.eq_1 @a98s20.eq_1) (A8 @a98s21.eq_1 @a98s22.eq_1 @a98s23.eq_1 @a98s26.eq_1 @a98s28.eq_1 @a98s30.eq_1 @a98s32.eq_1 @a98s35.eq_1) (A5 @a98s36.eq_1 @a98s40.eq_1 @a98s47.eq_1 @a98c.eq_1 VV)
def K99:=A2 (A8 @a99.eq_1 @a99s1.eq_1 @a99s3.eq_1 @a99s5.eq_1 @a99s7.eq_1 @a99s10.eq_1 @a99s12.eq_1 @a99s13.eq_1) (A7 @a99s15.eq_1 @a99s19.eq_1 @a99s27.eq_1 @a99s28.eq_1 @a99s30.eq_1 @a99c.eq_1 VV)
def a7b:=A2 (A8 @a100.eq_1 @a100s1.eq_1 @a100s3.eq_1 @a100s5.eq_1 @a100s7.eq_1 @a100s9.eq_1 @a100s12.eq_1 @a100s19.eq_1) (A2 @a100c.eq_1 VV)
def a01:=A2 (A8 @a101.eq_1 @a101s1.eq_1 @a101s3.eq_1 @a101s5.eq_1 @a101s8.eq_1 @a101s10.eq_1 @a101s13.eq_1 @a101s20.eq_1) (A2 @a101c.eq_1 VV)
def a1t:=A2 (A8 @a119.eq_1 @a119s1.eq_1 @a119s3.eq_1 @a119s5.eq_1 @a119s7.eq_1 @a119s10.eq_1 @a119s12.eq_1 @a119s16.eq_1) (A3 @a119s23.eq_1 @a119c.eq_1 VV)
def b3N:=A8 @a120.eq_1 @a120s1.eq_1 @a120s3.eq_1 @a120s6.eq_1 @a120s8.eq_1 @a120s10.eq_1 @a120c.eq_1 VV
def e01:=A2 @a121.eq_1 VV
def E4:=A5 (A8 @a122.eq_1 @a122s1.eq_1 @a122s3.eq_1 @a122s5.eq_1 @a122s7.eq_1 @a122s10.eq_1 @a122s11.eq_1 @a122s14.eq_1) (A8 @a122s15.eq_1 @a122s17.eq_1 @a122s22.eq_1 @a122s29.eq_1 @a122s32.eq_1 @a122s36.eq_1 @a122s37.eq_1 @a122s39.eq_1) (A8 @a122s44.eq_1 @a122s46.eq_1 @a122s48.eq_1 @a122s53.eq_1 @a122s57.eq_1 @a122s61.eq_1 @a122s65.eq_1 @a122s67.eq_1) (A8 @a122s68.eq_1 @a122s69.eq_1 @a122s70.eq_1 @a122s71.eq_1 @a122s72.eq_1 @a122s74.eq_1 @a122s78.eq_1 @a122c.eq_1) VV
def b3q:=A7 @a130.eq_1 @a130s1.eq_1 @a130s4.eq_1 @a130s6.eq_1 @a130s8.eq_1 @a130c.eq_1 VV
def a1Y:=A3 (A8 @a131.eq_1 @a131s1.eq_1 @a131s3.eq_1 @a131s5.eq_1 @a131s7.eq_1 @a131s9.eq_1 @a131s12.eq_1 @a131s15.eq_1) (A8 @a131s18.eq_1 @a131s21.eq_1 @a131s23.eq_1 @a131s24.eq_1 @a131s25.eq_1 @a131s26.eq_1 @a131s27.eq_1 @a131s32.eq_1) (A3 @a131s39.eq_1 @a131c.eq_1 VV)
def a7f:=A7 @a135.eq_1 @a135s1.eq_1 @a135s4.eq_1 @a135s6.eq_1 @a135s8.eq_1 @a135c.eq_1 VV
end Go.Cb.CodeA
